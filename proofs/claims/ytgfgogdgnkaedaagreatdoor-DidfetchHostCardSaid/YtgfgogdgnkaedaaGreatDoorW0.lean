import Derived.Test.YtgfgogdgnkaedaaGreatDoorVmFacts
import Derived.Test.YtgfgogdgnkaedaaGreatDoorDefs
import Derived.Test.YtgfgogdgnkaedaaGreatDoorVM7
import Derived.Shelf.Strings.Search2
set_option linter.unusedVariables false
set_option linter.unusedSimpArgs false
set_option maxHeartbeats 4000000
set_option maxRecDepth 100000
set_option linter.defProp false
namespace Go.Proofs.YtgfgogdgnkaedaaGreatDoor
open Go.VM
attribute [local irreducible] AA grd letL
variable{N n:Nat}{m:MS}{Q:PQ}{args:List AVal}
instance VR {a0 a1}:CF vE (BZ N a0 a1) 214 [.str a0,.str a1] (fun r=>.bool r):=AV (BZ.eq_1 ..) Tryz.func214 rfl Tryz.ntmps214 Tryz.results214 [(1,[],.stop)]
instance Va {a0 a1}:CF vE (Dr N a0 a1) 265 [.str a0,.int .u8 a1] (fun r=>.int .i64 r):=AV (Dr.eq_1 ..) Tryz.func265 rfl Tryz.ntmps265 Tryz.results265
def As3:Go.Shelf.Ren:=⟨fun|217=>265|219=>215|224=>267|225=>266|266=>306|267=>268|314=>307|k=>k,fun|3=>3|4=>4|5=>5|9=>9|46=>317|51=>338|146=>339|k=>k,fun|1=>0|k=>k⟩
theorem AeX:Go.Proofs.Lays.n219 Tryz.prog As3:= {mixed:=by kernel_rfl,f217:=Tryz.func265.trans (bl some (by kernel_rfl)),f219:=Tryz.func215.trans (bl some (by kernel_rfl)),f224:=Tryz.func267.trans (bl some (by kernel_rfl)),f225:=Tryz.func266.trans (bl some (by kernel_rfl)),f266:=Tryz.func306.trans (bl some (by kernel_rfl)),f267:=Tryz.func268.trans (bl some (by kernel_rfl)),f314:=Tryz.func307.trans (bl some (by kernel_rfl)),t3:=Tryz.underlying3,a3:=Tryz.isAgg3,z3:=Tryz.sizeOf3,v3:=Tryz.zeroValue3,t4:=Tryz.underlying4,a4:=Tryz.isAgg4,z4:=Tryz.sizeOf4,v4:=Tryz.zeroValue4,t5:=Tryz.underlying5,a5:=Tryz.isAgg5,z5:=Tryz.sizeOf5,v5:=Tryz.zeroValue5,t9:=Tryz.underlying9,a9:=Tryz.isAgg9,z9:=Tryz.sizeOf9,v9:=Tryz.zeroValue9,t46:=Tryz.underlying317,a46:=Tryz.isAgg317,z46:=Tryz.sizeOf317,v46:=Tryz.zeroValue317,t51:=Tryz.underlying338,a51:=Tryz.isAgg338,z51:=Tryz.sizeOf338,v51:=Tryz.zeroValue338,t146:=Tryz.underlying339,a146:=Tryz.isAgg339,z146:=Tryz.sizeOf339,v146:=Tryz.zeroValue339,g1:=by kernel_rfl}
theorem AlH{Γ:Ghost}{F:Nat→Nat}{w:World}{st:St}{af:List AVal}{tm:List Value} (hs:Sim vE F Γ st w af tm): ∃m,w.cell? ⟨0,0,none⟩=some (.int .i64 m):=by
 have h:=hs.glob 0 [.num .i64] rfl;cases h with
 | cptr hb hd h ho=>
  cases h with
  | cons hr ht=>
   cases hr with
   |num _ k=>
    cases ht;obtain⟨arr,e,fz,hw,⟨ds,ha⟩,_⟩:=hs.com_ok _ _ hb;refine⟨k,?_⟩;rw[aJ]at hd;rw[hd]at ha;have h0:arr[0]?=some (.int .i64 k):=by rw[←eV,ha];rfl
    simp[World.cell?,hw,h0]
theorem OQ {a0 a1 r} (h:A9 N a0 a1=some r) (ha:args=[.str a0,.str a1]) (hQ: ∀n',n≤n'→Gl (Q (.int .i64 r) ⟨m,n'⟩)):ACall vE 215 args ⟨m,n⟩ Q:=by
 subst ha;refine⟨fun F Γ w cargs hs=>?_⟩;have hr:=hs.rep;obtain⟨l⟩:=cargs;cases hr with
 | cons h0 t=>
  cases t with
  | cons h1 t=>
   cases t;cases h0 with
   | str b0 hb0=>
    cases h1 with
    | str b1 hb1=>
     have fin:Calls vE.P 215 #[.string b0,.string b1] w (fun e w'=>e=.returned (.int .i64 r)∧w'=w):=by
      rw[A9]at h;split at h
      ·rename_i h1;obtain⟨c,hc⟩: ∃c,b1.data.toList=[c]:=by
        have h2:b1.data.toList.length=1:=by have h3:=a8.1 h1;omega
        match hb:b1.data.toList,h2 with |[c],_=>exact⟨c,rfl⟩
       have e1:b1=⟨#[c]⟩:=by obtain⟨⟨l⟩⟩:=b1;have:l=[c]:=hc;subst this;rfl
       cases h;subst e1;exact Go.Proofs.Any.stringslite_Index_one AeX b0 c w
      ·obtain⟨hl,h⟩:=AAO h;cases h;obtain⟨k,hk⟩:=AlH hs;exact Go.Proofs.Any.stringslite_Index AeX b0 b1 k w (by rw[Go.Lib.size_eq];exact hl) hk
     refine fin.mono fun e w' ⟨he,hw⟩=>?_;subst hw;refine⟨_,he,Γ,.int .i64 r,⟨m,n⟩,Ext.refl _ _ _,aq _,?_,(hQ n (aq _)).go⟩;exact {hs with rep:=.cons (.int _ _) .nil,own:=by simp[ownL,own],tok:=fun b=>by have:=hs.tok b;simp only[AO,cnt]at this⊢;omega}
instance YN {a0 a1}:CF vE (A9 N a0 a1) 215 [.str a0,.str a1] (fun r=>.int .i64 r):=⟨fun h hQ=>OQ h rfl hQ⟩
instance Ab9 {a0}:CF vE (Ce N a0) 157 [.int .u8 a0] (fun r=>.bool r):=AV (Ce.eq_1 ..) Tryz.func157 rfl Tryz.ntmps157 Tryz.results157 [(1,[],.stop)]
instance Acb {a0}:CF vE (Fv N a0) 244 [.int .u8 a0] (fun r=>.bool r):=AV (Fv.eq_1 ..) Tryz.func244 rfl Tryz.ntmps244 Tryz.results244 [(1,[],.stop)]
instance AL0 {a0 a1}:CB vE (FH N a0 a1) 218 (fun i0=>[.ptr i0 0,.int .u8 a1]) (fun i0=>[.slice 1 (List.map (AVal.int .u8) a0) true]) (fun r=>.tuple []) (fun i0 r=>[.slice 1 (List.map (AVal.int .u8) r) true]):=Gq (FH.eq_1 ..) Tryz.func218 rfl Tryz.ntmps218 Tryz.results218 [(0,[7],.take 0 (.take 1 (.take 2 (.take 4 (.take 5 (.take 6 (.take 7 (.take 8 (.take 9 (.take 10 (.alt 3 [10,9,8,7,6,5,4,1,0] (.alt 11 [9,8,7,6,5,4,2,1,0] (.take 12 (.alt 13 [] (.done) (.stop))) (.stop)) (.stop))))))))))))]
theorem AU7{i0:Nat} (ha:args=[.ptr i0 0]) (hi0:Ae m i0=some [.nself i0 265 2,.nbuf 5]) (hQ: ∀n',n≤n'→Gl (Q (.tuple []) ⟨Ar m i0 [.ptr i0 0,.nbuf 5],n'⟩)):ACall vE 237 args ⟨m,n⟩ Q:=by subst ha;refine ACall.front hi0 fun hin=>ent (fun n' k=>⟨_,rfl,(hQ n' k).go⟩) Tryz.func237 rfl Tryz.ntmps237 Tryz.results237 (.q (.r []) (.c (.r []) (.q (.r []) (.c .z .z)))) fun R hR=>?_;simp(disch:= omega) only[vm,seval];refine⟨AWA ?_⟩;simp(disch:= omega) only[vm,seval];refine⟨(hR _ _ _ _ _ _ (by simp(disch:= omega) only[vm,seval];rfl) slr ?_ ff ?_).2⟩<;>first| (simp(disch:= omega) only[vm,seval];done)| rfl
theorem AX1{k0:Nat}{i0:Nat} (h1:1≤k0) (h2:k0≤140737488355328) (hin:i0<n) (hQ: ∀j n',n≤n'→Gl (Q (.tuple []) ⟨(j,[.any])::(i0,[.ptr i0 0,.trow 5 j 0])::m,n'⟩)):ACall vE 238 [.ptr i0 0,.int .i64 k0] ⟨(i0,[.ptr i0 0,.nbuf 5])::m,n⟩ Q:=by
 have hw:wr .i64 (wr .i64 0+(k0:Int))=(k0:Int):=by rw[show wr .i64 0=0 from rfl];simp only[wr];rw[IntKind.wrap_i64];omega
 refine AgY Tryz.func238 rfl Tryz.ntmps238 Tryz.results238 (.q .z (.q (.r []) (.r []))) fun R hR=>?_;simp(disch:= omega) only[vm,seval];refine⟨Og [] (.take 0 (.take 1 (.take 2 (.take 3 (.take 6 (.take 9 (.take 10 (.take 11 (.take 12 (.take 13 (.alt 4 [13,12,11,10,9,6,2,1,0] (.take 5 (.take 7 (.alt 8 [5,13,12,11,10,9,6,3,2,1,0] (.take 14 (.alt 15 [] (.done) (.stop))) (.stop)))) (.stop)))))))))))) Lc (by kernel_rfl) ?_⟩;simp(disch:= omega) only[vm,seval,hw];refine⟨AkX h1 h2 ?_⟩;simp(disch:= omega) only[vm,seval,hw];refine⟨(hR _ _ [] ((n,[.any])::(i0,[.ptr i0 0,.trow 5 n 0])::m) _ (n+1) (by first| rfl| (simp(disch:= omega) only[vm,seval];rfl)) slr ff (hQ n (n+1) ff).go).2⟩
theorem Q4{n0:Int}{r:Unit}{i0:Nat} (h:Ed N n0=some r) (ha:args=[.ptr i0 0,.int .i64 n0]) (hi0:Ae m i0=some [.nself i0 265 2,.nbuf 5]) (hQ: ∀n',n≤n'→Gl (Q (.tuple []) ⟨Ar m i0 [.ptr i0 0,.buf 5 [] true],n'⟩)):ACall vE 180 args ⟨m,n⟩ Q:=by unfold Ed at h;replace h:=MK (ac trivial h);obtain⟨⟨c1,c2⟩,h⟩:=h;obtain⟨k0,rfl⟩: ∃k0:Nat,n0=(k0:Int):=⟨n0.toNat,ff⟩;clear h;subst ha;have e1:decide ((k0:Int)<0)=false:=aN ff;have e2:decide ((0:Int)<(k0:Int))=true:=aF ff;have e3:wr .i64 (0-0)=0:=rfl;have e4:wr .i64 0=0:=rfl;refine ACall.front hi0 fun hin=>ACall.fuse (AgY Tryz.func180 rfl Tryz.ntmps180 Tryz.results180 (.q (.r []) (.q (.q (.r []) (.c (.r []) .z)) (.q .z (.c (.r []) .z)))) fun R hR=>?_);simp(disch:= omega) only[vm,seval];refine⟨AU7 rfl (i0:=i0) (by simp(disch:= omega) only[vm,seval]) fun n2 hn2=>?_⟩;simp(disch:= omega) only[vm,seval,e1];refine⟨Og [] (.take 0 (.take 1 (.take 2 (.take 3 (.take 5 (.take 6 (.take 7 (.take 8 (.take 9 (.take 11 (.alt 4 [11,9,8,7,6,5,2,1,0] (.take 10 (.take 12 (.done))) (.stop)))))))))))) Lc (by kernel_rfl) ?_⟩;simp(disch:= omega) only[vm,seval,e1,e2,e3,e4];refine⟨AX1 ff ff ff fun j n3 hn3=>?_⟩;simp(disch:= omega) only[vm,seval];refine⟨(hR _ _ [] ((j,[.any])::(i0,[.ptr i0 0,.trow 5 j 0])::Da m i0) _ n3 (by first| rfl| (simp(disch:= omega) only[vm,seval];rfl)) slr ff ⟨_,_,_,_,_,rfl,_,rfl,(hQ n3 ff).go⟩).2⟩
instance ALj {n0}:CB vE (Ed N n0) 180 (fun i0=>[.ptr i0 0,.int .i64 n0]) (fun i0=>[.nself i0 265 2,.nbuf 5]) (fun r=>.tuple []) (fun i0 r=>[.ptr i0 0,.buf 5 [] true]):=⟨fun h hi hQ=>Q4 h rfl hi hQ⟩
instance Yr {a0}:CB vE (FV N a0) 237 (fun i0=>[.ptr i0 0]) (fun i0=>[GH i0 265 2 a0.addr,.buf 5 a0.buf true]) (fun r=>.tuple []) (fun i0 r=>[GH i0 265 2 r.addr,.buf 5 r.buf true]):=Gq (FV.eq_1 ..) Tryz.func237 rfl Tryz.ntmps237 Tryz.results237
instance AAo {a0}:CB vE (Bd N a0) 182 (fun i0=>[.ptr i0 0]) (fun i0=>[GH i0 265 2 a0.addr,.buf 5 a0.buf true]) (fun r=>.str r.1) (fun i0 r=>[GH i0 265 2 r.2.addr,.buf 5 r.2.buf false]):=Gq (Bd.eq_1 ..) Tryz.func182 rfl Tryz.ntmps182 Tryz.results182 [(1,[6],.take 0 (.take 1 (.take 2 (.take 5 (.take 6 (.take 7 (.take 8 (.take 9 (.alt 3 [9,8,7,6,5,1,0] (.alt 4 [9,8,7,6,5,2,1,0] (.alt 10 [8,7,6,5,2,1,0] (.alt 11 [] (.done) (.stop)) (.stop)) (.stop)) (.stop))))))))))]
@[reducible, instance] def Tv {a0 k2 k s2 s4} := LF.mk (X := Be N a0 k2 k s2 s4) (G := fun k (s : Int × Nat) => Be N a0 k2 k s.1 s.2) (s := (s2, s4)) (js := [(5, 4)]) (cs := [2, 4]) (V := fun s => [.int .i64 s.1, .iter a0 s.2]) (Ms := fun s => []) rfl (fun s => Be.eq_1 ..) (fun k s => Be.eq_2 ..)
instance V3 {a0}:CF vE (Dy N a0) 308 [.str a0] (fun r=>.int .i64 r):=AV (Dy.eq_1 ..) Tryz.func308 rfl Tryz.ntmps308 Tryz.results308
instance TL {a0}:CF vE (EE N a0) 310 [.str a0] (fun r=>.tuple [.int .i32 r.1,.int .i64 r.2]):=AV (EE.eq_1 ..) Tryz.func310 rfl Tryz.ntmps310 Tryz.results310 [(14,[],.stop),(19,[],.stop),(24,[],.stop)]
instance VV {a0 a1}:CF vE (Fh N a0 a1) 162 [.str a0,.str a1] (fun r=>.bool r):=AV (Fh.eq_1 ..) Tryz.func162 rfl Tryz.ntmps162 Tryz.results162 [(1,[],.stop)]
instance AcF {a0}:CF vE (Eo N a0) 48 [Df a0] (fun r=>.str r):=AV (Eo.eq_1 ..) Tryz.func48 rfl Tryz.ntmps48 Tryz.results48
instance ALv {a0 a1}:CB vE (FE N a0 a1) 170 (fun i0=>[.ptr i0 0,.int .i64 a1]) (fun i0=>[.str a0.did.method,.str a0.did.iD,.int .i64 a0.e]) (fun r=>.tuple []) (fun i0 r=>[.str r.did.method,.str r.did.iD,.int .i64 r.e]):=Gq (FE.eq_1 ..) Tryz.func170 rfl Tryz.ntmps170 Tryz.results170
@[reducible, instance] def AYn {a0 a1 k2 xs s11} := LR.mk (X := I7 N a0 a1 k2 xs s11) (G := fun xs i (s : Unit) => I7 N a0 a1 k2 xs i) (i := s11) (s := ()) (js := [(5, 3), (12, 25)]) (cs := [11]) (V := fun i s => [.int .i64 i]) (Ms := fun i s => []) rfl (fun i s => I7.eq_1 ..) (fun x xs i s => I7.eq_2 ..)
instance Aj1 {a0 a1}:CF vE (KQ N a0 a1) 98 [AL a0,.str a1] (fun r=>.tuple [AL r.1,.bool r.2]):=AV (KQ.eq_1 ..) Tryz.func98 rfl Tryz.ntmps98 Tryz.results98 [(4,[],.stop)] true
@[reducible, instance] def Aa0 {a0 k2 xs s10 bn} := LR.mk (X := Ew N a0 k2 xs s10 bn) (G := fun xs i (s : (List Int)) => Ew N a0 k2 xs i s) (i := s10) (s := bn) (js := [(4, 2), (11, 16)]) (cs := [10]) (V := fun i s => [.int .i64 i]) (Ms := fun i s => [.s (List.map (AVal.int .u8) s)]) rfl (fun i s => Ew.eq_1 ..) (fun x xs i s => Ew.eq_2 ..)
instance AjK {a0}:CF vE (Eg N a0) 118 [.str a0] (fun r=>.str r):=AV (Eg.eq_1 ..) Tryz.func118 rfl Tryz.ntmps118 Tryz.results118 [(5,[],.stop)]
instance ALr {a0}:CB vE (Ck N a0) 121 (fun i0=>[.ptr i0 0]) (fun i0=>[.str a0.s,.int .i64 a0.at_]) (fun r=>.bool r.1) (fun i0 r=>[.str r.2.s,.int .i64 r.2.at_]):=Gq (Ck.eq_1 ..) Tryz.func121 rfl Tryz.ntmps121 Tryz.results121 [(1,[],.take 0 (.take 1 (.take 2 (.take 3 (.take 4 (.take 5 (.take 6 (.take 7 (.take 8 (.take 9 (.alt 10 [] (.done) (.stop))))))))))))]
instance ABV {a0}:CF vE (Jc N a0) 185 [.int .u8 a0] (fun r=>.bool r):=AV (Jc.eq_1 ..) Tryz.func185 rfl Tryz.ntmps185 Tryz.results185 [(1,[],.stop)]
instance AjL {a0}:CF vE (Rs N a0) 189 [.int .u8 a0] (fun r=>.bool r):=AV (Rs.eq_1 ..) Tryz.func189 rfl Tryz.ntmps189 Tryz.results189 [(1,[],.stop)]
instance XZ {a0}:CF vE (M4 N a0) 354 [.int .i64 a0] (fun r=>.bool r):=AV (M4.eq_1 ..) Tryz.func354 rfl Tryz.ntmps354 Tryz.results354 [(1,[],.stop)]
theorem XV {a0 r} (h:M4 N a0=some r) (ha:args=[.int .i64 a0]) (hQ: ∀n',n≤n'→Gl (Q (.bool r) ⟨m,n'⟩)):ACall vE 354 args ⟨m,n⟩ Q:=ha▸XZ.go h hQ
instance Yp {a0}:CF vE (LH N a0) 246 [Gv a0] (fun r=>.bool r):=AV (LH.eq_1 ..) Tryz.func246 rfl Tryz.ntmps246 Tryz.results246 [(6,[],.stop)]
theorem Yo {a0 r} (h:LH N a0=some r) (ha:args=[Gv a0]) (hQ: ∀n',n≤n'→Gl (Q (.bool r) ⟨m,n'⟩)):ACall vE 246 args ⟨m,n⟩ Q:=ha▸Yp.go h hQ
@[reducible, instance] def ATV {k2 k s0 s4 bn} := LF.mk (X := Ee N k2 k s0 s4 bn) (G := fun k (s : Int × Int × (List Int)) => Ee N k2 k s.1 s.2.1 s.2.2) (s := (s0, s4, bn)) (js := [(5, 12)]) (cs := [0, 4]) (V := fun s => [.int .u64 s.1, .int .i64 s.2.1]) (Ms := fun s => [.s (List.map (AVal.int .u8) s.2.2)]) rfl (fun s => Ee.eq_1 ..) (fun k s => Ee.eq_2 ..)
instance AcA {a0}:CF vE (F7 N a0) 276 [.int .u64 a0] (fun r=>.str r):=AV (F7.eq_1 ..) Tryz.func276 rfl Tryz.ntmps276 Tryz.results276
@[reducible, instance] def AAn {a1 k2 k s0} := LF.mk (X := Db N a1 k2 k s0) (G := fun k (s : (List UInt8)) => Db N a1 k2 k s) (s := s0) (js := [(5, 11)]) (cs := [0]) (V := fun s => [.str s]) (Ms := fun s => []) rfl (fun s => Db.eq_1 ..) (fun k s => Db.eq_2 ..)
instance ADl {a0 a1}:CF vE (strings_trimLeftByte N a0 a1) 329 [.str a0,.int .u8 a1] (fun r=>.str r):=AV (strings_trimLeftByte.eq_1 ..) Tryz.func329 rfl Tryz.ntmps329 Tryz.results329 [(1,[],.stop)]
@[reducible, instance] def AAm {k2 xs bn} := LQ.mk (X := Bq N k2 xs bn) (G := fun xs i (s : (List Bool)) => Bq N k2 xs s) (s := bn) (js := [(3, 1), (5, 15)]) (cs := [4]) (V := fun i s => [.int .i64 i]) (Ms := fun i s => [.s (List.map AVal.bool s)]) (fun _ => rfl) (fun i s => Bq.eq_1 ..) (fun x xs i s => Bq.eq_2 ..)
instance AHB {a0}:CF vE (strings_makeASCIISet N a0) 330 [.str a0] (fun r=>.tuple [.agg (List.map AVal.bool r.1),.bool r.2]):=AV (strings_makeASCIISet.eq_1 ..) Tryz.func330 rfl Tryz.ntmps330 Tryz.results330
instance Yz {a0 a1}:CB vE (Dz N a0 a1) 356 (fun i0=>[.ptr i0 0,.int .u8 a1]) (fun i0=>List.map AVal.bool a0) (fun r=>.bool r.1) (fun i0 r=>List.map AVal.bool r.2):=Gq (Dz.eq_1 ..) Tryz.func356 rfl Tryz.ntmps356 Tryz.results356
instance AAe {a0}:CF vE (Le N a0) 267 [.int .i64 a0] (fun r=>.int .i64 r):=AV (Le.eq_1 ..) Tryz.func267 rfl Tryz.ntmps267 Tryz.results267
instance AAt {a0}:CF vE (CZ N a0) 366 [.int .i32 a0] (fun r=>.bool r):=AV (CZ.eq_1 ..) Tryz.func366 rfl Tryz.ntmps366 Tryz.results366 [(1,[],.stop),(3,[],.stop)]
@[reducible, instance] def Zg {a1 k2 k s0} := LF.mk (X := DW N a1 k2 k s0) (G := fun k (s : (List UInt8)) => DW N a1 k2 k s) (s := s0) (js := [(5, 17)]) (cs := [0]) (V := fun s => [.str s]) (Ms := fun s => []) rfl (fun s => DW.eq_1 ..) (fun k s => DW.eq_2 ..)
instance ACU {a0 a1}:CF vE (strings_trimRightByte N a0 a1) 333 [.str a0,.int .u8 a1] (fun r=>.str r):=AV (strings_trimRightByte.eq_1 ..) Tryz.func333 rfl Tryz.ntmps333 Tryz.results333 [(1,[],.stop)]
end Go.Proofs.YtgfgogdgnkaedaaGreatDoor
