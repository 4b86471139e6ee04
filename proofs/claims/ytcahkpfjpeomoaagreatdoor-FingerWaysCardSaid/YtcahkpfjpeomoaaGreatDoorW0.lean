import Derived.Test.YtcahkpfjpeomoaaGreatDoorVmFacts
import Derived.Test.YtcahkpfjpeomoaaGreatDoorDefs
import Derived.Test.YtcahkpfjpeomoaaGreatDoorVM7
import Derived.Shelf.Strings.Search2
set_option linter.unusedVariables false
set_option linter.unusedSimpArgs false
set_option maxHeartbeats 4000000
set_option maxRecDepth 100000
set_option linter.defProp false
namespace Go.Proofs.YtcahkpfjpeomoaaGreatDoor
open Go.VM
attribute [local irreducible] AA grd letL
variable{N n:Nat}{m:MS}{Q:PQ}{args:List AVal}
instance R6 {a0 a1}:CF vE (EU N a0 a1) 113 [.str a0,.int .u8 a1] (fun r=>.int .i64 r):=AP (EU.eq_1 ..) Tryz.func113 rfl Tryz.ntmps113 Tryz.results113
def Ago:Go.Shelf.Ren:=⟨fun|217=>113|219=>185|224=>234|225=>233|266=>175|267=>235|314=>272|k=>k,fun|3=>3|4=>4|5=>5|9=>9|46=>178|51=>305|146=>306|k=>k,fun|1=>0|k=>k⟩
theorem AZE:Go.Proofs.Lays.n219 Tryz.prog Ago:= {mixed:=by kernel_rfl,f217:=Tryz.func113.trans (congrArg some (by kernel_rfl)),f219:=Tryz.func185.trans (congrArg some (by kernel_rfl)),f224:=Tryz.func234.trans (congrArg some (by kernel_rfl)),f225:=Tryz.func233.trans (congrArg some (by kernel_rfl)),f266:=Tryz.func175.trans (congrArg some (by kernel_rfl)),f267:=Tryz.func235.trans (congrArg some (by kernel_rfl)),f314:=Tryz.func272.trans (congrArg some (by kernel_rfl)),t3:=Tryz.underlying3,a3:=Tryz.isAgg3,z3:=Tryz.sizeOf3,v3:=Tryz.zeroValue3,t4:=Tryz.underlying4,a4:=Tryz.isAgg4,z4:=Tryz.sizeOf4,v4:=Tryz.zeroValue4,t5:=Tryz.underlying5,a5:=Tryz.isAgg5,z5:=Tryz.sizeOf5,v5:=Tryz.zeroValue5,t9:=Tryz.underlying9,a9:=Tryz.isAgg9,z9:=Tryz.sizeOf9,v9:=Tryz.zeroValue9,t46:=Tryz.underlying178,a46:=Tryz.isAgg178,z46:=Tryz.sizeOf178,v46:=Tryz.zeroValue178,t51:=Tryz.underlying305,a51:=Tryz.isAgg305,z51:=Tryz.sizeOf305,v51:=Tryz.zeroValue305,t146:=Tryz.underlying306,a146:=Tryz.isAgg306,z146:=Tryz.sizeOf306,v146:=Tryz.zeroValue306,g1:=by kernel_rfl}
theorem Aah{Γ:Ghost}{F:Nat→Nat}{w:World}{st:St}{af:List AVal}{tm:List Value} (hs:Sim vE F Γ st w af tm): ∃m,w.cell? ⟨0,0,none⟩=some (.int .i64 m):=by
 have h:=hs.glob 0 [.num .i64] rfl
 cases h with
 | cptr hb hd h ho=>
  cases h with
  | cons hr ht=>cases hr with
   |num _ k=>
    cases ht
    obtain⟨arr,e,fz,hw,⟨ds,ha⟩,_⟩:=hs.com_ok _ _ hb
    refine⟨k,?_⟩
    rw[List.drop_zero]at hd
    rw[hd]at ha
    have h0:arr[0]?=some (.int .i64 k):=by rw[←Array.getElem?_toList,ha];rfl
    simp[World.cell?,hw,h0]
theorem LV {a0 a1 r} (h:Ct N a0 a1=some r) (ha:args=[.str a0,.str a1]) (hQ: ∀n',n≤n'→Gl (Q (.int .i64 r) ⟨m,n'⟩)):ACall vE 185 args ⟨m,n⟩ Q:=by
 subst ha
 refine⟨fun F Γ w cargs hs=>?_⟩
 have hr:=hs.rep
 obtain⟨l⟩:=cargs
 cases hr with
 | cons h0 t=>cases t with
  | cons h1 t=>
   cases t
   cases h0 with
   | str b0 hb0=>cases h1 with
    | str b1 hb1=>
     have fin:Calls vE.P 185 #[.string b0,.string b1] w (fun e w'=>e=.returned (.int .i64 r)∧w'=w):=by
      rw[Ct]at h
      split at h
      · rename_i h1
        obtain⟨c,hc⟩: ∃c,b1.data.toList=[c]:=by
         have h2:b1.data.toList.length=1:=by have h3:=beq_iff_eq.1 h1;omega
         match hb:b1.data.toList,h2 with
         |[c],_=>exact⟨c,rfl⟩
        have e1:b1=⟨#[c]⟩:=by
         obtain⟨⟨l⟩⟩:=b1
         have:l=[c]:=hc
         subst this;rfl
        cases h
        subst e1
        exact Go.Proofs.Any.stringslite_Index_one AZE b0 c w
      · obtain⟨hl,h⟩:=WG h
        cases h
        obtain⟨k,hk⟩:=Aah hs
        exact Go.Proofs.Any.stringslite_Index AZE b0 b1 k w (by rw[Go.Lib.size_eq];exact hl) hk
     refine fin.mono fun e w' ⟨he,hw⟩=>?_
     subst hw
     refine⟨_,he,Γ,.int .i64 r,⟨m,n⟩,Ext.refl _ _ _,Nat.le_refl _,?_,(hQ n (Nat.le_refl _)).go⟩
     exact {hs with rep:=.cons (.int _ _) .nil,own:=by simp[ownL,own],tok:=fun b=>by have:=hs.tok b;simp only[AC,cnt]at this⊢;omega}
instance Us {a0 a1}:CF vE (Ct N a0 a1) 185 [.str a0,.str a1] (fun r=>.int .i64 r):=⟨fun h hQ=>LV h rfl hQ⟩
instance ATr {a0}:CF vE (Ey N a0) 173 [.int .u8 a0] (fun r=>.bool r):=AP (Ey.eq_1 ..) Tryz.func173 rfl Tryz.ntmps173 Tryz.results173 [(1,[],.stop)]
instance AT9 {a0}:CF vE (CW N a0) 174 [.int .u8 a0] (fun r=>.bool r):=AP (CW.eq_1 ..) Tryz.func174 rfl Tryz.ntmps174 Tryz.results174 [(1,[],.stop)]
instance AFt {a0 a1}:CB vE (Gj N a0 a1) 66 (fun i0=>[.ptr i0 0,.int .u8 a1]) (fun i0=>[.slice 1 (List.map (AVal.int .u8) a0) true]) (fun r=>.tuple []) (fun i0 r=>[.slice 1 (List.map (AVal.int .u8) r) true]):=ED (Gj.eq_1 ..) Tryz.func66 rfl Tryz.ntmps66 Tryz.results66 [(0,[7],.take 0 (.take 1 (.take 2 (.take 4 (.take 5 (.take 6 (.take 7 (.take 8 (.take 9 (.take 10 (.alt 3 [10,9,8,7,6,5,4,1,0] (.alt 11 [9,8,7,6,5,4,2,1,0] (.take 12 (.alt 13 [] (.done) (.stop))) (.stop)) (.stop))))))))))))]
@[reducible, instance] def APO {a0 k2 xs s10 bn} := LR.mk (X := Gz N a0 k2 xs s10 bn) (G := fun xs i (s : (List Int)) => Gz N a0 k2 xs i s) (i := s10) (s := bn) (js := [(4, 2), (11, 16)]) (cs := [10]) (V := fun i s => [.int .i64 i]) (Ms := fun i s => [.s (List.map (AVal.int .u8) s)]) rfl (fun i s => Gz.eq_1 ..) (fun x xs i s => Gz.eq_2 ..)
instance AZd {a0}:CF vE (Dp N a0) 86 [.str a0] (fun r=>.str r):=AP (Dp.eq_1 ..) Tryz.func86 rfl Tryz.ntmps86 Tryz.results86 [(5,[],.stop)]
@[reducible, instance] def QX {a0 k2 k s2 s4} := LF.mk (X := BO N a0 k2 k s2 s4) (G := fun k (s : Int × Nat) => BO N a0 k2 k s.1 s.2) (s := (s2, s4)) (js := [(5, 4)]) (cs := [2, 4]) (V := fun s => [.int .i64 s.1, .iter a0 s.2]) (Ms := fun s => []) rfl (fun s => BO.eq_1 ..) (fun k s => BO.eq_2 ..)
instance SA {a0}:CF vE (Cz N a0) 317 [.str a0] (fun r=>.int .i64 r):=AP (Cz.eq_1 ..) Tryz.func317 rfl Tryz.ntmps317 Tryz.results317
instance QF {a0}:CF vE (Dh N a0) 325 [.str a0] (fun r=>.tuple [.int .i32 r.1,.int .i64 r.2]):=AP (Dh.eq_1 ..) Tryz.func325 rfl Tryz.ntmps325 Tryz.results325 [(14,[],.stop),(19,[],.stop),(24,[],.stop)]
instance AZh {a0}:CF vE (PH N a0) 187 [MW a0] (fun r=>.str r):=AP (PH.eq_1 ..) Tryz.func187 rfl Tryz.ntmps187 Tryz.results187
instance VZ {a0}:CF vE (JM N a0) 234 [.int .i64 a0] (fun r=>.int .i64 r):=AP (JM.eq_1 ..) Tryz.func234 rfl Tryz.ntmps234 Tryz.results234
instance Xa {a0}:CF vE (Hw N a0) 271 [.int .i32 a0] (fun r=>.bool r):=AP (Hw.eq_1 ..) Tryz.func271 rfl Tryz.ntmps271 Tryz.results271 [(1,[],.stop),(3,[],.stop)]
instance U8 {a0}:CF vE (strings_shouldUseASCIISet N a0) 229 [.int .i64 a0] (fun r=>.bool r):=AP (strings_shouldUseASCIISet.eq_1 ..) Tryz.func229 rfl Tryz.ntmps229 Tryz.results229
@[reducible, instance] def WK {k2 xs bn} := LQ.mk (X := Co N k2 xs bn) (G := fun xs i (s : (List Bool)) => Co N k2 xs s) (s := bn) (js := [(3, 1), (5, 15)]) (cs := [4]) (V := fun i s => [.int .i64 i]) (Ms := fun i s => [.s (List.map AVal.bool s)]) (fun _ => rfl) (fun i s => Co.eq_1 ..) (fun x xs i s => Co.eq_2 ..)
instance ABe {a0}:CF vE (strings_makeASCIISet N a0) 230 [.str a0] (fun r=>.tuple [.agg (List.map AVal.bool r.1),.bool r.2]):=AP (strings_makeASCIISet.eq_1 ..) Tryz.func230 rfl Tryz.ntmps230 Tryz.results230
instance U4 {a0 a1}:CB vE (DI N a0 a1) 231 (fun i0=>[.ptr i0 0,.int .u8 a1]) (fun i0=>List.map AVal.bool a0) (fun r=>.bool r.1) (fun i0 r=>List.map AVal.bool r.2):=ED (DI.eq_1 ..) Tryz.func231 rfl Tryz.ntmps231 Tryz.results231
@[reducible, instance] def ANk {k2 k s0 s4 bn} := LF.mk (X := FC N k2 k s0 s4 bn) (G := fun k (s : Int × Int × (List Int)) => FC N k2 k s.1 s.2.1 s.2.2) (s := (s0, s4, bn)) (js := [(5, 12)]) (cs := [0, 4]) (V := fun s => [.int .u64 s.1, .int .i64 s.2.1]) (Ms := fun s => [.s (List.map (AVal.int .u8) s.2.2)]) rfl (fun s => FC.eq_1 ..) (fun k s => FC.eq_2 ..)
instance AUF {a0}:CF vE (GZ N a0) 114 [.int .u64 a0] (fun r=>.str r):=AP (GZ.eq_1 ..) Tryz.func114 rfl Tryz.ntmps114 Tryz.results114
instance AT8 {a0}:CF vE (Kr N a0) 68 [Aa a0] (fun r=>Cw r):=AP (Kr.eq_1 ..) Tryz.func68 rfl Tryz.ntmps68 Tryz.results68
instance ATp {a0}:CF vE (Kw N a0) 69 [Aa a0] (fun r=>.str r):=AP (Kw.eq_1 ..) Tryz.func69 rfl Tryz.ntmps69 Tryz.results69
instance SK {a0 a1}:CF vE (CS N a0 a1) 267 [.str a0,.str a1] (fun r=>.bool r):=AP (CS.eq_1 ..) Tryz.func267 rfl Tryz.ntmps267 Tryz.results267 [(1,[],.stop)]
@[reducible, instance] def Oe {a0 a1 k2 k s5} := LF.mk (X := Aq N a0 a1 k2 k s5) (G := fun k (s : Int) => Aq N a0 a1 k2 k s) (s := s5) (js := [(4, 1), (9, 10)]) (cs := [5]) (V := fun s => [.int .i64 s]) (Ms := fun s => []) rfl (fun s => Aq.eq_1 ..) (fun k s => Aq.eq_2 ..)
instance PK {a0 a1}:CF vE (DW N a0 a1) 269 [.str a0,.int .u8 a1] (fun r=>.int .i64 r):=AP (DW.eq_1 ..) Tryz.func269 rfl Tryz.ntmps269 Tryz.results269
instance U6 {a0}:CB vE (FY N a0) 216 (fun i0=>[.ptr i0 0]) (fun i0=>[EE i0 222 2 a0.addr,.buf 5 a0.buf true]) (fun r=>.tuple []) (fun i0 r=>[EE i0 222 2 r.addr,.buf 5 r.buf true]):=ED (FY.eq_1 ..) Tryz.func216 rfl Tryz.ntmps216 Tryz.results216
instance WZ {a0}:CB vE (BN N a0) 157 (fun i0=>[.ptr i0 0]) (fun i0=>[EE i0 222 2 a0.addr,.buf 5 a0.buf true]) (fun r=>.str r.1) (fun i0 r=>[EE i0 222 2 r.2.addr,.buf 5 r.2.buf false]):=ED (BN.eq_1 ..) Tryz.func157 rfl Tryz.ntmps157 Tryz.results157 [(1,[6],.take 0 (.take 1 (.take 2 (.take 5 (.take 6 (.take 7 (.take 8 (.take 9 (.alt 3 [9,8,7,6,5,1,0] (.alt 4 [9,8,7,6,5,2,1,0] (.alt 10 [8,7,6,5,2,1,0] (.alt 11 [] (.done) (.stop)) (.stop)) (.stop)) (.stop))))))))))]
theorem ALo{i0:Nat} (ha:args=[.ptr i0 0]) (hi0:AZ m i0=some [.nself i0 222 2,.nbuf 5]) (hQ: ∀n',n≤n'→Gl (Q (.tuple []) ⟨Ao m i0 [.ptr i0 0,.nbuf 5],n'⟩)):ACall vE 216 args ⟨m,n⟩ Q:=by
 subst ha
 refine ACall.front hi0 fun hin=>ent (fun n' k=>⟨_,rfl,(hQ n' k).go⟩) Tryz.func216 rfl Tryz.ntmps216 Tryz.results216 (.q (.r []) (.c (.r []) (.q (.r []) (.c .z .z)))) fun R hR=>?_
 simp(disch:=omega) only[vm,seval]
 refine⟨AOl ?_⟩
 simp(disch:=omega) only[vm,seval]
 refine⟨(hR _ _ _ _ _ _ (by simp(disch:=omega) only[vm,seval];rfl) slr ?_ (by omega) ?_).2⟩<;>first|(simp(disch:=omega) only[vm,seval];done)|rfl
theorem ATU{k0:Nat}{i0:Nat} (h1:1≤k0) (h2:k0≤140737488355328) (hin:i0<n) (hQ: ∀j n',n≤n'→Gl (Q (.tuple []) ⟨(j,[.any])::(i0,[.ptr i0 0,.trow 5 j 0])::m,n'⟩)):ACall vE 224 [.ptr i0 0,.int .i64 k0] ⟨(i0,[.ptr i0 0,.nbuf 5])::m,n⟩ Q:=by
 have hw:wr .i64 (wr .i64 0+(k0:Int))=(k0:Int):=by rw[show wr .i64 0=0 from rfl];simp only[wr];rw[IntKind.wrap_i64];omega
 refine AWD Tryz.func224 rfl Tryz.ntmps224 Tryz.results224 (.q .z (.q (.r []) (.r []))) fun R hR=>?_
 simp(disch:=omega) only[vm,seval]
 refine⟨Jg [] (.take 0 (.take 1 (.take 2 (.take 3 (.take 6 (.take 9 (.take 10 (.take 11 (.take 12 (.take 13 (.alt 4 [13,12,11,10,9,6,2,1,0] (.take 5 (.take 7 (.alt 8 [5,13,12,11,10,9,6,3,2,1,0] (.take 14 (.alt 15 [] (.done) (.stop))) (.stop)))) (.stop)))))))))))) HY (by kernel_rfl) ?_⟩
 simp(disch:=omega) only[vm,seval,hw]
 refine⟨AaO h1 h2 ?_⟩
 simp(disch:=omega) only[vm,seval,hw]
 refine⟨(hR _ _ [] ((n,[.any])::(i0,[.ptr i0 0,.trow 5 n 0])::m) _ (n+1) (by first|rfl|(simp(disch:=omega) only[vm,seval];rfl)) slr (by omega) (hQ n (n+1) (by omega)).go).2⟩
theorem OW{n0:Int}{r:Unit}{i0:Nat} (h:Ed N n0=some r) (ha:args=[.ptr i0 0,.int .i64 n0]) (hi0:AZ m i0=some [.nself i0 222 2,.nbuf 5]) (hQ: ∀n',n≤n'→Gl (Q (.tuple []) ⟨Ao m i0 [.ptr i0 0,.buf 5 [] true],n'⟩)):ACall vE 162 args ⟨m,n⟩ Q:=by
 unfold Ed at h
 replace h:=Ho (And.intro trivial h)
 obtain⟨⟨c1,c2⟩,h⟩:=h
 obtain⟨k0,rfl⟩: ∃k0:Nat,n0=(k0:Int):=⟨n0.toNat,by omega⟩
 clear h
 subst ha
 have e1:decide ((k0:Int)<0)=false:=decide_eq_false (by omega)
 have e2:decide ((0:Int)<(k0:Int))=true:=decide_eq_true (by omega)
 have e3:wr .i64 (0-0)=0:=rfl
 have e4:wr .i64 0=0:=rfl
 refine ACall.front hi0 fun hin=>ACall.fuse (AWD Tryz.func162 rfl Tryz.ntmps162 Tryz.results162 (.q (.r []) (.q (.q (.r []) (.c (.r []) .z)) (.q .z (.c (.r []) .z)))) fun R hR=>?_)
 simp(disch:=omega) only[vm,seval]
 refine⟨ALo rfl (i0:=i0) (by simp(disch:=omega) only[vm,seval]) fun n2 hn2=>?_⟩
 simp(disch:=omega) only[vm,seval,e1]
 refine⟨Jg [] (.take 0 (.take 1 (.take 2 (.take 3 (.take 5 (.take 6 (.take 7 (.take 8 (.take 9 (.take 11 (.alt 4 [11,9,8,7,6,5,2,1,0] (.take 10 (.take 12 (.done))) (.stop)))))))))))) HY (by kernel_rfl) ?_⟩
 simp(disch:=omega) only[vm,seval,e1,e2,e3,e4]
 refine⟨ATU (by omega) (by omega) (by omega) fun j n3 hn3=>?_⟩
 simp(disch:=omega) only[vm,seval]
 refine⟨(hR _ _ [] ((j,[.any])::(i0,[.ptr i0 0,.trow 5 j 0])::Ck m i0) _ n3 (by first|rfl|(simp(disch:=omega) only[vm,seval];rfl)) slr (by omega) ⟨_,_,_,_,_,rfl,_,rfl,(hQ n3 (by omega)).go⟩).2⟩
instance ADI {n0}:CB vE (Ed N n0) 162 (fun i0=>[.ptr i0 0,.int .i64 n0]) (fun i0=>[.nself i0 222 2,.nbuf 5]) (fun r=>.tuple []) (fun i0 r=>[.ptr i0 0,.buf 5 [] true]):=⟨fun h hi hQ=>OW h rfl hi hQ⟩
instance Sm {a0 a1}:CF vE (EQ N a0 a1) 275 [.str a0,.str a1] (fun r=>.bool r):=AP (EQ.eq_1 ..) Tryz.func275 rfl Tryz.ntmps275 Tryz.results275 [(1,[],.stop)]
instance AT7 {a0}:CF vE (Jb N a0) 193 [D9 a0] (fun r=>.str r):=AP (Jb.eq_1 ..) Tryz.func193 rfl Tryz.ntmps193 Tryz.results193
theorem XM {r} (h:Mf N=some r) (ha:args=[]) (hQ: ∀i n',n≤i→i<n'→Gl (Q (.sh i) ⟨(i,[.map [[97,99,99,116],[109,97,105,108,116,111],[104,116,116,112,115],[100,105,100]] [.fn (.func 131) [] [],.fn (.func 132) [] [],.fn (.func 133) [] [],.fn (.func 134) [] []]])::m,n'⟩)):ACall vE 85 args ⟨m,n⟩ Q:=by
 rw[Mf]at h
 subst ha
 refine AWD Tryz.func85 rfl Tryz.ntmps85 Tryz.results85 (.q (.r []) (.q (.r []) .z)) fun R hR=>?_
 replace h:=And.intro trivial h
 obtain⟨H,h⟩:=h
 cases h
 simp(decide:=true) (disch:=omega) only[vm,seval,H,Er,Ih]
 refine⟨(hR _ _ [.sh n] ((n,[.map [[97,99,99,116],[109,97,105,108,116,111],[104,116,116,112,115],[100,105,100]] [.fn (.func 131) [] [],.fn (.func 132) [] [],.fn (.func 133) [] [],.fn (.func 134) [] []]])::m) _ (n+1) (by first|(simp(decide:=true) (disch:=omega) only[vm,seval,H,Er,Ih];done)|(simp(decide:=true) (disch:=omega) only[vm,seval,H,Er,Ih];rfl)) slr (by omega) (hQ (n) (n+1) (by omega) (by omega)).go).1⟩
instance AZ7:CN vE (Mf N) 85 [] (fun i=>.sh i) (fun r i=>[.map [[97,99,99,116],[109,97,105,108,116,111],[104,116,116,112,115],[100,105,100]] [.fn (.func 131) [] [],.fn (.func 132) [] [],.fn (.func 133) [] [],.fn (.func 134) [] []]]):=⟨fun h hQ=>XM h rfl hQ⟩
instance AdJ:CF vE (Sz N) 14 [] (fun r=>Ap r):=AP (Sz.eq_1 ..) Tryz.func14 rfl Tryz.ntmps14 Tryz.results14
instance AYe {a0}:CF vE (Lj N a0) 24 [Aa a0] (fun r=>.str r):=AP (Lj.eq_1 ..) Tryz.func24 rfl Tryz.ntmps24 Tryz.results24
@[reducible, instance] def AOS {k s0 s3} := LF.mk (X := Fg N k s0 s3) (G := fun k (s : Int × (List UInt8)) => Fg N k s.1 s.2) (s := (s0, s3)) (js := [(2, 1), (4, 13)]) (cs := [0, 3]) (V := fun s => [.int .u64 s.1, .str s.2]) (Ms := fun s => []) rfl (fun s => Fg.eq_1 ..) (fun k s => Fg.eq_2 ..)
instance AUh {a0}:CF vE (Lh N a0) 83 [.int .u64 a0] (fun r=>.str r):=AP (Lh.eq_1 ..) Tryz.func83 rfl Tryz.ntmps83 Tryz.results83
end Go.Proofs.YtcahkpfjpeomoaaGreatDoor
