import Derived.Test.YtfknikagmmfakaaGreatDoorVmFacts
import Derived.Test.YtfknikagmmfakaaGreatDoorDefs
import Derived.Test.YtfknikagmmfakaaGreatDoorVM7
import Derived.Shelf.Strings.Search2
set_option linter.unusedVariables false
set_option linter.unusedSimpArgs false
set_option maxHeartbeats 4000000
set_option maxRecDepth 100000
set_option linter.defProp false
namespace Go.Proofs.YtfknikagmmfakaaGreatDoor
open Go.VM
attribute [local irreducible] AA grd letL
variable{N n:Nat}{m:MS}{Q:PQ}{args:List AVal}
instance Ah0 {a0}:CF vE (Qz N a0) 337 [A7 a0] (fun r=>A7 r):=AR (Qz.eq_1 ..) Tryz.func337 rfl Tryz.ntmps337 Tryz.results337
instance ASj {a0}:CF vE (Em N a0) 17 [.int .i64 a0] (fun r=>.bool r):=AR (Em.eq_1 ..) Tryz.func17 rfl Tryz.ntmps17 Tryz.results17 [(1,[],.stop)]
instance Afa {a0 a1 a2 a3}:CF vE (La N a0 a1 a2 a3) 339 [LY a0,.int .i64 a1,.int .i64 a2,.int .i64 a3] (fun r=>LY r):=AR (La.eq_1 ..) Tryz.func339 rfl Tryz.ntmps339 Tryz.results339 [(1,[],.take 0 (.take 1 (.take 2 (.take 3 (.take 4 (.take 5 (.take 6 (.take 7 (.take 8 (.take 9 (.take 10 (.take 11 (.take 12 (.take 13 (.take 14 (.take 15 (.alt 16 [12,11,10,9,8,7,6,5,4,3,2,1,0] (.take 17 (.alt 18 [15,14,13,12,10,9,8,7,6,5,4,3,2,1,0] (.alt 19 [17,15,14,13,12,11,10,9,8,7,6,5,4,3,2,1,0] (.take 20 (.alt 21 [] (.done) (.stop))) (.stop)) (.stop))) (.stop))))))))))))))))))]
@[reducible, instance] def AZL {a0 a1 k2 k s5} := LF.mk (X := Hu N a0 a1 k2 k s5) (G := fun k (s : Int) => Hu N a0 a1 k2 k s) (s := s5) (js := [(4, 1), (6, 19)]) (cs := [5]) (V := fun s => [.int .i64 s]) (Ms := fun s => []) rfl (fun s => Hu.eq_1 ..) (fun k s => Hu.eq_2 ..)
instance AjK {a0 a1}:CF vE (Me N a0 a1) 410 [.str a0,.str a1] (fun r=>.int .i64 r):=AR (Me.eq_1 ..) Tryz.func410 rfl Tryz.ntmps410 Tryz.results410
@[reducible, instance] def AZF {a0 a1 k2 k s7} := LC.mk (X := Hq N a0 a1 k2 k s7) (G := fun k i (s : Unit) => Hq N a0 a1 k2 k i) (i := s7) (k := k) (s := ()) (js := [(4, 3), (9, 30)]) (cs := [7]) (V := fun i s => [.int .i64 i]) (Ms := fun i s => []) rfl (fun i s => Hq.eq_1 ..) (fun k i s => Hq.eq_2 ..)
instance Ah5 {a0 a1}:CF vE (MW N a0 a1) 451 [.str a0,.int .i64 a1] (fun r=>.tuple [.str r.1,.int .i64 r.2.1,.int .i64 r.2.2]):=AR (MW.eq_1 ..) Tryz.func451 rfl Tryz.ntmps451 Tryz.results451
instance AZK {a0}:CF vE (NU N a0) 180 [.int .i64 a0] (fun r=>.int .i64 r):=AR (NU.eq_1 ..) Tryz.func180 rfl Tryz.ntmps180 Tryz.results180
instance Akl {a0 a1}:CF vE (GN N a0 a1) 417 [Cm a0,.str a1] (fun r=>.bool r):=AR (GN.eq_1 ..) Tryz.func417 rfl Tryz.ntmps417 Tryz.results417 [(1,[],.stop)]
instance Aj3 {a0 a1}:CF vE (TC N a0 a1) 179 [.int .u64 a0,.int .u64 a1] (fun r=>.int .u64 r):=AR (TC.eq_1 ..) Tryz.func179 rfl Tryz.ntmps179 Tryz.results179
instance Afw {a0 a1}:CF vE (P5 N a0 a1) 22 [J2 a0,J2 a1] (fun r=>J2 r):=AR (P5.eq_1 ..) Tryz.func22 rfl Tryz.ntmps22 Tryz.results22 [(1,[],.stop)]
instance Su {a0 a1}:CF vE (D8 N a0 a1) 282 [.str a0,.int .u8 a1] (fun r=>.int .i64 r):=AR (D8.eq_1 ..) Tryz.func282 rfl Tryz.ntmps282 Tryz.results282
def AnB:Go.Shelf.Ren:=⟨fun|217=>282|219=>194|224=>284|225=>283|266=>373|267=>285|314=>374|k=>k,fun|3=>3|4=>4|5=>5|9=>9|46=>322|51=>380|146=>381|k=>k,fun|1=>0|k=>k⟩
theorem AeX:Go.Proofs.Lays.n219 Tryz.prog AnB:= {mixed:=by kernel_rfl,f217:=Tryz.func282.trans (congrArg some (by kernel_rfl)),f219:=Tryz.func194.trans (congrArg some (by kernel_rfl)),f224:=Tryz.func284.trans (congrArg some (by kernel_rfl)),f225:=Tryz.func283.trans (congrArg some (by kernel_rfl)),f266:=Tryz.func373.trans (congrArg some (by kernel_rfl)),f267:=Tryz.func285.trans (congrArg some (by kernel_rfl)),f314:=Tryz.func374.trans (congrArg some (by kernel_rfl)),t3:=Tryz.underlying3,a3:=Tryz.isAgg3,z3:=Tryz.sizeOf3,v3:=Tryz.zeroValue3,t4:=Tryz.underlying4,a4:=Tryz.isAgg4,z4:=Tryz.sizeOf4,v4:=Tryz.zeroValue4,t5:=Tryz.underlying5,a5:=Tryz.isAgg5,z5:=Tryz.sizeOf5,v5:=Tryz.zeroValue5,t9:=Tryz.underlying9,a9:=Tryz.isAgg9,z9:=Tryz.sizeOf9,v9:=Tryz.zeroValue9,t46:=Tryz.underlying322,a46:=Tryz.isAgg322,z46:=Tryz.sizeOf322,v46:=Tryz.zeroValue322,t51:=Tryz.underlying380,a51:=Tryz.isAgg380,z51:=Tryz.sizeOf380,v51:=Tryz.zeroValue380,t146:=Tryz.underlying381,a146:=Tryz.isAgg381,z146:=Tryz.sizeOf381,v146:=Tryz.zeroValue381,g1:=by kernel_rfl}
theorem AjV{Γ:Ghost}{F:Nat→Nat}{w:World}{st:St}{af:List AVal}{tm:List Value} (hs:Sim vE F Γ st w af tm): ∃m,w.cell? ⟨0,0,none⟩=some (.int .i64 m):=by
 have h:=hs.glob 0 [.num .i64] rfl
 cases h with
 | cptr hb hd h ho=>
  cases h with
  | cons hr ht=>cases hr with
   |num _ k=>
    cases ht
    obtain⟨arr,e,fz,hw,⟨ds,ha⟩,_⟩:=hs.com_ok _ _ hb
    refine⟨k,?_⟩
    rw[List.drop_zero]at hd
    rw[hd]at ha
    have h0:arr[0]?=some (.int .i64 k):=by rw[←Array.getElem?_toList,ha];rfl
    simp[World.cell?,hw,h0]
theorem Lj {a0 a1 r} (h:Co N a0 a1=some r) (ha:args=[.str a0,.str a1]) (hQ: ∀n',n≤n'→Gl (Q (.int .i64 r) ⟨m,n'⟩)):ACall vE 194 args ⟨m,n⟩ Q:=by
 subst ha
 refine⟨fun F Γ w cargs hs=>?_⟩
 have hr:=hs.rep
 obtain⟨l⟩:=cargs
 cases hr with
 | cons h0 t=>cases t with
  | cons h1 t=>
   cases t
   cases h0 with
   | str b0 hb0=>cases h1 with
    | str b1 hb1=>
     have fin:Calls vE.P 194 #[.string b0,.string b1] w (fun e w'=>e=.returned (.int .i64 r)∧w'=w):=by
      rw[Co]at h
      split at h
      · rename_i h1
        obtain⟨c,hc⟩: ∃c,b1.data.toList=[c]:=by
         have h2:b1.data.toList.length=1:=by have h3:=beq_iff_eq.1 h1;omega
         match hb:b1.data.toList,h2 with
         |[c],_=>exact⟨c,rfl⟩
        have e1:b1=⟨#[c]⟩:=by
         obtain⟨⟨l⟩⟩:=b1
         have:l=[c]:=hc
         subst this;rfl
        cases h
        subst e1
        exact Go.Proofs.Any.stringslite_Index_one AeX b0 c w
      · obtain⟨hl,h⟩:=VQ h
        cases h
        obtain⟨k,hk⟩:=AjV hs
        exact Go.Proofs.Any.stringslite_Index AeX b0 b1 k w (by rw[Go.Lib.size_eq];exact hl) hk
     refine fin.mono fun e w' ⟨he,hw⟩=>?_
     subst hw
     refine⟨_,he,Γ,.int .i64 r,⟨m,n⟩,Ext.refl _ _ _,Nat.le_refl _,?_,(hQ n (Nat.le_refl _)).go⟩
     exact {hs with rep:=.cons (.int _ _) .nil,own:=by simp[ownL,own],tok:=fun b=>by have:=hs.tok b;simp only[AP,cnt]at this⊢;omega}
instance Uz {a0 a1}:CF vE (Co N a0 a1) 194 [.str a0,.str a1] (fun r=>.int .i64 r):=⟨fun h hQ=>Lj h rfl hQ⟩
instance AZQ {a0}:CF vE (Cq N a0) 298 [.int .u8 a0] (fun r=>.bool r):=AR (Cq.eq_1 ..) Tryz.func298 rfl Tryz.ntmps298 Tryz.results298 [(1,[],.stop)]
instance AZD {a0}:CF vE (F7 N a0) 376 [.int .u8 a0] (fun r=>.bool r):=AR (F7.eq_1 ..) Tryz.func376 rfl Tryz.ntmps376 Tryz.results376 [(1,[],.stop)]
instance AKN {a0 a1}:CB vE (JO N a0 a1) 369 (fun i0=>[.ptr i0 0,.int .u8 a1]) (fun i0=>[.slice 1 (List.map (AVal.int .u8) a0) true]) (fun r=>.tuple []) (fun i0 r=>[.slice 1 (List.map (AVal.int .u8) r) true]):=D9 (JO.eq_1 ..) Tryz.func369 rfl Tryz.ntmps369 Tryz.results369 [(0,[7],.take 0 (.take 1 (.take 2 (.take 4 (.take 5 (.take 6 (.take 7 (.take 8 (.take 9 (.take 10 (.alt 3 [10,9,8,7,6,5,4,1,0] (.alt 11 [9,8,7,6,5,4,2,1,0] (.take 12 (.alt 13 [] (.done) (.stop))) (.stop)) (.stop))))))))))))]
@[reducible, instance] def AU1 {a0 k2 xs s10 bn} := LR.mk (X := GY N a0 k2 xs s10 bn) (G := fun xs i (s : (List Int)) => GY N a0 k2 xs i s) (i := s10) (s := bn) (js := [(4, 2), (11, 16)]) (cs := [10]) (V := fun i s => [.int .i64 i]) (Ms := fun i s => [.s (List.map (AVal.int .u8) s)]) rfl (fun i s => GY.eq_1 ..) (fun x xs i s => GY.eq_2 ..)
instance Afm {a0}:CF vE (ED N a0) 117 [.str a0] (fun r=>.str r):=AR (ED.eq_1 ..) Tryz.func117 rfl Tryz.ntmps117 Tryz.results117 [(5,[],.stop)]
instance QG {a0}:CF vE (DK N a0) 455 [.str a0] (fun r=>.tuple [.int .i32 r.1,.int .i64 r.2]):=AR (DK.eq_1 ..) Tryz.func455 rfl Tryz.ntmps455 Tryz.results455 [(14,[],.stop),(19,[],.stop),(24,[],.stop)]
instance Af6 {a0}:CF vE (Pz N a0) 270 [MP a0] (fun r=>.str r):=AR (Pz.eq_1 ..) Tryz.func270 rfl Tryz.ntmps270 Tryz.results270
instance VL {a0}:CF vE (strings_shouldUseASCIISet N a0) 380 [.int .i64 a0] (fun r=>.bool r):=AR (strings_shouldUseASCIISet.eq_1 ..) Tryz.func380 rfl Tryz.ntmps380 Tryz.results380
@[reducible, instance] def Wh {k2 xs bn} := LQ.mk (X := Ch N k2 xs bn) (G := fun xs i (s : (List Bool)) => Ch N k2 xs s) (s := bn) (js := [(3, 1), (5, 15)]) (cs := [4]) (V := fun i s => [.int .i64 i]) (Ms := fun i s => [.s (List.map AVal.bool s)]) (fun _ => rfl) (fun i s => Ch.eq_1 ..) (fun x xs i s => Ch.eq_2 ..)
instance AAs {a0}:CF vE (strings_makeASCIISet N a0) 381 [.str a0] (fun r=>.tuple [.agg (List.map AVal.bool r.1),.bool r.2]):=AR (strings_makeASCIISet.eq_1 ..) Tryz.func381 rfl Tryz.ntmps381 Tryz.results381
instance VH {a0 a1}:CB vE (Cx N a0 a1) 382 (fun i0=>[.ptr i0 0,.int .u8 a1]) (fun i0=>List.map AVal.bool a0) (fun r=>.bool r.1) (fun i0 r=>List.map AVal.bool r.2):=D9 (Cx.eq_1 ..) Tryz.func382 rfl Tryz.ntmps382 Tryz.results382
instance AZR {a0}:CF vE (IA N a0) 60 [A7 a0] (fun r=>Ay r):=AR (IA.eq_1 ..) Tryz.func60 rfl Tryz.ntmps60 Tryz.results60
instance AZj {a0}:CF vE (K8 N a0) 119 [A7 a0] (fun r=>.str r):=AR (K8.eq_1 ..) Tryz.func119 rfl Tryz.ntmps119 Tryz.results119
@[reducible, instance] def AQt {k2 k s0 s4 bn} := LF.mk (X := El N k2 k s0 s4 bn) (G := fun k (s : Int × Int × (List Int)) => El N k2 k s.1 s.2.1 s.2.2) (s := (s0, s4, bn)) (js := [(5, 12)]) (cs := [0, 4]) (V := fun s => [.int .u64 s.1, .int .i64 s.2.1]) (Ms := fun s => [.s (List.map (AVal.int .u8) s.2.2)]) rfl (fun s => El.eq_1 ..) (fun k s => El.eq_2 ..)
instance AZ5 {a0}:CF vE (H6 N a0) 372 [.int .u64 a0] (fun r=>.str r):=AR (H6.eq_1 ..) Tryz.func372 rfl Tryz.ntmps372 Tryz.results372
instance R8 {a0 a1}:CF vE (Cw N a0 a1) 375 [.str a0,.str a1] (fun r=>.bool r):=AR (Cw.eq_1 ..) Tryz.func375 rfl Tryz.ntmps375 Tryz.results375 [(1,[],.stop)]
instance VN {a0}:CB vE (E8 N a0) 293 (fun i0=>[.ptr i0 0]) (fun i0=>[F8 i0 274 2 a0.addr,.buf 5 a0.buf true]) (fun r=>.tuple []) (fun i0 r=>[F8 i0 274 2 r.addr,.buf 5 r.buf true]):=D9 (E8.eq_1 ..) Tryz.func293 rfl Tryz.ntmps293 Tryz.results293
instance XW {a0}:CB vE (Cs N a0) 206 (fun i0=>[.ptr i0 0]) (fun i0=>[F8 i0 274 2 a0.addr,.buf 5 a0.buf true]) (fun r=>.str r.1) (fun i0 r=>[F8 i0 274 2 r.2.addr,.buf 5 r.2.buf false]):=D9 (Cs.eq_1 ..) Tryz.func206 rfl Tryz.ntmps206 Tryz.results206 [(1,[6],.take 0 (.take 1 (.take 2 (.take 5 (.take 6 (.take 7 (.take 8 (.take 9 (.alt 3 [9,8,7,6,5,1,0] (.alt 4 [9,8,7,6,5,2,1,0] (.alt 10 [8,7,6,5,2,1,0] (.alt 11 [] (.done) (.stop)) (.stop)) (.stop)) (.stop))))))))))]
theorem XJ {r} (h:M8 N=some r) (ha:args=[]) (hQ: ∀i n',n≤i→i<n'→Gl (Q (.sh i) ⟨(i,[.map [[97,99,99,116],[109,97,105,108,116,111],[104,116,116,112,115],[100,105,100]] [.fn (.func 187) [] [],.fn (.func 188) [] [],.fn (.func 189) [] [],.fn (.func 190) [] []]])::m,n'⟩)):ACall vE 116 args ⟨m,n⟩ Q:=by
 rw[M8]at h
 subst ha
 refine Ab7 Tryz.func116 rfl Tryz.ntmps116 Tryz.results116 (.q (.r []) (.q (.r []) .z)) fun R hR=>?_
 replace h:=And.intro trivial h
 obtain⟨H,h⟩:=h
 cases h
 simp(decide:=true) (disch:=omega) only[vm,seval,H,EQ,Ic]
 refine⟨(hR _ _ [.sh n] ((n,[.map [[97,99,99,116],[109,97,105,108,116,111],[104,116,116,112,115],[100,105,100]] [.fn (.func 187) [] [],.fn (.func 188) [] [],.fn (.func 189) [] [],.fn (.func 190) [] []]])::m) _ (n+1) (by first|(simp(decide:=true) (disch:=omega) only[vm,seval,H,EQ,Ic];done)|(simp(decide:=true) (disch:=omega) only[vm,seval,H,EQ,Ic];rfl)) slr (by omega) (hQ (n) (n+1) (by omega) (by omega)).go).1⟩
instance AgW:CN vE (M8 N) 116 [] (fun i=>.sh i) (fun r i=>[.map [[97,99,99,116],[109,97,105,108,116,111],[104,116,116,112,115],[100,105,100]] [.fn (.func 187) [] [],.fn (.func 188) [] [],.fn (.func 189) [] [],.fn (.func 190) [] []]]):=⟨fun h hQ=>XJ h rfl hQ⟩
instance AeJ {a0}:CF vE (OJ N a0) 193 [Ap a0] (fun r=>Ay r):=AR (OJ.eq_1 ..) Tryz.func193 rfl Tryz.ntmps193 Tryz.results193
end Go.Proofs.YtfknikagmmfakaaGreatDoor
