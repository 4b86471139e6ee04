import Derived.Test.YtmalodjbhonipaaGreatDoorVmFacts
import Derived.Test.YtmalodjbhonipaaGreatDoorDefs
import Derived.Test.YtmalodjbhonipaaGreatDoorVM7
import Derived.Shelf.Strings.Search2
set_option linter.unusedVariables false
set_option linter.unusedSimpArgs false
set_option maxHeartbeats 4000000
set_option maxRecDepth 100000
set_option linter.defProp false
namespace Go.Proofs.YtmalodjbhonipaaGreatDoor
open Go.VM
attribute [local irreducible] AA grd letL
variable{N n:Nat}{m:MS}{Q:PQ}{args:List AVal}
instance AEs {a0 a1 a2}:CB vE (Av N a0 a1 a2) 11 (fun i0=>[.ptr i0 0,.int .i64 a1,.int .i64 a2]) (fun i0=>[.str a0.s,.int .i64 a0.at_,.int .i64 a0.nodes,.int .i64 a0.fail,.int .i64 a0.where_]) (fun r=>.tuple []) (fun i0 r=>[.str r.s,.int .i64 r.at_,.int .i64 r.nodes,.int .i64 r.fail,.int .i64 r.where_]):=KC (Av.eq_1 ..) Tryz.func11 rfl Tryz.ntmps11 Tryz.results11
instance AVk {a0 a1}:CF vE (FX N a0 a1) 28 [I7 a0,.str a1] (fun r=>.bool r):=Ae (FX.eq_1 ..) Tryz.func28 rfl Tryz.ntmps28 Tryz.results28 [(1,[],.stop)]
instance ASt {a0 a1}:CF vE (IZ N a0 a1) 70 [.str a0,.int .i64 a1] (fun r=>.str r):=Ae (IZ.eq_1 ..) Tryz.func70 rfl Tryz.ntmps70 Tryz.results70
@[reducible, instance] def ARL {a0 k2 xs} := LQ.mk (X := EP N a0 k2 xs) (G := fun xs i (s : Unit) => EP N a0 k2 xs) (s := ()) (js := [(4, 1), (6, 11)]) (cs := [5]) (V := fun i s => [.int .i64 i]) (Ms := fun i s => []) (fun _ => rfl) (fun i s => EP.eq_1 ..) (fun x xs i s => EP.eq_2 ..)
instance AXF {a0 a1}:CF vE (Ew N a0 a1) 74 [.int .u8 a0,.str a1] (fun r=>.bool r):=Ae (Ew.eq_1 ..) Tryz.func74 rfl Tryz.ntmps74 Tryz.results74
instance AL2 {a0}:CF vE (BN N a0) 76 [.int .u8 a0] (fun r=>.bool r):=Ae (BN.eq_1 ..) Tryz.func76 rfl Tryz.ntmps76 Tryz.results76 [(1,[],.stop)]
@[reducible, instance] def AHw {k s0 s3} := LF.mk (X := Cw N k s0 s3) (G := fun k (s : Int × (List UInt8)) => Cw N k s.1 s.2) (s := (s0, s3)) (js := [(2, 1), (4, 13)]) (cs := [0, 3]) (V := fun s => [.int .u64 s.1, .str s.2]) (Ms := fun s => []) rfl (fun s => Cw.eq_1 ..) (fun k s => Cw.eq_2 ..)
instance AMo {a0}:CF vE (En N a0) 71 [.int .u64 a0] (fun r=>.str r):=Ae (En.eq_1 ..) Tryz.func71 rfl Tryz.ntmps71 Tryz.results71
instance AS8 {a0}:CF vE (Kl N a0) 30 [.str a0] (fun r=>.int .i64 r):=Ae (Kl.eq_1 ..) Tryz.func30 rfl Tryz.ntmps30 Tryz.results30
instance ARS {a0}:CF vE (Ll N a0) 183 [.int .i64 a0] (fun r=>.bool r):=Ae (Ll.eq_1 ..) Tryz.func183 rfl Tryz.ntmps183 Tryz.results183 [(1,[],.stop)]
@[reducible, instance] def AKq {a0 k4 k s4 s3} := LC.mk (X := EI N a0 k4 k s4 s3) (G := fun k i (s : Int) => EI N a0 k4 k i s) (i := s4) (k := k) (s := s3) (js := [(20, 14)]) (cs := [3, 4]) (V := fun i s => [.int .i64 s, .int .i64 i]) (Ms := fun i s => []) rfl (fun i s => EI.eq_1 ..) (fun k i s => EI.eq_2 ..)
instance ARd {a0}:CF vE (KE N a0) 166 [.str a0] (fun r=>.int .i64 r):=Ae (KE.eq_1 ..) Tryz.func166 rfl Tryz.ntmps166 Tryz.results166 [(3,[],.take 0 (.take 1 (.take 2 (.take 3 (.take 4 (.take 5 (.take 6 (.take 7 (.take 8 (.alt 9 [] (.done) (.stop)))))))))))]
instance AL9 {a0}:CF vE (Dj N a0) 77 [.int .u8 a0] (fun r=>.bool r):=Ae (Dj.eq_1 ..) Tryz.func77 rfl Tryz.ntmps77 Tryz.results77 [(1,[],.stop)]
@[reducible, instance] def AOC {a0 a1 k2 xs s14} := LR.mk (X := Dl N a0 a1 k2 xs s14) (G := fun xs i (s : Unit) => Dl N a0 a1 k2 xs i) (i := s14) (s := ()) (js := [(5, 2), (15, 22)]) (cs := [14]) (V := fun i s => [.int .i64 i]) (Ms := fun i s => []) rfl (fun i s => Dl.eq_1 ..) (fun x xs i s => Dl.eq_2 ..)
instance AUw {a0 a1}:CF vE (F4 N a0 a1) 72 [AR a0,.str a1] (fun r=>.tuple [AR r.1,.bool r.2]):=Ae (F4.eq_1 ..) Tryz.func72 rfl Tryz.ntmps72 Tryz.results72 [(6,[],.stop)] true
instance ALu {a0}:CF vE (FP N a0) 16 [Jy a0] (fun r=>.str r):=Ae (FP.eq_1 ..) Tryz.func16 rfl Tryz.ntmps16 Tryz.results16
instance Pf {a0 a1}:CF vE (DN N a0 a1) 139 [.str a0,.int .u8 a1] (fun r=>.int .i64 r):=Ae (DN.eq_1 ..) Tryz.func139 rfl Tryz.ntmps139 Tryz.results139
def AYJ:Go.Shelf.Ren:=⟨fun|217=>139|219=>123|224=>162|225=>161|266=>169|267=>163|314=>181|k=>k,fun|3=>3|4=>4|5=>5|9=>9|46=>153|51=>181|146=>182|k=>k,fun|1=>0|k=>k⟩
theorem AN5:Go.Proofs.Lays.n219 Tryz.prog AYJ:= {mixed:=by kernel_rfl,f217:=Tryz.func139.trans (a7 some (by kernel_rfl)),f219:=Tryz.func123.trans (a7 some (by kernel_rfl)),f224:=Tryz.func162.trans (a7 some (by kernel_rfl)),f225:=Tryz.func161.trans (a7 some (by kernel_rfl)),f266:=Tryz.func169.trans (a7 some (by kernel_rfl)),f267:=Tryz.func163.trans (a7 some (by kernel_rfl)),f314:=Tryz.func181.trans (a7 some (by kernel_rfl)),t3:=Tryz.underlying3,a3:=Tryz.isAgg3,z3:=Tryz.sizeOf3,v3:=Tryz.zeroValue3,t4:=Tryz.underlying4,a4:=Tryz.isAgg4,z4:=Tryz.sizeOf4,v4:=Tryz.zeroValue4,t5:=Tryz.underlying5,a5:=Tryz.isAgg5,z5:=Tryz.sizeOf5,v5:=Tryz.zeroValue5,t9:=Tryz.underlying9,a9:=Tryz.isAgg9,z9:=Tryz.sizeOf9,v9:=Tryz.zeroValue9,t46:=Tryz.underlying153,a46:=Tryz.isAgg153,z46:=Tryz.sizeOf153,v46:=Tryz.zeroValue153,t51:=Tryz.underlying181,a51:=Tryz.isAgg181,z51:=Tryz.sizeOf181,v51:=Tryz.zeroValue181,t146:=Tryz.underlying182,a146:=Tryz.isAgg182,z146:=Tryz.sizeOf182,v146:=Tryz.zeroValue182,g1:=by kernel_rfl}
theorem ATw{Γ:Ghost}{F:Nat→Nat}{w:World}{st:St}{af:List AVal}{tm:List Value} (hs:Sim vE F Γ st w af tm): ∃m,w.cell? ⟨0,0,none⟩=some (.int .i64 m):=by
 have h:=hs.glob 0 [.num .i64] rfl;cases h with
 | cptr hb hd h ho=>
  cases h with
  | cons hr ht=>
   cases hr with
   |num _ k=>
    cases ht;obtain⟨arr,e,fz,hw,⟨ds,ha⟩,_⟩:=hs.com_ok _ _ hb;refine⟨k,?_⟩;rw[aT]at hd;rw[hd]at ha;have h0:arr[0]?=some (.int .i64 k):=by rw[←Array.getElem?_toList,ha];rfl
    simp[World.cell?,hw,h0]
theorem KM {a0 a1 r} (h:BV N a0 a1=some r) (ha:args=[.str a0,.str a1]) (hQ: ∀n',n≤n'→Gl (Q (.int .i64 r) ⟨m,n'⟩)):ACall vE 123 args ⟨m,n⟩ Q:=by
 subst ha;refine⟨fun F Γ w cargs hs=>?_⟩;have hr:=hs.rep;obtain⟨l⟩:=cargs;cases hr with
 | cons h0 t=>
  cases t with
  | cons h1 t=>
   cases t;cases h0 with
   | str b0 hb0=>
    cases h1 with
    | str b1 hb1=>
     have fin:Calls vE.P 123 #[.string b0,.string b1] w (fun e w'=>e=.returned (.int .i64 r)∧w'=w):=by
      rw[BV]at h;split at h
      ·rename_i h1;obtain⟨c,hc⟩: ∃c,b1.data.toList=[c]:=by
        have h2:b1.data.toList.length=1:=by have h3:=bw.1 h1;omega
        match hb:b1.data.toList,h2 with |[c],_=>exact⟨c,rfl⟩
       have e1:b1=⟨#[c]⟩:=by obtain⟨⟨l⟩⟩:=b1;have:l=[c]:=hc;subst this;rfl
       cases h;subst e1;exact Go.Proofs.Any.stringslite_Index_one AN5 b0 c w
      ·obtain⟨hl,h⟩:=AA2 h;cases h;obtain⟨k,hk⟩:=ATw hs;exact Go.Proofs.Any.stringslite_Index AN5 b0 b1 k w (by rw[Go.Lib.size_eq];exact hl) hk
     refine fin.mono fun e w' ⟨he,hw⟩=>?_;subst hw;refine⟨_,he,Γ,.int .i64 r,⟨m,n⟩,Ext.refl _ _ _,ao _,?_,(hQ n (ao _)).go⟩;exact {hs with rep:=.cons (.int _ _) .nil,own:=by simp[ownL,own],tok:=fun b=>by have:=hs.tok b;simp only[AJ,cnt]at this⊢;omega}
instance Ru {a0 a1}:CF vE (BV N a0 a1) 123 [.str a0,.str a1] (fun r=>.int .i64 r):=⟨fun h hQ=>KM h rfl hQ⟩
end Go.Proofs.YtmalodjbhonipaaGreatDoor
