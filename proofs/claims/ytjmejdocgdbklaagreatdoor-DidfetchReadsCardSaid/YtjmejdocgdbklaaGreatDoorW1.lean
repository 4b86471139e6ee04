import Derived.Test.YtjmejdocgdbklaaGreatDoorVmFacts
import Derived.Test.YtjmejdocgdbklaaGreatDoorDefs
import Derived.Test.YtjmejdocgdbklaaGreatDoorVM7
import Derived.Shelf.Strings.Search2
set_option linter.unusedVariables false
set_option linter.unusedSimpArgs false
set_option maxHeartbeats 4000000
set_option maxRecDepth 100000
set_option linter.defProp false
namespace Go.Proofs.YtjmejdocgdbklaaGreatDoor
open Go.VM
attribute [local irreducible] AB grd letL
variable{N n:Nat}{m:MS}{Q:PQ}{args:List AVal}
def Apg:Go.Shelf.Ren:=⟨λ|217=>196|219=>206|224=>239|225=>238|266=>225|267=>240|314=>268|k=>k,λ|3=>3|4=>4|5=>5|9=>9|46=>250|51=>263|146=>264|k=>k,λ|1=>0|k=>k⟩
def Aec:Go.Proofs.Lays.n219 Tryz.prog Apg:= {mixed:=by kernel_rfl,f217:=Tryz.func196.trans (a8 some (by kernel_rfl)),f219:=Tryz.func206.trans (a8 some (by kernel_rfl)),f224:=Tryz.func239.trans (a8 some (by kernel_rfl)),f225:=Tryz.func238.trans (a8 some (by kernel_rfl)),f266:=Tryz.func225.trans (a8 some (by kernel_rfl)),f267:=Tryz.func240.trans (a8 some (by kernel_rfl)),f314:=Tryz.func268.trans (a8 some (by kernel_rfl)),t3:=Tryz.underlying3,a3:=Tryz.isAgg3,z3:=Tryz.sizeOf3,v3:=Tryz.zeroValue3,t4:=Tryz.underlying4,a4:=Tryz.isAgg4,z4:=Tryz.sizeOf4,v4:=Tryz.zeroValue4,t5:=Tryz.underlying5,a5:=Tryz.isAgg5,z5:=Tryz.sizeOf5,v5:=Tryz.zeroValue5,t9:=Tryz.underlying9,a9:=Tryz.isAgg9,z9:=Tryz.sizeOf9,v9:=Tryz.zeroValue9,t46:=Tryz.underlying250,a46:=Tryz.isAgg250,z46:=Tryz.sizeOf250,v46:=Tryz.zeroValue250,t51:=Tryz.underlying263,a51:=Tryz.isAgg263,z51:=Tryz.sizeOf263,v51:=Tryz.zeroValue263,t146:=Tryz.underlying264,a146:=Tryz.isAgg264,z146:=Tryz.sizeOf264,v146:=Tryz.zeroValue264,g1:=by kernel_rfl}
def Ajl{Γ:Ghost}{F:Nat->Nat}{w:World}{st:St}{af:List AVal}{tm:List Value} (hs:Sim vE F Γ st w af tm): ∃m,w.cell? ⟨0,0,none⟩=some (.int .i64 m):=by
 have h:=hs.glob 0 [.num .i64] rfl;cases h with
 | cptr hb hd h ho=>
  cases h with
  | cons hr ht=>
   cases hr with
   |num _ k=>
    cases ht;obtain⟨arr,e,fz,hw,⟨ds,ha⟩,_⟩:=hs.com_ok _ _ hb;refine⟨k,?_⟩;rw[aY]at hd;rw[hd]at ha;have h0:arr[0]?=some (.int .i64 k):=by rw[<-Array.getElem?_toList,ha];rfl
    simp[World.cell?,hw,h0]
def O6 {a0 a1 r} (h:Cr N a0 a1=some r) (ha:args=[.str a0,.str a1]) (hQ: ∀n',n<=n'->Gl (Q (.int .i64 r) ⟨m,n'⟩)):ACall vE 206 args ⟨m,n⟩ Q:=by
 subst ha;refine⟨λF Γ w cargs hs=>?_⟩;have hr:=hs.rep;obtain⟨l⟩:=cargs;cases hr with
 | cons h0 t=>
  cases t with
  | cons h1 t=>
   cases t;cases h0 with
   | str b0 hb0=>
    cases h1 with
    | str b1 hb1=>
     have fin:Calls vE.P 206 #[.string b0,.string b1] w (λe w'=>e=.returned (.int .i64 r)/\w'=w):=by
      rw[Cr]at h;split at h
      ·rename_i h1;obtain⟨c,hc⟩: ∃c,b1.data.toList=[c]:=by
        have h2:b1.data.toList.length=1:=by have h3:=bA.1 h1;omega
        match hb:b1.data.toList,h2 with |[c],_=>exact⟨c,rfl⟩
       have e1:b1=⟨#[c]⟩:=by obtain⟨⟨l⟩⟩:=b1;have:l=[c]:=hc;subst this;rfl
       cases h;subst e1;exact Go.Proofs.Any.stringslite_Index_one Aec b0 c w
      ·obtain⟨hl,h⟩:=ACl h;cases h;obtain⟨k,hk⟩:=Ajl hs;exact Go.Proofs.Any.stringslite_Index Aec b0 b1 k w (by rw[Go.Lib.size_eq];exact hl) hk
     refine fin.mono λe w' ⟨he,hw⟩=>?_;subst hw;refine⟨_,he,Γ,.int .i64 r,⟨m,n⟩,Ext.refl _ _ _,aw _,?_,(hQ n (aw _)).go⟩;exact {hs with rep:=.cons (.int _ _) .nil,own:=by simp[ownL,own],tok:=λb=>by have:=hs.tok b;simp only[AU,cnt]at this⊢;omega}
instance Zt {a0 a1}:CF vE (Cr N a0 a1) 206 [.str a0,.str a1] (λr=>.int .i64 r):=⟨λh hQ=>O6 h rfl hQ⟩
@[reducible,instance] def ACn {a1 k2 k s0} := LF.mk (X := CJ N a1 k2 k s0) (G := λk (s : B8) => CJ N a1 k2 k s) (s := s0) (js := [(5, 11)]) (cs := [0]) (V := λs => [.str s]) (Ms := λs => []) rfl (λs => CJ.eq_1 ..) (λk s => CJ.eq_2 ..)
instance AF3 {a0 a1}:CF vE (strings_trimLeftByte N a0 a1) 230 [.str a0,.int .u8 a1] (λr=>.str r):=AZ (strings_trimLeftByte.eq_1 ..) Tryz.func230 rfl Tryz.ntmps230 Tryz.results230 [(1,[],.stop)]
@[reducible,instance] def ACo {k2 xs bn} := LQ.mk (X := CE N k2 xs bn) (G := λxs i (s : (List Bool)) => CE N k2 xs s) (s := bn) (js := [(3, 1), (5, 15)]) (cs := [4]) (V := λi s => [.int .i64 i]) (Ms := λi s => [.s (List.map AVal.bool s)]) (λ_ => rfl) (λi s => CE.eq_1 ..) (λx xs i s => CE.eq_2 ..)
instance AJa {a0}:CF vE (strings_makeASCIISet N a0) 231 [.str a0] (λr=>.tuple [.agg (List.map AVal.bool r.1),.bool r.2]):=AZ (strings_makeASCIISet.eq_1 ..) Tryz.func231 rfl Tryz.ntmps231 Tryz.results231
instance AAD {a0 a1}:CB vE (Cw N a0 a1) 264 (λi0=>[.ptr i0 0,.int .u8 a1]) (λi0=>List.map AVal.bool a0) (λr=>.bool r.1) (λi0 r=>List.map AVal.bool r.2):=G5 (Cw.eq_1 ..) Tryz.func264 rfl Tryz.ntmps264 Tryz.results264
instance Us {a0}:CF vE (FL N a0) 271 [.str a0] (λr=>.tuple [.int .i32 r.1,.int .i64 r.2]):=AZ (FL.eq_1 ..) Tryz.func271 rfl Tryz.ntmps271 Tryz.results271 [(14,[],.stop),(19,[],.stop),(24,[],.stop)]
instance AAf {a0}:CF vE (MH N a0) 239 [.int .i64 a0] (λr=>.int .i64 r):=AZ (MH.eq_1 ..) Tryz.func239 rfl Tryz.ntmps239 Tryz.results239
instance AC5 {a0}:CF vE (Dy N a0) 296 [.int .i32 a0] (λr=>.bool r):=AZ (Dy.eq_1 ..) Tryz.func296 rfl Tryz.ntmps296 Tryz.results296 [(1,[],.stop),(3,[],.stop)]
@[reducible,instance] def AA7 {a1 k2 k s0} := LF.mk (X := Bj N a1 k2 k s0) (G := λk (s : B8) => Bj N a1 k2 k s) (s := s0) (js := [(5, 17)]) (cs := [0]) (V := λs => [.str s]) (Ms := λs => []) rfl (λs => Bj.eq_1 ..) (λk s => Bj.eq_2 ..)
instance AEq {a0 a1}:CF vE (strings_trimRightByte N a0 a1) 234 [.str a0,.int .u8 a1] (λr=>.str r):=AZ (strings_trimRightByte.eq_1 ..) Tryz.func234 rfl Tryz.ntmps234 Tryz.results234 [(1,[],.stop)]
instance ADB {a0}:CF vE (KL N a0) 288 [.int .u8 a0] (λr=>.bool r):=AZ (KL.eq_1 ..) Tryz.func288 rfl Tryz.ntmps288 Tryz.results288
instance XF {a0 a1}:CF vE (BZ N a0 a1) 205 [.str a0,.str a1] (λr=>.bool r):=AZ (BZ.eq_1 ..) Tryz.func205 rfl Tryz.ntmps205 Tryz.results205 [(1,[],.stop)]
@[reducible,instance] def ATc {k2 k s0 s4 bn} := LF.mk (X := Fx N k2 k s0 s4 bn) (G := λk (s : Int × Int × (List Int)) => Fx N k2 k s.1 s.2.1 s.2.2) (s := (s0, s4, bn)) (js := [(5, 12)]) (cs := [0, 4]) (V := λs => [.int .u64 s.1, .int .i64 s.2.1]) (Ms := λs => [.s (List.map (AVal.int .u8) s.2.2)]) rfl (λs => Fx.eq_1 ..) (λk s => Fx.eq_2 ..)
instance Aa4 {a0}:CF vE (F7 N a0) 204 [.int .u64 a0] (λr=>.str r):=AZ (F7.eq_1 ..) Tryz.func204 rfl Tryz.ntmps204 Tryz.results204
instance AbK {a0}:CF vE (DK N a0) 20 [Cy a0] (λr=>.str r):=AZ (DK.eq_1 ..) Tryz.func20 rfl Tryz.ntmps20 Tryz.results20
instance ALw {a0 a1}:CB vE (Gg N a0 a1) 209 (λi0=>[.ptr i0 0,.int .u8 a1]) (λi0=>[.slice 1 (List.map (AVal.int .u8) a0) true]) (λr=>.tuple []) (λi0 r=>[.slice 1 (List.map (AVal.int .u8) r) true]):=G5 (Gg.eq_1 ..) Tryz.func209 rfl Tryz.ntmps209 Tryz.results209 [(0,[7],.take 0 (.take 1 (.take 2 (.take 4 (.take 5 (.take 6 (.take 7 (.take 8 (.take 9 (.take 10 (.alt 3 [10,9,8,7,6,5,4,1,0] (.alt 11 [9,8,7,6,5,4,2,1,0] (.take 12 (.alt 13 [] (.done) (.stop))) (.stop)) (.stop))))))))))))]
@[reducible,instance] def VW {a0 k2 k s2 s4} := LF.mk (X := Bq N a0 k2 k s2 s4) (G := λk (s : Int × Nat) => Bq N a0 k2 k s.1 s.2) (s := (s2, s4)) (js := [(5, 4)]) (cs := [2, 4]) (V := λs => [.int .i64 s.1, .iter a0 s.2]) (Ms := λs => []) rfl (λs => Bq.eq_1 ..) (λk s => Bq.eq_2 ..)
instance WS {a0}:CF vE (Es N a0) 269 [.str a0] (λr=>.int .i64 r):=AZ (Es.eq_1 ..) Tryz.func269 rfl Tryz.ntmps269 Tryz.results269
end Go.Proofs.YtjmejdocgdbklaaGreatDoor
