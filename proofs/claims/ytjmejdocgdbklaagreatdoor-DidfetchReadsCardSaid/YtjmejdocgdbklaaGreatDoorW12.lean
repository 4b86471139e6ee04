import Derived.Test.YtjmejdocgdbklaaGreatDoorVmFacts
import Derived.Test.YtjmejdocgdbklaaGreatDoorDefs
import Derived.Test.YtjmejdocgdbklaaGreatDoorVM7
import Derived.Test.YtjmejdocgdbklaaGreatDoorW0
import Derived.Test.YtjmejdocgdbklaaGreatDoorW1
import Derived.Test.YtjmejdocgdbklaaGreatDoorW2
import Derived.Test.YtjmejdocgdbklaaGreatDoorW5
import Derived.Test.YtjmejdocgdbklaaGreatDoorW6
import Derived.Test.YtjmejdocgdbklaaGreatDoorW9
import Derived.Test.YtjmejdocgdbklaaGreatDoorW10
import Derived.Test.YtjmejdocgdbklaaGreatDoorVM5
set_option linter.unusedVariables false
set_option linter.unusedSimpArgs false
set_option maxHeartbeats 4000000
set_option maxRecDepth 100000
set_option linter.defProp false
namespace Go.Proofs.YtjmejdocgdbklaaGreatDoor
open Go.VM
attribute [local irreducible] AB grd letL
variable{N n:Nat}{m:MS}{Q:PQ}{args:List AVal}
instance AnF {a0 a1}:CF vE (TI N a0 a1) 14 [OD a0,.str a1] (λr=>.tuple [.str r.1,.bool r.2]):=AZ (TI.eq_1 ..) Tryz.func14 rfl Tryz.ntmps14 Tryz.results14
instance AbL {a0}:CF vE (MF N a0) 100 [.int .u8 a0] (λr=>.bool r):=AZ (MF.eq_1 ..) Tryz.func100 rfl Tryz.ntmps100 Tryz.results100 [(1,[],.stop)]
@[reducible,instance] def Ae5 {a0 k2 xs} := LQ.mk (X := IQ N a0 k2 xs) (G := λxs i (s : Unit) => IQ N a0 k2 xs) (s := ()) (js := [(4, 1), (6, 1), (10, 14)]) (cs := [9]) (V := λi s => [.int .i64 i]) (Ms := λi s => []) (λ_ => rfl) (λi s => IQ.eq_1 ..) (λx xs i s => IQ.eq_2 ..)
instance Al8 {a0 a1}:CF vE (UJ N a0 a1) 55 [JM a0,.slice 1 (List.map AVal.str a1) false] (λr=>.bool r):=AZ (UJ.eq_1 ..) Tryz.func55 rfl Tryz.ntmps55 Tryz.results55
instance Ai7 {a0 a1}:CF vE (QG N a0 a1) 263 [.str a0,.int .u64 a1] (λr=>.tuple [.int .u64 r.1,.int .i64 r.2]):=AZ (QG.eq_1 ..) Tryz.func263 rfl Tryz.ntmps263 Tryz.results263
instance AL1 {a0}:CB vE (Dc N a0) 155 (λi0=>[.ptr i0 0]) (λi0=>[.str a0.s,.int .i64 a0.at_]) (λr=>.tuple [.str r.1,.bool r.2.1]) (λi0 r=>[.str r.2.2.s,.int .i64 r.2.2.at_]):=G5 (Dc.eq_1 ..) Tryz.func155 rfl Tryz.ntmps155 Tryz.results155 [(3,[],.stop),(12,[],.take 0 (.take 1 (.take 2 (.take 3 (.take 4 (.take 5 (.take 6 (.take 7 (.take 8 (.take 9 (.alt 10 [] (.alt 11 [] (.done) (.stop)) (.stop))))))))))))]
instance AJH {a0 a1}:CF vE (JX N a0 a1) 265 [.str a0,.int .i32 a1] (λr=>.bool r):=AZ (JX.eq_1 ..) Tryz.func265 rfl Tryz.ntmps265 Tryz.results265
instance Af6 {a0 a1}:CF vE (La N a0 a1) 237 [.str a0,.int .u64 a1] (λr=>.tuple [.int .u64 r.1,.int .i64 r.2]):=AZ (La.eq_1 ..) Tryz.func237 rfl Tryz.ntmps237 Tryz.results237
instance AOV {a0}:CF vE (D7 N a0) 208 [.int .u8 a0] (λr=>.bool r):=AZ (D7.eq_1 ..) Tryz.func208 rfl Tryz.ntmps208 Tryz.results208 [(1,[],.stop)]
@[reducible,instance] def ARQ {a0 k2 k s4 s5} := LF.mk (X := ES N a0 k2 k s4 s5) (G := λk (s : (List Int) × Int) => ES N a0 k2 k s.1 s.2) (s := (s4, s5)) (js := [(2, 2), (6, 3), (12, 26)]) (cs := [4, 5]) (V := λs => [.slice 1 (List.map (AVal.int .u8) s.1) true, .int .i64 s.2]) (Ms := λs => []) rfl (λs => ES.eq_1 ..) (λk s => ES.eq_2 ..)
instance AWK {a0}:CF vE (Ga N a0) 165 [.str a0] (λr=>.tuple [.str r.1,.int .i64 r.2]):=AZ (Ga.eq_1 ..) Tryz.func165 rfl Tryz.ntmps165 Tryz.results165 [(14,[34],.done)]
@[reducible,instance] def AMw {a0 a1 a2 k18 k s11 bn8_addr bn8_buf} := LU.mk (X := D6 N a0 a1 a2 k18 k s11 bn8_addr bn8_buf) (G := λk i (s : Int × Bool × B8) => D6 N a0 a1 a2 k18 k s.1 s.2.1 s.2.2) (k := k) (s := (s11, bn8_addr, bn8_buf)) (js := [(12, 1), (54, 20)]) (cs := [11, 53]) (V := λi s => [.int .i64 s.1, .int .i64 i]) (Ms := λi s => [.t (λq => [KI q 155 2 s.2.1, .buf 5 s.2.2 true])]) (λ_ => rfl) (λi s => D6.eq_1 ..) (λk i s => D6.eq_2 ..)
@[reducible,instance] def AQu {a0 a2 k18 k s11 bn8} := LU.mk (X := G6 N a0 a2 k18 k s11 bn8) (G := λk i (s : Int × StringsBuilder) => G6 N a0 a2 k18 k s.1 s.2) (k := k) (s := (s11, bn8)) (js := [(13, 3), (79, 20)]) (cs := [11, 78]) (V := λi s => [.int .i64 s.1, .int .i64 i]) (Ms := λi s => [.t (λq => [KI q 155 2 s.2.addr, .buf 5 s.2.buf true])]) (λ_ => rfl) (λi s => G6.eq_1 ..) (λk i s => G6.eq_2 ..)
instance AU8 {a0 a1 a2 a3}:CF vE (strings_Replace N a0 a1 a2 a3) 211 [.str a0,.str a1,.str a2,.int .i64 a3] (λr=>.str r):=AZ (strings_Replace.eq_1 ..) Tryz.func211 rfl Tryz.ntmps211 Tryz.results211 [(1,[],.stop),(6,[],.stop),(8,[10],.done)]
instance AnU {a0}:CF vE (XU N a0) 245 [.str a0] (λr=>.tuple [.str r.1,.str r.2.1,.int .i64 r.2.2]):=AZ (XU.eq_1 ..) Tryz.func245 rfl Tryz.ntmps245 Tryz.results245 [(3,[],.stop)]
def Vf {a0 a1 a2 a3 r} (h:strings_genSplit N a0 a1 a2 a3=some r) (ha:args=[.str a0,.str a1,.int .i64 a2,.int .i64 a3]) (hQ: ∀n',n<=n'->Gl (Q (.slice 1 (List.map AVal.str r) false) ⟨m,n'⟩)):ACall vE 293 args ⟨m,n⟩ Q:=by
 rw[strings_genSplit]at h;subst ha;refine ACall.give (Ac9 Tryz.func293 rfl Tryz.ntmps293 Tryz.results293 (.q (.r []) (.q (.q (.r []) (.c (.q (.r []) .z) .z)) (.q (.q (.r []) (.c (.q (.r []) .z) .z)) .z))) (λR hR=>?_));replace h:=ac trivial h;rcases Jq h with h|h;cases h.2;rcases Jq h with h|h;obtain⟨y1,h⟩:=Fg h;simp(disch:= omega) only[vm,seval,h.1];refine⟨Wu h.1.1 tD λn2 hn2=>?_⟩;cases h.2;simp(disch:= omega) only[vm,seval,h.1];refine⟨Qq (γ:=Unit) h [19,20,21,22,23,24] [3] (λj3 g=>[.int .i64 j3]) (λj3 g=>m) (.q (.r []) (.c (.r []) .z)) ?_ ?_⟩<;>clear h;rintro j3 _ n6 hnn6 _ _ h;refine ET (.q (.r []) (.q (.r []) (.q (.r []) (.q (.r []) .z)))) ?_;obtain⟨c,h⟩:=LV h;try simp only[liE,seval]at c
 replace h:=I5 c h;simp(disch:= omega) only[vm,seval,h.1];refine⟨Qq (γ:=Unit) h [11,34,35,36,37,38,39,40,41,42,43,44,45,46,47,48,49,50,51,52,53,54,55,56,57] [0,10] (λj9 g=>[.str j9.1,.int .i64 j9.2.1]) (λj9 g=>(n6,List.map AVal.str j9.2.2)::m) .z ?_ ?_⟩<;>clear h;rintro j9 _ n12 hnn12 _ _ h;refine ET (.q (.r []) (.q (.r []) .z)) ?_;obtain⟨c,h⟩:=LV h;try simp only[liE,seval]at c
 replace h:=I5 c h;obtain⟨c,h⟩:=LV h;try simp only[liE,seval]at c
 replace h:=I5 c h;obtain⟨c,h⟩:=LV h;try simp only[liE,seval]at c
 replace h:=I5 c h;obtain⟨cg,h⟩:=LV h;obtain⟨H,h⟩:=h;cases h;simp(disch:= omega) only[vm,seval,H];refine⟨(hR _ _ _ _ _ _ (by simp(disch:= omega) only[vm,seval,H];rfl) slr fy ⟨[_],_,_,rfl,AWo (l:=(j9.2.2.set j9.2.1.toNat j9.1)) (by simpa only[ci]using cg),rfl,(hQ _ (by first| omega| (dsimp only;omega))).go⟩).1⟩;intro k10 Jk10 hk10 h;obtain⟨hfk13,h⟩:=LV h;simp(disch:= omega) only[vm,seval,h.1];refine⟨Adx (σ:=(B8)×(List B8)) (γ:=Unit) 0 (wr .i64 ((if(wr .i64 ((a0.length:Int)+1))<j3 then(wr .i64 ((a0.length:Int)+1))else j3)-1)) hfk13 (λxs i s=>Cv N a0 a1 a2 j3 k10 xs i s.1 s.2) (λi s g=>[.str s.1,.int .i64 i]) (λi s g=>(n6,List.map AVal.str s.2)::m) [11,34,35,36,37,38,39,40,41,42,43,44,45,46,47,48,49,50,51,52,53,54,55,56,57] [0,10] (a0,(List.replicate (if(wr .i64 ((a0.length:Int)+1))<j3 then(wr .i64 ((a0.length:Int)+1))else j3).toNat ([]:B8))) () h tD tD ?_ ?_⟩<;>clear h;rintro s10 ⟨s0,bn6⟩ _ nL0_1 hnL0_1 _ h;change _/\Cv N a0 a1 a2 j3 k10 0 s10 s0 bn6=_ at h;rw[Cv]at h;refine ET (.q (.q (.r []) (.c .z .z)) (.q (.r []) (.q (.q (.r []) (.c .z .z)) (.q (.r []) (.q (.r []) (.r [])))))) ?_;exact tJ (hk10 (s0,s10,bn6) ());rintro xsk13 s10 ⟨s0,bn6⟩ _ nL0_1 hnL0_1 _ h Jk13 hk13;change _/\Cv N a0 a1 a2 j3 k10 (xsk13+1) s10 s0 bn6=_ at h;rw[Cv]at h;refine ET (.q (.q (.r []) (.c .z .z)) (.q (.r []) (.q (.q (.r []) (.c .z .z)) (.q (.r []) (.q (.r []) (.r [])))))) ?_;obtain⟨y14,h⟩:=Fg h;simp(disch:= omega) only[vm,seval,h.1];refine⟨Zz h.1.1 tD λn15 hn15=>?_⟩;rcases Jq h with h|h;exact tJ (hk10 (s0,s10,bn6) ());obtain⟨x16,h⟩:=Fg h;obtain⟨c,h⟩:=LV h;try simp only[liE,seval]at c
 replace h:=I5 c h;obtain⟨c,h⟩:=LV h;try simp only[liE,seval]at c
 replace h:=I5 c h;obtain⟨x17,h⟩:=Fg h;exact tJ (hk13 (x17,(bn6.set s10.toNat x16)) ());intro k4 Jk4 hk4 h;rcases Jq h with h|h;obtain⟨y7,h⟩:=Fg h;simp(disch:= omega) only[vm,seval,h.1];refine⟨Zu h.1.1 tD λn8 hn8=>?_⟩;exact tJ (hk4 (wr .i64 (y7+1)) ());exact tJ (hk4 a3 ())
instance AST {a0 a1 a2 a3}:CF vE (strings_genSplit N a0 a1 a2 a3) 293 [.str a0,.str a1,.int .i64 a2,.int .i64 a3] (λr=>.slice 1 (List.map AVal.str r) false):=⟨λh hQ=>Vf h rfl hQ⟩
@[reducible,instance] def AeX {k s0} := LF.mk (X := JZ N k s0) (G := λk (s : B8) => JZ N k s) (s := s0) (js := [(2, 19)]) (cs := [0]) (V := λs => [.str s]) (Ms := λs => []) rfl (λs => JZ.eq_1 ..) (λk s => JZ.eq_2 ..)
instance Al4 {a0}:CF vE (Uh N a0) 272 [.str a0] (λr=>.bool r):=AZ (Uh.eq_1 ..) Tryz.func272 rfl Tryz.ntmps272 Tryz.results272
@[reducible,instance] def AL2 {k17 xs s8 AQG} := LR.mk (X := Da N k17 xs s8 AQG) (G := λxs i (s : (List Bool)) => Da N k17 xs i s) (i := s8) (s := AQG) (js := [(4, 1), (33, 11)]) (cs := [8]) (V := λi s => [.int .i64 i]) (Ms := λi s => [.s (List.map AVal.bool s)]) rfl (λi s => Da.eq_1 ..) (λx xs i s => Da.eq_2 ..)
@[reducible,instance] def ALs {a0 a1 k24 k s45} := LF.mk (X := CR N a0 a1 k24 k s45) (G := λk (s : Nat) => CR N a0 a1 k24 k s) (s := s45) (js := [(4, 1), (9, 2), (46, 9)]) (cs := [45]) (V := λs => [.iter a0 s]) (Ms := λs => []) rfl (λs => CR.eq_1 ..) (λk s => CR.eq_2 ..)
instance ATY {a0 a1}:CF vE (strings_IndexAny N a0 a1) 273 [.str a0,.str a1] (λr=>.int .i64 r):=AZ (strings_IndexAny.eq_1 ..) Tryz.func273 rfl Tryz.ntmps273 Tryz.results273
end Go.Proofs.YtjmejdocgdbklaaGreatDoor
