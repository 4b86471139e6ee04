import Derived.Test.YtjmejdocgdbklaaGreatDoorVmFacts
import Derived.Test.YtjmejdocgdbklaaGreatDoorDefs
import Derived.Test.YtjmejdocgdbklaaGreatDoorVM7
import Derived.Test.YtjmejdocgdbklaaGreatDoorW0
import Derived.Test.YtjmejdocgdbklaaGreatDoorW1
import Derived.Test.YtjmejdocgdbklaaGreatDoorW2
import Derived.Test.YtjmejdocgdbklaaGreatDoorW3
import Derived.Test.YtjmejdocgdbklaaGreatDoorW4
import Derived.Test.YtjmejdocgdbklaaGreatDoorW5
import Derived.Test.YtjmejdocgdbklaaGreatDoorW7
import Derived.Test.YtjmejdocgdbklaaGreatDoorW8
import Derived.Test.YtjmejdocgdbklaaGreatDoorW9
import Derived.Test.YtjmejdocgdbklaaGreatDoorW11
import Derived.Test.YtjmejdocgdbklaaGreatDoorW12
import Derived.Test.YtjmejdocgdbklaaGreatDoorW13
import Derived.Test.YtjmejdocgdbklaaGreatDoorW14
import Derived.Test.YtjmejdocgdbklaaGreatDoorW15
import Derived.Test.YtjmejdocgdbklaaGreatDoorW16
import Derived.Test.YtjmejdocgdbklaaGreatDoorW17
set_option linter.unusedVariables false
set_option linter.unusedSimpArgs false
set_option maxHeartbeats 4000000
set_option maxRecDepth 100000
set_option linter.defProp false
namespace Go.Proofs.YtjmejdocgdbklaaGreatDoor
open Go.VM
attribute [local irreducible] AB grd letL
variable{N n:Nat}{m:MS}{Q:PQ}{args:List AVal}
@[reducible,instance] def AZb {y3 y11 k14 k s7 bn3_params bn1} := LF.mk (X := Cq N y3 y11 k14 k s7 bn3_params bn1) (G := λk (s : Bool × (List ApiField) × GrammarCursor) => Cq N y3 y11 k14 k s.1 s.2.1 s.2.2) (s := (s7, bn3_params, bn1)) (js := [(3, 1), (8, 2), (37, 40)]) (cs := [7]) (V := λs => [.bool s.1]) (Ms := λs => [.p [.k, .k, .v (.slice 2 (List.map FD s.2.1) true)], .k, .s ([.str s.2.2.s, .int .i64 s.2.2.at_])]) rfl (λs => Cq.eq_1 ..) (λk s => Cq.eq_2 ..)
instance AhW {a0}:CF vE (NN N a0) 15 [.str a0] (λr=>.tuple [JM r.1,.int .i64 r.2]):=AZ (NN.eq_1 ..) Tryz.func15 rfl Tryz.ntmps15 Tryz.results15 [(7,[],.stop),(9,[],.stop),(18,[],.stop),(20,[],.stop),(21,[72],.done)] true (by
 intro r n m R hR h hD
 repeat'
  (
   first | (with_reducible obtain ⟨_, h⟩ := AqA h) | (with_reducible obtain ⟨_, h⟩ := ApI h) |
    (
     (fail_if_success with_reducible have := Fg h)
     (with_reducible obtain ⟨c, h⟩ := LV h)
     (try simp only [liE, seval] at c)
     replace h := I5 c h) |
    (
     (with_reducible obtain ⟨_, c, h⟩ := Aqp h)
     (first | replace c := a8 (List.map (AVal.int .u8)) c | replace c := a8 (List.map AVal.str) c | skip)
     (try simp only [aE, bM, eE] at c)
     replace h := I5 c h) |
    (
     (with_reducible refine isW ?_)
     simp (maxSteps := 10000000) (disch := omega) only [vm, wpE, seval, h.1]) |
    (
     (with_reducible refine isC ?_)
     first |
      (
       (with_reducible refine Xu h.1.1 ?_ ?_)
       ·exact aW
       intro _ _) |
      (
       (with_reducible refine AP4 h.1.1 ?_ ?_ ?_)
       ·exact aW
       ·exact sW
       intro _ _) |
      (
       (with_reducible refine Xu h.1.2.1 ?_ ?_)
       ·exact aW
       intro _ _) |
      (
       (with_reducible refine AP4 h.1.2.1 ?_ ?_ ?_)
       ·exact aW
       ·exact sW
       intro _ _) |
      (
       (with_reducible refine Xu h.1.2.2.1 ?_ ?_)
       ·exact aW
       intro _ _) |
      (
       (with_reducible refine AP4 h.1.2.2.1 ?_ ?_ ?_)
       ·exact aW
       ·exact sW
       intro _ _) |
      (
       (with_reducible refine Xu h.1.2.2.2.1 ?_ ?_)
       ·exact aW
       intro _ _) |
      (
       (with_reducible refine AP4 h.1.2.2.2.1 ?_ ?_ ?_)
       ·exact aW
       ·exact sW
       intro _ _) |
      (
       (with_reducible refine Xu h.1.2.2.2.2.1 ?_ ?_)
       ·exact aW
       intro _ _) |
      (
       (with_reducible refine AP4 h.1.2.2.2.2.1 ?_ ?_ ?_)
       ·exact aW
       ·exact sW
       intro _ _) |
      (
       (with_reducible refine ATE h.1.1 ?_ ?_ ?_)
       ·exact aW
       ·exact sW
       intro _ _) |
      (
       (with_reducible refine ATE h.1.2.1 ?_ ?_ ?_)
       ·exact aW
       ·exact sW
       intro _ _) |
      (
       (with_reducible refine ATE h.1.2.2.1 ?_ ?_ ?_)
       ·exact aW
       ·exact sW
       intro _ _) |
      (
       (with_reducible refine ASE h.1.1 ?_ ?_ ?_)
       ·exact aW
       ·exact sW
       intro _ _) |
      (
       (with_reducible refine ASE h.1.2.1 ?_ ?_ ?_)
       ·exact aW
       ·exact sW
       intro _ _) |
      (
       (with_reducible refine ASE h.1.2.2.1 ?_ ?_ ?_)
       ·exact aW
       ·exact sW
       intro _ _) |
      (
       (with_reducible refine Ad3 h.1.1 ?_ ?_)
       ·exact aW
       intro _ _ _ _) |
      (
       (with_reducible refine Ad3 h.1.2.1 ?_ ?_)
       ·exact aW
       intro _ _ _ _) |
      (
       (with_reducible refine Ad3 h.1.2.2.1 ?_ ?_)
       ·exact aW
       intro _ _ _ _) |
      (
       (with_reducible apply AgD h.1.1)
       ·(
         first | with_reducible rfl |
          (
           simp (maxSteps := 10000000) (disch := omega) only [vm, wpE, seval, h.1]
           rfl))
       ·exact sW
       ·omega
       intro _ _) |
      (
       (with_reducible apply AgD h.1.2.1)
       ·(
         first | with_reducible rfl |
          (
           simp (maxSteps := 10000000) (disch := omega) only [vm, wpE, seval, h.1]
           rfl))
       ·exact sW
       ·omega
       intro _ _) |
      (
       (with_reducible apply AgD h.1.2.2.1)
       ·(
         first | with_reducible rfl |
          (
           simp (maxSteps := 10000000) (disch := omega) only [vm, wpE, seval, h.1]
           rfl))
       ·exact sW
       ·omega
       intro _ _) |
      (
       (with_reducible refine ATj h.1.1 ?_ ?_ ?_)
       ·exact aW
       ·exact sW
       intro _ _) |
      (
       (with_reducible refine ATD h.1.1 ?_ ?_ ?_)
       ·exact aW
       ·exact sW
       intro _ _) |
      (
       (with_reducible refine ATj h.1.2.1 ?_ ?_ ?_)
       ·exact aW
       ·exact sW
       intro _ _) |
      (
       (with_reducible refine ATD h.1.2.1 ?_ ?_ ?_)
       ·exact aW
       ·exact sW
       intro _ _) |
      (
       (with_reducible refine ATj h.1.2.2.1 ?_ ?_ ?_)
       ·exact aW
       ·exact sW
       intro _ _) |
      (
       (with_reducible refine ATD h.1.2.2.1 ?_ ?_ ?_)
       ·exact aW
       ·exact sW
       intro _ _) |
      (
       (with_reducible refine Xu h.1.2.2.2.2.2.1 ?_ ?_)
       ·exact aW
       intro _ _) |
      (
       (with_reducible refine Xu h.1.2.2.2.2.2.2.1 ?_ ?_)
       ·exact aW
       intro _ _) |
      (
       (with_reducible refine Xu h.1.2.2.2.2.2.2.2.1 ?_ ?_)
       ·exact aW
       intro _ _) |
      (
       (with_reducible refine Xu h.1.2.2.2.2.2.2.2.2.1 ?_ ?_)
       ·exact aW
       intro _ _)) | (with_reducible refine ApD ?_) |
    (
     (with_reducible refine isA ?_)
     first |
      (
       (with_reducible refine Apa h hD ?_ ?_ ?_)
       ·rfl
       all_goals
        (
         clear h
         intro _ _ _ h)) |
      (
       (with_reducible refine Aly h hD ?_ ?_ ?_)
       ·rfl
       all_goals
        (
         clear h
         intro _ _ _ h)) |
      (
       (with_reducible refine Aoy h hD ?_ ?_ ?_)
       ·rfl
       all_goals
        (
         clear h
         intro _ _ _ _ h)) |
      (
       (with_reducible refine Apx h hD ?_ ?_ ?_)
       ·exact xW
       ·exact kW
       (
        clear h
        intro _ _ _ _ h _ _)) |
      (
       (with_reducible refine Adm h hD ?_ ?_ ?_ ?_ ?_)
       ·exact yW
       ·exact xW
       ·exact kW
       all_goals
        (
         clear h
         first | intro _ _ _ _ _ _ h _ _ | intro _ _ _ _ h)) |
      (
       (with_reducible refine Ama h hD ?_ ?_ ?_ ?_ ?_)
       ·exact yW
       ·exact xW
       ·exact kW
       all_goals
        (
         clear h
         first | intro _ _ _ _ _ _ h _ _ | intro _ _ _ _ h)) |
      (
       (with_reducible refine Adv h hD ?_ ?_ ?_ ?_ ?_)
       ·exact yW
       ·exact xW
       ·exact kW
       all_goals
        (
         clear h
         first | intro _ _ _ _ _ h _ _ | intro _ _ _ _ h)) |
      (
       (with_reducible refine Aod h hD ?_ ?_ ?_ ?_ ?_)
       ·exact yW
       ·exact xW
       ·exact kW
       all_goals
        (
         clear h
         first | intro _ _ _ _ _ h _ _ | intro _ _ _ _ h)) |
      (
       with_reducible
        refine Aqc hD (by
         simp only [AOa, AEs, liE, seval]
         rfl) (by
         simp only [AYi, liE, seval]
         rfl) (by kernel_rfl) ?_) | (with_reducible refine ArL hD ?_)) | ((with_reducible refine Ao6 h ?_ ?_) <;> clear h <;> intro h) |
    (
     (with_reducible obtain ⟨H, h⟩ := Amr h)
     subst h
     (try simp (maxSteps := 10000000) (disch := omega) only [vm, wpE, seval, H])
     first |
      refine ArH hR (by
       simp (maxSteps := 10000000) (disch := omega) only [vm, wpE, seval, H]
       rfl) ?_ (by omega) ?_ |
      refine Aq3 hR (by
       simp (maxSteps := 10000000) (disch := omega) only [vm, wpE, seval, H]
       rfl) ?_ (by omega) ?_
     ·(
       first |
        (
         (repeat (first | exact cf _ | apply cy))
         done) |
        (
         simp (maxSteps := 10000000) (disch := omega) only [vm, wpE, seval, H]
         (repeat (first | exact cf _ | apply cy))
         done))
     ·(
       first |
        (
         simp (maxSteps := 10000000) (disch := omega) only [vm, wpE, seval, H]
         done) | rfl)) |
    (
     (with_reducible refine Aqt (by assumption) h ?_ ?_ ?_ (by omega))
     ·exact uW
     ·exact vW
     ·exact kW) |
    (
     (with_reducible refine Aq7 (by assumption) h ?_ ?_ ?_ ?_)
     ·(
       simp (maxSteps := 10000000) (disch := omega) only [vm, wpE, seval, h.1]
       (
        (repeat (first | with_reducible exact SubW.refl _ | refine SubW.keep (by repeat (first | with_reducible exact WkL.nil | refine WkL.cons (Wk.same _) ?_ | refine WkL.cons (Wk.strip _) ?_)) ?_ | apply SubW.drop))
        done))
     ·exact vW
     ·exact kW
     ·(
       simp (maxSteps := 10000000) (disch := omega) only [vm, wpE, seval, h.1]
       omega)) |
    (
     (with_reducible refine ApM h (by assumption) ?_ ?_ ?_ (by omega))
     ·exact uW
     ·exact vW
     ·exact kW) |
    (
     (with_reducible refine ApL h (by assumption) ?_ ?_ ?_ (by omega))
     ·exact uW
     ·exact vW
     ·exact kW) |
    (
     (with_reducible refine Apo h (by assumption) ?_ ?_ ?_ (by omega))
     ·exact uW
     ·exact vW
     ·exact kW) |
    (
     (with_reducible refine ApF h (by assumption) ?_ ?_ ?_ (by omega))
     ·exact uW
     ·exact vW
     ·exact kW) |
    (
     (with_reducible refine Api h (by assumption) ?_ ?_ ?_ (by omega))
     ·exact uW
     ·exact vW
     ·exact kW) | (with_reducible refine ATd ?_ ?_) | (with_reducible exact Aow h) | (simp (maxSteps := 10000000) (disch := omega) only [vm, wpE, seval, h.1]) | (with_reducible obtain ⟨_, h⟩ := Fg h) | (with_reducible rcases Jq h with h | h)))
instance AQw {a0}:CB vE (I1 N a0) 106 (λi0=>[.ptr i0 0]) (λi0=>[.str a0.s,.int .i64 a0.at_]) (λr=>.tuple [.int .i64 r.1,.str r.2.1,.int .i64 r.2.2.1]) (λi0 r=>[.str r.2.2.2.s,.int .i64 r.2.2.2.at_]):=G5 (I1.eq_1 ..) Tryz.func106 rfl Tryz.ntmps106 Tryz.results106 [(1,[],.take 0 (.take 1 (.take 2 (.take 3 (.take 4 (.take 5 (.take 6 (.take 7 (.take 8 (.take 9 (.done))))))))))),(3,[],.take 0 (.take 1 (.take 2 (.take 3 (.take 4 (.take 5 (.take 6 (.take 7 (.take 8 (.alt 9 [] (.done) (.stop))))))))))),(10,[],.stop),(16,[],.stop)]
instance AAo {a0}:CF vE (Dz N a0) 161 [.str a0] (λr=>.tuple [.str r.1,.int .i64 r.2]):=AZ (Dz.eq_1 ..) Tryz.func161 rfl Tryz.ntmps161 Tryz.results161 [(3,[],.stop),(7,[],.take 0 (.take 1 (.alt 2 [1,0] (.alt 3 [] (.done) (.stop)) (.stop)))),(15,[],.stop)]
def AAq {a0 r} (h:Dz N a0=some r) (ha:args=[.str a0]) (hQ: ∀n',n<=n'->Gl (Q (.tuple [.str r.1,.int .i64 r.2]) ⟨m,n'⟩)):ACall vE 161 args ⟨m,n⟩ Q:=ha▸AAo.go h hQ
instance AmE {a0}:CF vE (Pf N a0) 170 [.str a0] (λr=>.tuple [KN r.1,.int .i64 r.2]):=AZ (Pf.eq_1 ..) Tryz.func170 rfl Tryz.ntmps170 Tryz.results170 [(9,[],.take 0 (.take 1 (.take 2 (.take 3 (.take 4 (.take 5 (.alt 6 [5,4] (.take 7 (.alt 8 [] (.done) (.stop))) (.stop))))))))]
instance Ait {a0}:CF vE (Ps N a0) 212 [.str a0] (λr=>.tuple [Po r.1,.int .i64 r.2]):=AZ (Ps.eq_1 ..) Tryz.func212 rfl Tryz.ntmps212 Tryz.results212 [(5,[],.stop)]
@[reducible,instance] def AbE {k18 xs} := LQ.mk (X := Hl N k18 xs) (G := λxs i (s : Unit) => Hl N k18 xs) (s := ()) (js := [(3, 1), (7, 2), (42, 15)]) (cs := [41]) (V := λi s => [.int .i64 i]) (Ms := λi s => []) (λ_ => rfl) (λi s => Hl.eq_1 ..) (λx xs i s => Hl.eq_2 ..)
instance AjC {a0}:CF vE (QE N a0) 214 [.str a0] (λr=>.tuple [QB r.1,.int .i64 r.2]):=AZ (QE.eq_1 ..) Tryz.func214 rfl Tryz.ntmps214 Tryz.results214 [(3,[],.stop),(6,[],.stop),(12,[],.stop)]
instance AlS {a0}:CF vE (OI N a0) 252 [.str a0] (λr=>.tuple [FJ r.1,.int .i64 r.2]):=AZ (OI.eq_1 ..) Tryz.func252 rfl Tryz.ntmps252 Tryz.results252
instance Ahc {a0}:CF vE (LA N a0) 87 [.str a0] (λr=>.tuple [Gv r.1,.int .i64 r.2]):=AZ (LA.eq_1 ..) Tryz.func87 rfl Tryz.ntmps87 Tryz.results87 [(6,[],.stop),(10,[],.take 0 (.take 1 (.take 3 (.take 4 (.take 5 (.alt 2 [5,4,3,0] (.take 6 (.alt 7 [5,4,3,1,0] (.done) (.stop))) (.stop)))))))]
instance AhM {a0}:CF vE (ND N a0) 144 [Cy a0] (λr=>.tuple [.slice 1 (List.map AVal.str r.1) false,FJ r.2.1,.int .i64 r.2.2]):=AZ (ND.eq_1 ..) Tryz.func144 rfl Tryz.ntmps144 Tryz.results144 [(9,[],.take 0 (.take 1 (.take 2 (.alt 3 [2,1] (.alt 4 [2] (.alt 5 [] (.done) (.stop)) (.stop)) (.stop)))))] true
@[reducible,instance] def Aa6 {a0 k6 k s1} := LF.mk (X := FK N a0 k6 k s1) (G := λk (s : Int) => FK N a0 k6 k s) (s := s1) (js := [(23, 12)]) (cs := [1]) (V := λs => [.int .i64 s]) (Ms := λs => []) rfl (λs => FK.eq_1 ..) (λk s => FK.eq_2 ..)
@[reducible,instance] def AbI {a0 j5 k34 k s12} := LF.mk (X := FM N a0 j5 k34 k s12) (G := λk (s : Int) => FM N a0 j5 k34 k s) (s := s12) (js := [(100, 16)]) (cs := [12]) (V := λs => [.int .i64 s]) (Ms := λs => []) rfl (λs => FM.eq_1 ..) (λk s => FM.eq_2 ..)
instance Aji {a0 a1}:CF vE (Mg N a0 a1) 129 [.str a0,.int .i64 a1] (λr=>.tuple [Eb r.1,.int .i64 r.2.1,.int .i64 r.2.2]):=AZ (Mg.eq_1 ..) Tryz.func129 rfl Tryz.ntmps129 Tryz.results129 [(1,[],.stop),(3,[],.stop),(15,[],.stop),(21,[],.stop),(24,[],.stop)]
instance AV0 {a0 a1}:CB vE (JC N a0 a1) 132 (λi0=>[.ptr i0 0,AP a1]) (λi0=>[.str a0.d.method,.str a0.d.iD,.int .i64 a0.fail]) (λr=>.str r.1) (λi0 r=>[.str r.2.d.method,.str r.2.d.iD,.int .i64 r.2.fail]):=G5 (JC.eq_1 ..) Tryz.func132 rfl Tryz.ntmps132 Tryz.results132
end Go.Proofs.YtjmejdocgdbklaaGreatDoor
