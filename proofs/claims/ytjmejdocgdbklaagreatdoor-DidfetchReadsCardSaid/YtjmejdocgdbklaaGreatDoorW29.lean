import Derived.Test.YtjmejdocgdbklaaGreatDoorVmFacts
import Derived.Test.YtjmejdocgdbklaaGreatDoorDefs
import Derived.Test.YtjmejdocgdbklaaGreatDoorVM7
import Derived.Test.YtjmejdocgdbklaaGreatDoorW2
import Derived.Test.YtjmejdocgdbklaaGreatDoorW4
import Derived.Test.YtjmejdocgdbklaaGreatDoorW25
import Derived.Test.YtjmejdocgdbklaaGreatDoorW26
import Derived.Test.YtjmejdocgdbklaaGreatDoorW27
import Derived.Test.YtjmejdocgdbklaaGreatDoorW28
set_option linter.unusedVariables false
set_option linter.unusedSimpArgs false
set_option maxHeartbeats 4000000
set_option maxRecDepth 100000
set_option linter.defProp false
namespace Go.Proofs.YtjmejdocgdbklaaGreatDoor
open Go.VM
attribute [local irreducible] AB grd letL
variable{N n:Nat}{m:MS}{Q:PQ}{args:List AVal}
@[reducible,instance] def ACv {a0 k12 xs} := LQ.mk (X := CX N a0 k12 xs) (G := λxs i (s : Unit) => CX N a0 k12 xs) (s := ()) (js := [(6, 1), (10, 5), (47, 25)]) (cs := [46]) (V := λi s => [.int .i64 i]) (Ms := λi s => []) (λ_ => rfl) (λi s => CX.eq_1 ..) (λx xs i s => CX.eq_2 ..)
instance Sn {a0 a1 a2}:CF vE (II N a0 a1 a2) 3 [Im a0,Cy a1,.slice 1 (List.map (AVal.int .u8) a2) false] (λr=>.bool r):=AZ (II.eq_1 ..) Tryz.func3 rfl Tryz.ntmps3 Tryz.results3 [(3,[],.stop),(11,[],.stop)] false (by
 intro r n m R hR h hD
 repeat'
  (
   first | (with_reducible obtain ⟨_, h⟩ := AqA h) | (with_reducible obtain ⟨_, h⟩ := ApI h) |
    (
     (fail_if_success with_reducible have := Fg h)
     (with_reducible obtain ⟨c, h⟩ := LV h)
     (try simp only [liE, seval] at c)
     replace h := I5 c h) |
    (
     (with_reducible obtain ⟨_, c, h⟩ := Aqp h)
     (first | replace c := a8 (List.map Cy) c | replace c := a8 (List.map AVal.str) c | skip)
     (try simp only [aE, bM, eE] at c)
     replace h := I5 c h) |
    (
     (with_reducible refine isW ?_)
     simp (maxSteps := 10000000) (disch := omega) only [vm, wpE, seval, h.1]) |
    (
     (with_reducible refine isC ?_)
     first |
      (
       (with_reducible refine Xu h.1.1 ?_ ?_)
       ·exact aW
       intro _ _) |
      (
       (with_reducible refine AP4 h.1.1 ?_ ?_ ?_)
       ·exact aW
       ·exact sW
       intro _ _) |
      (
       (with_reducible refine Xu h.1.2.1 ?_ ?_)
       ·exact aW
       intro _ _) |
      (
       (with_reducible refine AP4 h.1.2.1 ?_ ?_ ?_)
       ·exact aW
       ·exact sW
       intro _ _) |
      (
       (with_reducible refine Xu h.1.2.2.1 ?_ ?_)
       ·exact aW
       intro _ _) |
      (
       (with_reducible refine AP4 h.1.2.2.1 ?_ ?_ ?_)
       ·exact aW
       ·exact sW
       intro _ _) |
      (
       (with_reducible refine Xu h.1.2.2.2.1 ?_ ?_)
       ·exact aW
       intro _ _) |
      (
       (with_reducible refine AP4 h.1.2.2.2.1 ?_ ?_ ?_)
       ·exact aW
       ·exact sW
       intro _ _) |
      (
       (with_reducible refine Xu h.1.2.2.2.2.1 ?_ ?_)
       ·exact aW
       intro _ _) |
      (
       (with_reducible refine AP4 h.1.2.2.2.2.1 ?_ ?_ ?_)
       ·exact aW
       ·exact sW
       intro _ _) |
      (
       (with_reducible refine ATE h.1.1 ?_ ?_ ?_)
       ·exact aW
       ·exact sW
       intro _ _) |
      (
       (with_reducible refine ATE h.1.2.1 ?_ ?_ ?_)
       ·exact aW
       ·exact sW
       intro _ _) |
      (
       (with_reducible refine ATE h.1.2.2.1 ?_ ?_ ?_)
       ·exact aW
       ·exact sW
       intro _ _) |
      (
       (with_reducible refine ASE h.1.1 ?_ ?_ ?_)
       ·exact aW
       ·exact sW
       intro _ _) |
      (
       (with_reducible refine ASE h.1.2.1 ?_ ?_ ?_)
       ·exact aW
       ·exact sW
       intro _ _) |
      (
       (with_reducible refine ASE h.1.2.2.1 ?_ ?_ ?_)
       ·exact aW
       ·exact sW
       intro _ _) |
      (
       (with_reducible refine Ad3 h.1.1 ?_ ?_)
       ·exact aW
       intro _ _ _ _) |
      (
       (with_reducible refine Ad3 h.1.2.1 ?_ ?_)
       ·exact aW
       intro _ _ _ _) |
      (
       (with_reducible refine Ad3 h.1.2.2.1 ?_ ?_)
       ·exact aW
       intro _ _ _ _) |
      (
       (with_reducible refine AgD h.1.1 ?_ ?_ ?_ ?_)
       ·(
         first | with_reducible rfl |
          (
           simp (maxSteps := 10000000) (disch := omega) only [vm, wpE, seval, h.1]
           rfl))
       ·exact sW
       ·omega
       intro _ _) |
      (
       (with_reducible refine AgD h.1.2.1 ?_ ?_ ?_ ?_)
       ·(
         first | with_reducible rfl |
          (
           simp (maxSteps := 10000000) (disch := omega) only [vm, wpE, seval, h.1]
           rfl))
       ·exact sW
       ·omega
       intro _ _) |
      (
       (with_reducible refine AgD h.1.2.2.1 ?_ ?_ ?_ ?_)
       ·(
         first | with_reducible rfl |
          (
           simp (maxSteps := 10000000) (disch := omega) only [vm, wpE, seval, h.1]
           rfl))
       ·exact sW
       ·omega
       intro _ _) |
      (
       (with_reducible refine ATj h.1.1 ?_ ?_ ?_)
       ·exact aW
       ·exact sW
       intro _ _) |
      (
       (with_reducible refine ATD h.1.1 ?_ ?_ ?_)
       ·exact aW
       ·exact sW
       intro _ _) |
      (
       (with_reducible refine ATj h.1.2.1 ?_ ?_ ?_)
       ·exact aW
       ·exact sW
       intro _ _) |
      (
       (with_reducible refine ATD h.1.2.1 ?_ ?_ ?_)
       ·exact aW
       ·exact sW
       intro _ _) |
      (
       (with_reducible refine ATj h.1.2.2.1 ?_ ?_ ?_)
       ·exact aW
       ·exact sW
       intro _ _) |
      (
       (with_reducible refine ATD h.1.2.2.1 ?_ ?_ ?_)
       ·exact aW
       ·exact sW
       intro _ _) |
      (
       (with_reducible refine Xu h.1.2.2.2.2.2.1 ?_ ?_)
       ·exact aW
       intro _ _) |
      (
       (with_reducible refine Xu h.1.2.2.2.2.2.2.1 ?_ ?_)
       ·exact aW
       intro _ _) |
      (
       (with_reducible refine Xu h.1.2.2.2.2.2.2.2.1 ?_ ?_)
       ·exact aW
       intro _ _) |
      (
       (with_reducible refine Xu h.1.2.2.2.2.2.2.2.2.1 ?_ ?_)
       ·exact aW
       intro _ _)) | (with_reducible refine ApD ?_) |
    (
     (with_reducible refine isA ?_)
     first |
      (
       (with_reducible refine Apa h hD ?_ ?_ ?_)
       ·rfl
       all_goals
        (
         clear h
         intro _ _ _ h)) |
      (
       (with_reducible refine Aly h hD ?_ ?_ ?_)
       ·rfl
       all_goals
        (
         clear h
         intro _ _ _ h)) |
      (
       (with_reducible refine Aoy h hD ?_ ?_ ?_)
       ·rfl
       all_goals
        (
         clear h
         intro _ _ _ _ h)) |
      (
       (with_reducible refine Apx h hD ?_ ?_ ?_)
       ·exact xW
       ·exact kW
       (
        clear h
        intro _ _ _ _ h _ _)) |
      (
       (with_reducible refine Adm h hD ?_ ?_ ?_ ?_ ?_)
       ·exact yW
       ·exact xW
       ·exact kW
       all_goals
        (
         clear h
         first | intro _ _ _ _ _ _ h _ _ | intro _ _ _ _ h)) |
      (
       (with_reducible refine Ama h hD ?_ ?_ ?_ ?_ ?_)
       ·exact yW
       ·exact xW
       ·exact kW
       all_goals
        (
         clear h
         first | intro _ _ _ _ _ _ h _ _ | intro _ _ _ _ h)) |
      (
       (with_reducible refine Adv h hD ?_ ?_ ?_ ?_ ?_)
       ·exact yW
       ·exact xW
       ·exact kW
       all_goals
        (
         clear h
         first | intro _ _ _ _ _ h _ _ | intro _ _ _ _ h)) |
      (
       (with_reducible refine Aod h hD ?_ ?_ ?_ ?_ ?_)
       ·exact yW
       ·exact xW
       ·exact kW
       all_goals
        (
         clear h
         first | intro _ _ _ _ _ h _ _ | intro _ _ _ _ h)) |
      (
       with_reducible
        refine Aqc hD (by
         simp only [AOa, AEs, liE, seval]
         rfl) (by
         simp only [AYi, liE, seval]
         rfl) (by kernel_rfl) ?_) | (with_reducible refine ArL hD ?_)) | ((with_reducible refine Ao6 h ?_ ?_) <;> clear h <;> intro h) |
    (
     (with_reducible obtain ⟨H, h⟩ := Amr h)
     subst h
     (try simp (maxSteps := 10000000) (disch := omega) only [vm, wpE, seval, H])
     first |
      refine ArH hR (by
       simp (maxSteps := 10000000) (disch := omega) only [vm, wpE, seval, H]
       rfl) ?_ (by omega) ?_ |
      refine Aq3 hR (by
       simp (maxSteps := 10000000) (disch := omega) only [vm, wpE, seval, H]
       rfl) ?_ (by omega) ?_
     ·(
       first |
        (
         (repeat (first | exact cf _ | apply cy))
         done) |
        (
         simp (maxSteps := 10000000) (disch := omega) only [vm, wpE, seval, H]
         (repeat (first | exact cf _ | apply cy))
         done))
     ·(
       first |
        (
         simp (maxSteps := 10000000) (disch := omega) only [vm, wpE, seval, H]
         done) | rfl)) |
    (
     (with_reducible refine Aqt (by assumption) h ?_ ?_ ?_ (by omega))
     ·exact uW
     ·exact vW
     ·exact kW) |
    (
     (with_reducible refine Aq7 (by assumption) h ?_ ?_ ?_ ?_)
     ·(
       simp (maxSteps := 10000000) (disch := omega) only [vm, wpE, seval, h.1]
       (
        (repeat (first | with_reducible exact SubW.refl _ | refine SubW.keep (by repeat (first | with_reducible exact WkL.nil | refine WkL.cons (Wk.same _) ?_ | refine WkL.cons (Wk.strip _) ?_)) ?_ | apply SubW.drop))
        done))
     ·exact vW
     ·exact kW
     ·(
       simp (maxSteps := 10000000) (disch := omega) only [vm, wpE, seval, h.1]
       omega)) |
    (
     (with_reducible refine ApM h (by assumption) ?_ ?_ ?_ (by omega))
     ·exact uW
     ·exact vW
     ·exact kW) |
    (
     (with_reducible refine ApL h (by assumption) ?_ ?_ ?_ (by omega))
     ·exact uW
     ·exact vW
     ·exact kW) |
    (
     (with_reducible refine Apo h (by assumption) ?_ ?_ ?_ (by omega))
     ·exact uW
     ·exact vW
     ·exact kW) |
    (
     (with_reducible refine ApF h (by assumption) ?_ ?_ ?_ (by omega))
     ·exact uW
     ·exact vW
     ·exact kW) |
    (
     (with_reducible refine Api h (by assumption) ?_ ?_ ?_ (by omega))
     ·exact uW
     ·exact vW
     ·exact kW) | (with_reducible refine ATd ?_ ?_) | (with_reducible exact Aow h) | (simp (maxSteps := 10000000) (disch := omega) only [vm, wpE, seval, h.1]) | (with_reducible obtain ⟨_, h⟩ := Fg h) | (with_reducible rcases Jq h with h | h)))
def Sl {a0 a1 a2 r} (h:II N a0 a1 a2=some r) (ha:args=[Im a0,Cy a1,.slice 1 (List.map (AVal.int .u8) a2) false]) (hQ: ∀n',n<=n'->Gl (Q (.bool r) ⟨m,n'⟩)):ACall vE 3 args ⟨m,n⟩ Q:=ha▸Sn.go h hQ
end Go.Proofs.YtjmejdocgdbklaaGreatDoor
