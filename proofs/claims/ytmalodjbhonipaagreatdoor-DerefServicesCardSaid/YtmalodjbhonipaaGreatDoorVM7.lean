import Derived.Test.YtmalodjbhonipaaGreatDoorVM2
import Derived.Test.YtmalodjbhonipaaGreatDoorVM5
import Derived.KernelRfl
set_option linter.unusedSimpArgs false
set_option linter.unusedVariables false
set_option linter.defProp false
namespace Go.VM
def AYk := ab (ab (ab (ab (ab (@AMr) (@ATE)) (ab (@AN7) (ab (@AQZ) (@AO7)))) (ab (ab (@AJM) (@AJq)) (ab (@AF4) (ab (@AOo) (@AOD))))) (ab (ab (ab (@AWo) (@AWx)) (ab (@AXB) (ab (@AV5) (@AV1)))) (ab (ab (@AVK) (@AW9)) (ab (@AEh) (ab (@Vy) (@ANR)))))) (ab (ab (ab (ab (@ANd) (@AM4)) (ab (@AWC) (ab (@ASJ) (@AYj)))) (ab (ab (@AYr) (@AZE)) (ab (@AYg) (ab (@AYE) (@AYx))))) (ab (ab (ab (@AYs) (@AYp)) (ab (@AXA) (ab (@AWW) (@AQ2)))) (ab (ab (@AJA) (@AMj)) (ab (@AQc) (ab (@AMs) (@AT1))))))
def wpE := ab AYk (ab (ab (@AIk) (@AV2)) (ab (ab (ab (@AYu) (@AYt)) (ab (@AYh) (@AZK))) (ab (@AQP) (ab (@AYz) (@AY6)))))
theorem aW {G : Prop} (x : G := by first | with_reducible rfl | (simp (maxSteps := 10000000) (disch := omega) only [vm, wpE, seval, h.1]; done) | rfl) : G := x
theorem uW {G : Prop} (x : G := by first | (simp (maxSteps := 10000000) (disch := omega) only [vm, wpE, seval, h.1]; ((repeat (first | with_reducible exact SubW.refl _ | refine SubW.keep (by repeat (first | with_reducible exact WkL.nil | refine WkL.cons (Wk.same _) ?_ | refine WkL.cons (Wk.strip _) ?_)) ?_ | apply SubW.drop)); done)) | exact SubW.refl _) : G := x
theorem xW {G : Prop} (x : G := by first | exact SubW.refl _ | (simp (maxSteps := 10000000) (disch := omega) only [vm, wpE, seval, h.1]; ((repeat (first | with_reducible exact SubW.refl _ | refine SubW.keep (by repeat (first | with_reducible exact WkL.nil | refine WkL.cons (Wk.same _) ?_ | refine WkL.cons (Wk.strip _) ?_)) ?_ | apply SubW.drop)); done))) : G := x
theorem kW {G : Prop} (x : G := by first | (simp (maxSteps := 10000000) (disch := omega) only [vm, wpE, seval, h.1]; first | with_reducible exact WkL.refl _ | ((repeat (first | with_reducible exact WkL.nil | refine WkL.cons (Wk.same _) ?_ | refine WkL.cons (Wk.strip _) ?_)); done)) | exact WkL.refl _) : G := x
theorem vW {G : Prop} (x : G := by first | (simp (maxSteps := 10000000) (disch := omega) only [vm, wpE, seval, h.1]; done) | rfl) : G := x
theorem yW {G : Prop} (x : G := by first | exact h.1.1 | (simp only [h.1]; done) | omega) : G := x
theorem sW {G : Prop} (x : G := by simp (maxSteps := 10000000) (disch := omega) only [vm, wpE, seval, h.1]; done) : G := x
theorem tW {G : Prop} (x : G := by
 repeat'
  (
   first | (with_reducible obtain ⟨_, h⟩ := AYF h) | (with_reducible obtain ⟨_, h⟩ := AYS h) |
    (
     (fail_if_success with_reducible have := D7 h)
     (with_reducible obtain ⟨c, h⟩ := KS h)
     (try simp only [liE, seval] at c)
     replace h := JO c h) |
    (
     (with_reducible obtain ⟨_, c, h⟩ := AY5 h)
     (first | replace c := a7 (List.map (AVal.int .u8)) c | replace c := a7 (List.map AVal.str) c | skip)
     (try simp only [aK, cy, eE] at c)
     replace h := JO c h) |
    (
     (with_reducible refine isW ?_)
     simp (maxSteps := 10000000) (disch := omega) only [vm, wpE, seval, h.1]) |
    (
     (with_reducible refine isC ?_)
     first |
      (
       (with_reducible refine PU h.1.1 ?_ ?_)
       ·exact aW
       intro _ _) |
      (
       (with_reducible refine ADk h.1.1 ?_ ?_ ?_)
       ·exact aW
       ·exact sW
       intro _ _) |
      (
       (with_reducible refine PU h.1.2.1 ?_ ?_)
       ·exact aW
       intro _ _) |
      (
       (with_reducible refine ADk h.1.2.1 ?_ ?_ ?_)
       ·exact aW
       ·exact sW
       intro _ _) |
      (
       (with_reducible refine PU h.1.2.2.1 ?_ ?_)
       ·exact aW
       intro _ _) |
      (
       (with_reducible refine ADk h.1.2.2.1 ?_ ?_ ?_)
       ·exact aW
       ·exact sW
       intro _ _) |
      (
       (with_reducible refine PU h.1.2.2.2.1 ?_ ?_)
       ·exact aW
       intro _ _) |
      (
       (with_reducible refine ADk h.1.2.2.2.1 ?_ ?_ ?_)
       ·exact aW
       ·exact sW
       intro _ _) |
      (
       (with_reducible refine PU h.1.2.2.2.2.1 ?_ ?_)
       ·exact aW
       intro _ _) |
      (
       (with_reducible refine ADk h.1.2.2.2.2.1 ?_ ?_ ?_)
       ·exact aW
       ·exact sW
       intro _ _) |
      (
       (with_reducible refine AGG h.1.1 ?_ ?_ ?_)
       ·exact aW
       ·exact sW
       intro _ _) |
      (
       (with_reducible refine AGG h.1.2.1 ?_ ?_ ?_)
       ·exact aW
       ·exact sW
       intro _ _) |
      (
       (with_reducible refine AGG h.1.2.2.1 ?_ ?_ ?_)
       ·exact aW
       ·exact sW
       intro _ _) |
      (
       (with_reducible refine AFm h.1.1 ?_ ?_ ?_)
       ·exact aW
       ·exact sW
       intro _ _) |
      (
       (with_reducible refine AFm h.1.2.1 ?_ ?_ ?_)
       ·exact aW
       ·exact sW
       intro _ _) |
      (
       (with_reducible refine AFm h.1.2.2.1 ?_ ?_ ?_)
       ·exact aW
       ·exact sW
       intro _ _) |
      (
       (with_reducible refine AMJ h.1.1 ?_ ?_)
       ·exact aW
       intro _ _ _ _) |
      (
       (with_reducible refine AMJ h.1.2.1 ?_ ?_)
       ·exact aW
       intro _ _ _ _) |
      (
       (with_reducible refine AMJ h.1.2.2.1 ?_ ?_)
       ·exact aW
       intro _ _ _ _) |
      (
       (with_reducible refine AQL h.1.1 ?_ ?_ ?_ ?_)
       ·(
         first | with_reducible rfl |
          (
           simp (maxSteps := 10000000) (disch := omega) only [vm, wpE, seval, h.1]
           rfl))
       ·exact sW
       ·omega
       intro _ _) |
      (
       (with_reducible refine AQL h.1.2.1 ?_ ?_ ?_ ?_)
       ·(
         first | with_reducible rfl |
          (
           simp (maxSteps := 10000000) (disch := omega) only [vm, wpE, seval, h.1]
           rfl))
       ·exact sW
       ·omega
       intro _ _) |
      (
       (with_reducible refine AQL h.1.2.2.1 ?_ ?_ ?_ ?_)
       ·(
         first | with_reducible rfl |
          (
           simp (maxSteps := 10000000) (disch := omega) only [vm, wpE, seval, h.1]
           rfl))
       ·exact sW
       ·omega
       intro _ _) |
      (
       (with_reducible refine AGY h.1.1 ?_ ?_ ?_)
       ·exact aW
       ·exact sW
       intro _ _) |
      (
       (with_reducible refine AE0 h.1.1 ?_ ?_ ?_)
       ·exact aW
       ·exact sW
       intro _ _) |
      (
       (with_reducible refine AGY h.1.2.1 ?_ ?_ ?_)
       ·exact aW
       ·exact sW
       intro _ _) |
      (
       (with_reducible refine AE0 h.1.2.1 ?_ ?_ ?_)
       ·exact aW
       ·exact sW
       intro _ _) |
      (
       (with_reducible refine AGY h.1.2.2.1 ?_ ?_ ?_)
       ·exact aW
       ·exact sW
       intro _ _) |
      (
       (with_reducible refine AE0 h.1.2.2.1 ?_ ?_ ?_)
       ·exact aW
       ·exact sW
       intro _ _) |
      (
       (with_reducible refine PU h.1.2.2.2.2.2.1 ?_ ?_)
       ·exact aW
       intro _ _) |
      (
       (with_reducible refine PU h.1.2.2.2.2.2.2.1 ?_ ?_)
       ·exact aW
       intro _ _) |
      (
       (with_reducible refine PU h.1.2.2.2.2.2.2.2.1 ?_ ?_)
       ·exact aW
       intro _ _) |
      (
       (with_reducible refine PU h.1.2.2.2.2.2.2.2.2.1 ?_ ?_)
       ·exact aW
       intro _ _)) | (with_reducible refine AYT ?_) |
    (
     (with_reducible refine isA ?_)
     first |
      (
       (with_reducible refine AXu h hD ?_ ?_ ?_)
       ·rfl
       all_goals
        (
         clear h
         intro _ _ _ h)) |
      (
       (with_reducible refine AU4 h hD ?_ ?_ ?_)
       ·rfl
       all_goals
        (
         clear h
         intro _ _ _ h)) |
      (
       (with_reducible refine AYN h hD ?_ ?_ ?_)
       ·rfl
       all_goals
        (
         clear h
         intro _ _ _ _ h)) |
      (
       (with_reducible refine AXo h hD ?_ ?_ ?_)
       ·exact xW
       ·exact kW
       (
        clear h
        intro _ _ _ _ h _ _)) |
      (
       (with_reducible refine AQk h hD ?_ ?_ ?_ ?_ ?_)
       ·exact yW
       ·exact xW
       ·exact kW
       all_goals
        (
         clear h
         first | intro _ _ _ _ _ _ h _ _ | intro _ _ _ _ h)) |
      (
       (with_reducible refine AWk h hD ?_ ?_ ?_ ?_ ?_)
       ·exact yW
       ·exact xW
       ·exact kW
       all_goals
        (
         clear h
         first | intro _ _ _ _ _ _ h _ _ | intro _ _ _ _ h)) |
      (
       (with_reducible refine ANB h hD ?_ ?_ ?_ ?_ ?_)
       ·exact yW
       ·exact xW
       ·exact kW
       all_goals
        (
         clear h
         first | intro _ _ _ _ _ h _ _ | intro _ _ _ _ h)) |
      (
       (with_reducible refine AWy h hD ?_ ?_ ?_ ?_ ?_)
       ·exact yW
       ·exact xW
       ·exact kW
       all_goals
        (
         clear h
         first | intro _ _ _ _ _ h _ _ | intro _ _ _ _ h)) |
      (
       with_reducible
        refine AYv hD (by
         simp only [AEh, Vy, liE, seval]
         rfl) (by
         simp only [AJL, liE, seval]
         rfl) (by kernel_rfl) ?_) | (with_reducible refine AY8 hD ?_)) | ((with_reducible refine AYL h ?_ ?_) <;> clear h <;> intro h) |
    (
     (with_reducible obtain ⟨H, h⟩ := AWb h)
     subst h
     (try simp (maxSteps := 10000000) (disch := omega) only [vm, wpE, seval, H])
     first |
      refine AYm hR (by
       simp (maxSteps := 10000000) (disch := omega) only [vm, wpE, seval, H]
       rfl) ?_ (by omega) ?_ |
      refine AZB hR (by
       simp (maxSteps := 10000000) (disch := omega) only [vm, wpE, seval, H]
       rfl) ?_ (by omega) ?_
     ·(
       first |
        (
         (repeat (first | exact bG _ | apply ci))
         done) |
        (
         simp (maxSteps := 10000000) (disch := omega) only [vm, wpE, seval, H]
         (repeat (first | exact bG _ | apply ci))
         done))
     ·(
       first |
        (
         simp (maxSteps := 10000000) (disch := omega) only [vm, wpE, seval, H]
         done) | rfl)) |
    (
     (with_reducible refine AZF (by assumption) h ?_ ?_ ?_ (by omega))
     ·exact uW
     ·exact vW
     ·exact kW) |
    (
     (with_reducible refine AZI (by assumption) h ?_ ?_ ?_ ?_)
     ·(
       simp (maxSteps := 10000000) (disch := omega) only [vm, wpE, seval, h.1]
       (
        (repeat (first | with_reducible exact SubW.refl _ | refine SubW.keep (by repeat (first | with_reducible exact WkL.nil | refine WkL.cons (Wk.same _) ?_ | refine WkL.cons (Wk.strip _) ?_)) ?_ | apply SubW.drop))
        done))
     ·exact vW
     ·exact kW
     ·(
       simp (maxSteps := 10000000) (disch := omega) only [vm, wpE, seval, h.1]
       omega)) |
    (
     (with_reducible refine AYB h (by assumption) ?_ ?_ ?_ (by omega))
     ·exact uW
     ·exact vW
     ·exact kW) |
    (
     (with_reducible refine AXZ h (by assumption) ?_ ?_ ?_ (by omega))
     ·exact uW
     ·exact vW
     ·exact kW) |
    (
     (with_reducible refine AX5 h (by assumption) ?_ ?_ ?_ (by omega))
     ·exact uW
     ·exact vW
     ·exact kW) |
    (
     (with_reducible refine AXp h (by assumption) ?_ ?_ ?_ (by omega))
     ·exact uW
     ·exact vW
     ·exact kW) |
    (
     (with_reducible refine AYM h (by assumption) ?_ ?_ ?_ (by omega))
     ·exact uW
     ·exact vW
     ·exact kW) | (with_reducible refine AWs ?_ ?_) | (with_reducible exact AXn h) | (simp (maxSteps := 10000000) (disch := omega) only [vm, wpE, seval, h.1]) | (with_reducible obtain ⟨_, h⟩ := D7 h) | (with_reducible rcases H6 h with h | h))) : G := x
variable {E : Env} {c : Code} {n : Nat} {m : MS} {β ρ : Type}
theorem Ae {X B : Option ρ} {f : FuncId} {fn : Func} {nt : Nat} {rs : List ResultVar} {args : List AVal} {er : ρ→AVal} (hx : X = B) (hf : E.P.funcs[f]? = some fn) (hb : fn.body = some c) (hn : fn.ntmps = nt) (hr : fn.results = rs.toArray) (D : DT:=[]) (b : Bool:=false) (w : ∀ (r : ρ) (n : Nat) (m : MS) (R : APost),RH E rs R b m n (er r)→True∧B = some r→DD D→Gl (wpd E D c R (args ++ List.replicate (nt - args.length) .any) ⟨m,n⟩):=by intro r n m R hR h hD;exact tW) : CF E X f args er:=mkF hx hf hb hn hr D b w
theorem KC {X B : Option ρ} {f : FuncId} {fn : Func} {nt : Nat} {rs : List ResultVar} {args : Nat→List AVal} {pre : Nat→List AVal} {er : ρ→AVal} {post : Nat→ρ→List AVal} (hx : X = B) (hf : E.P.funcs[f]? = some fn) (hb : fn.body = some c) (hn : fn.ntmps = nt) (hr : fn.results = rs.toArray) (D : DT:=[]) (b : Bool:=false) (w : ∀ (r : ρ) (n i : Nat) (m : MS) (R : APost),i < n→RH E rs R b ((i,post i r) :: m) n (er r)→True∧B = some r→DD D→Gl (wpd E D c R (args i ++ List.replicate (nt - (args i).length) .any) ⟨(i,pre i) :: m,n⟩):=by intro r n i m R hin hR h hD;exact tW) : CB E X f args pre er post:=mkB hx hf hb hn hr D b w
end Go.VM
