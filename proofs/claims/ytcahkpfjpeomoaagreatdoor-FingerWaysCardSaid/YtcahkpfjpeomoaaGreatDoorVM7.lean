import Derived.Test.YtcahkpfjpeomoaaGreatDoorVM5
import Derived.KernelRfl
set_option linter.unusedSimpArgs false
set_option linter.unusedVariables false
set_option linter.defProp false
namespace Go.VM
def Aha := And.intro (And.intro (And.intro (And.intro (And.intro (@AW6) (@AaQ)) (And.intro (@AWg) (And.intro (@AVW) (@AYK)))) (And.intro (And.intro (@AQH) (@ASL)) (And.intro (@AMb) (And.intro (@AVm) (@AWy))))) (And.intro (And.intro (And.intro (@Ad2) (@AfO)) (And.intro (@AeQ) (And.intro (@Aej) (@Aei)))) (And.intro (And.intro (@Aee) (@Afb)) (And.intro (@AGU) (And.intro (@X4) (@AYA)))))) (And.intro (And.intro (And.intro (And.intro (@AOt) (@AON)) (And.intro (@Adx) (And.intro (@AcU) (@AhW)))) (And.intro (And.intro (@Ahu) (@Aht)) (And.intro (@Ahq) (And.intro (@AhL) (@Ahp))))) (And.intro (And.intro (And.intro (@Ahd) (@Ahr)) (And.intro (@AeC) (And.intro (@AeY) (@AWf)))) (And.intro (And.intro (@AP6) (@AYh)) (And.intro (@AUX) (And.intro (@AYk) (@Acv))))))
def wpE := And.intro Aha (And.intro (And.intro (@APA) (@Ae9)) (And.intro (And.intro (And.intro (@Ahs) (@AhP)) (And.intro (@AhK) (@Ahf))) (And.intro (And.intro (@AZJ) (@Aa6)) (And.intro (@Ahj) (@AhN)))))
theorem aW {G : Prop} (x : G := by first | with_reducible rfl | (simp (maxSteps := 10000000) (disch := omega) only [vm, wpE, seval, h.1]; done) | rfl) : G := x
theorem uW {G : Prop} (x : G := by first | (simp (maxSteps := 10000000) (disch := omega) only [vm, wpE, seval, h.1]; ((repeat (first | with_reducible exact SubW.refl _ | refine SubW.keep (by repeat (first | with_reducible exact WkL.nil | refine WkL.cons (Wk.same _) ?_ | refine WkL.cons (Wk.strip _) ?_)) ?_ | apply SubW.drop)); done)) | exact SubW.refl _) : G := x
theorem xW {G : Prop} (x : G := by first | exact SubW.refl _ | (simp (maxSteps := 10000000) (disch := omega) only [vm, wpE, seval, h.1]; ((repeat (first | with_reducible exact SubW.refl _ | refine SubW.keep (by repeat (first | with_reducible exact WkL.nil | refine WkL.cons (Wk.same _) ?_ | refine WkL.cons (Wk.strip _) ?_)) ?_ | apply SubW.drop)); first | done | fail))) : G := x
theorem kW {G : Prop} (x : G := by first | (simp (maxSteps := 10000000) (disch := omega) only [vm, wpE, seval, h.1]; first | with_reducible exact WkL.refl _ | ((repeat (first | with_reducible exact WkL.nil | refine WkL.cons (Wk.same _) ?_ | refine WkL.cons (Wk.strip _) ?_)); done)) | exact WkL.refl _) : G := x
theorem vW {G : Prop} (x : G := by first | (simp (maxSteps := 10000000) (disch := omega) only [vm, wpE, seval, h.1]; done) | rfl) : G := x
theorem yW {G : Prop} (x : G := by first | exact h.1.1 | (simp only [h.1]; done) | omega) : G := x
theorem sW {G : Prop} (x : G := by simp (maxSteps := 10000000) (disch := omega) only [vm, wpE, seval, h.1]; first | done | fail) : G := x
theorem tW {G : Prop} (x : G := by
  repeat' (first
      | (with_reducible obtain ⟨_, h⟩ := Af2 h)
      | (with_reducible obtain ⟨_, h⟩ := Ag0 h)
      | ((fail_if_success with_reducible have := Cu h)
         (with_reducible obtain ⟨c, h⟩ := Ho h)
         (try simp only [liE, seval] at c)
         replace h := EY c h)
      | ((with_reducible obtain ⟨_, c, h⟩ := Aho h)
         (first | replace c := congrArg (List.map (AVal.int .u8)) c | replace c := congrArg (List.map AVal.str) c | replace c := AgO c | skip)
         (try simp only [List.map_cons, List.map_nil, eE] at c)
         replace h := EY c h)
      | ((with_reducible refine isW ?_)
         simp (maxSteps := 10000000) (disch := omega) only [vm, wpE, seval, h.1])
      | ((with_reducible refine isC ?_)
         first
           | ((with_reducible refine SH h.1.1 ?_ ?_)
              · exact aW
              intro _ _)
           | ((with_reducible refine AJL h.1.1 ?_ ?_ ?_)
              · exact aW
              · exact sW
              intro _ _)
           | ((with_reducible refine SH h.1.2.1 ?_ ?_)
              · exact aW
              intro _ _)
           | ((with_reducible refine AJL h.1.2.1 ?_ ?_ ?_)
              · exact aW
              · exact sW
              intro _ _)
           | ((with_reducible refine SH h.1.2.2.1 ?_ ?_)
              · exact aW
              intro _ _)
           | ((with_reducible refine AJL h.1.2.2.1 ?_ ?_ ?_)
              · exact aW
              · exact sW
              intro _ _)
           | ((with_reducible refine SH h.1.2.2.2.1 ?_ ?_)
              · exact aW
              intro _ _)
           | ((with_reducible refine AJL h.1.2.2.2.1 ?_ ?_ ?_)
              · exact aW
              · exact sW
              intro _ _)
           | ((with_reducible refine SH h.1.2.2.2.2.1 ?_ ?_)
              · exact aW
              intro _ _)
           | ((with_reducible refine AJL h.1.2.2.2.2.1 ?_ ?_ ?_)
              · exact aW
              · exact sW
              intro _ _)
           | ((with_reducible refine ANP h.1.1 ?_ ?_ ?_)
              · exact aW
              · exact sW
              intro _ _)
           | ((with_reducible refine ANP h.1.2.1 ?_ ?_ ?_)
              · exact aW
              · exact sW
              intro _ _)
           | ((with_reducible refine ANP h.1.2.2.1 ?_ ?_ ?_)
              · exact aW
              · exact sW
              intro _ _)
           | ((with_reducible refine ALi h.1.1 ?_ ?_ ?_)
              · exact aW
              · exact sW
              intro _ _)
           | ((with_reducible refine ALi h.1.2.1 ?_ ?_ ?_)
              · exact aW
              · exact sW
              intro _ _)
           | ((with_reducible refine ALi h.1.2.2.1 ?_ ?_ ?_)
              · exact aW
              · exact sW
              intro _ _)
           | ((with_reducible refine AXT h.1.1 ?_ ?_)
              · exact aW
              intro _ _ _ _)
           | ((with_reducible refine AXT h.1.2.1 ?_ ?_)
              · exact aW
              intro _ _ _ _)
           | ((with_reducible refine AXT h.1.2.2.1 ?_ ?_)
              · exact aW
              intro _ _ _ _)
           | ((with_reducible apply AZC h.1.1)
              · (first | with_reducible rfl | (simp (maxSteps := 10000000) (disch := omega) only [vm, wpE, seval, h.1]; rfl))
              · exact sW
              · omega
              intro _ _)
           | ((with_reducible apply AZC h.1.2.1)
              · (first | with_reducible rfl | (simp (maxSteps := 10000000) (disch := omega) only [vm, wpE, seval, h.1]; rfl))
              · exact sW
              · omega
              intro _ _)
           | ((with_reducible apply AZC h.1.2.2.1)
              · (first | with_reducible rfl | (simp (maxSteps := 10000000) (disch := omega) only [vm, wpE, seval, h.1]; rfl))
              · exact sW
              · omega
              intro _ _)
           | ((with_reducible refine ANQ h.1.1 ?_ ?_ ?_)
              · exact aW
              · exact sW
              intro _ _)
           | ((with_reducible refine AL1 h.1.1 ?_ ?_ ?_)
              · exact aW
              · exact sW
              intro _ _)
           | ((with_reducible refine ANQ h.1.2.1 ?_ ?_ ?_)
              · exact aW
              · exact sW
              intro _ _)
           | ((with_reducible refine AL1 h.1.2.1 ?_ ?_ ?_)
              · exact aW
              · exact sW
              intro _ _)
           | ((with_reducible refine ANQ h.1.2.2.1 ?_ ?_ ?_)
              · exact aW
              · exact sW
              intro _ _)
           | ((with_reducible refine AL1 h.1.2.2.1 ?_ ?_ ?_)
              · exact aW
              · exact sW
              intro _ _)
           | ((with_reducible refine SH h.1.2.2.2.2.2.1 ?_ ?_)
              · exact aW
              intro _ _)
           | ((with_reducible refine SH h.1.2.2.2.2.2.2.1 ?_ ?_)
              · exact aW
              intro _ _)
           | ((with_reducible refine SH h.1.2.2.2.2.2.2.2.1 ?_ ?_)
              · exact aW
              intro _ _)
           | ((with_reducible refine SH h.1.2.2.2.2.2.2.2.2.1 ?_ ?_)
              · exact aW
              intro _ _))
      | (with_reducible refine Agd ?_)
      | ((with_reducible refine isA ?_)
         first
           | ((with_reducible refine AgH h hD ?_ ?_ ?_)
              · rfl
              all_goals (clear h; intro _ _ _ h))
           | ((with_reducible refine Acz h hD ?_ ?_ ?_)
              · rfl
              all_goals (clear h; intro _ _ _ h))
           | ((with_reducible refine AgI h hD ?_ ?_ ?_)
              · rfl
              all_goals (clear h; intro _ _ _ _ h))
           | ((with_reducible refine Agq h hD ?_ ?_ ?_)
              · exact xW
              · exact kW
              (clear h; intro _ _ _ _ h _ _))
           | ((with_reducible refine AVt h hD ?_ ?_ ?_ ?_ ?_)
              · exact yW
              · exact xW
              · exact kW
              all_goals (clear h; first | intro _ _ _ _ _ _ h _ _ | intro _ _ _ _ h))
           | ((with_reducible refine AeZ h hD ?_ ?_ ?_ ?_ ?_)
              · exact yW
              · exact xW
              · exact kW
              all_goals (clear h; first | intro _ _ _ _ _ _ h _ _ | intro _ _ _ _ h))
           | ((with_reducible refine AWX h hD ?_ ?_ ?_ ?_ ?_)
              · exact yW
              · exact xW
              · exact kW
              all_goals (clear h; first | intro _ _ _ _ _ h _ _ | intro _ _ _ _ h))
           | ((with_reducible refine Ad6 h hD ?_ ?_ ?_ ?_ ?_)
              · exact yW
              · exact xW
              · exact kW
              all_goals (clear h; first | intro _ _ _ _ _ h _ _ | intro _ _ _ _ h))
           | (with_reducible refine AhX hD (by simp only [AGU, X4, liE, seval]; rfl) (by simp only [ASm, liE, seval]; rfl) (by kernel_rfl) ?_)
           | (with_reducible refine AhS hD ?_))
      | ((with_reducible refine AgP h ?_ ?_) <;> clear h <;> intro h)
      | ((with_reducible obtain ⟨H, h⟩ := Ad1 h)
         subst h
         (try simp (maxSteps := 10000000) (disch := omega) only [vm, wpE, seval, H])
         first
           | refine AhJ hR (by simp (maxSteps := 10000000) (disch := omega) only [vm, wpE, seval, H]; rfl) ?_ (by omega) ?_
           | refine AhM hR (by simp (maxSteps := 10000000) (disch := omega) only [vm, wpE, seval, H]; rfl) ?_ (by omega) ?_
         · (first | ((repeat (first | exact List.Sublist.refl _ | apply List.Sublist.cons)); done) | (simp (maxSteps := 10000000) (disch := omega) only [vm, wpE, seval, H]; (repeat (first | exact List.Sublist.refl _ | apply List.Sublist.cons)); done))
         · (first | (simp (maxSteps := 10000000) (disch := omega) only [vm, wpE, seval, H]; done) | rfl))
      | ((with_reducible refine Ahh (by assumption) h ?_ ?_ ?_ (by omega))
         · exact uW
         · exact vW
         · exact kW)
      | ((with_reducible refine Ahi (by assumption) h ?_ ?_ ?_ ?_)
         · (simp (maxSteps := 10000000) (disch := omega) only [vm, wpE, seval, h.1]; ((repeat (first | with_reducible exact SubW.refl _ | refine SubW.keep (by repeat (first | with_reducible exact WkL.nil | refine WkL.cons (Wk.same _) ?_ | refine WkL.cons (Wk.strip _) ?_)) ?_ | apply SubW.drop)); done))
         · exact vW
         · exact kW
         · (simp (maxSteps := 10000000) (disch := omega) only [vm, wpE, seval, h.1]; omega))
      | ((with_reducible refine Af6 h (by assumption) ?_ ?_ ?_ (by omega))
         · exact uW
         · exact vW
         · exact kW)
      | ((with_reducible refine Agi h (by assumption) ?_ ?_ ?_ (by omega))
         · exact uW
         · exact vW
         · exact kW)
      | ((with_reducible refine Agw h (by assumption) ?_ ?_ ?_ (by omega))
         · exact uW
         · exact vW
         · exact kW)
      | ((with_reducible refine AgC h (by assumption) ?_ ?_ ?_ (by omega))
         · exact uW
         · exact vW
         · exact kW)
      | ((with_reducible refine Agl h (by assumption) ?_ ?_ ?_ (by omega))
         · exact uW
         · exact vW
         · exact kW)
      | (with_reducible refine ANg ?_ ?_)
      | (with_reducible exact Af9 h)
      | (simp (maxSteps := 10000000) (disch := omega) only [vm, wpE, seval, h.1])
      | (with_reducible obtain ⟨_, h⟩ := Cu h)
      | (with_reducible rcases Ec h with h | h)
      | (simp only [AA] at h))) : G := x
variable {E : Env} {c : Code} {n : Nat} {m : MS} {β ρ : Type}
theorem AP {X B : Option ρ} {f : FuncId} {fn : Func} {nt : Nat} {rs : List ResultVar} {args : List AVal} {er : ρ → AVal} (hx : X = B) (hf : E.P.funcs[f]? = some fn) (hb : fn.body = some c) (hn : fn.ntmps = nt) (hr : fn.results = rs.toArray) (D : DT := []) (b : Bool := false)
    (w : ∀ (r : ρ) (n : Nat) (m : MS) (R : APost), RH E rs R b m n (er r) → True ∧ B = some r → DD D → Gl (wpd E D c R (args ++ List.replicate (nt - args.length) .any) ⟨m, n⟩) := by intro r n m R hR h hD; exact tW) : CF E X f args er := mkF hx hf hb hn hr D b w
theorem ED {X B : Option ρ} {f : FuncId} {fn : Func} {nt : Nat} {rs : List ResultVar} {args : Nat → List AVal} {pre : Nat → List AVal} {er : ρ → AVal} {post : Nat → ρ → List AVal} (hx : X = B) (hf : E.P.funcs[f]? = some fn) (hb : fn.body = some c) (hn : fn.ntmps = nt) (hr : fn.results = rs.toArray) (D : DT := []) (b : Bool := false)
    (w : ∀ (r : ρ) (n i : Nat) (m : MS) (R : APost), i < n → RH E rs R b ((i, post i r) :: m) n (er r) → True ∧ B = some r → DD D → Gl (wpd E D c R (args i ++ List.replicate (nt - (args i).length) .any) ⟨(i, pre i) :: m, n⟩) := by intro r n i m R hin hR h hD; exact tW) : CB E X f args pre er post := mkB hx hf hb hn hr D b w
theorem Ahe {X B : Option ρ} {f : FuncId} {fn : Func} {nt : Nat} {rs : List ResultVar} {pre : Nat → List AVal} {er : ρ → AVal} {post : Nat → ρ → List AVal} (hx : X = B) (hf : E.P.funcs[f]? = some fn) (hb : fn.body = some c) (hn : fn.ntmps = nt) (hr : fn.results = rs.toArray) (D : DT := []) (b : Bool := false)
    (w : ∀ (r : ρ) (n i j : Nat) (m : MS) (R : APost), i < n → j < n → i ≠ j → RH E rs R b ((i, post i r) :: (j, [.ptr i 0]) :: m) n (er r) → True ∧ B = some r → DD D → Gl (wpd E D c R ([.ptr j 0] ++ List.replicate (nt - ([.ptr j 0] : List AVal).length) .any) ⟨(i, pre i) :: (j, [.ptr i 0]) :: m, n⟩) := by intro r n i j m R hin hin2 hij hR h hD; exact tW) : CT E X f pre er post := by
  constructor
  intro r n i j m Q h hj hi hne hQ
  subst hn
  have e : fn.results.toList = rs := by rw [hr]
  have k9 : ∀ n', n ≤ n' → Q (er r) ⟨Ao (Ao m i (post i r)) j [.ptr i 0], n'⟩ := fun n' k => by
    rw [Xy (by rw [Li (Ne.symm hne)]; exact hj)]; exact (hQ n' k).go
  refine ACall.front2 hi hj hne fun hin hjn => ?_
  cases b with
  | false =>
    refine JZ hf hb (Dr (w r n i j _ (H5 E fn _) hin hjn hne ⟨?_⟩ ⟨trivial, hx ▸ h⟩ ⟨⟩).go)
    intro af st xs m0 m1 n' h1 h2 h0 h3 h4
    subst h0; rw [AON] at h4
    exact ⟨IA (by rw [e]; exact h1) h2 ⟨_, _, rfl, h4 ▸ k9 n' h3⟩, IP (by rw [e]; exact h1) h2 ⟨_, _, rfl, h4 ▸ k9 n' h3⟩⟩
  | true =>
    refine ACall.strip (JZ hf hb (Dr (w r n i j _ (H5 E fn fun r st' => _) hin hjn hne ⟨?_⟩ ⟨trivial, hx ▸ h⟩ ⟨⟩).go))
    intro af st xs m0 m1 n' h1 h2 h0 h3 h4
    subst h0; rw [AOt] at h4
    exact ⟨IA (by rw [e]; exact h1) h2 ⟨_, _, rfl, by rw [h4]; exact k9 n' h3⟩, IP (by rw [e]; exact h1) h2 ⟨_, _, rfl, by rw [h4]; exact k9 n' h3⟩⟩
end Go.VM
