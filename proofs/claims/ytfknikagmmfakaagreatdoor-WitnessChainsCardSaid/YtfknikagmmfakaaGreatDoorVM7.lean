import Derived.Test.YtfknikagmmfakaaGreatDoorVM5
import Derived.KernelRfl
set_option linter.unusedSimpArgs false
set_option linter.unusedVariables false
set_option linter.defProp false
namespace Go.VM
def AoH := And.intro (And.intro (And.intro (And.intro (And.intro (@AcS) (@Ait)) (And.intro (@Ab3) (And.intro (@Aae) (@Adr)))) (And.intro (And.intro (@AXq) (@AWu)) (And.intro (@AR4) (And.intro (@Aaj) (@AaC))))) (And.intro (And.intro (And.intro (@Ale) (@Akz)) (And.intro (@Al0) (And.intro (@Akt) (@AmJ)))) (And.intro (And.intro (@Ake) (@Al1)) (And.intro (@AKs) (And.intro (@Yf) (@AdL)))))) (And.intro (And.intro (And.intro (And.intro (@ATh) (@AS3)) (And.intro (@Alz) (And.intro (@AjM) (@AoL)))) (And.intro (And.intro (@AoV) (@AoS)) (And.intro (@AoB) (And.intro (@Aon) (@AoO))))) (And.intro (And.intro (And.intro (@Aoi) (@Aoe)) (And.intro (@AkA) (And.intro (@AlI) (@Ab4)))) (And.intro (And.intro (@AWW) (@AaG)) (And.intro (@Acn) (And.intro (@Ad3) (@Ahh))))))
def wpE := And.intro AoH (And.intro (And.intro (@AWc) (@Ama)) (And.intro (And.intro (And.intro (@AoK) (@Aol)) (And.intro (@AoA) (@AoY))) (And.intro (And.intro (@Ad4) (@Aii)) (And.intro (@AoC) (@Aoc)))))
theorem aW {G : Prop} (x : G := by first | with_reducible rfl | (simp (maxSteps := 10000000) (disch := omega) only [vm, wpE, seval, h.1]; done) | rfl) : G := x
theorem uW {G : Prop} (x : G := by first | (simp (maxSteps := 10000000) (disch := omega) only [vm, wpE, seval, h.1]; ((repeat (first | with_reducible exact SubW.refl _ | refine SubW.keep (by repeat (first | with_reducible exact WkL.nil | refine WkL.cons (Wk.same _) ?_ | refine WkL.cons (Wk.strip _) ?_)) ?_ | apply SubW.drop)); done)) | exact SubW.refl _) : G := x
theorem xW {G : Prop} (x : G := by first | exact SubW.refl _ | (simp (maxSteps := 10000000) (disch := omega) only [vm, wpE, seval, h.1]; ((repeat (first | with_reducible exact SubW.refl _ | refine SubW.keep (by repeat (first | with_reducible exact WkL.nil | refine WkL.cons (Wk.same _) ?_ | refine WkL.cons (Wk.strip _) ?_)) ?_ | apply SubW.drop)); first | done | fail))) : G := x
theorem kW {G : Prop} (x : G := by first | (simp (maxSteps := 10000000) (disch := omega) only [vm, wpE, seval, h.1]; first | with_reducible exact WkL.refl _ | ((repeat (first | with_reducible exact WkL.nil | refine WkL.cons (Wk.same _) ?_ | refine WkL.cons (Wk.strip _) ?_)); done)) | exact WkL.refl _) : G := x
theorem vW {G : Prop} (x : G := by first | (simp (maxSteps := 10000000) (disch := omega) only [vm, wpE, seval, h.1]; done) | rfl) : G := x
theorem yW {G : Prop} (x : G := by first | exact h.1.1 | (simp only [h.1]; done) | omega) : G := x
theorem sW {G : Prop} (x : G := by simp (maxSteps := 10000000) (disch := omega) only [vm, wpE, seval, h.1]; first | done | fail) : G := x
theorem tW {G : Prop} (x : G := by
  repeat' (first
      | (with_reducible obtain ⟨_, h⟩ := Am9 h)
      | (with_reducible obtain ⟨_, h⟩ := AnS h)
      | ((fail_if_success with_reducible have := EN h)
         (with_reducible obtain ⟨c, h⟩ := Mj h)
         (try simp only [liE, seval] at c)
         replace h := Ke c h)
      | ((with_reducible obtain ⟨_, c, h⟩ := AoW h)
         (first | replace c := And.intro (congrArg (List.map (AVal.int .u8)) c) (congrArg (List.map (AVal.int .i64)) c) | replace c := congrArg (List.map AVal.str) c | replace c := Anr c | skip)
         (try simp only [List.map_cons, List.map_nil, eE] at c)
         replace h := Ke c h)
      | ((with_reducible refine isW ?_)
         simp (maxSteps := 10000000) (disch := omega) only [vm, wpE, seval, h.1])
      | ((with_reducible refine isC ?_)
         first
           | ((with_reducible refine Sr h.1.1 ?_ ?_)
              · exact aW
              intro _ _)
           | ((with_reducible refine AOg h.1.1 ?_ ?_ ?_)
              · exact aW
              · exact sW
              intro _ _)
           | ((with_reducible refine Sr h.1.2.1 ?_ ?_)
              · exact aW
              intro _ _)
           | ((with_reducible refine AOg h.1.2.1 ?_ ?_ ?_)
              · exact aW
              · exact sW
              intro _ _)
           | ((with_reducible refine Sr h.1.2.2.1 ?_ ?_)
              · exact aW
              intro _ _)
           | ((with_reducible refine AOg h.1.2.2.1 ?_ ?_ ?_)
              · exact aW
              · exact sW
              intro _ _)
           | ((with_reducible refine Sr h.1.2.2.2.1 ?_ ?_)
              · exact aW
              intro _ _)
           | ((with_reducible refine AOg h.1.2.2.2.1 ?_ ?_ ?_)
              · exact aW
              · exact sW
              intro _ _)
           | ((with_reducible refine Sr h.1.2.2.2.2.1 ?_ ?_)
              · exact aW
              intro _ _)
           | ((with_reducible refine AOg h.1.2.2.2.2.1 ?_ ?_ ?_)
              · exact aW
              · exact sW
              intro _ _)
           | ((with_reducible refine APX h.1.1 ?_ ?_ ?_)
              · exact aW
              · exact sW
              intro _ _)
           | ((with_reducible refine APX h.1.2.1 ?_ ?_ ?_)
              · exact aW
              · exact sW
              intro _ _)
           | ((with_reducible refine APX h.1.2.2.1 ?_ ?_ ?_)
              · exact aW
              · exact sW
              intro _ _)
           | ((with_reducible refine APk h.1.1 ?_ ?_ ?_)
              · exact aW
              · exact sW
              intro _ _)
           | ((with_reducible refine APk h.1.2.1 ?_ ?_ ?_)
              · exact aW
              · exact sW
              intro _ _)
           | ((with_reducible refine APk h.1.2.2.1 ?_ ?_ ?_)
              · exact aW
              · exact sW
              intro _ _)
           | ((with_reducible refine Abw h.1.1 ?_ ?_)
              · exact aW
              intro _ _ _ _)
           | ((with_reducible refine Abw h.1.2.1 ?_ ?_)
              · exact aW
              intro _ _ _ _)
           | ((with_reducible refine Abw h.1.2.2.1 ?_ ?_)
              · exact aW
              intro _ _ _ _)
           | ((with_reducible apply AdS h.1.1)
              · (first | with_reducible rfl | (simp (maxSteps := 10000000) (disch := omega) only [vm, wpE, seval, h.1]; rfl))
              · exact sW
              · omega
              intro _ _)
           | ((with_reducible apply AdS h.1.2.1)
              · (first | with_reducible rfl | (simp (maxSteps := 10000000) (disch := omega) only [vm, wpE, seval, h.1]; rfl))
              · exact sW
              · omega
              intro _ _)
           | ((with_reducible apply AdS h.1.2.2.1)
              · (first | with_reducible rfl | (simp (maxSteps := 10000000) (disch := omega) only [vm, wpE, seval, h.1]; rfl))
              · exact sW
              · omega
              intro _ _)
           | ((with_reducible refine ASo h.1.1 ?_ ?_ ?_)
              · exact aW
              · exact sW
              intro _ _)
           | ((with_reducible refine ARm h.1.1 ?_ ?_ ?_)
              · exact aW
              · exact sW
              intro _ _)
           | ((with_reducible refine ASo h.1.2.1 ?_ ?_ ?_)
              · exact aW
              · exact sW
              intro _ _)
           | ((with_reducible refine ARm h.1.2.1 ?_ ?_ ?_)
              · exact aW
              · exact sW
              intro _ _)
           | ((with_reducible refine ASo h.1.2.2.1 ?_ ?_ ?_)
              · exact aW
              · exact sW
              intro _ _)
           | ((with_reducible refine ARm h.1.2.2.1 ?_ ?_ ?_)
              · exact aW
              · exact sW
              intro _ _)
           | ((with_reducible refine Sr h.1.2.2.2.2.2.1 ?_ ?_)
              · exact aW
              intro _ _)
           | ((with_reducible refine Sr h.1.2.2.2.2.2.2.1 ?_ ?_)
              · exact aW
              intro _ _)
           | ((with_reducible refine Sr h.1.2.2.2.2.2.2.2.1 ?_ ?_)
              · exact aW
              intro _ _)
           | ((with_reducible refine Sr h.1.2.2.2.2.2.2.2.2.1 ?_ ?_)
              · exact aW
              intro _ _))
      | (with_reducible refine Am4 ?_)
      | ((with_reducible refine isA ?_)
         first
           | ((with_reducible refine Anh h hD ?_ ?_ ?_)
              · rfl
              all_goals (clear h; intro _ _ _ h))
           | ((with_reducible refine Aj0 h hD ?_ ?_ ?_)
              · rfl
              all_goals (clear h; intro _ _ _ h))
           | ((with_reducible refine AnE h hD ?_ ?_ ?_)
              · rfl
              all_goals (clear h; intro _ _ _ _ h))
           | ((with_reducible refine AnM h hD ?_ ?_ ?_)
              · exact xW
              · exact kW
              (clear h; intro _ _ _ _ h _ _))
           | ((with_reducible refine Adc h hD ?_ ?_ ?_ ?_ ?_)
              · exact yW
              · exact xW
              · exact kW
              all_goals (clear h; first | intro _ _ _ _ _ _ h _ _ | intro _ _ _ _ h))
           | ((with_reducible refine Als h hD ?_ ?_ ?_ ?_ ?_)
              · exact yW
              · exact xW
              · exact kW
              all_goals (clear h; first | intro _ _ _ _ _ _ h _ _ | intro _ _ _ _ h))
           | ((with_reducible refine AaY h hD ?_ ?_ ?_ ?_ ?_)
              · exact yW
              · exact xW
              · exact kW
              all_goals (clear h; first | intro _ _ _ _ _ h _ _ | intro _ _ _ _ h))
           | ((with_reducible refine AlR h hD ?_ ?_ ?_ ?_ ?_)
              · exact yW
              · exact xW
              · exact kW
              all_goals (clear h; first | intro _ _ _ _ _ h _ _ | intro _ _ _ _ h))
           | (with_reducible refine AoD hD (by simp only [AKs, Yf, liE, seval]; rfl) (by simp only [AX1, liE, seval]; rfl) (by kernel_rfl) ?_)
           | (with_reducible refine Aoa hD ?_))
      | ((with_reducible refine AnY h ?_ ?_) <;> clear h <;> intro h)
      | ((with_reducible obtain ⟨H, h⟩ := AmH h)
         subst h
         (try simp (maxSteps := 10000000) (disch := omega) only [vm, wpE, seval, H])
         first
           | refine Aof hR (by simp (maxSteps := 10000000) (disch := omega) only [vm, wpE, seval, H]; rfl) ?_ (by omega) ?_
           | refine Aoh hR (by simp (maxSteps := 10000000) (disch := omega) only [vm, wpE, seval, H]; rfl) ?_ (by omega) ?_
         · (first | ((repeat (first | exact List.Sublist.refl _ | apply List.Sublist.cons)); done) | (simp (maxSteps := 10000000) (disch := omega) only [vm, wpE, seval, H]; (repeat (first | exact List.Sublist.refl _ | apply List.Sublist.cons)); done))
         · (first | (simp (maxSteps := 10000000) (disch := omega) only [vm, wpE, seval, H]; done) | rfl))
      | ((with_reducible refine Aok (by assumption) h ?_ ?_ ?_ (by omega))
         · exact uW
         · exact vW
         · exact kW)
      | ((with_reducible refine AoP (by assumption) h ?_ ?_ ?_ ?_)
         · (simp (maxSteps := 10000000) (disch := omega) only [vm, wpE, seval, h.1]; ((repeat (first | with_reducible exact SubW.refl _ | refine SubW.keep (by repeat (first | with_reducible exact WkL.nil | refine WkL.cons (Wk.same _) ?_ | refine WkL.cons (Wk.strip _) ?_)) ?_ | apply SubW.drop)); done))
         · exact vW
         · exact kW
         · (simp (maxSteps := 10000000) (disch := omega) only [vm, wpE, seval, h.1]; omega))
      | ((with_reducible refine Amj h (by assumption) ?_ ?_ ?_ (by omega))
         · exact uW
         · exact vW
         · exact kW)
      | ((with_reducible refine Amm h (by assumption) ?_ ?_ ?_ (by omega))
         · exact uW
         · exact vW
         · exact kW)
      | ((with_reducible refine Anq h (by assumption) ?_ ?_ ?_ (by omega))
         · exact uW
         · exact vW
         · exact kW)
      | ((with_reducible refine AnP h (by assumption) ?_ ?_ ?_ (by omega))
         · exact uW
         · exact vW
         · exact kW)
      | ((with_reducible refine Anl h (by assumption) ?_ ?_ ?_ (by omega))
         · exact uW
         · exact vW
         · exact kW)
      | (with_reducible refine AQ4 ?_ ?_)
      | (with_reducible exact Anz h)
      | (simp (maxSteps := 10000000) (disch := omega) only [vm, wpE, seval, h.1])
      | (with_reducible obtain ⟨_, h⟩ := EN h)
      | (with_reducible rcases Ig h with h | h)
      | (simp only [AA] at h))) : G := x
variable {E : Env} {c : Code} {n : Nat} {m : MS} {β ρ : Type}
theorem AR {X B : Option ρ} {f : FuncId} {fn : Func} {nt : Nat} {rs : List ResultVar} {args : List AVal} {er : ρ → AVal} (hx : X = B) (hf : E.P.funcs[f]? = some fn) (hb : fn.body = some c) (hn : fn.ntmps = nt) (hr : fn.results = rs.toArray) (D : DT := []) (b : Bool := false)
    (w : ∀ (r : ρ) (n : Nat) (m : MS) (R : APost), RH E rs R b m n (er r) → True ∧ B = some r → DD D → Gl (wpd E D c R (args ++ List.replicate (nt - args.length) .any) ⟨m, n⟩) := by intro r n m R hR h hD; exact tW) : CF E X f args er := mkF hx hf hb hn hr D b w
theorem D9 {X B : Option ρ} {f : FuncId} {fn : Func} {nt : Nat} {rs : List ResultVar} {args : Nat → List AVal} {pre : Nat → List AVal} {er : ρ → AVal} {post : Nat → ρ → List AVal} (hx : X = B) (hf : E.P.funcs[f]? = some fn) (hb : fn.body = some c) (hn : fn.ntmps = nt) (hr : fn.results = rs.toArray) (D : DT := []) (b : Bool := false)
    (w : ∀ (r : ρ) (n i : Nat) (m : MS) (R : APost), i < n → RH E rs R b ((i, post i r) :: m) n (er r) → True ∧ B = some r → DD D → Gl (wpd E D c R (args i ++ List.replicate (nt - (args i).length) .any) ⟨(i, pre i) :: m, n⟩) := by intro r n i m R hin hR h hD; exact tW) : CB E X f args pre er post := mkB hx hf hb hn hr D b w
theorem Aog {X B : Option ρ} {f : FuncId} {fn : Func} {nt : Nat} {rs : List ResultVar} {pre : Nat → List AVal} {er : ρ → AVal} {post : Nat → ρ → List AVal} (hx : X = B) (hf : E.P.funcs[f]? = some fn) (hb : fn.body = some c) (hn : fn.ntmps = nt) (hr : fn.results = rs.toArray) (D : DT := []) (b : Bool := false)
    (w : ∀ (r : ρ) (n i j : Nat) (m : MS) (R : APost), i < n → j < n → i ≠ j → RH E rs R b ((i, post i r) :: (j, [.ptr i 0]) :: m) n (er r) → True ∧ B = some r → DD D → Gl (wpd E D c R ([.ptr j 0] ++ List.replicate (nt - ([.ptr j 0] : List AVal).length) .any) ⟨(i, pre i) :: (j, [.ptr i 0]) :: m, n⟩) := by intro r n i j m R hin hin2 hij hR h hD; exact tW) : CT E X f pre er post := by
  constructor
  intro r n i j m Q h hj hi hne hQ
  subst hn
  have e : fn.results.toList = rs := by rw [hr]
  have k9 : ∀ n', n ≤ n' → Q (er r) ⟨Ak (Ak m i (post i r)) j [.ptr i 0], n'⟩ := fun n' k => by
    rw [Yb (by rw [Lp (Ne.symm hne)]; exact hj)]; exact (hQ n' k).go
  refine ACall.front2 hi hj hne fun hin hjn => ?_
  cases b with
  | false =>
    refine Ja hf hb (DY (w r n i j _ (He E fn _) hin hjn hne ⟨?_⟩ ⟨trivial, hx ▸ h⟩ ⟨⟩).go)
    intro af st xs m0 m1 n' h1 h2 h0 h3 h4
    subst h0; rw [AS3] at h4
    exact ⟨Hz (by rw [e]; exact h1) h2 ⟨_, _, rfl, h4 ▸ k9 n' h3⟩, IC (by rw [e]; exact h1) h2 ⟨_, _, rfl, h4 ▸ k9 n' h3⟩⟩
  | true =>
    refine ACall.strip (Ja hf hb (DY (w r n i j _ (He E fn fun r st' => _) hin hjn hne ⟨?_⟩ ⟨trivial, hx ▸ h⟩ ⟨⟩).go))
    intro af st xs m0 m1 n' h1 h2 h0 h3 h4
    subst h0; rw [ATh] at h4
    exact ⟨Hz (by rw [e]; exact h1) h2 ⟨_, _, rfl, by rw [h4]; exact k9 n' h3⟩, IC (by rw [e]; exact h1) h2 ⟨_, _, rfl, by rw [h4]; exact k9 n' h3⟩⟩
end Go.VM
