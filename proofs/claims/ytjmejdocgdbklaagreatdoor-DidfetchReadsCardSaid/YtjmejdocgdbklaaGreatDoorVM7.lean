import Derived.Test.YtjmejdocgdbklaaGreatDoorVM2
import Derived.Test.YtjmejdocgdbklaaGreatDoorVM5
import Derived.KernelRfl
set_option linter.unusedSimpArgs false
set_option linter.unusedVariables false
set_option linter.defProp false
namespace Go.VM
def Aq4 := ac (ac (ac (ac (ac (@AcK) (@Ai1)) (ac (@Agx) (ac (@Ab3) (@Ab0)))) (ac (ac (@AWU) (@AXp)) (ac (@ASu) (ac (@Ae4) (@Ag6))))) (ac (ac (ac (@Ang) (@AmV)) (ac (@Aop) (ac (@An3) (@Amx)))) (ac (ac (@AnY) (@AmP)) (ac (@AOa) (ac (@AEs) (@Abl)))))) (ac (ac (ac (ac (@AVk) (@AVr)) (ac (@Amn) (ac (@Ajk) (@Aqk)))) (ac (ac (@AqP) (@Aqd)) (ac (@ArA) (ac (@AqY) (@AqR))))) (ac (ac (ac (@ArN) (@ArC)) (ac (@AnS) (ac (@AoD) (@Adu)))) (ac (ac (@Aaa) (@Afo)) (ac (@Ae8) (ac (@Abs) (@AlP))))))
def wpE := ac Aq4 (ac (ac (@AXP) (@Ank)) (ac (ac (ac (@ArF) (@Aq6)) (ac (@ArM) (@ArK))) (ac (@Afn) (ac (@AqT) (@Aqj)))))
def aW {G : Prop} (x : G := by first | with_reducible rfl | (simp (maxSteps := 10000000) (disch := omega) only [vm, wpE, seval, h.1]; done) | rfl) : G := x
def uW {G : Prop} (x : G := by first | (simp (maxSteps := 10000000) (disch := omega) only [vm, wpE, seval, h.1]; ((repeat (first | with_reducible exact SubW.refl _ | refine SubW.keep (by repeat (first | with_reducible exact WkL.nil | refine WkL.cons (Wk.same _) ?_ | refine WkL.cons (Wk.strip _) ?_)) ?_ | apply SubW.drop)); done)) | exact SubW.refl _) : G := x
def xW {G : Prop} (x : G := by first | exact SubW.refl _ | (simp (maxSteps := 10000000) (disch := omega) only [vm, wpE, seval, h.1]; ((repeat (first | with_reducible exact SubW.refl _ | refine SubW.keep (by repeat (first | with_reducible exact WkL.nil | refine WkL.cons (Wk.same _) ?_ | refine WkL.cons (Wk.strip _) ?_)) ?_ | apply SubW.drop)); first | done | fail))) : G := x
def kW {G : Prop} (x : G := by first | (simp (maxSteps := 10000000) (disch := omega) only [vm, wpE, seval, h.1]; first | with_reducible exact WkL.refl _ | ((repeat (first | with_reducible exact WkL.nil | refine WkL.cons (Wk.same _) ?_ | refine WkL.cons (Wk.strip _) ?_)); done)) | exact WkL.refl _) : G := x
def vW {G : Prop} (x : G := by first | (simp (maxSteps := 10000000) (disch := omega) only [vm, wpE, seval, h.1]; done) | rfl) : G := x
def yW {G : Prop} (x : G := by first | exact h.1.1 | (simp only [h.1]; done) | omega) : G := x
def sW {G : Prop} (x : G := by simp (maxSteps := 10000000) (disch := omega) only [vm, wpE, seval, h.1]; first | done | fail) : G := x
def tW {G : Prop} (x : G := by
 repeat'
  (
   first | (with_reducible obtain ⟨_, h⟩ := AqA h) | (with_reducible obtain ⟨_, h⟩ := ApI h) |
    (
     (fail_if_success with_reducible have := Fg h)
     (with_reducible obtain ⟨c, h⟩ := LV h)
     (try simp only [liE, seval] at c)
     replace h := I5 c h) |
    (
     (with_reducible obtain ⟨_, c, h⟩ := Aqp h)
     (first | replace c := a8 (List.map (AVal.int .u8)) c | replace c := a8 (List.map AVal.str) c | skip)
     (try simp only [aE, bM, eE] at c)
     replace h := I5 c h) |
    (
     (with_reducible refine isW ?_)
     simp (maxSteps := 10000000) (disch := omega) only [vm, wpE, seval, h.1]) |
    (
     (with_reducible refine isC ?_)
     first |
      (
       (with_reducible refine Xu h.1.1 ?_ ?_)
       ·exact aW
       intro _ _) |
      (
       (with_reducible refine AP4 h.1.1 ?_ ?_ ?_)
       ·exact aW
       ·exact sW
       intro _ _) |
      (
       (with_reducible refine Xu h.1.2.1 ?_ ?_)
       ·exact aW
       intro _ _) |
      (
       (with_reducible refine AP4 h.1.2.1 ?_ ?_ ?_)
       ·exact aW
       ·exact sW
       intro _ _) |
      (
       (with_reducible refine Xu h.1.2.2.1 ?_ ?_)
       ·exact aW
       intro _ _) |
      (
       (with_reducible refine AP4 h.1.2.2.1 ?_ ?_ ?_)
       ·exact aW
       ·exact sW
       intro _ _) |
      (
       (with_reducible refine Xu h.1.2.2.2.1 ?_ ?_)
       ·exact aW
       intro _ _) |
      (
       (with_reducible refine AP4 h.1.2.2.2.1 ?_ ?_ ?_)
       ·exact aW
       ·exact sW
       intro _ _) |
      (
       (with_reducible refine Xu h.1.2.2.2.2.1 ?_ ?_)
       ·exact aW
       intro _ _) |
      (
       (with_reducible refine AP4 h.1.2.2.2.2.1 ?_ ?_ ?_)
       ·exact aW
       ·exact sW
       intro _ _) |
      (
       (with_reducible refine ATE h.1.1 ?_ ?_ ?_)
       ·exact aW
       ·exact sW
       intro _ _) |
      (
       (with_reducible refine ATE h.1.2.1 ?_ ?_ ?_)
       ·exact aW
       ·exact sW
       intro _ _) |
      (
       (with_reducible refine ATE h.1.2.2.1 ?_ ?_ ?_)
       ·exact aW
       ·exact sW
       intro _ _) |
      (
       (with_reducible refine ASE h.1.1 ?_ ?_ ?_)
       ·exact aW
       ·exact sW
       intro _ _) |
      (
       (with_reducible refine ASE h.1.2.1 ?_ ?_ ?_)
       ·exact aW
       ·exact sW
       intro _ _) |
      (
       (with_reducible refine ASE h.1.2.2.1 ?_ ?_ ?_)
       ·exact aW
       ·exact sW
       intro _ _) |
      (
       (with_reducible refine Ad3 h.1.1 ?_ ?_)
       ·exact aW
       intro _ _ _ _) |
      (
       (with_reducible refine Ad3 h.1.2.1 ?_ ?_)
       ·exact aW
       intro _ _ _ _) |
      (
       (with_reducible refine Ad3 h.1.2.2.1 ?_ ?_)
       ·exact aW
       intro _ _ _ _) |
      (
       (with_reducible refine AgD h.1.1 ?_ ?_ ?_ ?_)
       ·(
         first | with_reducible rfl |
          (
           simp (maxSteps := 10000000) (disch := omega) only [vm, wpE, seval, h.1]
           rfl))
       ·exact sW
       ·omega
       intro _ _) |
      (
       (with_reducible refine AgD h.1.2.1 ?_ ?_ ?_ ?_)
       ·(
         first | with_reducible rfl |
          (
           simp (maxSteps := 10000000) (disch := omega) only [vm, wpE, seval, h.1]
           rfl))
       ·exact sW
       ·omega
       intro _ _) |
      (
       (with_reducible refine AgD h.1.2.2.1 ?_ ?_ ?_ ?_)
       ·(
         first | with_reducible rfl |
          (
           simp (maxSteps := 10000000) (disch := omega) only [vm, wpE, seval, h.1]
           rfl))
       ·exact sW
       ·omega
       intro _ _) |
      (
       (with_reducible refine ATj h.1.1 ?_ ?_ ?_)
       ·exact aW
       ·exact sW
       intro _ _) |
      (
       (with_reducible refine ATD h.1.1 ?_ ?_ ?_)
       ·exact aW
       ·exact sW
       intro _ _) |
      (
       (with_reducible refine ATj h.1.2.1 ?_ ?_ ?_)
       ·exact aW
       ·exact sW
       intro _ _) |
      (
       (with_reducible refine ATD h.1.2.1 ?_ ?_ ?_)
       ·exact aW
       ·exact sW
       intro _ _) |
      (
       (with_reducible refine ATj h.1.2.2.1 ?_ ?_ ?_)
       ·exact aW
       ·exact sW
       intro _ _) |
      (
       (with_reducible refine ATD h.1.2.2.1 ?_ ?_ ?_)
       ·exact aW
       ·exact sW
       intro _ _) |
      (
       (with_reducible refine Xu h.1.2.2.2.2.2.1 ?_ ?_)
       ·exact aW
       intro _ _) |
      (
       (with_reducible refine Xu h.1.2.2.2.2.2.2.1 ?_ ?_)
       ·exact aW
       intro _ _) |
      (
       (with_reducible refine Xu h.1.2.2.2.2.2.2.2.1 ?_ ?_)
       ·exact aW
       intro _ _) |
      (
       (with_reducible refine Xu h.1.2.2.2.2.2.2.2.2.1 ?_ ?_)
       ·exact aW
       intro _ _)) | (with_reducible refine ApD ?_) |
    (
     (with_reducible refine isA ?_)
     first |
      (
       (with_reducible refine Apa h hD ?_ ?_ ?_)
       ·rfl
       all_goals
        (
         clear h
         intro _ _ _ h)) |
      (
       (with_reducible refine Aly h hD ?_ ?_ ?_)
       ·rfl
       all_goals
        (
         clear h
         intro _ _ _ h)) |
      (
       (with_reducible refine Aoy h hD ?_ ?_ ?_)
       ·rfl
       all_goals
        (
         clear h
         intro _ _ _ _ h)) |
      (
       (with_reducible refine Apx h hD ?_ ?_ ?_)
       ·exact xW
       ·exact kW
       (
        clear h
        intro _ _ _ _ h _ _)) |
      (
       (with_reducible refine Adm h hD ?_ ?_ ?_ ?_ ?_)
       ·exact yW
       ·exact xW
       ·exact kW
       all_goals
        (
         clear h
         first | intro _ _ _ _ _ _ h _ _ | intro _ _ _ _ h)) |
      (
       (with_reducible refine Ama h hD ?_ ?_ ?_ ?_ ?_)
       ·exact yW
       ·exact xW
       ·exact kW
       all_goals
        (
         clear h
         first | intro _ _ _ _ _ _ h _ _ | intro _ _ _ _ h)) |
      (
       (with_reducible refine Adv h hD ?_ ?_ ?_ ?_ ?_)
       ·exact yW
       ·exact xW
       ·exact kW
       all_goals
        (
         clear h
         first | intro _ _ _ _ _ h _ _ | intro _ _ _ _ h)) |
      (
       (with_reducible refine Aod h hD ?_ ?_ ?_ ?_ ?_)
       ·exact yW
       ·exact xW
       ·exact kW
       all_goals
        (
         clear h
         first | intro _ _ _ _ _ h _ _ | intro _ _ _ _ h)) |
      (
       with_reducible
        refine Aqc hD (by
         simp only [AOa, AEs, liE, seval]
         rfl) (by
         simp only [AYi, liE, seval]
         rfl) (by kernel_rfl) ?_) | (with_reducible refine ArL hD ?_)) | ((with_reducible refine Ao6 h ?_ ?_) <;> clear h <;> intro h) |
    (
     (with_reducible obtain ⟨H, h⟩ := Amr h)
     subst h
     (try simp (maxSteps := 10000000) (disch := omega) only [vm, wpE, seval, H])
     first |
      refine ArH hR (by
       simp (maxSteps := 10000000) (disch := omega) only [vm, wpE, seval, H]
       rfl) ?_ (by omega) ?_ |
      refine Aq3 hR (by
       simp (maxSteps := 10000000) (disch := omega) only [vm, wpE, seval, H]
       rfl) ?_ (by omega) ?_
     ·(
       first |
        (
         (repeat (first | exact cf _ | apply cy))
         done) |
        (
         simp (maxSteps := 10000000) (disch := omega) only [vm, wpE, seval, H]
         (repeat (first | exact cf _ | apply cy))
         done))
     ·(
       first |
        (
         simp (maxSteps := 10000000) (disch := omega) only [vm, wpE, seval, H]
         done) | rfl)) |
    (
     (with_reducible refine Aqt (by assumption) h ?_ ?_ ?_ (by omega))
     ·exact uW
     ·exact vW
     ·exact kW) |
    (
     (with_reducible refine Aq7 (by assumption) h ?_ ?_ ?_ ?_)
     ·(
       simp (maxSteps := 10000000) (disch := omega) only [vm, wpE, seval, h.1]
       (
        (repeat (first | with_reducible exact SubW.refl _ | refine SubW.keep (by repeat (first | with_reducible exact WkL.nil | refine WkL.cons (Wk.same _) ?_ | refine WkL.cons (Wk.strip _) ?_)) ?_ | apply SubW.drop))
        done))
     ·exact vW
     ·exact kW
     ·(
       simp (maxSteps := 10000000) (disch := omega) only [vm, wpE, seval, h.1]
       omega)) |
    (
     (with_reducible refine ApM h (by assumption) ?_ ?_ ?_ (by omega))
     ·exact uW
     ·exact vW
     ·exact kW) |
    (
     (with_reducible refine ApL h (by assumption) ?_ ?_ ?_ (by omega))
     ·exact uW
     ·exact vW
     ·exact kW) |
    (
     (with_reducible refine Apo h (by assumption) ?_ ?_ ?_ (by omega))
     ·exact uW
     ·exact vW
     ·exact kW) |
    (
     (with_reducible refine ApF h (by assumption) ?_ ?_ ?_ (by omega))
     ·exact uW
     ·exact vW
     ·exact kW) |
    (
     (with_reducible refine Api h (by assumption) ?_ ?_ ?_ (by omega))
     ·exact uW
     ·exact vW
     ·exact kW) | (with_reducible refine ATd ?_ ?_) | (with_reducible exact Aow h) | (simp (maxSteps := 10000000) (disch := omega) only [vm, wpE, seval, h.1]) | (with_reducible obtain ⟨_, h⟩ := Fg h) | (with_reducible rcases Jq h with h | h))) : G := x
variable {E : Env} {c : Code} {n : Nat} {m : MS} {β ρ : Type}
theorem AZ {X B : Option ρ} {f : FuncId} {fn : Func} {nt : Nat} {rs : List ResultVar} {args : List AVal} {er : ρ->AVal} (hx : X = B) (hf : E.P.funcs[f]? = some fn) (hb : fn.body = some c) (hn : fn.ntmps = nt) (hr : fn.results = rs.toArray) (D : DT:=[]) (b : Bool:=false) (w : ∀ (r : ρ) (n : Nat) (m : MS) (R : APost),RH E rs R b m n (er r)->True/\B = some r->DD D->Gl (wpd E D c R (args ++ List.replicate (nt - args.length) .any) ⟨m,n⟩):=by intro r n m R hR h hD;exact tW) : CF E X f args er:=mkF hx hf hb hn hr D b w
theorem G5 {X B : Option ρ} {f : FuncId} {fn : Func} {nt : Nat} {rs : List ResultVar} {args : Nat->List AVal} {pre : Nat->List AVal} {er : ρ->AVal} {post : Nat->ρ->List AVal} (hx : X = B) (hf : E.P.funcs[f]? = some fn) (hb : fn.body = some c) (hn : fn.ntmps = nt) (hr : fn.results = rs.toArray) (D : DT:=[]) (b : Bool:=false) (w : ∀ (r : ρ) (n i : Nat) (m : MS) (R : APost),i < n->RH E rs R b ((i,post i r) :: m) n (er r)->True/\B = some r->DD D->Gl (wpd E D c R (args i ++ List.replicate (nt - (args i).length) .any) ⟨(i,pre i) :: m,n⟩):=by intro r n i m R hin hR h hD;exact tW) : CB E X f args pre er post:=mkB hx hf hb hn hr D b w
theorem AqU {X B : Option ρ} {f : FuncId} {fn : Func} {nt : Nat} {rs : List ResultVar} {pre : Nat->List AVal} {er : ρ->AVal} {post : Nat->ρ->List AVal} (hx : X = B) (hf : E.P.funcs[f]? = some fn) (hb : fn.body = some c) (hn : fn.ntmps = nt) (hr : fn.results = rs.toArray) (D : DT:=[]) (b : Bool:=false) (w : ∀ (r : ρ) (n i j : Nat) (m : MS) (R : APost),i < n->j < n->i ≠ j->RH E rs R b ((i,post i r) :: (j,[.ptr i 0]) :: m) n (er r)->True/\B = some r->DD D->Gl (wpd E D c R ([.ptr j 0] ++ List.replicate (nt - ([.ptr j 0] : List AVal).length) .any) ⟨(i,pre i) :: (j,[.ptr i 0]) :: m,n⟩):=by intro r n i j m R hin hin2 hij hR h hD;exact tW) : CT E X f pre er post:=by
 constructor;intro r n i j m Q h hj hi hne hQ;subst hn;have e : fn.results.toList = rs:=by rw [hr]
 have k9 : ∀ n',n <= n'->Q (er r) ⟨Bz (Bz m i (post i r)) j [.ptr i 0],n'⟩:=λn' k=>by rw [ADw (by rw [PN (ez hne)];exact hj)];exact (hQ n' k).go
 refine ACall.front2 hi hj hne λhin hjn=>?_;cases b with | false=>refine MM hf hb (Fq (w r n i j _ (KP E fn _) hin hjn hne ⟨?_⟩ ⟨trivial,hx ▸ h⟩ ⟨⟩).go);intro af st xs m0 m1 n' h1 h2 h0 h3 h4;subst h0;rw [AVr] at h4;exact ⟨Kc (by rw [e];exact h1) h2 ⟨_,_,rfl,h4 ▸ k9 n' h3⟩,Km (by rw [e];exact h1) h2 ⟨_,_,rfl,h4 ▸ k9 n' h3⟩⟩| true=>refine ACall.strip (MM hf hb (Fq (w r n i j _ (KP E fn λr st'=>_) hin hjn hne ⟨?_⟩ ⟨trivial,hx ▸ h⟩ ⟨⟩).go));intro af st xs m0 m1 n' h1 h2 h0 h3 h4;subst h0;rw [AVk] at h4;exact ⟨Kc (by rw [e];exact h1) h2 ⟨_,_,rfl,by rw [h4];exact k9 n' h3⟩,Km (by rw [e];exact h1) h2 ⟨_,_,rfl,by rw [h4];exact k9 n' h3⟩⟩
end Go.VM
