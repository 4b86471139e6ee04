import Derived.Test.YtfcejbjjeaaleaaGreatDoorVM5
import Derived.KernelRfl
set_option linter.unusedSimpArgs false
set_option linter.unusedVariables false
set_option linter.defProp false
namespace Go.VM
def AuZ := ac (ac (ac (ac (ac (@Aed) (@AnG)) (ac (@Agl) (ac (@Agn) (@Agp)))) (ac (ac (@AZ1) (@Aa0)) (ac (@ATY) (ac (@AiG) (@Afm))))) (ac (ac (ac (@AqO) (@Aqs)) (ac (@AqY) (ac (@Apd) (@ApB)))) (ac (ac (@Arf) (@Aqw)) (ac (@ASr) (ac (@AFC) (@Agw)))))) (ac (ac (ac (ac (@AXB) (@AW7)) (ac (@Aqb) (ac (@Als) (@Atb)))) (ac (ac (@At7) (@Atc)) (ac (@AuF) (ac (@AuH) (@At2))))) (ac (ac (ac (@Ato) (@Ath)) (ac (@Aqi) (ac (@Apn) (@AeU)))) (ac (ac (@Abf) (@Afk)) (ac (@AeR) (ac (@Afd) (@Anq))))))
def wpE := ac AuZ (ac (ac (@Aal) (@Aph)) (ac (ac (ac (@At4) (@Atw)) (ac (@At9) (@Atx))) (ac (@AfG) (ac (@Atu) (@Atg)))))
def aW {G : Prop} (x : G := by first | with_reducible rfl | (simp (maxSteps := 10000000) (disch := omega) only [vm, wpE, seval, h.1]; done) | rfl) : G := x
def uW {G : Prop} (x : G := by first | (simp (maxSteps := 10000000) (disch := omega) only [vm, wpE, seval, h.1]; ((repeat (first | with_reducible exact SubW.refl _ | refine SubW.keep (by repeat (first | with_reducible exact WkL.nil | refine WkL.cons (Wk.same _) ?_ | refine WkL.cons (Wk.strip _) ?_)) ?_ | apply SubW.drop)); done)) | exact SubW.refl _) : G := x
def xW {G : Prop} (x : G := by first | exact SubW.refl _ | (simp (maxSteps := 10000000) (disch := omega) only [vm, wpE, seval, h.1]; ((repeat (first | with_reducible exact SubW.refl _ | refine SubW.keep (by repeat (first | with_reducible exact WkL.nil | refine WkL.cons (Wk.same _) ?_ | refine WkL.cons (Wk.strip _) ?_)) ?_ | apply SubW.drop)); first | done | fail))) : G := x
def kW {G : Prop} (x : G := by first | (simp (maxSteps := 10000000) (disch := omega) only [vm, wpE, seval, h.1]; first | with_reducible exact WkL.refl _ | ((repeat (first | with_reducible exact WkL.nil | refine WkL.cons (Wk.same _) ?_ | refine WkL.cons (Wk.strip _) ?_)); done)) | exact WkL.refl _) : G := x
def vW {G : Prop} (x : G := by first | (simp (maxSteps := 10000000) (disch := omega) only [vm, wpE, seval, h.1]; done) | rfl) : G := x
def yW {G : Prop} (x : G := by first | exact h.1.1 | (simp only [h.1]; done) | omega) : G := x
def sW {G : Prop} (x : G := by simp (maxSteps := 10000000) (disch := omega) only [vm, wpE, seval, h.1]; first | done | fail) : G := x
def tW {G : Prop} (x : G := by
 repeat'
  (
   first | (with_reducible obtain ⟨_, h⟩ := Asm h) | (with_reducible obtain ⟨_, h⟩ := AtI h) |
    (
     (fail_if_success with_reducible have := Fx h)
     (with_reducible obtain ⟨c, h⟩ := Ll h)
     (try simp only [liE, seval] at c)
     replace h := JK c h) |
    (
     (with_reducible obtain ⟨_, c, h⟩ := Att h)
     (first | replace c := bg (List.map (AVal.int .u8)) c | replace c := bg (List.map AVal.str) c | replace c := Aru c | skip)
     (try simp only [aE, bU, eE] at c)
     replace h := JK c h) |
    (
     (with_reducible refine isW ?_)
     simp (maxSteps := 10000000) (disch := omega) only [vm, wpE, seval, h.1]) |
    (
     (with_reducible refine isC ?_)
     first |
      (
       (with_reducible refine Xc h.1.1 ?_ ?_)
       ·exact aW
       intro _ _) |
      (
       (with_reducible refine AQh h.1.1 ?_ ?_ ?_)
       ·exact aW
       ·exact sW
       intro _ _) |
      (
       (with_reducible refine Xc h.1.2.1 ?_ ?_)
       ·exact aW
       intro _ _) |
      (
       (with_reducible refine AQh h.1.2.1 ?_ ?_ ?_)
       ·exact aW
       ·exact sW
       intro _ _) |
      (
       (with_reducible refine Xc h.1.2.2.1 ?_ ?_)
       ·exact aW
       intro _ _) |
      (
       (with_reducible refine AQh h.1.2.2.1 ?_ ?_ ?_)
       ·exact aW
       ·exact sW
       intro _ _) |
      (
       (with_reducible refine Xc h.1.2.2.2.1 ?_ ?_)
       ·exact aW
       intro _ _) |
      (
       (with_reducible refine AQh h.1.2.2.2.1 ?_ ?_ ?_)
       ·exact aW
       ·exact sW
       intro _ _) |
      (
       (with_reducible refine Xc h.1.2.2.2.2.1 ?_ ?_)
       ·exact aW
       intro _ _) |
      (
       (with_reducible refine AQh h.1.2.2.2.2.1 ?_ ?_ ?_)
       ·exact aW
       ·exact sW
       intro _ _) |
      (
       (with_reducible refine AVo h.1.1 ?_ ?_ ?_)
       ·exact aW
       ·exact sW
       intro _ _) |
      (
       (with_reducible refine AVo h.1.2.1 ?_ ?_ ?_)
       ·exact aW
       ·exact sW
       intro _ _) |
      (
       (with_reducible refine AVo h.1.2.2.1 ?_ ?_ ?_)
       ·exact aW
       ·exact sW
       intro _ _) |
      (
       (with_reducible refine ATg h.1.1 ?_ ?_ ?_)
       ·exact aW
       ·exact sW
       intro _ _) |
      (
       (with_reducible refine ATg h.1.2.1 ?_ ?_ ?_)
       ·exact aW
       ·exact sW
       intro _ _) |
      (
       (with_reducible refine ATg h.1.2.2.1 ?_ ?_ ?_)
       ·exact aW
       ·exact sW
       intro _ _) |
      (
       (with_reducible refine Ahu h.1.1 ?_ ?_)
       ·exact aW
       intro _ _ _ _) |
      (
       (with_reducible refine Ahu h.1.2.1 ?_ ?_)
       ·exact aW
       intro _ _ _ _) |
      (
       (with_reducible refine Ahu h.1.2.2.1 ?_ ?_)
       ·exact aW
       intro _ _ _ _) |
      (
       (with_reducible apply Aho h.1.1)
       ·(
         first | with_reducible rfl |
          (
           simp (maxSteps := 10000000) (disch := omega) only [vm, wpE, seval, h.1]
           rfl))
       ·exact sW
       ·omega
       intro _ _) |
      (
       (with_reducible apply Aho h.1.2.1)
       ·(
         first | with_reducible rfl |
          (
           simp (maxSteps := 10000000) (disch := omega) only [vm, wpE, seval, h.1]
           rfl))
       ·exact sW
       ·omega
       intro _ _) |
      (
       (with_reducible apply Aho h.1.2.2.1)
       ·(
         first | with_reducible rfl |
          (
           simp (maxSteps := 10000000) (disch := omega) only [vm, wpE, seval, h.1]
           rfl))
       ·exact sW
       ·omega
       intro _ _) |
      (
       (with_reducible refine AWW h.1.1 ?_ ?_ ?_)
       ·exact aW
       ·exact sW
       intro _ _) |
      (
       (with_reducible refine AVA h.1.1 ?_ ?_ ?_)
       ·exact aW
       ·exact sW
       intro _ _) |
      (
       (with_reducible refine AWW h.1.2.1 ?_ ?_ ?_)
       ·exact aW
       ·exact sW
       intro _ _) |
      (
       (with_reducible refine AVA h.1.2.1 ?_ ?_ ?_)
       ·exact aW
       ·exact sW
       intro _ _) |
      (
       (with_reducible refine AWW h.1.2.2.1 ?_ ?_ ?_)
       ·exact aW
       ·exact sW
       intro _ _) |
      (
       (with_reducible refine AVA h.1.2.2.1 ?_ ?_ ?_)
       ·exact aW
       ·exact sW
       intro _ _) |
      (
       (with_reducible refine Xc h.1.2.2.2.2.2.1 ?_ ?_)
       ·exact aW
       intro _ _) |
      (
       (with_reducible refine Xc h.1.2.2.2.2.2.2.1 ?_ ?_)
       ·exact aW
       intro _ _) |
      (
       (with_reducible refine Xc h.1.2.2.2.2.2.2.2.1 ?_ ?_)
       ·exact aW
       intro _ _) |
      (
       (with_reducible refine Xc h.1.2.2.2.2.2.2.2.2.1 ?_ ?_)
       ·exact aW
       intro _ _)) | (with_reducible refine Asf ?_) |
    (
     (with_reducible refine isA ?_)
     first |
      (
       (with_reducible refine Asb h hD ?_ ?_ ?_)
       ·rfl
       all_goals
        (
         clear h
         intro _ _ _ h)) |
      (
       (with_reducible refine Aoc h hD ?_ ?_ ?_)
       ·rfl
       all_goals
        (
         clear h
         intro _ _ _ h)) |
      (
       (with_reducible refine AtE h hD ?_ ?_ ?_)
       ·rfl
       all_goals
        (
         clear h
         intro _ _ _ _ h)) |
      (
       (with_reducible refine AsD h hD ?_ ?_ ?_)
       ·exact xW
       ·exact kW
       (
        clear h
        intro _ _ _ _ h _ _)) |
      (
       (with_reducible refine Ai0 h hD ?_ ?_ ?_ ?_ ?_)
       ·exact yW
       ·exact xW
       ·exact kW
       all_goals
        (
         clear h
         first | intro _ _ _ _ _ _ h _ _ | intro _ _ _ _ h)) |
      (
       (with_reducible refine ApM h hD ?_ ?_ ?_ ?_ ?_)
       ·exact yW
       ·exact xW
       ·exact kW
       all_goals
        (
         clear h
         first | intro _ _ _ _ _ _ h _ _ | intro _ _ _ _ h)) |
      (
       (with_reducible refine Agb h hD ?_ ?_ ?_ ?_ ?_)
       ·exact yW
       ·exact xW
       ·exact kW
       all_goals
        (
         clear h
         first | intro _ _ _ _ _ h _ _ | intro _ _ _ _ h)) |
      (
       (with_reducible refine AqP h hD ?_ ?_ ?_ ?_ ?_)
       ·exact yW
       ·exact xW
       ·exact kW
       all_goals
        (
         clear h
         first | intro _ _ _ _ _ h _ _ | intro _ _ _ _ h)) |
      (
       with_reducible
        refine AuY hD (by
         simp only [ASr, AFC, liE, seval]
         rfl) (by
         simp only [AYz, liE, seval]
         rfl) (by kernel_rfl) ?_) | (with_reducible refine At3 hD ?_)) | ((with_reducible refine AsB h ?_ ?_) <;> clear h <;> intro h) |
    (
     (with_reducible obtain ⟨H, h⟩ := Aq5 h)
     subst h
     (try simp (maxSteps := 10000000) (disch := omega) only [vm, wpE, seval, H])
     first |
      refine AuT hR (by
       simp (maxSteps := 10000000) (disch := omega) only [vm, wpE, seval, H]
       rfl) ?_ (by omega) ?_ |
      refine Atk hR (by
       simp (maxSteps := 10000000) (disch := omega) only [vm, wpE, seval, H]
       rfl) ?_ (by omega) ?_
     ·(
       first |
        (
         (repeat (first | exact cm _ | apply cF))
         done) |
        (
         simp (maxSteps := 10000000) (disch := omega) only [vm, wpE, seval, H]
         (repeat (first | exact cm _ | apply cF))
         done))
     ·(
       first |
        (
         simp (maxSteps := 10000000) (disch := omega) only [vm, wpE, seval, H]
         done) | rfl)) |
    (
     (with_reducible refine AuL (by assumption) h ?_ ?_ ?_ (by omega))
     ·exact uW
     ·exact vW
     ·exact kW) |
    (
     (with_reducible refine AuS (by assumption) h ?_ ?_ ?_ ?_)
     ·(
       simp (maxSteps := 10000000) (disch := omega) only [vm, wpE, seval, h.1]
       (
        (repeat (first | with_reducible exact SubW.refl _ | refine SubW.keep (by repeat (first | with_reducible exact WkL.nil | refine WkL.cons (Wk.same _) ?_ | refine WkL.cons (Wk.strip _) ?_)) ?_ | apply SubW.drop))
        done))
     ·exact vW
     ·exact kW
     ·(
       simp (maxSteps := 10000000) (disch := omega) only [vm, wpE, seval, h.1]
       omega)) |
    (
     (with_reducible refine AtL h (by assumption) ?_ ?_ ?_ (by omega))
     ·exact uW
     ·exact vW
     ·exact kW) |
    (
     (with_reducible refine Ar4 h (by assumption) ?_ ?_ ?_ (by omega))
     ·exact uW
     ·exact vW
     ·exact kW) |
    (
     (with_reducible refine As5 h (by assumption) ?_ ?_ ?_ (by omega))
     ·exact uW
     ·exact vW
     ·exact kW) |
    (
     (with_reducible refine AtJ h (by assumption) ?_ ?_ ?_ (by omega))
     ·exact uW
     ·exact vW
     ·exact kW) |
    (
     (with_reducible refine As4 h (by assumption) ?_ ?_ ?_ (by omega))
     ·exact uW
     ·exact vW
     ·exact kW) | (with_reducible refine AWU ?_ ?_) | (with_reducible exact Asr h) | (simp (maxSteps := 10000000) (disch := omega) only [vm, wpE, seval, h.1]) | (with_reducible obtain ⟨_, h⟩ := Fx h) | (with_reducible rcases KA h with h | h) | (simp only [AB] at h))) : G := x
variable {E : Env} {c : Code} {n : Nat} {m : MS} {β ρ : Type}
theorem AX {X B : Option ρ} {f : FuncId} {fn : Func} {nt : Nat} {rs : List ResultVar} {args : List AVal} {er : ρ->AVal} (hx : X = B) (hf : E.P.funcs[f]? = some fn) (hb : fn.body = some c) (hn : fn.ntmps = nt) (hr : fn.results = rs.toArray) (D : DT:=[]) (b : Bool:=false) (w : ∀ (r : ρ) (n : Nat) (m : MS) (R : APost),RH E rs R b m n (er r)->True/\B = some r->DD D->Gl (wpd E D c R (args ++ List.replicate (nt - args.length) .any) ⟨m,n⟩):=by intro r n m R hR h hD;exact tW) : CF E X f args er:=mkF hx hf hb hn hr D b w
theorem IB {X B : Option ρ} {f : FuncId} {fn : Func} {nt : Nat} {rs : List ResultVar} {args : Nat->List AVal} {pre : Nat->List AVal} {er : ρ->AVal} {post : Nat->ρ->List AVal} (hx : X = B) (hf : E.P.funcs[f]? = some fn) (hb : fn.body = some c) (hn : fn.ntmps = nt) (hr : fn.results = rs.toArray) (D : DT:=[]) (b : Bool:=false) (w : ∀ (r : ρ) (n i : Nat) (m : MS) (R : APost),i < n->RH E rs R b ((i,post i r) :: m) n (er r)->True/\B = some r->DD D->Gl (wpd E D c R (args i ++ List.replicate (nt - (args i).length) .any) ⟨(i,pre i) :: m,n⟩):=by intro r n i m R hin hR h hD;exact tW) : CB E X f args pre er post:=mkB hx hf hb hn hr D b w
theorem AuJ {X B : Option ρ} {f : FuncId} {fn : Func} {nt : Nat} {rs : List ResultVar} {pre : Nat->List AVal} {er : ρ->AVal} {post : Nat->ρ->List AVal} (hx : X = B) (hf : E.P.funcs[f]? = some fn) (hb : fn.body = some c) (hn : fn.ntmps = nt) (hr : fn.results = rs.toArray) (D : DT:=[]) (b : Bool:=false) (w : ∀ (r : ρ) (n i j : Nat) (m : MS) (R : APost),i < n->j < n->i ≠ j->RH E rs R b ((i,post i r) :: (j,[.ptr i 0]) :: m) n (er r)->True/\B = some r->DD D->Gl (wpd E D c R ([.ptr j 0] ++ List.replicate (nt - ([.ptr j 0] : List AVal).length) .any) ⟨(i,pre i) :: (j,[.ptr i 0]) :: m,n⟩):=by intro r n i j m R hin hin2 hij hR h hD;exact tW) : CT E X f pre er post:=by
 constructor;intro r n i j m Q h hj hi hne hQ;subst hn;have e : fn.results.toList = rs:=by rw [hr]
 have k9 : ∀ n',n <= n'->Q (er r) ⟨CU (CU m i (post i r)) j [.ptr i 0],n'⟩:=λn' k=>by rw [AFZ (by rw [P5 (eH hne)];exact hj)];exact (hQ n' k).go
 refine ACall.front2 hi hj hne λhin hjn=>?_;cases b with | false=>refine Mq hf hb (F4 (w r n i j _ (Ko E fn _) hin hjn hne ⟨?_⟩ ⟨trivial,hx ▸ h⟩ ⟨⟩).go);intro af st xs m0 m1 n' h1 h2 h0 h3 h4;subst h0;rw [AW7] at h4;exact ⟨LM (by rw [e];exact h1) h2 ⟨_,_,rfl,h4 ▸ k9 n' h3⟩,LH (by rw [e];exact h1) h2 ⟨_,_,rfl,h4 ▸ k9 n' h3⟩⟩| true=>refine ACall.strip (Mq hf hb (F4 (w r n i j _ (Ko E fn λr st'=>_) hin hjn hne ⟨?_⟩ ⟨trivial,hx ▸ h⟩ ⟨⟩).go));intro af st xs m0 m1 n' h1 h2 h0 h3 h4;subst h0;rw [AXB] at h4;exact ⟨LM (by rw [e];exact h1) h2 ⟨_,_,rfl,by rw [h4];exact k9 n' h3⟩,LH (by rw [e];exact h1) h2 ⟨_,_,rfl,by rw [h4];exact k9 n' h3⟩⟩
end Go.VM
