import Derived.Test.YtgfgogdgnkaedaaGreatDoorVM5
import Derived.KernelRfl
set_option linter.unusedSimpArgs false
set_option linter.unusedVariables false
set_option linter.defProp false
namespace Go.VM
def AuA := ac (ac (ac (ac (ac (@Ahf) (@AlO)) (ac (@Aes) (ac (@AdS) (@Ad8)))) (ac (ac (@AWs) (@AZx)) (ac (@ASM) (ac (@Aff) (@AgL))))) (ac (ac (ac (@Art) (@Aqr)) (ac (@Aqg) (ac (@ApH) (@Apk)))) (ac (ac (@AqO) (@Ar5)) (ac (@AQ2) (ac (@ACh) (@Aeo)))))) (ac (ac (ac (ac (@AWS) (@AVm)) (ac (@Aqm) (ac (@AnP) (@Aup)))) (ac (ac (@Aug) (@Auu)) (ac (@Aub) (ac (@AuP) (@Auy))))) (ac (ac (ac (@Au3) (@At3)) (ac (@ApG) (ac (@Apb) (@AhD)))) (ac (ac (@AXK) (@AhX)) (ac (@Ad1) (ac (@AeZ) (@An0))))))
def wpE := ac AuA (ac (ac (@AXS) (@Ao1)) (ac (ac (ac (@Aud) (@Aun)) (ac (@AuW) (@Aui))) (ac (ac (@Agm) (@AnY)) (ac (@AuY) (@Auv)))))
theorem aW {G : Prop} (x : G := by first | with_reducible rfl | (simp (maxSteps := 10000000) (disch := omega) only [vm, wpE, seval, h.1]; done) | rfl) : G := x
theorem uW {G : Prop} (x : G := by first | (simp (maxSteps := 10000000) (disch := omega) only [vm, wpE, seval, h.1]; ((repeat (first | with_reducible exact SubW.refl _ | refine SubW.keep (by repeat (first | with_reducible exact WkL.nil | refine WkL.cons (Wk.same _) ?_ | refine WkL.cons (Wk.strip _) ?_)) ?_ | apply SubW.drop)); done)) | exact SubW.refl _) : G := x
theorem xW {G : Prop} (x : G := by first | exact SubW.refl _ | (simp (maxSteps := 10000000) (disch := omega) only [vm, wpE, seval, h.1]; ((repeat (first | with_reducible exact SubW.refl _ | refine SubW.keep (by repeat (first | with_reducible exact WkL.nil | refine WkL.cons (Wk.same _) ?_ | refine WkL.cons (Wk.strip _) ?_)) ?_ | apply SubW.drop)); first | done | fail))) : G := x
theorem kW {G : Prop} (x : G := by first | (simp (maxSteps := 10000000) (disch := omega) only [vm, wpE, seval, h.1]; first | with_reducible exact WkL.refl _ | ((repeat (first | with_reducible exact WkL.nil | refine WkL.cons (Wk.same _) ?_ | refine WkL.cons (Wk.strip _) ?_)); done)) | exact WkL.refl _) : G := x
theorem vW {G : Prop} (x : G := by first | (simp (maxSteps := 10000000) (disch := omega) only [vm, wpE, seval, h.1]; done) | rfl) : G := x
theorem yW {G : Prop} (x : G := by first | exact h.1.1 | (simp only [h.1]; done) | omega) : G := x
theorem sW {G : Prop} (x : G := by simp (maxSteps := 10000000) (disch := omega) only [vm, wpE, seval, h.1]; first | done | fail) : G := x
theorem tW {G : Prop} (x : G := by
 repeat'
  (
   first | (with_reducible obtain ⟨_, h⟩ := AtL h) | (with_reducible obtain ⟨_, h⟩ := AtS h) |
    (
     (fail_if_success with_reducible have := FQ h)
     (with_reducible obtain ⟨c, h⟩ := MK h)
     (try simp only [liE, seval] at c)
     replace h := J4 c h) |
    (
     (with_reducible obtain ⟨_, c, h⟩ := Au0 h)
     (first | replace c := ac (bl (List.map (AVal.int .u8)) c) (bl (List.map (AVal.int .i64)) c) | replace c := bl (List.map AVal.str) c | replace c := As2 c | skip)
     (try simp only [aE, cc, eE] at c)
     replace h := J4 c h) |
    (
     (with_reducible refine isW ?_)
     simp (maxSteps := 10000000) (disch := omega) only [vm, wpE, seval, h.1]) |
    (
     (with_reducible refine isC ?_)
     first |
      (
       (with_reducible refine VF h.1.1 ?_ ?_)
       ·exact aW
       intro _ _) |
      (
       (with_reducible refine AQK h.1.1 ?_ ?_ ?_)
       ·exact aW
       ·exact sW
       intro _ _) |
      (
       (with_reducible refine VF h.1.2.1 ?_ ?_)
       ·exact aW
       intro _ _) |
      (
       (with_reducible refine AQK h.1.2.1 ?_ ?_ ?_)
       ·exact aW
       ·exact sW
       intro _ _) |
      (
       (with_reducible refine VF h.1.2.2.1 ?_ ?_)
       ·exact aW
       intro _ _) |
      (
       (with_reducible refine AQK h.1.2.2.1 ?_ ?_ ?_)
       ·exact aW
       ·exact sW
       intro _ _) |
      (
       (with_reducible refine VF h.1.2.2.2.1 ?_ ?_)
       ·exact aW
       intro _ _) |
      (
       (with_reducible refine AQK h.1.2.2.2.1 ?_ ?_ ?_)
       ·exact aW
       ·exact sW
       intro _ _) |
      (
       (with_reducible refine VF h.1.2.2.2.2.1 ?_ ?_)
       ·exact aW
       intro _ _) |
      (
       (with_reducible refine AQK h.1.2.2.2.2.1 ?_ ?_ ?_)
       ·exact aW
       ·exact sW
       intro _ _) |
      (
       (with_reducible refine ATz h.1.1 ?_ ?_ ?_)
       ·exact aW
       ·exact sW
       intro _ _) |
      (
       (with_reducible refine ATz h.1.2.1 ?_ ?_ ?_)
       ·exact aW
       ·exact sW
       intro _ _) |
      (
       (with_reducible refine ATz h.1.2.2.1 ?_ ?_ ?_)
       ·exact aW
       ·exact sW
       intro _ _) |
      (
       (with_reducible refine ARm h.1.1 ?_ ?_ ?_)
       ·exact aW
       ·exact sW
       intro _ _) |
      (
       (with_reducible refine ARm h.1.2.1 ?_ ?_ ?_)
       ·exact aW
       ·exact sW
       intro _ _) |
      (
       (with_reducible refine ARm h.1.2.2.1 ?_ ?_ ?_)
       ·exact aW
       ·exact sW
       intro _ _) |
      (
       (with_reducible refine Ahl h.1.1 ?_ ?_)
       ·exact aW
       intro _ _ _ _) |
      (
       (with_reducible refine Ahl h.1.2.1 ?_ ?_)
       ·exact aW
       intro _ _ _ _) |
      (
       (with_reducible refine Ahl h.1.2.2.1 ?_ ?_)
       ·exact aW
       intro _ _ _ _) |
      (
       (with_reducible apply Ad9 h.1.1)
       ·(
         first | with_reducible rfl |
          (
           simp (maxSteps := 10000000) (disch := omega) only [vm, wpE, seval, h.1]
           rfl))
       ·exact sW
       ·omega
       intro _ _) |
      (
       (with_reducible apply Ad9 h.1.2.1)
       ·(
         first | with_reducible rfl |
          (
           simp (maxSteps := 10000000) (disch := omega) only [vm, wpE, seval, h.1]
           rfl))
       ·exact sW
       ·omega
       intro _ _) |
      (
       (with_reducible apply Ad9 h.1.2.2.1)
       ·(
         first | with_reducible rfl |
          (
           simp (maxSteps := 10000000) (disch := omega) only [vm, wpE, seval, h.1]
           rfl))
       ·exact sW
       ·omega
       intro _ _) |
      (
       (with_reducible refine AR8 h.1.1 ?_ ?_ ?_)
       ·exact aW
       ·exact sW
       intro _ _) |
      (
       (with_reducible refine ARn h.1.1 ?_ ?_ ?_)
       ·exact aW
       ·exact sW
       intro _ _) |
      (
       (with_reducible refine AR8 h.1.2.1 ?_ ?_ ?_)
       ·exact aW
       ·exact sW
       intro _ _) |
      (
       (with_reducible refine ARn h.1.2.1 ?_ ?_ ?_)
       ·exact aW
       ·exact sW
       intro _ _) |
      (
       (with_reducible refine AR8 h.1.2.2.1 ?_ ?_ ?_)
       ·exact aW
       ·exact sW
       intro _ _) |
      (
       (with_reducible refine ARn h.1.2.2.1 ?_ ?_ ?_)
       ·exact aW
       ·exact sW
       intro _ _) |
      (
       (with_reducible refine VF h.1.2.2.2.2.2.1 ?_ ?_)
       ·exact aW
       intro _ _) |
      (
       (with_reducible refine VF h.1.2.2.2.2.2.2.1 ?_ ?_)
       ·exact aW
       intro _ _) |
      (
       (with_reducible refine VF h.1.2.2.2.2.2.2.2.1 ?_ ?_)
       ·exact aW
       intro _ _) |
      (
       (with_reducible refine VF h.1.2.2.2.2.2.2.2.2.1 ?_ ?_)
       ·exact aW
       intro _ _)) | (with_reducible refine Atj ?_) |
    (
     (with_reducible refine isA ?_)
     first |
      (
       (with_reducible refine AtC h hD ?_ ?_ ?_)
       ·rfl
       all_goals
        (
         clear h
         intro _ _ _ h)) |
      (
       (with_reducible refine AoH h hD ?_ ?_ ?_)
       ·rfl
       all_goals
        (
         clear h
         intro _ _ _ h)) |
      (
       (with_reducible refine AtQ h hD ?_ ?_ ?_)
       ·rfl
       all_goals
        (
         clear h
         intro _ _ _ _ h)) |
      (
       (with_reducible refine Asg h hD ?_ ?_ ?_)
       ·exact xW
       ·exact kW
       (
        clear h
        intro _ _ _ _ h _ _)) |
      (
       (with_reducible refine Ah2 h hD ?_ ?_ ?_ ?_ ?_)
       ·exact yW
       ·exact xW
       ·exact kW
       all_goals
        (
         clear h
         first | intro _ _ _ _ _ _ h _ _ | intro _ _ _ _ h)) |
      (
       (with_reducible refine Apz h hD ?_ ?_ ?_ ?_ ?_)
       ·exact yW
       ·exact xW
       ·exact kW
       all_goals
        (
         clear h
         first | intro _ _ _ _ _ _ h _ _ | intro _ _ _ _ h)) |
      (
       (with_reducible refine AiA h hD ?_ ?_ ?_ ?_ ?_)
       ·exact yW
       ·exact xW
       ·exact kW
       all_goals
        (
         clear h
         first | intro _ _ _ _ _ h _ _ | intro _ _ _ _ h)) |
      (
       (with_reducible refine ApX h hD ?_ ?_ ?_ ?_ ?_)
       ·exact yW
       ·exact xW
       ·exact kW
       all_goals
        (
         clear h
         first | intro _ _ _ _ _ h _ _ | intro _ _ _ _ h)) |
      (
       with_reducible
        refine Auq hD (by
         simp only [AQ2, ACh, liE, seval]
         rfl) (by
         simp only [Aa9, liE, seval]
         rfl) (by kernel_rfl) ?_) | (with_reducible refine Auw hD ?_)) | ((with_reducible refine Atp h ?_ ?_) <;> clear h <;> intro h) |
    (
     (with_reducible obtain ⟨H, h⟩ := Apc h)
     subst h
     (try simp (maxSteps := 10000000) (disch := omega) only [vm, wpE, seval, H])
     first |
      refine AuN hR (by
       simp (maxSteps := 10000000) (disch := omega) only [vm, wpE, seval, H]
       rfl) ?_ (by omega) ?_ |
      refine AuO hR (by
       simp (maxSteps := 10000000) (disch := omega) only [vm, wpE, seval, H]
       rfl) ?_ (by omega) ?_
     ·(
       first |
        (
         (repeat (first | exact bM _ | apply cn))
         done) |
        (
         simp (maxSteps := 10000000) (disch := omega) only [vm, wpE, seval, H]
         (repeat (first | exact bM _ | apply cn))
         done))
     ·(
       first |
        (
         simp (maxSteps := 10000000) (disch := omega) only [vm, wpE, seval, H]
         done) | rfl)) |
    (
     (with_reducible refine Au1 (by assumption) h ?_ ?_ ?_ (by omega))
     ·exact uW
     ·exact vW
     ·exact kW) |
    (
     (with_reducible refine AuD (by assumption) h ?_ ?_ ?_ ?_)
     ·(
       simp (maxSteps := 10000000) (disch := omega) only [vm, wpE, seval, h.1]
       (
        (repeat (first | with_reducible exact SubW.refl _ | refine SubW.keep (by repeat (first | with_reducible exact WkL.nil | refine WkL.cons (Wk.same _) ?_ | refine WkL.cons (Wk.strip _) ?_)) ?_ | apply SubW.drop))
        done))
     ·exact vW
     ·exact kW
     ·(
       simp (maxSteps := 10000000) (disch := omega) only [vm, wpE, seval, h.1]
       omega)) |
    (
     (with_reducible refine AsI h (by assumption) ?_ ?_ ?_ (by omega))
     ·exact uW
     ·exact vW
     ·exact kW) |
    (
     (with_reducible refine AsD h (by assumption) ?_ ?_ ?_ (by omega))
     ·exact uW
     ·exact vW
     ·exact kW) |
    (
     (with_reducible refine AtB h (by assumption) ?_ ?_ ?_ (by omega))
     ·exact uW
     ·exact vW
     ·exact kW) |
    (
     (with_reducible refine Asy h (by assumption) ?_ ?_ ?_ (by omega))
     ·exact uW
     ·exact vW
     ·exact kW) |
    (
     (with_reducible refine AsR h (by assumption) ?_ ?_ ?_ (by omega))
     ·exact uW
     ·exact vW
     ·exact kW) | (with_reducible refine AU5 ?_ ?_) | (with_reducible exact Asf h) | (simp (maxSteps := 10000000) (disch := omega) only [vm, wpE, seval, h.1]) | (with_reducible obtain ⟨_, h⟩ := FQ h) | (with_reducible rcases KH h with h | h) | (simp only [AA] at h))) : G := x
variable {E : Env} {c : Code} {n : Nat} {m : MS} {β ρ : Type}
theorem AV {X B : Option ρ} {f : FuncId} {fn : Func} {nt : Nat} {rs : List ResultVar} {args : List AVal} {er : ρ→AVal} (hx : X = B) (hf : E.P.funcs[f]? = some fn) (hb : fn.body = some c) (hn : fn.ntmps = nt) (hr : fn.results = rs.toArray) (D : DT:=[]) (b : Bool:=false) (w : ∀ (r : ρ) (n : Nat) (m : MS) (R : APost),RH E rs R b m n (er r)→True∧B = some r→DD D→Gl (wpd E D c R (args ++ List.replicate (nt - args.length) .any) ⟨m,n⟩):=by intro r n m R hR h hD;exact tW) : CF E X f args er:=mkF hx hf hb hn hr D b w
theorem Gq {X B : Option ρ} {f : FuncId} {fn : Func} {nt : Nat} {rs : List ResultVar} {args : Nat→List AVal} {pre : Nat→List AVal} {er : ρ→AVal} {post : Nat→ρ→List AVal} (hx : X = B) (hf : E.P.funcs[f]? = some fn) (hb : fn.body = some c) (hn : fn.ntmps = nt) (hr : fn.results = rs.toArray) (D : DT:=[]) (b : Bool:=false) (w : ∀ (r : ρ) (n i : Nat) (m : MS) (R : APost),i < n→RH E rs R b ((i,post i r) :: m) n (er r)→True∧B = some r→DD D→Gl (wpd E D c R (args i ++ List.replicate (nt - (args i).length) .any) ⟨(i,pre i) :: m,n⟩):=by intro r n i m R hin hR h hD;exact tW) : CB E X f args pre er post:=mkB hx hf hb hn hr D b w
theorem AuM {X B : Option ρ} {f : FuncId} {fn : Func} {nt : Nat} {rs : List ResultVar} {pre : Nat→List AVal} {er : ρ→AVal} {post : Nat→ρ→List AVal} (hx : X = B) (hf : E.P.funcs[f]? = some fn) (hb : fn.body = some c) (hn : fn.ntmps = nt) (hr : fn.results = rs.toArray) (D : DT:=[]) (b : Bool:=false) (w : ∀ (r : ρ) (n i j : Nat) (m : MS) (R : APost),i < n→j < n→i ≠ j→RH E rs R b ((i,post i r) :: (j,[.ptr i 0]) :: m) n (er r)→True∧B = some r→DD D→Gl (wpd E D c R ([.ptr j 0] ++ List.replicate (nt - ([.ptr j 0] : List AVal).length) .any) ⟨(i,pre i) :: (j,[.ptr i 0]) :: m,n⟩):=by intro r n i j m R hin hin2 hij hR h hD;exact tW) : CT E X f pre er post:=by
 constructor;intro r n i j m Q h hj hi hne hQ;subst hn;have e : fn.results.toList = rs:=by rw [hr]
 have k9 : ∀ n',n ≤ n'→Q (er r) ⟨Ar (Ar m i (post i r)) j [.ptr i 0],n'⟩:=fun n' k=>by rw [ACW (by rw [Oe (du hne)];exact hj)];exact (hQ n' k).go
 refine ACall.front2 hi hj hne fun hin hjn=>?_;cases b with | false=>refine LD hf hb (EW (w r n i j _ (JY E fn _) hin hjn hne ⟨?_⟩ ⟨trivial,hx ▸ h⟩ ⟨⟩).go);intro af st xs m0 m1 n' h1 h2 h0 h3 h4;subst h0;rw [AVm] at h4;exact ⟨Jt (by rw [e];exact h1) h2 ⟨_,_,rfl,h4 ▸ k9 n' h3⟩,Js (by rw [e];exact h1) h2 ⟨_,_,rfl,h4 ▸ k9 n' h3⟩⟩| true=>refine ACall.strip (LD hf hb (EW (w r n i j _ (JY E fn fun r st'=>_) hin hjn hne ⟨?_⟩ ⟨trivial,hx ▸ h⟩ ⟨⟩).go));intro af st xs m0 m1 n' h1 h2 h0 h3 h4;subst h0;rw [AWS] at h4;exact ⟨Jt (by rw [e];exact h1) h2 ⟨_,_,rfl,by rw [h4];exact k9 n' h3⟩,Js (by rw [e];exact h1) h2 ⟨_,_,rfl,by rw [h4];exact k9 n' h3⟩⟩
end Go.VM
