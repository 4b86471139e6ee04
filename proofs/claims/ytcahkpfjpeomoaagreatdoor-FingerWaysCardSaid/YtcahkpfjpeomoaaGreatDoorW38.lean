import Derived.Test.YtcahkpfjpeomoaaGreatDoorW32
set_option linter.unusedVariables false
set_option linter.unusedSimpArgs false
set_option maxHeartbeats 0
set_option maxRecDepth 100000
set_option linter.defProp false
namespace Go.Proofs.YtcahkpfjpeomoaaGreatDoor
open Go.VM
theorem tW {G : Prop} (x : G := by
  repeat' (first
      | (with_reducible obtain ⟨_, h⟩ := Af2 h)
      | (with_reducible obtain ⟨_, h⟩ := Ag0 h)
      | ((fail_if_success with_reducible have := Cu h)
         (with_reducible obtain ⟨c, h⟩ := Ho h)
         (try simp only [liE, seval] at c)
         replace h := EY c h)
      | ((with_reducible obtain ⟨_, c, h⟩ := Aho h)
         (first | replace c := congrArg (List.map (AVal.int .i64)) c | replace c := congrArg (List.map AVal.str) c | replace c := AgO c | skip)
         (try simp only [List.map_cons, List.map_nil, eE] at c)
         replace h := EY c h)
      | ((with_reducible refine isW ?_)
         simp (maxSteps := 10000000) (disch := omega) only [vm, wpE, seval, h.1])
      | ((with_reducible refine isC ?_)
         first
           | ((with_reducible refine SH h.1.1 ?_ ?_)
              · exact aW
              intro _ _)
           | ((with_reducible refine AJL h.1.1 ?_ ?_ ?_)
              · exact aW
              · exact sW
              intro _ _)
           | ((with_reducible refine SH h.1.2.1 ?_ ?_)
              · exact aW
              intro _ _)
           | ((with_reducible refine AJL h.1.2.1 ?_ ?_ ?_)
              · exact aW
              · exact sW
              intro _ _)
           | ((with_reducible refine SH h.1.2.2.1 ?_ ?_)
              · exact aW
              intro _ _)
           | ((with_reducible refine AJL h.1.2.2.1 ?_ ?_ ?_)
              · exact aW
              · exact sW
              intro _ _)
           | ((with_reducible refine SH h.1.2.2.2.1 ?_ ?_)
              · exact aW
              intro _ _)
           | ((with_reducible refine AJL h.1.2.2.2.1 ?_ ?_ ?_)
              · exact aW
              · exact sW
              intro _ _)
           | ((with_reducible refine SH h.1.2.2.2.2.1 ?_ ?_)
              · exact aW
              intro _ _)
           | ((with_reducible refine AJL h.1.2.2.2.2.1 ?_ ?_ ?_)
              · exact aW
              · exact sW
              intro _ _)
           | ((with_reducible refine ANP h.1.1 ?_ ?_ ?_)
              · exact aW
              · exact sW
              intro _ _)
           | ((with_reducible refine ANP h.1.2.1 ?_ ?_ ?_)
              · exact aW
              · exact sW
              intro _ _)
           | ((with_reducible refine ANP h.1.2.2.1 ?_ ?_ ?_)
              · exact aW
              · exact sW
              intro _ _)
           | ((with_reducible refine ALi h.1.1 ?_ ?_ ?_)
              · exact aW
              · exact sW
              intro _ _)
           | ((with_reducible refine ALi h.1.2.1 ?_ ?_ ?_)
              · exact aW
              · exact sW
              intro _ _)
           | ((with_reducible refine ALi h.1.2.2.1 ?_ ?_ ?_)
              · exact aW
              · exact sW
              intro _ _)
           | ((with_reducible refine AXT h.1.1 ?_ ?_)
              · exact aW
              intro _ _ _ _)
           | ((with_reducible refine AXT h.1.2.1 ?_ ?_)
              · exact aW
              intro _ _ _ _)
           | ((with_reducible refine AXT h.1.2.2.1 ?_ ?_)
              · exact aW
              intro _ _ _ _)
           | ((with_reducible apply AZC h.1.1)
              · (first | with_reducible rfl | (simp (maxSteps := 10000000) (disch := omega) only [vm, wpE, seval, h.1]; rfl))
              · exact sW
              · omega
              intro _ _)
           | ((with_reducible apply AZC h.1.2.1)
              · (first | with_reducible rfl | (simp (maxSteps := 10000000) (disch := omega) only [vm, wpE, seval, h.1]; rfl))
              · exact sW
              · omega
              intro _ _)
           | ((with_reducible apply AZC h.1.2.2.1)
              · (first | with_reducible rfl | (simp (maxSteps := 10000000) (disch := omega) only [vm, wpE, seval, h.1]; rfl))
              · exact sW
              · omega
              intro _ _)
           | ((with_reducible refine ANQ h.1.1 ?_ ?_ ?_)
              · exact aW
              · exact sW
              intro _ _)
           | ((with_reducible refine AL1 h.1.1 ?_ ?_ ?_)
              · exact aW
              · exact sW
              intro _ _)
           | ((with_reducible refine ANQ h.1.2.1 ?_ ?_ ?_)
              · exact aW
              · exact sW
              intro _ _)
           | ((with_reducible refine AL1 h.1.2.1 ?_ ?_ ?_)
              · exact aW
              · exact sW
              intro _ _)
           | ((with_reducible refine ANQ h.1.2.2.1 ?_ ?_ ?_)
              · exact aW
              · exact sW
              intro _ _)
           | ((with_reducible refine AL1 h.1.2.2.1 ?_ ?_ ?_)
              · exact aW
              · exact sW
              intro _ _)
           | ((with_reducible refine SH h.1.2.2.2.2.2.1 ?_ ?_)
              · exact aW
              intro _ _)
           | ((with_reducible refine SH h.1.2.2.2.2.2.2.1 ?_ ?_)
              · exact aW
              intro _ _)
           | ((with_reducible refine SH h.1.2.2.2.2.2.2.2.1 ?_ ?_)
              · exact aW
              intro _ _)
           | ((with_reducible refine SH h.1.2.2.2.2.2.2.2.2.1 ?_ ?_)
              · exact aW
              intro _ _))
      | (with_reducible refine Agd ?_)
      | ((with_reducible refine isA ?_)
         first
           | ((with_reducible refine AgH h hD ?_ ?_ ?_)
              · rfl
              all_goals (clear h; intro _ _ _ h))
           | ((with_reducible refine Acz h hD ?_ ?_ ?_)
              · rfl
              all_goals (clear h; intro _ _ _ h))
           | ((with_reducible refine AgI h hD ?_ ?_ ?_)
              · rfl
              all_goals (clear h; intro _ _ _ _ h))
           | ((with_reducible refine Agq h hD ?_ ?_ ?_)
              · exact xW
              · exact kW
              (clear h; intro _ _ _ _ h _ _))
           | ((with_reducible refine AVt h hD ?_ ?_ ?_ ?_ ?_)
              · exact yW
              · exact xW
              · exact kW
              all_goals (clear h; first | intro _ _ _ _ _ _ h _ _ | intro _ _ _ _ h))
           | ((with_reducible refine AeZ h hD ?_ ?_ ?_ ?_ ?_)
              · exact yW
              · exact xW
              · exact kW
              all_goals (clear h; first | intro _ _ _ _ _ _ h _ _ | intro _ _ _ _ h))
           | ((with_reducible refine AWX h hD ?_ ?_ ?_ ?_ ?_)
              · exact yW
              · exact xW
              · exact kW
              all_goals (clear h; first | intro _ _ _ _ _ h _ _ | intro _ _ _ _ h))
           | ((with_reducible refine Ad6 h hD ?_ ?_ ?_ ?_ ?_)
              · exact yW
              · exact xW
              · exact kW
              all_goals (clear h; first | intro _ _ _ _ _ h _ _ | intro _ _ _ _ h))
           | (with_reducible refine AhX hD (by simp only [AGU, X4, liE, seval]; rfl) (by simp only [ASm, liE, seval]; rfl) (by kernel_rfl) ?_)
           | (with_reducible refine AhS hD ?_))
      | ((with_reducible refine AgP h ?_ ?_) <;> clear h <;> intro h)
      | ((with_reducible obtain ⟨H, h⟩ := Ad1 h)
         subst h
         (try simp (maxSteps := 10000000) (disch := omega) only [vm, wpE, seval, H])
         first
           | refine AhJ hR (by simp (maxSteps := 10000000) (disch := omega) only [vm, wpE, seval, H]; rfl) ?_ (by omega) ?_
           | refine AhM hR (by simp (maxSteps := 10000000) (disch := omega) only [vm, wpE, seval, H]; rfl) ?_ (by omega) ?_
         · (first | ((repeat (first | exact List.Sublist.refl _ | apply List.Sublist.cons)); done) | (simp (maxSteps := 10000000) (disch := omega) only [vm, wpE, seval, H]; (repeat (first | exact List.Sublist.refl _ | apply List.Sublist.cons)); done))
         · (first | (simp (maxSteps := 10000000) (disch := omega) only [vm, wpE, seval, H]; done) | rfl))
      | ((with_reducible refine Ahh (by assumption) h ?_ ?_ ?_ (by omega))
         · exact uW
         · exact vW
         · exact kW)
      | ((with_reducible refine Ahi (by assumption) h ?_ ?_ ?_ ?_)
         · (simp (maxSteps := 10000000) (disch := omega) only [vm, wpE, seval, h.1]; ((repeat (first | with_reducible exact SubW.refl _ | refine SubW.keep (by repeat (first | with_reducible exact WkL.nil | refine WkL.cons (Wk.same _) ?_ | refine WkL.cons (Wk.strip _) ?_)) ?_ | apply SubW.drop)); done))
         · exact vW
         · exact kW
         · (simp (maxSteps := 10000000) (disch := omega) only [vm, wpE, seval, h.1]; omega))
      | ((with_reducible refine Af6 h (by assumption) ?_ ?_ ?_ (by omega))
         · exact uW
         · exact vW
         · exact kW)
      | ((with_reducible refine Agi h (by assumption) ?_ ?_ ?_ (by omega))
         · exact uW
         · exact vW
         · exact kW)
      | ((with_reducible refine Agw h (by assumption) ?_ ?_ ?_ (by omega))
         · exact uW
         · exact vW
         · exact kW)
      | ((with_reducible refine AgC h (by assumption) ?_ ?_ ?_ (by omega))
         · exact uW
         · exact vW
         · exact kW)
      | ((with_reducible refine Agl h (by assumption) ?_ ?_ ?_ (by omega))
         · exact uW
         · exact vW
         · exact kW)
      | (with_reducible refine ANg ?_ ?_)
      | (with_reducible exact Af9 h)
      | (simp (maxSteps := 10000000) (disch := omega) only [vm, wpE, seval, h.1])
      | (with_reducible obtain ⟨_, h⟩ := Cu h)
      | (with_reducible rcases Ec h with h | h)
      | (simp only [AA] at h))) : G := x
theorem law27_FingerWays_2 (N : Nat) (a0 : (List Int)) (a1 : Int) : BZ N a0 a1 = (
 Option.bind (Qh N) fun y1 =>
 if y1 = true then
  Option.bind (ET N a0) fun y3 =>
  if (y3.kind == 4) = true then
   some (true)
  else
   Option.bind (Ml N y3) fun y5 =>
   Option.bind (L6 N y3) fun y7 =>
   Option.bind (Qp N y3) fun y9 =>
   grd (AB (([123, 34, 97, 108, 105, 97, 115, 101, 115, 34, 58, 91, 34] : List UInt8).length + y3.text.length)) (
   grd (AB ((([123, 34, 97, 108, 105, 97, 115, 101, 115, 34, 58, 91, 34] : List UInt8) ++ y3.text).length + ([34, 44, 34, 97, 99, 99, 116, 58, 109, 101, 64, 122, 46, 101, 120, 97, 109, 112, 108, 101, 34, 93, 125] : List UInt8).length)) (
   Option.bind (Ng N 200 ([97, 112, 112, 108, 105, 99, 97, 116, 105, 111, 110, 47, 106, 115, 111, 110] : List UInt8) ((([123, 34, 97, 108, 105, 97, 115, 101, 115, 34, 58, 91, 34] : List UInt8) ++ y3.text) ++ ([34, 44, 34, 97, 99, 99, 116, 58, 109, 101, 64, 122, 46, 101, 120, 97, 109, 112, 108, 101, 34, 93, 125] : List UInt8)) [] false) fun y11 =>
   Option.bind (Ng N 410 [] [] [] false) fun y13 =>
   Option.bind (Ng N 200 ([97, 112, 112, 108, 105, 99, 97, 116, 105, 111, 110, 47, 106, 114, 100, 43, 106, 115, 111, 110] : List UInt8) ((123 :: 34 :: 108 :: 105 :: 110 :: 107 :: 115 :: 34 :: 58 :: 91 :: 123 :: 34 :: 114 :: 101 :: 108 :: 34 :: 58 :: 34 :: 108 :: 114 :: 100 :: 100 :: 34 :: 44 :: 34 :: 116 :: 101 :: 109 :: 112 :: 108 :: 97 :: 116 :: 101 :: 34 :: 58 :: 34 :: 104 :: 116 :: 116 :: 112 :: 115 :: 58 :: 47 :: 47 :: 122 :: 46 :: 101 :: 120 :: 97 :: 109 :: 112 :: 108 :: 101 :: 47 :: 100 :: 111 :: 99 :: 63 :: 123 :: 117 :: 114 :: 105 :: 125 :: 34 :: 125 :: 93 :: 125 :: []) : List UInt8) [] false) fun y15 =>
   Option.bind (Ng N 500 [] [] [(ApiField.mk ([108, 105, 110, 107] : List UInt8) ([60, 47, 47, 122, 46, 101, 120, 97, 109, 112, 108, 101, 47, 100, 111, 99, 62, 59, 114, 101, 108, 61, 108, 114, 100, 100] : List UInt8))] false) fun y17 =>
   letL ([y11, y13, y13] : (List (List UInt8))) fun l19 =>
   Option.bind (idx l19 (wr .i64 (a1.tmod 3))) fun x20 =>
   Option.bind (ME N y5.1 x20) fun y21 =>
   letL ([y11, y15, y13] : (List (List UInt8))) fun l23 =>
   Option.bind (idx l23 (wr .i64 (a1.tmod 3))) fun x24 =>
   Option.bind (ME N y7.1 x24) fun y25 =>
   Option.bind (ME N y9.1 y17) fun y27 =>
   Option.bind (ME N (ApiURL.mk ([122, 46, 101, 120, 97, 109, 112, 108, 101] : List UInt8) 0 ([47, 100, 111, 99] : List UInt8) [] [] false false) y11) fun y29 =>
   letL ([y21, y25, y27, y29] : (List ApiAnswer)) fun l31 =>
   Option.bind (NG N y3) fun y32 =>
   AA (d := .n (17, 1) [(18, 1), (86, 11)] [19, 20] 19 (fun (j35 : Int × ApiFinding) g => [.ptr g 0, .int .i64 j35.1]) (fun j35 g => []) (fun j35 g => [.int .i64 j35.2.subject.kind, .str j35.2.subject.text, .str j35.2.subject.host, .int .i64 j35.2.subject.port, .slice 4 (List.map Ap j35.2.names) false, .int .i64 j35.2.via, .bool j35.2.fresh.store, .int .u64 j35.2.fresh.seconds, .slice 9 (List.map AO j35.2.trace) false])) (fun j35 : Int × ApiFinding =>
    if (y5.2 != 0) = true then
     some (true)
    else
     if (j35.1 == 0) = true then
      if (j35.2.via == (wr .i64 ((wr .i64 (a1.tmod 3)) + 1))) = true then
       if ((j35.2.names.length : Int) == 1) = true then
        Option.bind (idx j35.2.names 0) fun x43 =>
        if (x43.text == ([97, 99, 99, 116, 58, 109, 101, 64, 122, 46, 101, 120, 97, 109, 112, 108, 101] : List UInt8)) = true then
         letL ([1, 3, 4] : (List Int)) fun l44 =>
         Option.bind (idx l44 (wr .i64 (a1.tmod 3))) fun x45 =>
         some (((j35.2.trace.length : Int) == x45))
        else
         some (false)
       else
        some (false)
      else
       some (false)
     else
      some (false)) fun k36 =>
   Option.bind (ME N (ApiURL.mk ([122, 46, 101, 120, 97, 109, 112, 108, 101] : List UInt8) 0 ([47, 100, 111, 99] : List UInt8) y32 [] true false) y11) fun y39 =>
   grd (CG (l31.length + 1) 80) (
   Option.bind (Kq N (l31 ++ [y39]) 0 y3) fun y41 =>
   k36 (y41.2, y41.1))))
 else
  some (false)) := by
 unfold BZ
 rfl
attribute [local irreducible] AA grd letL ME
variable {N n : Nat} {m : MS} {Q : PQ} {args : List AVal}
instance Q4 {a0 a1} : CF vE (BZ N a0 a1) 3 [.slice 1 (List.map (AVal.int .u8) a0) false, .int .u8 a1] (fun r => .bool r) := AP (law27_FingerWays_2 ..) Tryz.func3 rfl Tryz.ntmps3 Tryz.results3 [(15, [], .take 0 (.take 1 (.take 2 (.take 3 (.take 4 (.take 5 (.take 6 (.take 7 (.take 9 (.take 10 (.take 11 (.take 12 (.take 13 (.take 14 (.take 15 (.take 16 (.take 18 (.take 19 (.take 21 (.take 22 (.alt 8 [22, 21, 19, 18, 16, 15, 14, 13, 12, 11, 10, 9, 6, 5, 4, 3, 2, 1] (.alt 17 [22, 21, 19, 18, 15, 14, 13, 12, 11, 10, 7, 6, 5, 4, 3, 2, 1, 0] (.alt 20 [22, 21, 16, 15, 14, 13, 12, 11, 10, 9, 7, 6, 5, 4, 3, 2, 1, 0] (.alt 23 [19, 18, 16, 15, 14, 13, 12, 11, 10, 9, 7, 6, 5, 4, 3, 2, 1, 0] (.take 24 (.alt 25 [] (.done) (.stop))) (.stop)) (.stop)) (.stop)) (.stop)))))))))))))))))))))), (17, [87], .take 1 (.take 2 (.take 6 (.alt 0 [6, 2, 1] (.alt 3 [6] (.take 4 (.alt 5 [6, 2, 1] (.alt 7 [4, 2, 1] (.take 8 (.alt 9 [4, 6, 2, 1] (.alt 10 [4, 6, 2, 1] (.alt 11 [8, 4, 6, 2, 1] (.alt 12 [] (.alt 13 [] (.done) (.stop)) (.stop)) (.stop)) (.alt 11 [8, 4, 6, 2, 1] (.alt 10 [4, 6, 2, 1] (.alt 12 [] (.alt 13 [] (.done) (.stop)) (.stop)) (.alt 12 [] (.alt 10 [4, 6, 2, 1] (.alt 13 [] (.done) (.stop)) (.stop)) (.stop))) (.stop))) (.alt 10 [4, 6, 2, 1] (.alt 9 [4, 6, 2, 1] (.alt 11 [8, 4, 6, 2, 1] (.alt 12 [] (.alt 13 [] (.done) (.stop)) (.stop)) (.stop)) (.alt 11 [8, 4, 6, 2, 1] (.alt 9 [4, 6, 2, 1] (.alt 12 [] (.alt 13 [] (.done) (.stop)) (.stop)) (.stop)) (.stop))) (.alt 11 [8, 4, 6, 2, 1] (.alt 9 [4, 6, 2, 1] (.alt 10 [4, 6, 2, 1] (.alt 12 [] (.alt 13 [] (.done) (.stop)) (.stop)) (.alt 12 [] (.alt 10 [4, 6, 2, 1] (.alt 13 [] (.done) (.stop)) (.stop)) (.stop))) (.alt 10 [4, 6, 2, 1] (.alt 9 [4, 6, 2, 1] (.alt 12 [] (.alt 13 [] (.done) (.stop)) (.stop)) (.stop)) (.stop))) (.stop))))) (.alt 11 [4, 6, 2, 1] (.alt 7 [4, 2, 1] (.take 8 (.alt 9 [4, 6, 2, 1] (.alt 10 [4, 6, 2, 1] (.alt 12 [] (.alt 13 [] (.done) (.stop)) (.stop)) (.alt 12 [] (.alt 10 [4, 6, 2, 1] (.alt 13 [] (.done) (.stop)) (.stop)) (.stop))) (.alt 10 [4, 6, 2, 1] (.alt 9 [4, 6, 2, 1] (.alt 12 [] (.alt 13 [] (.done) (.stop)) (.stop)) (.stop)) (.stop)))) (.stop)) (.stop))) (.alt 11 [4, 6, 2, 1] (.alt 5 [6, 2, 1] (.alt 7 [4, 2, 1] (.take 8 (.alt 9 [4, 6, 2, 1] (.alt 10 [4, 6, 2, 1] (.alt 12 [] (.alt 13 [] (.done) (.stop)) (.stop)) (.alt 12 [] (.alt 10 [4, 6, 2, 1] (.alt 13 [] (.done) (.stop)) (.stop)) (.stop))) (.alt 10 [4, 6, 2, 1] (.alt 9 [4, 6, 2, 1] (.alt 12 [] (.alt 13 [] (.done) (.stop)) (.stop)) (.stop)) (.stop)))) (.stop)) (.stop)) (.stop)))) (.alt 11 [6, 2, 1] (.alt 3 [6] (.take 4 (.alt 5 [6, 2, 1] (.alt 7 [4, 2, 1] (.take 8 (.alt 9 [4, 6, 2, 1] (.alt 10 [4, 6, 2, 1] (.alt 12 [] (.alt 13 [] (.done) (.stop)) (.stop)) (.alt 12 [] (.alt 10 [4, 6, 2, 1] (.alt 13 [] (.done) (.stop)) (.stop)) (.stop))) (.alt 10 [4, 6, 2, 1] (.alt 9 [4, 6, 2, 1] (.alt 12 [] (.alt 13 [] (.done) (.stop)) (.stop)) (.stop)) (.stop)))) (.stop)) (.stop))) (.stop)) (.stop))) (.alt 3 [6] (.take 4 (.alt 0 [4, 6, 2, 1] (.alt 5 [6, 2, 1] (.alt 7 [4, 2, 1] (.take 8 (.alt 9 [4, 6, 2, 1] (.alt 10 [4, 6, 2, 1] (.alt 11 [8, 4, 6, 2, 1] (.alt 12 [] (.alt 13 [] (.done) (.stop)) (.stop)) (.stop)) (.alt 11 [8, 4, 6, 2, 1] (.alt 10 [4, 6, 2, 1] (.alt 12 [] (.alt 13 [] (.done) (.stop)) (.stop)) (.alt 12 [] (.alt 10 [4, 6, 2, 1] (.alt 13 [] (.done) (.stop)) (.stop)) (.stop))) (.stop))) (.alt 10 [4, 6, 2, 1] (.alt 9 [4, 6, 2, 1] (.alt 11 [8, 4, 6, 2, 1] (.alt 12 [] (.alt 13 [] (.done) (.stop)) (.stop)) (.stop)) (.alt 11 [8, 4, 6, 2, 1] (.alt 9 [4, 6, 2, 1] (.alt 12 [] (.alt 13 [] (.done) (.stop)) (.stop)) (.stop)) (.stop))) (.alt 11 [8, 4, 6, 2, 1] (.alt 9 [4, 6, 2, 1] (.alt 10 [4, 6, 2, 1] (.alt 12 [] (.alt 13 [] (.done) (.stop)) (.stop)) (.alt 12 [] (.alt 10 [4, 6, 2, 1] (.alt 13 [] (.done) (.stop)) (.stop)) (.stop))) (.alt 10 [4, 6, 2, 1] (.alt 9 [4, 6, 2, 1] (.alt 12 [] (.alt 13 [] (.done) (.stop)) (.stop)) (.stop)) (.stop))) (.stop))))) (.alt 11 [4, 6, 2, 1] (.alt 7 [4, 2, 1] (.take 8 (.alt 9 [4, 6, 2, 1] (.alt 10 [4, 6, 2, 1] (.alt 12 [] (.alt 13 [] (.done) (.stop)) (.stop)) (.alt 12 [] (.alt 10 [4, 6, 2, 1] (.alt 13 [] (.done) (.stop)) (.stop)) (.stop))) (.alt 10 [4, 6, 2, 1] (.alt 9 [4, 6, 2, 1] (.alt 12 [] (.alt 13 [] (.done) (.stop)) (.stop)) (.stop)) (.stop)))) (.stop)) (.stop))) (.alt 11 [4, 6, 2, 1] (.alt 5 [6, 2, 1] (.alt 7 [4, 2, 1] (.take 8 (.alt 9 [4, 6, 2, 1] (.alt 10 [4, 6, 2, 1] (.alt 12 [] (.alt 13 [] (.done) (.stop)) (.stop)) (.alt 12 [] (.alt 10 [4, 6, 2, 1] (.alt 13 [] (.done) (.stop)) (.stop)) (.stop))) (.alt 10 [4, 6, 2, 1] (.alt 9 [4, 6, 2, 1] (.alt 12 [] (.alt 13 [] (.done) (.stop)) (.stop)) (.stop)) (.stop)))) (.stop)) (.stop)) (.stop))) (.alt 11 [4, 6, 2, 1] (.alt 0 [4, 6, 2, 1] (.alt 5 [6, 2, 1] (.alt 7 [4, 2, 1] (.take 8 (.alt 9 [4, 6, 2, 1] (.alt 10 [4, 6, 2, 1] (.alt 12 [] (.alt 13 [] (.done) (.stop)) (.stop)) (.alt 12 [] (.alt 10 [4, 6, 2, 1] (.alt 13 [] (.done) (.stop)) (.stop)) (.stop))) (.alt 10 [4, 6, 2, 1] (.alt 9 [4, 6, 2, 1] (.alt 12 [] (.alt 13 [] (.done) (.stop)) (.stop)) (.stop)) (.stop)))) (.stop)) (.stop)) (.stop)) (.stop)))) (.alt 11 [6, 2, 1] (.alt 0 [6, 2, 1] (.alt 3 [6] (.take 4 (.alt 5 [6, 2, 1] (.alt 7 [4, 2, 1] (.take 8 (.alt 9 [4, 6, 2, 1] (.alt 10 [4, 6, 2, 1] (.alt 12 [] (.alt 13 [] (.done) (.stop)) (.stop)) (.alt 12 [] (.alt 10 [4, 6, 2, 1] (.alt 13 [] (.done) (.stop)) (.stop)) (.stop))) (.alt 10 [4, 6, 2, 1] (.alt 9 [4, 6, 2, 1] (.alt 12 [] (.alt 13 [] (.done) (.stop)) (.stop)) (.stop)) (.stop)))) (.stop)) (.stop))) (.stop)) (.alt 3 [6] (.take 4 (.alt 0 [4, 6, 2, 1] (.alt 5 [6, 2, 1] (.alt 7 [4, 2, 1] (.take 8 (.alt 9 [4, 6, 2, 1] (.alt 10 [4, 6, 2, 1] (.alt 12 [] (.alt 13 [] (.done) (.stop)) (.stop)) (.alt 12 [] (.alt 10 [4, 6, 2, 1] (.alt 13 [] (.done) (.stop)) (.stop)) (.stop))) (.alt 10 [4, 6, 2, 1] (.alt 9 [4, 6, 2, 1] (.alt 12 [] (.alt 13 [] (.done) (.stop)) (.stop)) (.stop)) (.stop)))) (.stop)) (.stop)) (.stop))) (.stop))) (.stop))))))), (18, [], .take 0 (.take 1 (.take 2 (.take 3 (.take 4 (.take 5 (.take 6 (.take 7 (.take 8 (.take 9 (.take 10 (.take 11 (.take 12 (.take 13 (.take 14 (.take 15 (.take 16 (.take 17 (.take 18 (.take 19 (.take 20 (.take 21 (.take 22 (.take 23 (.take 24 (.take 25 (.take 26 (.take 27 (.take 28 (.take 29 (.take 30 (.take 31 (.take 32 (.take 33 (.take 34 (.take 35 (.take 36 (.alt 37 [] (.done) (.stop)))))))))))))))))))))))))))))))))))))))]
theorem Qv {a0 a1 r} (h : BZ N a0 a1 = some r) (ha : args = [.slice 1 (List.map (AVal.int .u8) a0) false, .int .u8 a1]) (hQ : ∀ n', n ≤ n' → Gl (Q (.bool r) ⟨m, n'⟩)) : ACall vE 3 args ⟨m, n⟩ Q := 
 ha ▸ Q4.go h hQ
end Go.Proofs.YtcahkpfjpeomoaaGreatDoor
