/- That the code computes these functions; written by decomp.py. -/
import Derived.Test.YtdbeiialamganaaVmFacts
import Derived.Test.YtdbeiialamganaaDefs
import Derived.Test.YtdbeiialamganaaVM2
import Derived.Test.YtdbeiialamganaaW1
import Derived.Test.YtdbeiialamganaaW2
import Derived.Test.YtdbeiialamganaaW3
set_option linter.unusedVariables false
set_option linter.unusedSimpArgs false
set_option maxHeartbeats 4000000
set_option maxRecDepth 100000
set_option linter.defProp false
namespace Go.Proofs.Ytdbeiialamganaa
open Go.VM
variable {N n : Nat} {m : MS} {Q : PQ} {args : List AVal}
theorem ref13_unit_w {a0 a1 r} (h : ref13_unit N a0 a1 = some r) (ha : args = [.str a0, .int .i64 a1]) (hQ : ∀ n', n ≤ n' → Gl (Q (.tuple [.int .i64 r.1, .bool r.2]) ⟨m, n'⟩)) : ACall vE 68 args ⟨m, n⟩ Q := by
 rw [ref13_unit] at h
 subst ha
 refine ent hQ Try.func68 rfl Try.ntmps68 Try.results68 (.q (.r []) (.q .z (.q (.r []) (.q (.r []) .z)))) fun R hR => ?_
 replace h := And.intro trivial h
 simp (disch := omega) only [vm, seval, h.1]
 refine ⟨sjoin (γ := Unit) h [8, 9, 10, 11, 12, 13, 14, 15, 16, 17, 18, 19, 20, 21, 22, 23, 24] [25] (fun j1 g => [.bool j1]) (fun j1 g => m) (.r []) ?_ ?_⟩ <;> clear h
 rintro j1 _ n4 hnn4 _ _ h
 refine wpc_snd (.c (.q (.r []) .z) .z) ?_
 replace h := ite_a h
 rcases h with h | h
 obtain ⟨H, h⟩ := h
 cases h
 simp (disch := omega) only [vm, seval, H]
 refine ⟨(hR _ _ _ _ _ _ (by simp (disch := omega) only [vm, seval, H]; rfl) (List.Sublist.refl _) ?_ (by omega) ?_).1⟩ <;> first | (simp (disch := omega) only [vm, seval, H]; done) | rfl
 replace h := bind_a h
 obtain ⟨x7, h⟩ := h
 replace h := bind_a h
 obtain ⟨y8, h⟩ := h
 simp (disch := omega) only [vm, seval, h.1]
 refine ⟨ref04_Hex_w h.1.1 (by first | (simp (disch := omega) only [vm, seval, h.1]; done) | rfl) fun n9 hn9 => ?_⟩
 obtain ⟨H, h⟩ := h
 cases h
 simp (disch := omega) only [vm, seval, H]
 refine ⟨(hR _ _ _ _ _ _ (by simp (disch := omega) only [vm, seval, H]; rfl) (List.Sublist.refl _) ?_ (by omega) ?_).1⟩ <;> first | (simp (disch := omega) only [vm, seval, H]; done) | rfl
 intro k2 Jk2 hk2 h
 replace h := ite_a h
 rcases h with h | h
 simp (disch := omega) only [vm, seval, h.1]
 refine ⟨hk2 true () _ _ _ _ h.2 (List.Sublist.refl _) ?_ ?_ ?_ (by omega)⟩ <;> first | (simp (disch := omega) only [vm, seval, h.1]; done) | rfl
 replace h := bind_a h
 obtain ⟨x5, h⟩ := h
 replace h := ite_a h
 rcases h with h | h
 simp (disch := omega) only [vm, seval, h.1]
 refine ⟨hk2 true () _ _ _ _ h.2 (List.Sublist.refl _) ?_ ?_ ?_ (by omega)⟩ <;> first | (simp (disch := omega) only [vm, seval, h.1]; done) | rfl
 replace h := bind_a h
 obtain ⟨x6, h⟩ := h
 simp (disch := omega) only [vm, seval, h.1]
 refine ⟨hk2 ((bord x6) != 117) () _ _ _ _ h.2 (List.Sublist.refl _) ?_ ?_ ?_ (by omega)⟩ <;> first | (simp (disch := omega) only [vm, seval, h.1]; done) | rfl
theorem jrd_Decode_w {a0 r} (h : jrd_Decode N a0 = some r) (ha : args = [encApiValue a0]) (hQ : ∀ n', n ≤ n' → Gl (Q (.tuple [encApiJRD r.1, .int .i64 r.2]) ⟨m, n'⟩)) : ACall vE 11 args ⟨m, n⟩ Q := by
 rw [jrd_Decode] at h
 subst ha
 refine ent_s hQ Try.func11 rfl Try.ntmps11 Try.results11 (.q (.r []) (.q (.q (.r []) (.c (.q (.r []) .z) .z)) (.q (.r []) (.q (.r []) (.q (.r []) .z))))) fun R hR => ?_
 replace h := And.intro trivial h
 replace h := ite_a h
 rcases h with h | h
 obtain ⟨H, h⟩ := h
 cases h
 simp (disch := omega) only [vm, seval, H]
 refine ⟨(hR _ _ _ _ _ _ (by simp (disch := omega) only [vm, seval, H]; rfl) (.cons _ (.cons _ (List.Sublist.refl _))) ?_ (by omega) ?_).1⟩ <;> first | (simp (disch := omega) only [vm, seval, H]; done) | rfl
 · replace h := bind_a h
   obtain ⟨y1, h⟩ := h
   simp (disch := omega) only [vm, seval, h.1]
   refine ⟨jrd_decoder_member_w h.1.1 (by first | (simp (disch := omega) only [vm, seval, h.1]; done) | rfl) (i0 := (n + 2)) (by simp (disch := omega) only [vm, seval, h.1]) fun n2 hn2 => ?_⟩
   simp (disch := omega) only [vm, seval, h.1]
   refine ⟨sjoin (γ := Unit) h [7, 17, 18, 19, 20, 21, 22, 23, 24, 25, 26, 27, 28, 29, 30, 31, 32] [] (fun j3 g => []) (fun j3 g => ((n + 3), [.str y1.1, .slice 1 (List.map AVal.str j3.1) true, .slice 3 (List.map encApiProperty []) true, .slice 6 (List.map encApiLink []) true]) :: ((n + 2), [.int .i64 j3.2.e]) :: ((n + 1), [.str [], .slice 1 (List.map AVal.str []) true, .slice 3 (List.map encApiProperty []) true, .slice 6 (List.map encApiLink []) true]) :: (n, [.int .i64 a0.kind, .str a0.text, .slice 1 (List.map AVal.str a0.keys) false, .slice 4 (List.map encApiValue a0.items) false]) :: m) (.q (.r []) .z) ?_ ?_⟩ <;> clear h
   · rintro j3 _ n6 hnn6 _ _ h
     refine wpc_snd (.q (.r []) .z) ?_
     replace h := bind_a h
     obtain ⟨y16, h⟩ := h
     simp (disch := omega) only [vm, seval, h.1]
     refine ⟨jrd_decoder_properties_w h.1.1 (by first | (simp (disch := omega) only [vm, seval, h.1]; done) | rfl) (i0 := (n + 2)) (by simp (disch := omega) only [vm, seval, h.1]) fun n17 hn17 => ?_⟩
     simp (disch := omega) only [vm, seval, h.1]
     refine ⟨sjoin (γ := Unit) h [9, 36, 37, 38, 39, 40, 41, 42, 43, 44, 45, 46, 47, 48, 49, 50, 51] [] (fun j18 g => []) (fun j18 g => ((n + 3), [.str y1.1, .slice 1 (List.map AVal.str j3.1) true, .slice 3 (List.map encApiProperty y16.1) false, .slice 6 (List.map encApiLink j18.1) true]) :: ((n + 2), [.int .i64 j18.2.e]) :: ((n + 1), [.str [], .slice 1 (List.map AVal.str []) true, .slice 3 (List.map encApiProperty []) true, .slice 6 (List.map encApiLink []) true]) :: (n, [.int .i64 a0.kind, .str a0.text, .slice 1 (List.map AVal.str a0.keys) false, .slice 4 (List.map encApiValue a0.items) false]) :: m) (.q (.r []) .z) ?_ ?_⟩ <;> clear h
     rintro j18 _ n21 hnn21 _ _ h
     refine wpc_snd (.q (.q (.r []) (.c (.q .z .z) .z)) (.q (.r []) .z)) ?_
     replace h := ite_a h
     rcases h with h | h
     simp (disch := omega) only [vm, seval, h.1]
     refine ⟨awp_drw [] (.take 1 (.take 2 (.alt 0 [2, 1] (.alt 3 [2, 1] (.alt 4 [] (.done) (.stop)) (.stop)) (.stop)))) vE_mixed (by kernel_rfl) ?_⟩
     obtain ⟨H, h⟩ := h
     cases h
     simp (disch := omega) only [vm, seval, H]
     refine ⟨(hR _ _ _ _ _ _ (by simp (disch := omega) only [vm, seval, H]; rfl) (.cons _ (.cons _ (.cons _ (.cons _ (List.Sublist.refl _))))) ?_ (by omega) ?_).1⟩ <;> first | (simp (disch := omega) only [vm, seval, H]; done) | rfl
     obtain ⟨H, h⟩ := h
     cases h
     simp (disch := omega) only [vm, seval, H]
     refine ⟨(hR _ _ _ _ _ _ (by simp (disch := omega) only [vm, seval, H]; rfl) (.cons _ (.cons _ (.cons _ (.cons _ (List.Sublist.refl _))))) ?_ (by omega) ?_).1⟩ <;> first | (simp (disch := omega) only [vm, seval, H]; done) | rfl
     · intro k19 Jk19 hk19 h
       replace h := bind_a h
       obtain ⟨y22, h⟩ := h
       simp (disch := omega) only [vm, seval, h.1]
       refine ⟨jrd_decoder_items_w h.1.1 (by first | (simp (disch := omega) only [vm, seval, h.1]; done) | rfl) (i0 := (n + 2)) (by simp (disch := omega) only [vm, seval, h.1]) fun n23 hn23 => ?_⟩
       replace h := grd_a h
       obtain ⟨hfk24, h⟩ := h
       simp (disch := omega) only [vm, seval, h.1]
       refine ⟨sloopr (σ := (List ApiLink) × JrdDecoder) (γ := Unit) y22.1.items hfk24 (fun xs i s => jrd_Decode_L2 N k19 xs s.1 s.2) (fun i s g => [.int .i64 i]) (fun i s g => ((n + 3), [.str y1.1, .slice 1 (List.map AVal.str j3.1) true, .slice 3 (List.map encApiProperty y16.1) false, .slice 6 (List.map encApiLink s.1) true]) :: ((n + 2), [.int .i64 s.2.e]) :: ((n + 1), [.str [], .slice 1 (List.map AVal.str []) true, .slice 3 (List.map encApiProperty []) true, .slice 6 (List.map encApiLink []) true]) :: (n, [.int .i64 a0.kind, .str a0.text, .slice 1 (List.map AVal.str a0.keys) false, .slice 4 (List.map encApiValue a0.items) false]) :: m) [9, 41, 42, 43, 44, 45, 46, 47, 48, 49, 50, 51] [40] ([], y22.2) () h (by first | (simp (disch := omega) only [vm, seval, h.1]; done) | rfl) (by first | (simp (disch := omega) only [vm, seval, h.1]; done) | rfl) ?_ ?_⟩ <;> clear h
       rintro s40 ⟨bn3_links, bn2⟩ _ nL1_1 hnL1_1 _ h
       change _ ∧ jrd_Decode_L2 N k19 [] bn3_links bn2 = _ at h
       rw [jrd_Decode_L2] at h
       refine wpc_snd (.q (.r []) (.q (.c .z .z) .z)) ?_
       simp (disch := omega) only [vm, seval, h.1]
       refine ⟨hk19 (bn3_links, bn2) () _ _ _ _ h.2 (List.Sublist.refl _) ?_ ?_ ?_ (by omega)⟩ <;> first | (simp (disch := omega) only [vm, seval, h.1]; done) | rfl
       · rintro xk24 xsk24 s40 ⟨bn3_links, bn2⟩ _ nL1_1 hnL1_1 _ h Jk24 hk24
         change _ ∧ jrd_Decode_L2 N k19 (xk24 :: xsk24) bn3_links bn2 = _ at h
         rw [jrd_Decode_L2] at h
         refine wpc_snd (.q (.r []) (.q (.c .z .z) .z)) ?_
         simp (disch := omega) only [vm, seval, h.1]
         refine ⟨sjoin (γ := Unit) h [9, 42, 43, 44, 45, 46, 47, 48, 49, 50] [] (fun j25 g => []) (fun j25 g => ((n + 3), [.str y1.1, .slice 1 (List.map AVal.str j3.1) true, .slice 3 (List.map encApiProperty y16.1) false, .slice 6 (List.map encApiLink j25.1) true]) :: ((n + 2), [.int .i64 j25.2.e]) :: ((n + 1), [.str [], .slice 1 (List.map AVal.str []) true, .slice 3 (List.map encApiProperty []) true, .slice 6 (List.map encApiLink []) true]) :: (n, [.int .i64 a0.kind, .str a0.text, .slice 1 (List.map AVal.str a0.keys) false, .slice 4 (List.map encApiValue a0.items) false]) :: m) (.q (.r []) .z) ?_ ?_⟩ <;> clear h
         rintro j25 _ n28 hnn28 _ _ h
         refine wpc_snd (.r []) ?_
         simp (disch := omega) only [vm, seval, h.1]
         refine ⟨hk24 (j25.1, j25.2) () _ _ _ _ h.2 (List.Sublist.refl _) ?_ ?_ ?_ (by omega)⟩ <;> first | (simp (disch := omega) only [vm, seval, h.1]; done) | rfl
         · intro k26 Jk26 hk26 h
           replace h := bind_a h
           obtain ⟨y29, h⟩ := h
           have cy29 := h.1.1
           replace h := grd_a h
           obtain ⟨c, h⟩ := h
           try simp only [liE, seval] at c
           replace h := and_in c h
           simp (disch := omega) only [vm, seval, h.1]
           refine ⟨awp_drw [45] (.take 0 (.take 2 (.alt 1 [2] (.alt 3 [0] (.take 4 (.alt 5 [2, 0] (.take 6 (.alt 7 [] (.done) (.stop))) (.stop))) (.stop)) (.alt 3 [0] (.take 4 (.alt 1 [4, 2] (.alt 5 [2, 0] (.take 6 (.alt 7 [] (.done) (.stop))) (.stop)) (.stop))) (.stop))))) vE_mixed (by kernel_rfl) ?_⟩
           all_goals
            simp (disch := omega) only [vm, seval, h.1]
            repeat' refine Gl_and ?_ ?_
            all_goals
             refine ⟨jrd_decoder_link_w cy29 (by first | (simp (disch := omega) only [vm, seval, h.1]; done) | rfl) (i0 := (n + 2)) (by simp (disch := omega) only [vm, seval, h.1]) fun n30 hn30 => ?_⟩
             simp (disch := omega) only [vm, seval, h.1]
             refine ⟨hk26 ((bn3_links ++ [y29.1]), y29.2) () _ _ _ _ h.2 (.cons _ (List.Sublist.refl _)) ?_ ?_ ?_ (by omega)⟩ <;> first | (simp (disch := omega) only [vm, seval, h.1]; done) | rfl
   · intro k4 Jk4 hk4 h
     replace h := bind_a h
     obtain ⟨y7, h⟩ := h
     simp (disch := omega) only [vm, seval, h.1]
     refine ⟨jrd_decoder_items_w h.1.1 (by first | (simp (disch := omega) only [vm, seval, h.1]; done) | rfl) (i0 := (n + 2)) (by simp (disch := omega) only [vm, seval, h.1]) fun n8 hn8 => ?_⟩
     replace h := grd_a h
     obtain ⟨hfk9, h⟩ := h
     simp (disch := omega) only [vm, seval, h.1]
     refine ⟨sloopr (σ := (List (List UInt8)) × JrdDecoder) (γ := Unit) y7.1.items hfk9 (fun xs i s => jrd_Decode_L1 N k4 xs s.1 s.2) (fun i s g => [.int .i64 i]) (fun i s g => ((n + 3), [.str y1.1, .slice 1 (List.map AVal.str s.1) true, .slice 3 (List.map encApiProperty []) true, .slice 6 (List.map encApiLink []) true]) :: ((n + 2), [.int .i64 s.2.e]) :: ((n + 1), [.str [], .slice 1 (List.map AVal.str []) true, .slice 3 (List.map encApiProperty []) true, .slice 6 (List.map encApiLink []) true]) :: (n, [.int .i64 a0.kind, .str a0.text, .slice 1 (List.map AVal.str a0.keys) false, .slice 4 (List.map encApiValue a0.items) false]) :: m) [7, 22, 23, 24, 25, 26, 27, 28, 29, 30, 31, 32] [21] ([], y7.2) () h (by first | (simp (disch := omega) only [vm, seval, h.1]; done) | rfl) (by first | (simp (disch := omega) only [vm, seval, h.1]; done) | rfl) ?_ ?_⟩ <;> clear h
     rintro s21 ⟨bn3_aliases, bn2⟩ _ nL0_1 hnL0_1 _ h
     change _ ∧ jrd_Decode_L1 N k4 [] bn3_aliases bn2 = _ at h
     rw [jrd_Decode_L1] at h
     refine wpc_snd (.q (.r []) (.q (.c .z .z) .z)) ?_
     simp (disch := omega) only [vm, seval, h.1]
     refine ⟨hk4 (bn3_aliases, bn2) () _ _ _ _ h.2 (List.Sublist.refl _) ?_ ?_ ?_ (by omega)⟩ <;> first | (simp (disch := omega) only [vm, seval, h.1]; done) | rfl
     · rintro xk9 xsk9 s21 ⟨bn3_aliases, bn2⟩ _ nL0_1 hnL0_1 _ h Jk9 hk9
       change _ ∧ jrd_Decode_L1 N k4 (xk9 :: xsk9) bn3_aliases bn2 = _ at h
       rw [jrd_Decode_L1] at h
       refine wpc_snd (.q (.r []) (.q (.c .z .z) .z)) ?_
       simp (disch := omega) only [vm, seval, h.1]
       refine ⟨sjoin (γ := Unit) h [7, 23, 24, 25, 26, 27, 28, 29, 30, 31] [] (fun j10 g => []) (fun j10 g => ((n + 3), [.str y1.1, .slice 1 (List.map AVal.str j10.1) true, .slice 3 (List.map encApiProperty []) true, .slice 6 (List.map encApiLink []) true]) :: ((n + 2), [.int .i64 j10.2.e]) :: ((n + 1), [.str [], .slice 1 (List.map AVal.str []) true, .slice 3 (List.map encApiProperty []) true, .slice 6 (List.map encApiLink []) true]) :: (n, [.int .i64 a0.kind, .str a0.text, .slice 1 (List.map AVal.str a0.keys) false, .slice 4 (List.map encApiValue a0.items) false]) :: m) (.q (.r []) .z) ?_ ?_⟩ <;> clear h
       rintro j10 _ n13 hnn13 _ _ h
       refine wpc_snd (.r []) ?_
       simp (disch := omega) only [vm, seval, h.1]
       refine ⟨hk9 (j10.1, j10.2) () _ _ _ _ h.2 (List.Sublist.refl _) ?_ ?_ ?_ (by omega)⟩ <;> first | (simp (disch := omega) only [vm, seval, h.1]; done) | rfl
       · intro k11 Jk11 hk11 h
         replace h := bind_a h
         obtain ⟨y14, h⟩ := h
         have cy14 := h.1.1
         replace h := grd_a h
         obtain ⟨c, h⟩ := h
         try simp only [liE, seval] at c
         replace h := and_in c h
         simp (disch := omega) only [vm, seval, h.1]
         refine ⟨awp_drw [26] (.take 0 (.take 2 (.alt 1 [2] (.alt 3 [0] (.take 4 (.alt 5 [2, 0] (.take 6 (.alt 7 [] (.done) (.stop))) (.stop))) (.stop)) (.alt 3 [0] (.take 4 (.alt 1 [4, 2] (.alt 5 [2, 0] (.take 6 (.alt 7 [] (.done) (.stop))) (.stop)) (.stop))) (.stop))))) vE_mixed (by kernel_rfl) ?_⟩
         all_goals
          simp (disch := omega) only [vm, seval, h.1]
          repeat' refine Gl_and ?_ ?_
          all_goals
           refine ⟨jrd_decoder_text_w cy14 (by first | (simp (disch := omega) only [vm, seval, h.1]; done) | rfl) (i0 := (n + 2)) (by simp (disch := omega) only [vm, seval, h.1]) fun n15 hn15 => ?_⟩
           simp (disch := omega) only [vm, seval, h.1]
           refine ⟨hk11 ((bn3_aliases ++ [y14.1]), y14.2) () _ _ _ _ h.2 (.cons _ (List.Sublist.refl _)) ?_ ?_ ?_ (by omega)⟩ <;> first | (simp (disch := omega) only [vm, seval, h.1]; done) | rfl
end Go.Proofs.Ytdbeiialamganaa
