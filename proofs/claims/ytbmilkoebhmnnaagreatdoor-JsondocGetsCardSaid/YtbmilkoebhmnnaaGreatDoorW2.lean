/- That the code computes these functions; written by decomp.py. -/
import Derived.Test.YtbmilkoebhmnnaaGreatDoorVmFacts
import Derived.Test.YtbmilkoebhmnnaaGreatDoorDefs
import Derived.Test.YtbmilkoebhmnnaaGreatDoorVM2
set_option linter.unusedVariables false
set_option linter.unusedSimpArgs false
set_option maxHeartbeats 4000000
set_option maxRecDepth 100000
set_option linter.defProp false
namespace Go.Proofs.YtbmilkoebhmnnaaGreatDoor
open Go.VM
variable {N n : Nat} {m : MS} {Q : PQ} {args : List AVal}
theorem ent_q2 {E : Env} {c : Code} {f : FuncId} {fn : Func} {nt : Nat} {rs : List ResultVar} {args : List AVal} {m : MS} {n : Nat} {Q : PQ} (hf : E.P.funcs[f]? = some fn) (hb : fn.body = some c)
    (hn : fn.ntmps = nt) (hr : fn.results = rs.toArray) (a : An)
    (h : ∀ R : APost, (∀ af st xs m0 m1 n', resL E rs af st = some (xs, ⟨m1, n'⟩) → m0.Sublist m1 → n ≤ n' → Q (retOf xs) ⟨m0, n'⟩ → R .ret af st ∧ R .normal af st) → Gl (wpc E c a R (args ++ List.replicate (nt - args.length) .any) ⟨m, n⟩)) : ACall E f args ⟨m, n⟩ Q := by
  refine acall_of hf hb ?_
  have hw := wpc_sound a (h (retPost E fn Q) ?_).go
  · subst hn; exact hw
  · intro af st xs m0 m1 n' h1 h2 h3 h4
    have e : fn.results.toList = rs := by rw [hr]
    exact ⟨retPost_r (by rw [e]; exact h1) h2 h4, retPost_n (by rw [e]; exact h1) h2 h4⟩
theorem jq_mapT : (mapT vE.P 60).map (zeroA vE.P) = some (some (.agg [.int .i64 0, .str [], .slice 1 [] true, .slice 4 [] true])) := by kernel_rfl
theorem jq_mapT' : ∃ e, mapT vE.P 60 = some e ∧ ∃ z, zeroA vE.P e = some z ∧ z.strip = encApiValue ⟨0, [], [], []⟩ := by
  have h := jq_mapT
  cases he : mapT vE.P 60 with
  | none => rw [he] at h; cases h
  | some e => rw [he] at h; simp only [Option.map_some, Option.some.injEq] at h; exact ⟨e, rfl, _, h, by rw [encApiValue_eq]; simp [AVal.strip, stripL]⟩
theorem jq_strip (v : ApiValue) : (encApiValue v).strip = encApiValue v := by rw [encApiValue_eq]; simp [AVal.strip, stripL]
theorem jq_lookK (k : List UInt8) : ∀ (ks : List (List UInt8)) (xs : List ApiValue), ks.length = xs.length → (lookK ks (xs.map encApiValue) k = none ∧ jq_look (ks, xs) k = (⟨0, [], [], []⟩, false) ∧ k ∉ ks) ∨ (∃ x, lookK ks (xs.map encApiValue) k = some (encApiValue x) ∧ jq_look (ks, xs) k = (x, true) ∧ k ∈ ks)
  | [], [], _ => .inl ⟨rfl, by rw [jq_look]; intros; simp_all, by simp⟩
  | a :: ks, x :: xs, h => by
    by_cases e : k = a
    · exact .inr ⟨x, by simp [lookK, e], by simp [jq_look, e], by simp [e]⟩
    · rcases jq_lookK k ks xs (by simpa using h) with ⟨h1, h2, h3⟩ | ⟨y, h1, h2, h3⟩
      · exact .inl ⟨by simp [lookK, e, h1], by simp [jq_look, e, h2], by simp [e, h3]⟩
      · exact .inr ⟨y, by simp [lookK, e, h1], by simp [jq_look, e, h2], by simp [h3]⟩
theorem jq_lookA {k : Nat} {s : List UInt8} {acc : List (List UInt8) × List ApiValue} {st : St} (hl : acc.1.length = acc.2.length) (hm : mget st.m k = some [.map acc.1 (acc.2.map encApiValue)]) : lookA vE 60 (.sh k) (.str s) true st = some (.tuple [encApiValue (jq_look acc s).1, .bool (jq_look acc s).2]) := by
  obtain ⟨e, h1, z, h2, h3⟩ := jq_mapT'
  obtain ⟨ks, xs⟩ := acc
  rcases jq_lookK s ks xs hl with ⟨a, b, _⟩ | ⟨x, a, b, _⟩
  · simp [lookA, h1, h2, mapAt, hm, a, b, h3]
  · simp [lookA, h1, h2, mapAt, hm, a, b, jq_strip]
theorem jq_has {acc : List (List UInt8) × List ApiValue} (hl : acc.1.length = acc.2.length) (k : List UInt8) : (jq_look acc k).2 = decide (k ∈ acc.1) := by
  obtain ⟨ks, xs⟩ := acc
  rcases jq_lookK k ks xs hl with ⟨_, b, c⟩ | ⟨x, _, b, c⟩
  · rw [b]; simp [c]
  · rw [b]; simp [c]
theorem jq_put {s : List UInt8} {x : AVal} : ∀ {keys : List (List UInt8)} {vs : List AVal}, s ∉ keys → vs.length = keys.length → putKk keys s = keys ++ [s] ∧ putKv keys vs s x = vs ++ [x]
  | [], [], _, _ => ⟨rfl, rfl⟩
  | [], _ :: _, _, h => by simp at h
  | k :: ks, [], _, h => by simp at h
  | k :: ks, v :: vs, h, hl => by
    simp only [List.mem_cons, not_or] at h
    obtain ⟨h1, h2⟩ := jq_put (x := x) h.2 (by simpa using hl : vs.length = ks.length)
    simp only [putKk, putKv, if_neg h.1, h1, h2, List.cons_append, and_self]
theorem jq_updA {k : Nat} {s : List UInt8} {x : ApiValue} {acc : List (List UInt8) × List ApiValue} {st : St} (hl : acc.1.length = acc.2.length) (hs : s ∉ acc.1) (hm : mget st.m k = some [.map acc.1 (acc.2.map encApiValue)]) : updA vE 60 (.sh k) (.str s) (encApiValue x) st = some { st with m := mset st.m k [.map (acc.1 ++ [s]) ((acc.2 ++ [x]).map encApiValue)] } := by
  obtain ⟨e, h1, _⟩ := jq_mapT'
  obtain ⟨h3, h4⟩ := jq_put (x := encApiValue x) (vs := acc.2.map encApiValue) hs (by simp [hl])
  simp [updA, h1, mapAt, hm, h3, h4]
def jqG (items : List ApiValue) (suf : List (List UInt8)) (i : Int) (acc : { a : List (List UInt8) × List ApiValue // a.1.length = a.2.length }) : Option (List (List UInt8) × List ApiValue) := some (jq_mem items suf i.toNat acc.1)
theorem jq_members_w {v : ApiValue} (hks : fitsS v.keys.length) (hi : fitsS v.items.length) (ha : args = [encApiValue v]) (hQ : ∀ n' i, n ≤ i → i < n' → Gl (Q (.sh i) ⟨(i, [.map (jq_mem v.items v.keys 0 ([], [])).1 ((jq_mem v.items v.keys 0 ([], [])).2.map encApiValue)]) :: m, n'⟩)) : ACall vE 26 args ⟨m, n⟩ Q := by
 have h : True ∧ jqG v.items v.keys 0 ⟨([], []), rfl⟩ = some (jq_mem v.items v.keys 0 ([], [])) := ⟨trivial, rfl⟩
 subst ha
 refine ent_q2 Tryz.func26 rfl Tryz.ntmps26 Tryz.results26 (.q (.r []) (.q (.r []) (.q (.q (.r []) .z) (.q (.r []) .z)))) fun R hR => ?_
 simp (disch := omega) only [vm, seval, h.1]
 refine ⟨sloopr (σ := { a : List (List UInt8) × List ApiValue // a.1.length = a.2.length }) (γ := Unit) v.keys hks (jqG v.items) (fun i s g => [.int .i64 i]) (fun i s g => (n + 1, [.map s.1.1 (s.1.2.map encApiValue)]) :: (n, [.int .i64 v.kind, .str v.text, .slice 1 (v.keys.map AVal.str) false, .slice 4 (v.items.map encApiValue) false]) :: m) [2, 4, 5, 6, 7, 13, 14, 15, 16, 17, 18, 19, 20, 21, 22, 23, 24, 25, 26, 27, 28, 29, 30, 31, 32, 33, 34, 35, 36, 37, 38, 39] [12] ⟨([], []), rfl⟩ () h (by simp only [List.map_nil]) (by first | (simp (disch := omega) only [vm, seval, h.1]; done) | rfl) ?_ ?_⟩ <;> clear h
 · rintro i acc g n4 hn4 hk4 h
   have h2 : acc.1 = jq_mem v.items v.keys 0 ([], []) := by
     have := h.2
     simpa [jqG, jq_mem] using this
   refine wpc_snd (.q (.r []) (.q (.c .z .z) .z)) ?_
   simp (disch := omega) only [vm, seval, h.1.1]
   refine ⟨(hR _ _ _ _ _ _ (by simp (disch := omega) only [vm, seval]; rfl) (.cons_cons (n + 1, [.map acc.1.1 (acc.1.2.map encApiValue)]) (.cons _ (List.Sublist.refl m))) (by omega) ?_).1⟩
   have := (hQ n4 (n + 1) (by omega) (keysLt_cons hk4).1).go
   rw [← h2] at this
   exact this
 · intro x xs i acc g n4 hn4 hk4 h Jk hJ
   obtain ⟨⟨h1, h2, h3, _⟩, h4⟩ := h
   have hp : 0 ≤ i := by
     unfold idx at h2; split at h2
     · assumption
     · cases h2
   refine wpc_snd (.q (.r []) (.q (.c .z .z) (.q (.q (.r []) (.q (.r []) (.q (.r []) (.c (.r []) .z)))) (.r [])))) ?_
   have hlk := jq_lookA (k := n + 1) (s := x) (acc := acc.1) (st := ⟨(n + 1, [.map acc.1.1 (acc.1.2.map encApiValue)]) :: (n, [.int .i64 v.kind, .str v.text, .slice 1 (v.keys.map AVal.str) false, .slice 4 (v.items.map encApiValue) false]) :: m, n4⟩) acc.2 (by simp [mget])
   have hj : ∀ (acc' : { a : List (List UInt8) × List ApiValue // a.1.length = a.2.length }), jqG v.items (x :: xs) i acc = jqG v.items xs (i + 1) acc' → jqG v.items xs (i + 1) acc' = some (jq_mem v.items v.keys 0 ([], [])) := fun acc' e => e.symm.trans h4
   have hti : (i + 1).toNat = i.toNat + 1 := by omega
   have hhas := jq_has acc.2 x
   cases hh : (jq_look acc.1 x).2
   · rw [hh] at hhas
     have hnot : x ∉ acc.1.1 := by simpa using hhas
     by_cases hlt : i < (v.items.length : Int)
     · obtain ⟨y, hy⟩ : ∃ y, v.items[i.toNat]? = some y := ⟨v.items[i.toNat]'(by omega), List.getElem?_eq_getElem (by omega)⟩
       have hy2 : idx v.items i = some y := by unfold idx; rw [if_pos hp, hy]
       have hup := fun st (hm : mget st.m (n + 1) = some [.map acc.1.1 (acc.1.2.map encApiValue)]) => jq_updA (k := n + 1) (s := x) (x := y) (acc := acc.1) (st := st) acc.2 hnot hm
       simp (disch := omega) only [vm, seval, h1, h2, h3, hlk, hh, decide_eq_true hlt, hy2]
       rw [← encApiValue_eq, hup _ (by simp (disch := omega) only [vm])]
       simp (disch := omega) only [vm, seval, h3]
       refine ⟨hJ ⟨(acc.1.1 ++ [x], acc.1.2 ++ [y]), by simp [acc.2]⟩ () _ _ _ _ (hj _ ?_) (.cons _ (List.Sublist.refl _)) ?_ ?_ ?_ (by omega)⟩
       · simp only [jqG, jq_mem, hti, hy, if_neg hnot]
       all_goals first | (simp (disch := omega) only [vm, seval, h3]; done) | rfl
     · have hy : v.items[i.toNat]? = none := List.getElem?_eq_none (by omega)
       simp (disch := omega) only [vm, seval, h1, h2, h3, hlk, hh, decide_eq_false hlt]
       refine ⟨hJ acc () _ _ _ _ (hj _ ?_) (.cons _ (List.Sublist.refl _)) ?_ ?_ ?_ (by omega)⟩
       · simp only [jqG, jq_mem, hti, hy]
       all_goals first | (simp (disch := omega) only [vm, seval, h3]; done) | rfl
   · rw [hh] at hhas
     have hin : x ∈ acc.1.1 := by simpa using hhas
     simp (disch := omega) only [vm, seval, h1, h2, h3, hlk, hh]
     refine ⟨hJ acc () _ _ _ _ (hj _ ?_) (.cons _ (List.Sublist.refl _)) ?_ ?_ ?_ (by omega)⟩
     · simp only [jqG, jq_mem, hti]
       cases v.items[i.toNat]? with
       | none => rfl
       | some y => simp only [if_pos hin]
     all_goals first | (simp (disch := omega) only [vm, seval, h3]; done) | rfl
theorem jq_mem_len (items : List ApiValue) : ∀ (ks : List (List UInt8)) (i : Nat) (acc : List (List UInt8) × List ApiValue), acc.1.length = acc.2.length → (jq_mem items ks i acc).1.length = (jq_mem items ks i acc).2.length
  | [], i, acc, h => h
  | k :: ks, i, acc, h => by
    rw [jq_mem]
    refine jq_mem_len items ks (i + 1) _ ?_
    split
    · split
      · exact h
      · simp [h]
    · exact h
theorem jq_rec (N : Nat) : ∀ (D : Nat) (a b : ApiValue) (r : Bool), jq_Equal N D a b = some r → ∀ {n : Nat} {m : MS} {Q : PQ} {args : List AVal}, args = [encApiValue a, encApiValue b] → (∀ n', n ≤ n' → Gl (Q (.bool r) ⟨m, n'⟩)) → ACall vE 14 args ⟨m, n⟩ Q := by
 intro D
 induction D with
 | zero => intro a b r h; cases h
 | succ D ih =>
  intro a b r h n m Q args ha hQ
  subst ha
  rw [jq_Equal] at h
  refine ent hQ Tryz.func14 rfl Tryz.ntmps14 Tryz.results14 (.q (.r []) (.q (.q (.r []) (.c (.q (.r []) .z) .z)) (.q (.q (.r []) (.q (.q (.r []) (.c .z (.q (.r []) (.c .z (.r []))))) (.c (.q (.r []) .z) (.q (.q (.r []) (.c .z (.r []))) (.c (.q (.r []) .z) (.q (.r []) (.c (.q (.q (.r []) (.c (.q (.r []) .z) .z)) (.q (.q (.r []) .z) (.q (.r []) .z))) (.q (.r []) (.c (.q (.q (.r []) (.c (.q (.r []) .z) .z)) .z) .z))))))))) (.q (.r []) .z)))) fun R hR => ?_
  have fin : ∀ {x : Bool}, x = r → AVal.bool x = AVal.bool r := fun e => by rw [e]
  cases h0 : a.kind != b.kind
  · cases h1 : a.kind == 1 <;> cases h2 : a.kind == 2 <;> cases h3 : a.kind == 3 <;> cases h4 : a.kind == 4 <;> cases h5 : a.kind == 5 <;> cases h6 : a.kind == 6 <;> cases h7 : a.kind == 7
    all_goals
      try (exfalso; simp only [beq_iff_eq, beq_eq_false_iff_ne] at h1 h2 h3 h4 h5 h6 h7; omega)
    all_goals
      simp only [h0, h1, h2, h3, h4, h5, h6, h7, Bool.or_false, Bool.or_true, Bool.false_or, Bool.true_or, Bool.false_eq_true, if_false, if_true] at h
    all_goals
      try (simp only [Option.some.injEq] at h; simp (disch := omega) only [vm, seval, h0, h1, h2, h3, h4, h5, h6, h7]; refine ⟨(hR _ _ _ _ _ _ (by simp (disch := omega) only [vm, seval]; rfl) (.cons _ (.cons _ (List.Sublist.refl _))) rfl (by omega) (by subst h; rfl)).1⟩; done)
    · -- objects
      cases hl : (a.keys.length : Int) != (b.keys.length : Int)
      · rw [hl, if_neg (by decide)] at h
        obtain ⟨⟨f1, f2, f3, f4⟩, h⟩ := grd_some h
        simp (disch := omega) only [vm, seval, h0, h1, h2, h3, h4, h5, h6, h7, hl]
        refine ⟨wpc_snd (.q .z .z) ?_⟩
        simp (disch := omega) only [vm, seval]
        refine ⟨awp_drw [] (.take 0 (.take 2 (.alt 1 [2] (.alt 3 [0] (.alt 4 [2] (.alt 5 [] (.done) (.stop)) (.stop)) (.stop)) (.stop)))) vE_mixed (by kernel_rfl) ?_⟩
        simp (disch := omega) only [vm, seval]
        have hea : ∀ v : ApiValue, AVal.agg [.int .i64 v.kind, .str v.text, .slice 1 (List.map AVal.str v.keys) false, .slice 4 (List.map encApiValue v.items) false] = encApiValue v := fun v => (encApiValue_eq v).symm
        refine ⟨jq_members_w (v := a) f1 f2 (by rw [hea]) fun n1 i1 g1 g2 => ?_⟩
        simp (disch := omega) only [vm, seval]
        refine ⟨jq_members_w (v := b) f3 f4 (by rw [hea]) fun n2 i2 g3 g4 => ?_⟩
        simp (disch := omega) only [vm, seval]
        have hla : (jq_mem a.items a.keys 0 ([], [])).1.length = (jq_mem a.items a.keys 0 ([], [])).2.length := jq_mem_len _ _ _ _ rfl
        have hlb : (jq_mem b.items b.keys 0 ([], [])).1.length = (jq_mem b.items b.keys 0 ([], [])).2.length := jq_mem_len _ _ _ _ rfl
        generalize jq_mem a.items a.keys 0 ([], []) = ma at *
        generalize jq_mem b.items b.keys 0 ([], []) = mb at *
        have e12 : i1 ≠ i2 := by omega
        refine ⟨wpc_snd (.q (.q (.r []) .z) (.q (.r []) .z)) ?_⟩
        simp (disch := omega) only [vm, seval]
        refine ⟨sloopr (σ := Unit) (γ := Unit) a.keys f1 (fun xs i _ => jq_keys (jq_Equal N D) ma mb xs) (fun i s g => [.int .i64 i]) (fun i s g => (i2, [.map mb.1 (mb.2.map encApiValue)]) :: (i1, [.map ma.1 (ma.2.map encApiValue)]) :: (n + 1, [.int .i64 b.kind, .str b.text, .slice 1 (b.keys.map AVal.str) false, .slice 4 (b.items.map encApiValue) false]) :: (n, [.int .i64 a.kind, .str a.text, .slice 1 (a.keys.map AVal.str) false, .slice 4 (a.items.map encApiValue) false]) :: m) [9, 10, 11, 12, 13, 78, 79, 80, 81, 82, 83, 84, 85, 86, 87, 88, 89, 90, 91, 92, 93, 94, 95, 96, 97, 98, 99, 100, 101, 102, 103, 104, 105] [77] () () (And.intro trivial h) (by first | (simp (disch := omega) only [vm, seval]; done) | rfl) (by first | (simp (disch := omega) only [vm, seval]; done) | rfl) ?_ ?_⟩ <;> clear h
        · rintro i _ _ n5 hn5 hk5 h
          have hr : true = r := by simpa [jq_keys] using h.2
          refine wpc_snd (.q (.r []) (.q (.c .z .z) .z)) ?_
          simp (disch := omega) only [vm, seval, h.1.1]
          refine ⟨(hR _ _ _ _ _ _ (by simp (disch := omega) only [vm, seval]; rfl) (.cons _ (.cons _ (.cons _ (.cons _ (List.Sublist.refl _))))) rfl (by omega) (by subst hr; rfl)).1⟩
        · intro x xs i _ _ n5 hn5 hk5 h Jk hJ
          obtain ⟨⟨g5, g6, g7, _⟩, h⟩ := h
          simp only [jq_keys] at h
          have hla2 := fun st (hm : mget st.m i1 = some [.map ma.1 (ma.2.map encApiValue)]) => jq_lookA (k := i1) (s := x) (acc := ma) (st := st) hla hm
          have hlb2 := fun st (hm : mget st.m i2 = some [.map mb.1 (mb.2.map encApiValue)]) => jq_lookA (k := i2) (s := x) (acc := mb) (st := st) hlb hm
          refine wpc_snd (.q (.r []) (.q (.c .z .z) (.q (.q (.r []) (.q (.r []) .z)) (.r [])))) ?_
          simp (disch := omega) only [vm, seval, g5, g6, g7]
          rw [hla2 _ (by simp (disch := omega) only [vm])]
          simp (disch := omega) only [vm, seval, g5, g6, g7]
          refine ⟨wpc_snd (.q (.r []) .z) ?_⟩
          simp (disch := omega) only [vm, seval]
          rw [hlb2 _ (by simp (disch := omega) only [vm])]
          simp (disch := omega) only [vm, seval]
          refine ⟨wpc_snd (.q (.r []) (.c (.q (.r []) .z) .z)) ?_⟩
          cases ha1 : (jq_look ma x).2
          · simp only [ha1, Bool.false_eq_true, if_false, Option.some.injEq] at h
            simp (disch := omega) only [vm, seval, ha1]
            refine ⟨(hR _ _ _ _ _ _ (by simp (disch := omega) only [vm, seval]; rfl) (.cons _ (.cons _ (.cons _ (.cons _ (.cons _ (.cons _ (List.Sublist.refl _))))))) rfl (by omega) (by subst h; rfl)).1⟩
          · cases hb1 : (jq_look mb x).2
            · simp only [ha1, hb1, Bool.false_eq_true, if_false, if_true, Option.some.injEq] at h
              simp (disch := omega) only [vm, seval, ha1, hb1]
              refine ⟨(hR _ _ _ _ _ _ (by simp (disch := omega) only [vm, seval]; rfl) (.cons _ (.cons _ (.cons _ (.cons _ (.cons _ (.cons _ (List.Sublist.refl _))))))) rfl (by omega) (by subst h; rfl)).1⟩
            · simp only [ha1, hb1, if_true] at h
              obtain ⟨rr, g8, g9⟩ := bind_some h
              simp (disch := omega) only [vm, seval, ha1, hb1]
              refine ⟨ih _ _ rr g8 (by rw [hea, hea]) fun n6 hn6 => ?_⟩
              simp (disch := omega) only [vm, seval, ha1, hb1]
              cases rr
              · simp only [Bool.false_eq_true, if_false, Option.some.injEq] at g9
                simp (disch := omega) only [vm, seval]
                refine ⟨(hR _ _ _ _ _ _ (by simp (disch := omega) only [vm, seval]; rfl) (.cons _ (.cons _ (.cons _ (.cons _ (.cons _ (.cons _ (List.Sublist.refl _))))))) rfl (by omega) (by subst g9; rfl)).1⟩
              · simp only [if_true] at g9
                simp (disch := omega) only [vm, seval, g7]
                refine ⟨hJ () () _ _ _ _ g9 (.cons _ (.cons _ (List.Sublist.refl _))) ?_ ?_ ?_ (by omega)⟩ <;> first | (simp (disch := omega) only [vm, seval, g7]; done) | rfl
      · rw [hl, if_pos rfl] at h
        cases h
        simp (disch := omega) only [vm, seval, h0, h1, h2, h3, h4, h5, h6, h7, hl]
        refine ⟨(hR _ _ _ _ _ _ (by simp (disch := omega) only [vm, seval]; rfl) (.cons _ (.cons _ (List.Sublist.refl _))) rfl (by omega) rfl).1⟩
    · -- arrays
      cases hl : (a.items.length : Int) != (b.items.length : Int)
      · rw [hl, if_neg (by decide)] at h
        obtain ⟨hf, h⟩ := grd_some h
        simp (disch := omega) only [vm, seval, h0, h1, h2, h3, h4, h5, h6, h7, hl]
        refine ⟨sloopr (σ := Unit) (γ := Unit) a.items hf (fun xs i _ => jq_items (jq_Equal N D) b.items xs i) (fun i s g => [.int .i64 i]) (fun i s g => (n + 1, [.int .i64 b.kind, .str b.text, .slice 1 (b.keys.map AVal.str) false, .slice 4 (b.items.map encApiValue) false]) :: (n, [.int .i64 a.kind, .str a.text, .slice 1 (a.keys.map AVal.str) false, .slice 4 (a.items.map encApiValue) false]) :: m) [5, 46, 47, 48, 49, 50, 51, 52, 53, 54, 55, 56, 57, 58, 59, 60] [45] () () (And.intro trivial h) (by first | (simp (disch := omega) only [vm, seval]; done) | rfl) (by first | (simp (disch := omega) only [vm, seval]; done) | rfl) ?_ ?_⟩ <;> clear h
        · rintro i _ _ n4 hn4 hk4 h
          have hr : true = r := by simpa [jq_items] using h.2
          refine wpc_snd (.q (.r []) (.q (.c .z .z) .z)) ?_
          simp (disch := omega) only [vm, seval, h.1.1]
          refine ⟨(hR _ _ _ _ _ _ (by simp (disch := omega) only [vm, seval]; rfl) (.cons _ (.cons _ (List.Sublist.refl _))) rfl (by omega) (by subst hr; rfl)).1⟩
        · intro x xs i _ _ n4 hn4 hk4 h Jk hJ
          obtain ⟨⟨g1, g2, g3, _⟩, g4⟩ := h
          simp only [jq_items] at g4
          obtain ⟨y, g5, g6⟩ := bind_some g4
          obtain ⟨rr, g7, g8⟩ := bind_some g6
          refine wpc_snd (.q (.r []) (.q (.c .z .z) (.q (.q (.r []) (.q .z (.c (.q (.r []) .z) .z))) (.r [])))) ?_
          simp (disch := omega) only [vm, seval, g1, g2, g3]
          have hea : ∀ v : ApiValue, AVal.agg [.int .i64 v.kind, .str v.text, .slice 1 (List.map AVal.str v.keys) false, .slice 4 (List.map encApiValue v.items) false] = encApiValue v := fun v => (encApiValue_eq v).symm
          refine ⟨awp_drw [] (.take 0 (.take 1 (.take 2 (.take 3 (.take 4 (.take 5 (.take 6 (.take 7 (.take 8 (.take 9 (.alt 10 [8, 7, 6, 5, 3, 2, 1, 0] (.take 11 (.done)) (.stop)))))))))))) vE_mixed (by kernel_rfl) ?_⟩
          simp (disch := omega) only [vm, seval, g1, g2, g3, g5]
          refine ⟨ih x y rr g7 (by rw [hea, hea]) fun n6 hn6 => ?_⟩
          simp (disch := omega) only [vm, seval, g1, g2, g3, g5]
          cases rr
          · simp only [Bool.false_eq_true, if_false, Option.some.injEq] at g8
            simp (disch := omega) only [vm, seval]
            refine ⟨(hR _ _ _ _ _ _ (by simp (disch := omega) only [vm, seval]; rfl) (.cons _ (.cons _ (List.Sublist.refl _))) rfl (by omega) (by subst g8; rfl)).1⟩
          · simp only [if_true] at g8
            simp (disch := omega) only [vm, seval, g3]
            refine ⟨hJ () () _ _ _ _ g8 (List.Sublist.refl _) ?_ ?_ ?_ (by omega)⟩ <;> first | (simp (disch := omega) only [vm, seval, g3]; done) | rfl
      · rw [hl, if_pos rfl] at h
        cases h
        simp (disch := omega) only [vm, seval, h0, h1, h2, h3, h4, h5, h6, h7, hl]
        refine ⟨(hR _ _ _ _ _ _ (by simp (disch := omega) only [vm, seval]; rfl) (.cons _ (.cons _ (List.Sublist.refl _))) rfl (by omega) rfl).1⟩
  · rw [if_pos h0] at h
    cases h
    simp (disch := omega) only [vm, seval, h0]
    refine ⟨(hR _ _ _ _ _ _ (by simp (disch := omega) only [vm, seval]; rfl) (.cons _ (.cons _ (List.Sublist.refl _))) ?_ (by omega) ?_).1⟩ <;> first | (simp (disch := omega) only [vm, seval]; done) | rfl
theorem jsondoc_Equal_w {a0 a1 r} (h : jsondoc_Equal N a0 a1 = some r) (ha : args = [encApiValue a0, encApiValue a1]) (hQ : ∀ n', n ≤ n' → Gl (Q (.bool r) ⟨m, n'⟩)) : ACall vE 14 args ⟨m, n⟩ Q := jq_rec N N a0 a1 r h ha hQ
theorem jsondoc_Get_w {a0 a1 r} (h : jsondoc_Get N a0 a1 = some r) (ha : args = [encApiValue a0, .str a1]) (hQ : ∀ n', n ≤ n' → Gl (Q (.tuple [encApiValue r.1, .bool r.2]) ⟨m, n'⟩)) : ACall vE 16 args ⟨m, n⟩ Q := by
 rw [jsondoc_Get] at h
 subst ha
 refine ent_s hQ Tryz.func16 rfl Tryz.ntmps16 Tryz.results16 (.q (.r []) .z) fun R hR => ?_
 replace h := And.intro trivial h
 simp (disch := omega) only [vm, seval, h.1]
 refine ⟨sjoin (γ := Unit) h [5, 6, 7, 8, 9, 10, 11, 12, 13, 14, 15, 16, 17, 18, 19, 20, 21, 22, 23, 24, 25, 26, 27, 28, 29, 30, 31, 32, 33, 34, 35, 36] [] (fun j1 g => []) (fun j1 g => ((n + 1), [.int .i64 0, .str [], .slice 1 (List.map AVal.str []) true, .slice 4 (List.map encApiValue []) true]) :: (n, [.int .i64 a0.kind, .str a0.text, .slice 1 (List.map AVal.str a0.keys) false, .slice 4 (List.map encApiValue a0.items) false]) :: m) (.q (.r []) .z) ?_ ?_⟩ <;> clear h
 rintro j1 _ n4 hnn4 _ _ h
 refine wpc_snd (.q (.r []) .z) ?_
 obtain ⟨H, h⟩ := h
 cases h
 simp (disch := omega) only [vm, seval, H]
 refine ⟨(hR _ _ _ _ _ _ (by simp (disch := omega) only [vm, seval, H]; rfl) (.cons _ (.cons _ (List.Sublist.refl _))) ?_ (by omega) ?_).1⟩ <;> first | (simp (disch := omega) only [vm, seval, H]; done) | rfl
 intro k2 Jk2 hk2 h
 replace h := grd_a h
 obtain ⟨hfk5, h⟩ := h
 simp (disch := omega) only [vm, seval, h.1]
 refine ⟨sloopr (σ := Unit) (γ := Unit) a0.keys hfk5 (fun xs i s => jsondoc_Get_L1 N a0 a1 k2 xs i) (fun i s g => [.int .i64 i]) (fun i s g => ((n + 1), [.int .i64 0, .str [], .slice 1 (List.map AVal.str []) true, .slice 4 (List.map encApiValue []) true]) :: (n, [.int .i64 a0.kind, .str a0.text, .slice 1 (List.map AVal.str a0.keys) false, .slice 4 (List.map encApiValue a0.items) false]) :: m) [5, 6, 7, 12, 13, 14, 15, 16, 17, 18, 19, 20, 21, 22, 23, 24, 25, 26, 27, 28, 29, 30, 31, 32, 33, 34, 35, 36] [11] () () h (by first | (simp (disch := omega) only [vm, seval, h.1]; done) | rfl) (by first | (simp (disch := omega) only [vm, seval, h.1]; done) | rfl) ?_ ?_⟩ <;> clear h
 rintro s11 _ _ nL0_1 hnL0_1 _ h
 change _ ∧ jsondoc_Get_L1 N a0 a1 k2 [] s11 = _ at h
 rw [jsondoc_Get_L1] at h
 refine wpc_snd (.q (.r []) (.q (.c .z .z) (.q (.q (.r []) .z) (.r [])))) ?_
 simp (disch := omega) only [vm, seval, h.1]
 refine ⟨hk2 () () _ _ _ _ h.2 (List.Sublist.refl _) ?_ ?_ ?_ (by omega)⟩ <;> first | (simp (disch := omega) only [vm, seval, h.1]; done) | rfl
 rintro xk5 xsk5 s11 _ _ nL0_1 hnL0_1 _ h Jk5 hk5
 change _ ∧ jsondoc_Get_L1 N a0 a1 k2 (xk5 :: xsk5) s11 = _ at h
 rw [jsondoc_Get_L1] at h
 refine wpc_snd (.q (.r []) (.q (.c .z .z) (.q (.q (.r []) .z) (.r [])))) ?_
 simp (disch := omega) only [vm, seval, h.1]
 refine ⟨sjoin (γ := Unit) h [16, 17, 18, 19, 20, 21, 22, 23, 24, 25, 26, 27, 28, 29] [30] (fun j6 g => [.bool j6]) (fun j6 g => ((n + 1), [.int .i64 0, .str [], .slice 1 (List.map AVal.str []) true, .slice 4 (List.map encApiValue []) true]) :: (n, [.int .i64 a0.kind, .str a0.text, .slice 1 (List.map AVal.str a0.keys) false, .slice 4 (List.map encApiValue a0.items) false]) :: m) (.r []) ?_ ?_⟩ <;> clear h
 rintro j6 _ n9 hnn9 _ _ h
 refine wpc_snd (.c (.q (.r []) .z) .z) ?_
 replace h := ite_a h
 rcases h with h | h
 replace h := bind_a h
 obtain ⟨x10, h⟩ := h
 obtain ⟨H, h⟩ := h
 cases h
 simp (disch := omega) only [vm, seval, H]
 refine ⟨(hR _ _ _ _ _ _ (by simp (disch := omega) only [vm, seval, H]; rfl) (.cons _ (.cons _ (List.Sublist.refl _))) ?_ (by omega) ?_).1⟩ <;> first | (simp (disch := omega) only [vm, seval, H]; done) | rfl
 simp (disch := omega) only [vm, seval, h.1]
 refine ⟨hk5 () () _ _ _ _ h.2 (List.Sublist.refl _) ?_ ?_ ?_ (by omega)⟩ <;> first | (simp (disch := omega) only [vm, seval, h.1]; done) | rfl
 intro k7 Jk7 hk7 h
 replace h := ite_a h
 rcases h with h | h
 replace h := ite_a h
 rcases h with h | h
 simp (disch := omega) only [vm, seval, h.1]
 refine ⟨hk7 (xk5 == a1) () _ _ _ _ h.2 (List.Sublist.refl _) ?_ ?_ ?_ (by omega)⟩ <;> first | (simp (disch := omega) only [vm, seval, h.1]; done) | rfl
 simp (disch := omega) only [vm, seval, h.1]
 refine ⟨hk7 false () _ _ _ _ h.2 (List.Sublist.refl _) ?_ ?_ ?_ (by omega)⟩ <;> first | (simp (disch := omega) only [vm, seval, h.1]; done) | rfl
 simp (disch := omega) only [vm, seval, h.1]
 refine ⟨hk7 false () _ _ _ _ h.2 (List.Sublist.refl _) ?_ ?_ ?_ (by omega)⟩ <;> first | (simp (disch := omega) only [vm, seval, h.1]; done) | rfl
end Go.Proofs.YtbmilkoebhmnnaaGreatDoor
