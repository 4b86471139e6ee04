import Derived.Test.YtbmilkoebhmnnaaGreatDoorVmFacts
import Derived.Test.YtbmilkoebhmnnaaGreatDoorDefs
import Derived.Test.YtbmilkoebhmnnaaGreatDoorVM2
set_option linter.unusedVariables false
set_option linter.unusedSimpArgs false
set_option maxHeartbeats 4000000
set_option maxRecDepth 100000
set_option linter.defProp false
namespace Go.Proofs.YtbmilkoebhmnnaaGreatDoor
open Go.VM
variable {N n : Nat} {m : MS} {Q : PQ} {args : List AVal}
theorem AKm {E : Env} {c : Code} {f : FuncId} {fn : Func} {nt : Nat} {rs : List ResultVar} {args : List AVal} {m : MS} {n : Nat} {Q : PQ} (hf : E.P.funcs[f]? = some fn) (hb : fn.body = some c)
    (hn : fn.ntmps = nt) (hr : fn.results = rs.toArray) (a : An)
    (h : ∀ R : APost, (∀ af st xs m0 m1 n', KC E rs af st = some (xs, ⟨m1, n'⟩) → m0.Sublist m1 → n ≤ n' → Q (ND xs) ⟨m0, n'⟩ → R .ret af st ∧ R .normal af st) → Gl (wpc E c a R (args ++ List.replicate (nt - args.length) .any) ⟨m, n⟩)) : ACall E f args ⟨m, n⟩ Q := by
  refine NR hf hb ?_
  have hw := Ie a (h (Ib E fn Q) ?_).go
  · subst hn; exact hw
  · intro af st xs m0 m1 n' h1 h2 h3 h4
    have e : fn.results.toList = rs := by rw [hr]
    exact ⟨LC (by rw [e]; exact h1) h2 h4, LV (by rw [e]; exact h1) h2 h4⟩
theorem AJP : (OH vE.P 60).map (Ff vE.P) = some (some (.agg [.int .i64 0, .str [], .slice 1 [] true, .slice 4 [] true])) := by kernel_rfl
theorem WJ : ∃ e, OH vE.P 60 = some e ∧ ∃ z, Ff vE.P e = some z ∧ z.strip = AA ⟨0, [], [], []⟩ := by
  have h := AJP
  cases he : OH vE.P 60 with
  | none => rw [he] at h; cases h
  | some e => rw [he] at h; simp only [Option.map_some, Option.some.injEq] at h; exact ⟨e, rfl, _, h, by rw [BO]; simp [AVal.strip, stripL]⟩
theorem AGY (v : ApiValue) : (AA v).strip = AA v := by rw [BO]; simp [AVal.strip, stripL]
theorem Qe (k : List UInt8) : ∀ (ks : List (List UInt8)) (xs : List ApiValue), ks.length = xs.length → (FT ks (xs.map AA) k = none ∧ Aw (ks, xs) k = (⟨0, [], [], []⟩, false) ∧ k ∉ ks) ∨ (∃ x, FT ks (xs.map AA) k = some (AA x) ∧ Aw (ks, xs) k = (x, true) ∧ k ∈ ks)
  | [], [], _ => .inl ⟨rfl, by rw [Aw]; intros; simp_all, by simp⟩
  | a :: ks, x :: xs, h => by
    by_cases e : k = a
    · exact .inr ⟨x, by simp [FT, e], by simp [Aw, e], by simp [e]⟩
    · rcases Qe k ks xs (by simpa using h) with ⟨h1, h2, h3⟩ | ⟨y, h1, h2, h3⟩
      · exact .inl ⟨by simp [FT, e, h1], by simp [Aw, e, h2], by simp [e, h3]⟩
      · exact .inr ⟨y, by simp [FT, e, h1], by simp [Aw, e, h2], by simp [h3]⟩
theorem P7 {k : Nat} {s : List UInt8} {acc : List (List UInt8) × List ApiValue} {st : St} (hl : acc.1.length = acc.2.length) (hm : Ao st.m k = some [.map acc.1 (acc.2.map AA)]) : IR vE 60 (.sh k) (.str s) true st = some (.tuple [AA (Aw acc s).1, .bool (Aw acc s).2]) := by
  obtain ⟨e, h1, z, h2, h3⟩ := WJ
  obtain ⟨ks, xs⟩ := acc
  rcases Qe s ks xs hl with ⟨a, b, _⟩ | ⟨x, a, b, _⟩
  · simp [IR, h1, h2, KM, hm, a, b, h3]
  · simp [IR, h1, h2, KM, hm, a, b, AGY]
theorem AK7 {acc : List (List UInt8) × List ApiValue} (hl : acc.1.length = acc.2.length) (k : List UInt8) : (Aw acc k).2 = decide (k ∈ acc.1) := by
  obtain ⟨ks, xs⟩ := acc
  rcases Qe k ks xs hl with ⟨_, b, c⟩ | ⟨x, _, b, c⟩
  · rw [b]; simp [c]
  · rw [b]; simp [c]
theorem AGJ {s : List UInt8} {x : AVal} : ∀ {keys : List (List UInt8)} {vs : List AVal}, s ∉ keys → vs.length = keys.length → Eh keys s = keys ++ [s] ∧ F7 keys vs s x = vs ++ [x]
  | [], [], _, _ => ⟨rfl, rfl⟩
  | [], _ :: _, _, h => by simp at h
  | k :: ks, [], _, h => by simp at h
  | k :: ks, v :: vs, h, hl => by
    simp only [List.mem_cons, not_or] at h
    obtain ⟨h1, h2⟩ := AGJ (x := x) h.2 (by simpa using hl : vs.length = ks.length)
    simp only [Eh, F7, if_neg h.1, h1, h2, List.cons_append, and_self]
theorem AJE {k : Nat} {s : List UInt8} {x : ApiValue} {acc : List (List UInt8) × List ApiValue} {st : St} (hl : acc.1.length = acc.2.length) (hs : s ∉ acc.1) (hm : Ao st.m k = some [.map acc.1 (acc.2.map AA)]) : KS vE 60 (.sh k) (.str s) (AA x) st = some { st with m := BH st.m k [.map (acc.1 ++ [s]) ((acc.2 ++ [x]).map AA)] } := by
  obtain ⟨e, h1, _⟩ := WJ
  obtain ⟨h3, h4⟩ := AGJ (x := AA x) (vs := acc.2.map AA) hs (by simp [hl])
  simp [KS, h1, KM, hm, h3, h4]
def jqG (items : List ApiValue) (suf : List (List UInt8)) (i : Int) (acc : { a : List (List UInt8) × List ApiValue // a.1.length = a.2.length }) : Option (List (List UInt8) × List ApiValue) := some (DL items suf i.toNat acc.1)
theorem M3 {v : ApiValue} (hks : Ab v.keys.length) (hi : Ab v.items.length) (ha : args = [AA v]) (hQ : ∀ n' i, n ≤ i → i < n' → Gl (Q (.sh i) ⟨(i, [.map (DL v.items v.keys 0 ([], [])).1 ((DL v.items v.keys 0 ([], [])).2.map AA)]) :: m, n'⟩)) : ACall vE 26 args ⟨m, n⟩ Q := by
 have h : True ∧ jqG v.items v.keys 0 ⟨([], []), rfl⟩ = some (DL v.items v.keys 0 ([], [])) := ⟨trivial, rfl⟩
 subst ha
 refine AKm Tryz.func26 rfl Tryz.ntmps26 Tryz.results26 (.q (.r []) (.q (.r []) (.q (.q (.r []) .z) (.q (.r []) .z)))) fun R hR => ?_
 simp (disch := omega) only [vm, seval, h.1]
 refine ⟨Da (σ := { a : List (List UInt8) × List ApiValue // a.1.length = a.2.length }) (γ := Unit) v.keys hks (jqG v.items) (fun i s g => [.int .i64 i]) (fun i s g => (n + 1, [.map s.1.1 (s.1.2.map AA)]) :: (n, [.int .i64 v.kind, .str v.text, .slice 1 (v.keys.map AVal.str) false, .slice 4 (v.items.map AA) false]) :: m) [2, 4, 5, 6, 7, 13, 14, 15, 16, 17, 18, 19, 20, 21, 22, 23, 24, 25, 26, 27, 28, 29, 30, 31, 32, 33, 34, 35, 36, 37, 38, 39] [12] ⟨([], []), rfl⟩ () h (by simp only [List.map_nil]) (by first | (simp (disch := omega) only [vm, seval, h.1]; done) | rfl) ?_ ?_⟩ <;> clear h
 · rintro i acc g n4 hn4 hk4 h
   have h2 : acc.1 = DL v.items v.keys 0 ([], []) := by
     have := h.2
     simpa [jqG, DL] using this
   refine AB (.q (.r []) (.q (.c .z .z) .z)) ?_
   simp (disch := omega) only [vm, seval, h.1.1]
   refine ⟨(hR _ _ _ _ _ _ (by simp (disch := omega) only [vm, seval]; rfl) (.cons_cons (n + 1, [.map acc.1.1 (acc.1.2.map AA)]) (.cons _ (List.Sublist.refl m))) (by omega) ?_).1⟩
   have := (hQ n4 (n + 1) (by omega) (Vq hk4).1).go
   rw [← h2] at this
   exact this
 · intro x xs i acc g n4 hn4 hk4 h Jk hJ
   obtain ⟨⟨h1, h2, h3, _⟩, h4⟩ := h
   have hp : 0 ≤ i := by
     unfold idx at h2; split at h2
     · assumption
     · cases h2
   refine AB (.q (.r []) (.q (.c .z .z) (.q (.q (.r []) (.q (.r []) (.q (.r []) (.c (.r []) .z)))) (.r [])))) ?_
   have hlk := P7 (k := n + 1) (s := x) (acc := acc.1) (st := ⟨(n + 1, [.map acc.1.1 (acc.1.2.map AA)]) :: (n, [.int .i64 v.kind, .str v.text, .slice 1 (v.keys.map AVal.str) false, .slice 4 (v.items.map AA) false]) :: m, n4⟩) acc.2 (by simp [Ao])
   have hj : ∀ (acc' : { a : List (List UInt8) × List ApiValue // a.1.length = a.2.length }), jqG v.items (x :: xs) i acc = jqG v.items xs (i + 1) acc' → jqG v.items xs (i + 1) acc' = some (DL v.items v.keys 0 ([], [])) := fun acc' e => e.symm.trans h4
   have hti : (i + 1).toNat = i.toNat + 1 := by omega
   have hhas := AK7 acc.2 x
   cases hh : (Aw acc.1 x).2
   · rw [hh] at hhas
     have hnot : x ∉ acc.1.1 := by simpa using hhas
     by_cases hlt : i < (v.items.length : Int)
     · obtain ⟨y, hy⟩ : ∃ y, v.items[i.toNat]? = some y := ⟨v.items[i.toNat]'(by omega), List.getElem?_eq_getElem (by omega)⟩
       have hy2 : idx v.items i = some y := by unfold idx; rw [if_pos hp, hy]
       have hup := fun st (hm : Ao st.m (n + 1) = some [.map acc.1.1 (acc.1.2.map AA)]) => AJE (k := n + 1) (s := x) (x := y) (acc := acc.1) (st := st) acc.2 hnot hm
       simp (disch := omega) only [vm, seval, h1, h2, h3, hlk, hh, decide_eq_true hlt, hy2]
       rw [← BO, hup _ (by simp (disch := omega) only [vm])]
       simp (disch := omega) only [vm, seval, h3]
       refine ⟨hJ ⟨(acc.1.1 ++ [x], acc.1.2 ++ [y]), by simp [acc.2]⟩ () _ _ _ _ (hj _ ?_) (.cons _ slr) ?_ ?_ ?_ (by omega)⟩
       · simp only [jqG, DL, hti, hy, if_neg hnot]
       all_goals first | (simp (disch := omega) only [vm, seval, h3]; done) | rfl
     · have hy : v.items[i.toNat]? = none := List.getElem?_eq_none (by omega)
       simp (disch := omega) only [vm, seval, h1, h2, h3, hlk, hh, decide_eq_false hlt]
       refine ⟨hJ acc () _ _ _ _ (hj _ ?_) (.cons _ slr) ?_ ?_ ?_ (by omega)⟩
       · simp only [jqG, DL, hti, hy]
       all_goals first | (simp (disch := omega) only [vm, seval, h3]; done) | rfl
   · rw [hh] at hhas
     have hin : x ∈ acc.1.1 := by simpa using hhas
     simp (disch := omega) only [vm, seval, h1, h2, h3, hlk, hh]
     refine ⟨hJ acc () _ _ _ _ (hj _ ?_) (.cons _ slr) ?_ ?_ ?_ (by omega)⟩
     · simp only [jqG, DL, hti]
       cases v.items[i.toNat]? with
       | none => rfl
       | some y => simp only [if_pos hin]
     all_goals first | (simp (disch := omega) only [vm, seval, h3]; done) | rfl
theorem MF (items : List ApiValue) : ∀ (ks : List (List UInt8)) (i : Nat) (acc : List (List UInt8) × List ApiValue), acc.1.length = acc.2.length → (DL items ks i acc).1.length = (DL items ks i acc).2.length
  | [], i, acc, h => h
  | k :: ks, i, acc, h => by
    rw [DL]
    refine MF items ks (i + 1) _ ?_
    split
    · split
      · exact h
      · simp [h]
    · exact h
theorem AKA (N : Nat) : ∀ (D : Nat) (a b : ApiValue) (r : Bool), EH N D a b = some r → ∀ {n : Nat} {m : MS} {Q : PQ} {args : List AVal}, args = [AA a, AA b] → (∀ n', n ≤ n' → Gl (Q (.bool r) ⟨m, n'⟩)) → ACall vE 14 args ⟨m, n⟩ Q := by
 intro D
 induction D with
 | zero => intro a b r h; cases h
 | succ D ih =>
  intro a b r h n m Q args ha hQ
  subst ha
  rw [EH] at h
  refine ent hQ Tryz.func14 rfl Tryz.ntmps14 Tryz.results14 (.q (.r []) (.q (.q (.r []) (.c (.q (.r []) .z) .z)) (.q (.q (.r []) (.q (.q (.r []) (.c .z (.q (.r []) (.c .z (.r []))))) (.c (.q (.r []) .z) (.q (.q (.r []) (.c .z (.r []))) (.c (.q (.r []) .z) (.q (.r []) (.c (.q (.q (.r []) (.c (.q (.r []) .z) .z)) (.q (.q (.r []) .z) (.q (.r []) .z))) (.q (.r []) (.c (.q (.q (.r []) (.c (.q (.r []) .z) .z)) .z) .z))))))))) (.q (.r []) .z)))) fun R hR => ?_
  have fin : ∀ {x : Bool}, x = r → AVal.bool x = AVal.bool r := fun e => by rw [e]
  cases h0 : a.kind != b.kind
  · cases h1 : a.kind == 1 <;> cases h2 : a.kind == 2 <;> cases h3 : a.kind == 3 <;> cases h4 : a.kind == 4 <;> cases h5 : a.kind == 5 <;> cases h6 : a.kind == 6 <;> cases h7 : a.kind == 7
    all_goals
      try (exfalso; simp only [beq_iff_eq, beq_eq_false_iff_ne] at h1 h2 h3 h4 h5 h6 h7; omega)
    all_goals
      simp only [h0, h1, h2, h3, h4, h5, h6, h7, Bool.or_false, Bool.or_true, Bool.false_or, Bool.true_or, Bool.false_eq_true, if_false, if_true] at h
    all_goals
      try (simp only [Option.some.injEq] at h; simp (disch := omega) only [vm, seval, h0, h1, h2, h3, h4, h5, h6, h7]; refine ⟨(hR _ _ _ _ _ _ (by simp (disch := omega) only [vm, seval]; rfl) (.cons _ (.cons _ slr)) rfl (by omega) (by subst h; rfl)).1⟩; done)
    · -- objects
      cases hl : (a.keys.length : Int) != (b.keys.length : Int)
      · rw [hl, if_neg (by decide)] at h
        obtain ⟨⟨f1, f2, f3, f4⟩, h⟩ := NL h
        simp (disch := omega) only [vm, seval, h0, h1, h2, h3, h4, h5, h6, h7, hl]
        refine ⟨AB (.q .z .z) ?_⟩
        simp (disch := omega) only [vm, seval]
        refine ⟨Au [] (.take 0 (.take 2 (.alt 1 [2] (.alt 3 [0] (.alt 4 [2] (.alt 5 [] (.done) (.stop)) (.stop)) (.stop)) (.stop)))) Ah (by kernel_rfl) ?_⟩
        simp (disch := omega) only [vm, seval]
        have hea : ∀ v : ApiValue, AVal.agg [.int .i64 v.kind, .str v.text, .slice 1 (List.map AVal.str v.keys) false, .slice 4 (List.map AA v.items) false] = AA v := fun v => (BO v).symm
        refine ⟨M3 (v := a) f1 f2 (by rw [hea]) fun n1 i1 g1 g2 => ?_⟩
        simp (disch := omega) only [vm, seval]
        refine ⟨M3 (v := b) f3 f4 (by rw [hea]) fun n2 i2 g3 g4 => ?_⟩
        simp (disch := omega) only [vm, seval]
        have hla : (DL a.items a.keys 0 ([], [])).1.length = (DL a.items a.keys 0 ([], [])).2.length := MF _ _ _ _ rfl
        have hlb : (DL b.items b.keys 0 ([], [])).1.length = (DL b.items b.keys 0 ([], [])).2.length := MF _ _ _ _ rfl
        generalize DL a.items a.keys 0 ([], []) = ma at *
        generalize DL b.items b.keys 0 ([], []) = mb at *
        have e12 : i1 ≠ i2 := by omega
        refine ⟨AB (.q (.q (.r []) .z) (.q (.r []) .z)) ?_⟩
        simp (disch := omega) only [vm, seval]
        refine ⟨Da (σ := Unit) (γ := Unit) a.keys f1 (fun xs i _ => JI (EH N D) ma mb xs) (fun i s g => [.int .i64 i]) (fun i s g => (i2, [.map mb.1 (mb.2.map AA)]) :: (i1, [.map ma.1 (ma.2.map AA)]) :: (n + 1, [.int .i64 b.kind, .str b.text, .slice 1 (b.keys.map AVal.str) false, .slice 4 (b.items.map AA) false]) :: (n, [.int .i64 a.kind, .str a.text, .slice 1 (a.keys.map AVal.str) false, .slice 4 (a.items.map AA) false]) :: m) [9, 10, 11, 12, 13, 78, 79, 80, 81, 82, 83, 84, 85, 86, 87, 88, 89, 90, 91, 92, 93, 94, 95, 96, 97, 98, 99, 100, 101, 102, 103, 104, 105] [77] () () (And.intro trivial h) (by first | (simp (disch := omega) only [vm, seval]; done) | rfl) (by first | (simp (disch := omega) only [vm, seval]; done) | rfl) ?_ ?_⟩ <;> clear h
        · rintro i _ _ n5 hn5 hk5 h
          have hr : true = r := by simpa [JI] using h.2
          refine AB (.q (.r []) (.q (.c .z .z) .z)) ?_
          simp (disch := omega) only [vm, seval, h.1.1]
          refine ⟨(hR _ _ _ _ _ _ (by simp (disch := omega) only [vm, seval]; rfl) (.cons _ (.cons _ (.cons _ (.cons _ slr)))) rfl (by omega) (by subst hr; rfl)).1⟩
        · intro x xs i _ _ n5 hn5 hk5 h Jk hJ
          obtain ⟨⟨g5, g6, g7, _⟩, h⟩ := h
          simp only [JI] at h
          have hla2 := fun st (hm : Ao st.m i1 = some [.map ma.1 (ma.2.map AA)]) => P7 (k := i1) (s := x) (acc := ma) (st := st) hla hm
          have hlb2 := fun st (hm : Ao st.m i2 = some [.map mb.1 (mb.2.map AA)]) => P7 (k := i2) (s := x) (acc := mb) (st := st) hlb hm
          refine AB (.q (.r []) (.q (.c .z .z) (.q (.q (.r []) (.q (.r []) .z)) (.r [])))) ?_
          simp (disch := omega) only [vm, seval, g5, g6, g7]
          rw [hla2 _ (by simp (disch := omega) only [vm])]
          simp (disch := omega) only [vm, seval, g5, g6, g7]
          refine ⟨AB (.q (.r []) .z) ?_⟩
          simp (disch := omega) only [vm, seval]
          rw [hlb2 _ (by simp (disch := omega) only [vm])]
          simp (disch := omega) only [vm, seval]
          refine ⟨AB (.q (.r []) (.c (.q (.r []) .z) .z)) ?_⟩
          cases ha1 : (Aw ma x).2
          · simp only [ha1, Bool.false_eq_true, if_false, Option.some.injEq] at h
            simp (disch := omega) only [vm, seval, ha1]
            refine ⟨(hR _ _ _ _ _ _ (by simp (disch := omega) only [vm, seval]; rfl) (.cons _ (.cons _ (.cons _ (.cons _ (.cons _ (.cons _ slr)))))) rfl (by omega) (by subst h; rfl)).1⟩
          · cases hb1 : (Aw mb x).2
            · simp only [ha1, hb1, Bool.false_eq_true, if_false, if_true, Option.some.injEq] at h
              simp (disch := omega) only [vm, seval, ha1, hb1]
              refine ⟨(hR _ _ _ _ _ _ (by simp (disch := omega) only [vm, seval]; rfl) (.cons _ (.cons _ (.cons _ (.cons _ (.cons _ (.cons _ slr)))))) rfl (by omega) (by subst h; rfl)).1⟩
            · simp only [ha1, hb1, if_true] at h
              obtain ⟨rr, g8, g9⟩ := bind_some h
              simp (disch := omega) only [vm, seval, ha1, hb1]
              refine ⟨ih _ _ rr g8 (by rw [hea, hea]) fun n6 hn6 => ?_⟩
              simp (disch := omega) only [vm, seval, ha1, hb1]
              cases rr
              · simp only [Bool.false_eq_true, if_false, Option.some.injEq] at g9
                simp (disch := omega) only [vm, seval]
                refine ⟨(hR _ _ _ _ _ _ (by simp (disch := omega) only [vm, seval]; rfl) (.cons _ (.cons _ (.cons _ (.cons _ (.cons _ (.cons _ slr)))))) rfl (by omega) (by subst g9; rfl)).1⟩
              · simp only [if_true] at g9
                simp (disch := omega) only [vm, seval, g7]
                refine ⟨hJ () () _ _ _ _ g9 (.cons _ (.cons _ slr)) ?_ ?_ ?_ (by omega)⟩ <;> first | (simp (disch := omega) only [vm, seval, g7]; done) | rfl
      · rw [hl, if_pos rfl] at h
        cases h
        simp (disch := omega) only [vm, seval, h0, h1, h2, h3, h4, h5, h6, h7, hl]
        refine ⟨(hR _ _ _ _ _ _ (by simp (disch := omega) only [vm, seval]; rfl) (.cons _ (.cons _ slr)) rfl (by omega) rfl).1⟩
    · -- arrays
      cases hl : (a.items.length : Int) != (b.items.length : Int)
      · rw [hl, if_neg (by decide)] at h
        obtain ⟨hf, h⟩ := NL h
        simp (disch := omega) only [vm, seval, h0, h1, h2, h3, h4, h5, h6, h7, hl]
        refine ⟨Da (σ := Unit) (γ := Unit) a.items hf (fun xs i _ => Hz (EH N D) b.items xs i) (fun i s g => [.int .i64 i]) (fun i s g => (n + 1, [.int .i64 b.kind, .str b.text, .slice 1 (b.keys.map AVal.str) false, .slice 4 (b.items.map AA) false]) :: (n, [.int .i64 a.kind, .str a.text, .slice 1 (a.keys.map AVal.str) false, .slice 4 (a.items.map AA) false]) :: m) [5, 46, 47, 48, 49, 50, 51, 52, 53, 54, 55, 56, 57, 58, 59, 60] [45] () () (And.intro trivial h) (by first | (simp (disch := omega) only [vm, seval]; done) | rfl) (by first | (simp (disch := omega) only [vm, seval]; done) | rfl) ?_ ?_⟩ <;> clear h
        · rintro i _ _ n4 hn4 hk4 h
          have hr : true = r := by simpa [Hz] using h.2
          refine AB (.q (.r []) (.q (.c .z .z) .z)) ?_
          simp (disch := omega) only [vm, seval, h.1.1]
          refine ⟨(hR _ _ _ _ _ _ (by simp (disch := omega) only [vm, seval]; rfl) (.cons _ (.cons _ slr)) rfl (by omega) (by subst hr; rfl)).1⟩
        · intro x xs i _ _ n4 hn4 hk4 h Jk hJ
          obtain ⟨⟨g1, g2, g3, _⟩, g4⟩ := h
          simp only [Hz] at g4
          obtain ⟨y, g5, g6⟩ := bind_some g4
          obtain ⟨rr, g7, g8⟩ := bind_some g6
          refine AB (.q (.r []) (.q (.c .z .z) (.q (.q (.r []) (.q .z (.c (.q (.r []) .z) .z))) (.r [])))) ?_
          simp (disch := omega) only [vm, seval, g1, g2, g3]
          have hea : ∀ v : ApiValue, AVal.agg [.int .i64 v.kind, .str v.text, .slice 1 (List.map AVal.str v.keys) false, .slice 4 (List.map AA v.items) false] = AA v := fun v => (BO v).symm
          refine ⟨Au [] (.take 0 (.take 1 (.take 2 (.take 3 (.take 4 (.take 5 (.take 6 (.take 7 (.take 8 (.take 9 (.alt 10 [8, 7, 6, 5, 3, 2, 1, 0] (.take 11 (.done)) (.stop)))))))))))) Ah (by kernel_rfl) ?_⟩
          simp (disch := omega) only [vm, seval, g1, g2, g3, g5]
          refine ⟨ih x y rr g7 (by rw [hea, hea]) fun n6 hn6 => ?_⟩
          simp (disch := omega) only [vm, seval, g1, g2, g3, g5]
          cases rr
          · simp only [Bool.false_eq_true, if_false, Option.some.injEq] at g8
            simp (disch := omega) only [vm, seval]
            refine ⟨(hR _ _ _ _ _ _ (by simp (disch := omega) only [vm, seval]; rfl) (.cons _ (.cons _ slr)) rfl (by omega) (by subst g8; rfl)).1⟩
          · simp only [if_true] at g8
            simp (disch := omega) only [vm, seval, g3]
            refine ⟨hJ () () _ _ _ _ g8 slr ?_ ?_ ?_ (by omega)⟩ <;> first | (simp (disch := omega) only [vm, seval, g3]; done) | rfl
      · rw [hl, if_pos rfl] at h
        cases h
        simp (disch := omega) only [vm, seval, h0, h1, h2, h3, h4, h5, h6, h7, hl]
        refine ⟨(hR _ _ _ _ _ _ (by simp (disch := omega) only [vm, seval]; rfl) (.cons _ (.cons _ slr)) rfl (by omega) rfl).1⟩
  · rw [if_pos h0] at h
    cases h
    simp (disch := omega) only [vm, seval, h0]
    refine ⟨(hR _ _ _ _ _ _ (by simp (disch := omega) only [vm, seval]; rfl) (.cons _ (.cons _ slr)) ?_ (by omega) ?_).1⟩ <;> first | (simp (disch := omega) only [vm, seval]; done) | rfl
theorem PN {a0 a1 r} (h : JQ N a0 a1 = some r) (ha : args = [AA a0, AA a1]) (hQ : ∀ n', n ≤ n' → Gl (Q (.bool r) ⟨m, n'⟩)) : ACall vE 14 args ⟨m, n⟩ Q := AKA N N a0 a1 r h ha hQ
end Go.Proofs.YtbmilkoebhmnnaaGreatDoor
