/- What the decoder of resource descriptors computes, as plain functions over lists. -/
import Derived.Test.YtdbeiialamganaaDefs
import Derived.Test.YtdbeiialamganaaBase
set_option linter.unusedVariables false
set_option linter.unusedSimpArgs false
namespace Go.VM

def zeroV : ApiValue := ApiValue.mk 0 [] [] []
def getL : List (List UInt8) → List ApiValue → List UInt8 → ApiValue × Bool
  | k :: ks, x :: xs, key => if k == key then (x, true) else getL ks xs key
  | _, _, _ => (zeroV, false)
def getJ (v : ApiValue) (key : List UInt8) : ApiValue × Bool := if v.kind == 7 then getL v.keys v.items key else (zeroV, false)
def failD (d : JrdDecoder) (x : Int) : JrdDecoder := if d.e == 0 then ⟨x⟩ else d
def textD (d : JrdDecoder) (v : ApiValue) : List UInt8 × JrdDecoder := if v.kind != 5 then ([], failD d 160) else (v.text, d)
def memberD (d : JrdDecoder) (g : ApiValue × Bool) : List UInt8 × JrdDecoder := if g.2 then textD d g.1 else ([], d)
def countD (v : ApiValue) : Nat := if v.kind == 7 then min v.keys.length v.items.length else v.items.length
def itemsD (d : JrdDecoder) (g : ApiValue × Bool) (kind : Int) : ApiValue × JrdDecoder :=
  if !g.2 || d.e != 0 then (zeroV, d) else if g.1.kind != kind then (zeroV, failD d 160) else if 64 < countD g.1 then (zeroV, failD d 161) else (g.1, d)
def propD (null : Bool) (d : JrdDecoder) (x : ApiValue) : List UInt8 × Bool × JrdDecoder :=
  if null && x.kind == 1 then ([], true, d) else ((textD d x).1, false, (textD d x).2)
def propsL (null : Bool) : List (List UInt8) → List ApiValue → JrdDecoder → List ApiProperty × JrdDecoder
  | k :: ks, x :: xs, d =>
    let p := propD null d x
    let r := propsL null ks xs p.2.2
    (ApiProperty.mk k p.1 p.2.1 :: r.1, r.2)
  | _, _, d => ([], d)
def propsD (d : JrdDecoder) (g : ApiValue × Bool) (null : Bool) : List ApiProperty × JrdDecoder :=
  let m := itemsD d g 7
  propsL null m.1.keys m.1.items m.2
def kRel : List UInt8 := [114, 101, 108]
def kType : List UInt8 := [116, 121, 112, 101]
def kHref : List UInt8 := [104, 114, 101, 102]
def kTempl : List UInt8 := [116, 101, 109, 112, 108, 97, 116, 101]
def kTitles : List UInt8 := [116, 105, 116, 108, 101, 115]
def kProps : List UInt8 := [112, 114, 111, 112, 101, 114, 116, 105, 101, 115]
def kSubj : List UInt8 := [115, 117, 98, 106, 101, 99, 116]
def kAli : List UInt8 := [97, 108, 105, 97, 115, 101, 115]
def kLinks : List UInt8 := [108, 105, 110, 107, 115]
def linkD (d : JrdDecoder) (v : ApiValue) : ApiLink × JrdDecoder :=
  let d0 := if (getJ v kRel).2 then d else failD d 160
  let a := memberD d0 (getJ v kRel)
  let b := memberD a.2 (getJ v kType)
  let c := memberD b.2 (getJ v kHref)
  let e := memberD c.2 (getJ v kTempl)
  let f := propsD e.2 (getJ v kTitles) false
  let g := propsD f.2 (getJ v kProps) true
  (ApiLink.mk a.1 b.1 c.1 e.1 f.1 g.1, g.2)
def linksL : List ApiValue → JrdDecoder → List ApiLink × JrdDecoder
  | [], d => ([], d)
  | x :: xs, d => let l := linkD d x; let r := linksL xs l.2; (l.1 :: r.1, r.2)
def textsL : List ApiValue → JrdDecoder → List (List UInt8) × JrdDecoder
  | [], d => ([], d)
  | x :: xs, d => let l := textD d x; let r := textsL xs l.2; (l.1 :: r.1, r.2)
/-- what is decoded, from the four members -/
def decG (gs ga gp gl : ApiValue × Bool) : ApiJRD × Int :=
  let s := memberD ⟨0⟩ gs
  let m := itemsD s.2 ga 6
  let a := textsL m.1.items m.2
  let p := propsD a.2 gp true
  let m2 := itemsD p.2 gl 6
  let l := linksL m2.1.items m2.2
  if l.2.e != 0 then (ApiJRD.mk [] [] [] [], l.2.e) else (ApiJRD.mk s.1 a.1 p.1 l.1, 0)
def decJ (v : ApiValue) : ApiJRD × Int :=
  if v.kind != 7 then (ApiJRD.mk [] [] [] [], 160) else decG (getJ v kSubj) (getJ v kAli) (getJ v kProps) (getJ v kLinks)

section
variable {N : Nat}
theorem get_none (v : ApiValue) (key : List UInt8) (k5 : Unit → Option (ApiValue × Bool)) : ∀ (ks : List (List UInt8)) (i : Int), (v.items.length : Int) ≤ i → jsondoc_Get_L1 N v key k5 ks i = k5 ()
  | [], i, h => by rw [jsondoc_Get_L1]
  | x :: ks, i, h => by
    have h3 : decide (i < (v.items.length : Int)) = false := by simp; omega
    rw [jsondoc_Get_L1, joinK_eq, h3, get_none v key k5 ks (i + 1) (by omega)]
    simp
theorem get_loop (v : ApiValue) (key : List UInt8) (k5 : Unit → Option (ApiValue × Bool)) (h5 : k5 () = some (zeroV, false)) : ∀ (ks : List (List UInt8)) (xs xpre : List ApiValue), v.items = xpre ++ xs →
    jsondoc_Get_L1 N v key k5 ks (xpre.length : Int) = some (if v.kind == 7 then getL ks xs key else (zeroV, false))
  | [], xs, xpre, hx => by
    rw [jsondoc_Get_L1]; simp [h5, getL]
  | x :: ks, [], xpre, hx => by
    have e : getL (x :: ks) [] key = (zeroV, false) := by simp [getL]
    rw [get_none v key k5 _ _ (by rw [hx]; simp), h5, e]; simp
  | x :: ks, y :: ys, xpre, hx => by
    have ih := get_loop v key k5 h5 ks ys (xpre ++ [y]) (by rw [hx]; simp)
    rw [jsondoc_Get_L1, joinK_eq, lt_at hx, idx_at hx, Option.bind_some, len_snoc xpre y, ih, getL]
    cases v.kind == 7 <;> cases x == key <;> simp
theorem get_eq (v : ApiValue) (key : List UInt8) (hb : v.keys.length ≤ 900000) : jsondoc_Get N v key = some (getJ v key) := by
  have := get_loop (N := N) v key (fun _ => some (zeroV, false)) rfl v.keys v.items [] rfl
  unfold jsondoc_Get getJ
  rw [joinK_eq, grdS (by omega)]
  exact this
theorem fail_eq (d : JrdDecoder) (x : Int) : jrd_decoder_fail N d x = some (failD d x) := by
  unfold jrd_decoder_fail failD; split <;> rfl
theorem text_eq (d : JrdDecoder) (v : ApiValue) : jrd_decoder_text N d v = some (textD d v) := by
  unfold jrd_decoder_text textD; rw [fail_eq]; split <;> rfl
theorem member_eq (d : JrdDecoder) (v : ApiValue) (key : List UInt8) (hb : v.keys.length ≤ 900000) : jrd_decoder_member N d v key = some (memberD d (getJ v key)) := by
  unfold jrd_decoder_member memberD; rw [get_eq v key hb, Option.bind_some, text_eq, Option.bind_some]; split <;> rfl
theorem count_eq (v : ApiValue) : jrd_count N v = some (countD v : Int) := by
  unfold jrd_count countD
  split
  · congr 1
    split <;> omega
  · rfl
theorem items_eq (d : JrdDecoder) (v : ApiValue) (key : List UInt8) (kind : Int) (hb : v.keys.length ≤ 900000) : jrd_decoder_items N d v key kind 64 = some (itemsD d (getJ v key) kind) := by
  unfold jrd_decoder_items itemsD
  rw [get_eq v key hb, Option.bind_some]
  simp only [joinK_eq, count_eq, fail_eq, Option.bind_some]
  cases h1 : (getJ v key).2
  · simp [zeroV]
  · cases h2 : (d.e != 0)
    · simp only [Bool.not_true, Bool.or_false, Bool.false_eq_true, if_false, if_true]
      split
      · rfl
      · have : decide ((countD (getJ v key).1 : Int) > 64) = decide (64 < countD (getJ v key).1) := by
          rw [decide_eq_decide]; omega
        rw [this]
        simp only [decide_eq_true_eq]
        split <;> rfl
    · simp [zeroV]
theorem props_loop (null : Bool) (m : ApiValue × JrdDecoder) (k4 : List ApiProperty × JrdDecoder → Option (List ApiProperty × JrdDecoder)) : ∀ (ks : List (List UInt8)) (xs : List ApiValue) (pre : List (List UInt8)) (out : List ApiProperty) (d : JrdDecoder), m.1.keys = pre ++ ks → out.length + min ks.length xs.length ≤ 1000 →
    jrd_decoder_properties_L1 N null m k4 xs (pre.length : Int) out d = k4 (out ++ (propsL null ks xs d).1, (propsL null ks xs d).2)
  | ks, [], pre, out, d, hl, _ => by
    rw [jrd_decoder_properties_L1]
    cases ks <;> simp [propsL]
  | [], x :: xs, pre, out, d, hl, _ => by
    have h5 : decide ((pre.length : Int) ≥ (m.1.keys.length : Int)) = true := by rw [hl]; simp
    rw [jrd_decoder_properties_L1, h5, if_pos rfl]
    simp [propsL]
  | y :: ks, x :: xs, pre, out, d, hl, hb => by
    simp only [List.length_cons] at hb
    have h5 : decide ((pre.length : Int) ≥ (m.1.keys.length : Int)) = false := by rw [hl]; simp; omega
    have ih := fun p : ApiProperty => fun d' : JrdDecoder => props_loop null m k4 ks xs (pre ++ [y]) (out ++ [p]) d' (by rw [hl]; simp) (by simp; omega)
    rw [jrd_decoder_properties_L1, h5, idx_at hl, Option.bind_some, len_snoc pre y]
    simp only [Bool.false_eq_true, if_false, joinK_eq, text_eq, Option.bind_some]
    simp only [grdA (show out.length + 1 ≤ 1000000 by omega) (show (40 : Nat) ≤ 100000 by omega), ih, List.append_assoc, List.singleton_append]
    rw [propsL]
    simp only [propD]
    cases null <;> cases h7 : x.kind == 1 <;> simp
theorem items_len (d : JrdDecoder) (g : ApiValue × Bool) : min (itemsD d g 7).1.keys.length (itemsD d g 7).1.items.length ≤ 64 := by
  unfold itemsD
  split
  · simp [zeroV]
  · split
    · simp [zeroV]
    · split
      · simp [zeroV]
      · rename_i h1 h2 h3
        have : (g.1.kind == 7) = true := by simpa using h2
        simp only [countD, this, if_true] at h3
        simpa using h3
theorem itemsD_mem (d : JrdDecoder) (g : ApiValue × Bool) (kind : Int) : (itemsD d g kind).1 = g.1 ∨ (itemsD d g kind).1 = zeroV := by
  unfold itemsD
  split
  · exact .inr rfl
  · split
    · exact .inr rfl
    · split
      · exact .inr rfl
      · exact .inl rfl
theorem getL_mem : ∀ (ks : List (List UInt8)) (xs : List ApiValue) (key : List UInt8), (getL ks xs key).1 ∈ xs ∨ (getL ks xs key).1 = zeroV
  | [], xs, key => .inr (by cases xs <;> rfl)
  | k :: ks, [], key => .inr rfl
  | k :: ks, x :: xs, key => by
    rw [getL]
    split
    · exact .inl (by simp)
    · rcases getL_mem ks xs key with h | h
      · exact .inl (by simp [h])
      · exact .inr h
theorem getJ_mem (v : ApiValue) (key : List UInt8) : (getJ v key).1 ∈ v.items ∨ (getJ v key).1 = zeroV := by
  unfold getJ; split
  · exact getL_mem ..
  · exact .inr rfl
/-- a value whose lists are not too long, so far as the decoder looks -/
inductive okV : ApiValue → Prop
  | mk (v : ApiValue) (hk : v.keys.length ≤ 900000) (hi : v.items.length ≤ 900000) (h : ∀ x, x ∈ v.items → okV x) : okV v
theorem okV.keys {v : ApiValue} : okV v → v.keys.length ≤ 900000 | .mk _ h _ _ => h
theorem okV.items {v : ApiValue} : okV v → v.items.length ≤ 900000 | .mk _ _ h _ => h
theorem okV.sub {v : ApiValue} : okV v → ∀ x, x ∈ v.items → okV x | .mk _ _ _ h => h
theorem okV_zero : okV zeroV := .mk _ (by simp [zeroV]) (by simp [zeroV]) (by simp [zeroV])
theorem okV_get {v : ApiValue} (h : okV v) (key : List UInt8) : okV (getJ v key).1 := by
  rcases getJ_mem v key with e | e
  · exact h.sub _ e
  · rw [e]; exact okV_zero
theorem okV_items {g : ApiValue × Bool} (h : okV g.1) (d : JrdDecoder) (kind : Int) : okV (itemsD d g kind).1 := by
  rcases itemsD_mem d g kind with e | e <;> rw [e]
  · exact h
  · exact okV_zero
theorem props_eq (d : JrdDecoder) (v : ApiValue) (key : List UInt8) (null : Bool) (hv : okV v) : jrd_decoder_properties N d v key null = some (propsD d (getJ v key) null) := by
  have hc := items_len d (getJ v key)
  unfold jrd_decoder_properties propsD
  rw [items_eq d v key 7 hv.keys, Option.bind_some, joinK_eq, grdS (by have := (okV_items (okV_get hv key) d 7).items; omega)]
  have := props_loop (N := N) null (itemsD d (getJ v key) 7) (fun j12 => some (j12.1, j12.2)) (itemsD d (getJ v key) 7).1.keys (itemsD d (getJ v key) 7).1.items [] [] (itemsD d (getJ v key) 7).2 rfl (by simp; omega)
  simpa using this
theorem link_eq (d : JrdDecoder) (v : ApiValue) (hv : okV v) : jrd_decoder_link N d v = some (linkD d v) := by
  unfold jrd_decoder_link linkD
  simp only [joinK_eq, get_eq v _ hv.keys, member_eq _ v _ hv.keys, props_eq _ v _ _ hv, fail_eq, Option.bind_some]
  simp only [kRel, kType, kHref, kTempl, kTitles, kProps]
  rcases Bool.eq_false_or_eq_true (getJ v [114, 101, 108]).2 with h | h <;> simp only [h, Bool.false_eq_true, if_false, if_true]
theorem links_loop (k19 : List ApiLink × JrdDecoder → Option (ApiJRD × Int)) : ∀ (xs : List ApiValue) (out : List ApiLink) (d : JrdDecoder), out.length + xs.length ≤ 1000 → (∀ x, x ∈ xs → okV x) →
    jrd_Decode_L2 N k19 xs out d = k19 (out ++ (linksL xs d).1, (linksL xs d).2)
  | [], out, d, _, _ => by rw [jrd_Decode_L2]; simp [linksL]
  | x :: xs, out, d, hb, hw => by
    simp only [List.length_cons] at hb
    rw [jrd_Decode_L2, joinK_eq, link_eq d x (hw x (by simp)), Option.bind_some, grdA (by omega) (by omega)]
    refine (links_loop k19 xs _ _ (by simp; omega) (fun y hy => hw y (by simp [hy]))).trans ?_
    simp only [linksL, List.append_assoc, List.singleton_append]
theorem texts_loop (k4 : List (List UInt8) × JrdDecoder → Option (ApiJRD × Int)) : ∀ (xs : List ApiValue) (out : List (List UInt8)) (d : JrdDecoder), out.length + xs.length ≤ 1000 →
    jrd_Decode_L1 N k4 xs out d = k4 (out ++ (textsL xs d).1, (textsL xs d).2)
  | [], out, d, _ => by rw [jrd_Decode_L1]; simp [textsL]
  | x :: xs, out, d, hb => by
    simp only [List.length_cons] at hb
    rw [jrd_Decode_L1, joinK_eq, text_eq, Option.bind_some, grdA (by omega) (by omega)]
    refine (texts_loop k4 xs _ _ (by simp; omega)).trans ?_
    simp only [textsL, List.append_assoc, List.singleton_append]
theorem items6 (d : JrdDecoder) (g : ApiValue × Bool) : (itemsD d g 6).1.items.length ≤ 64 := by
  unfold itemsD
  split
  · simp [zeroV]
  · split
    · simp [zeroV]
    · split
      · simp [zeroV]
      · rename_i h1 h2 h3
        have : g.1.kind = 6 := by simpa using h2
        simp only [countD, this] at h3
        simpa using h3
theorem dec_eq (v : ApiValue) (hv : okV v) : jrd_Decode N v = some (decJ v) := by
  unfold jrd_Decode decJ decG
  split
  · rfl
  · simp only [joinK_eq, member_eq _ v _ hv.keys, items_eq _ v _ _ hv.keys, props_eq _ v _ _ hv, Option.bind_some]
    rw [grdS (by have := items6 (memberD ⟨0⟩ (getJ v [115, 117, 98, 106, 101, 99, 116])).2 (getJ v [97, 108, 105, 97, 115, 101, 115]); omega), texts_loop _ _ _ _ (by have := items6 (memberD ⟨0⟩ (getJ v [115, 117, 98, 106, 101, 99, 116])).2 (getJ v [97, 108, 105, 97, 115, 101, 115]); simp; omega)]
    simp only [List.nil_append]
    rw [grdS (by exact Nat.le_trans (items6 ..) (by omega)), links_loop _ _ _ _ (by have h := fun d => items6 d (getJ v [108, 105, 110, 107, 115]); exact Nat.le_trans (Nat.add_le_add (Nat.le_refl _) (h _)) (by simp)) (fun x hx => (okV_items (okV_get hv _) _ _).sub x hx)]
    simp only [kSubj, kAli, kProps, kLinks, List.nil_append]
    exact (apply_ite some ..).symm
end
end Go.VM
