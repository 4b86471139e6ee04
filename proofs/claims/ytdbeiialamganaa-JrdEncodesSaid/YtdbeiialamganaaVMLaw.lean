/- The shell of a law: its contract from its walk. -/
import Derived.Test.YtdbeiialamganaaVMRead
import Derived.ProofKit
import Derived.ReadAgain
set_option linter.unusedVariables false
namespace Go.VM
open Go.ChangeShapes Go.WideShapes Go.ChangeAt Go.RowKit

section
variable {H : Type} {enc : TypeId × Value → H} {P : Program}

theorem trodAll_carry {w w' : World} {sp : Nat → Bool} {held : Bool} : ∀ {ts : List TypeId} {vs : List Value} {ds : List (DataW H)} {ps : List MemPlace}, DataW.TrodAll enc P w 0 sp held ts vs ds ps → (∀ p ∈ ps, w.sameAt w' p) → DataW.TrodAll enc P w' 0 sp held ts vs ds ps
  | [], [], [], _, h, _ => h
  | _ :: _, _ :: _, _ :: _, _, ⟨p, q, ⟨n, h1⟩, h2, e⟩, hs => ⟨p, q, ⟨n, DataW.trod_carry n _ _ _ h1 (fun x hx => hs x (by rw [e]; exact List.mem_append_left _ hx))⟩, trodAll_carry h2 (fun x hx => hs x (by rw [e]; exact List.mem_append_right _ hx)), e⟩
theorem post_law {f : Func} {s : ChangeSpec} {apart fresh handsOn again : Bool} {W W' : World} {args : Array Value} {ds : List (DataW H)} {before : List MemPlace} {T : TypeId → Prop} {tb : TypeId}
    (hW : DataW.Whole enc P f.params.toList s.vars apart W args.toList ds [] before) (hv : s.vars = []) (hb : Below W.heap.size W W')
    (K : Kids P T) (hz : ∀ t e, T t → P.underlying t = some (.slice e) → 0 < P.cellsOf e) (hT : ∀ t, t ∈ f.params.toList → T t)
    (hr : (s.fn H (ds ++ [])).results = [.lit (.bool true)]) (ha : (s.fn H (ds ++ [])).args = ds) (hvs : (s.fn H (ds ++ [])).vars = [])
    (hrt : f.resultTypes = #[tb]) (htb : P.underlying tb = some .bool) : s.post enc P f apart fresh handsOn again W args (.bool true) W' := by
  have hlt := hW.lt
  have hW' := hW
  obtain ⟨p, q, hA, hV, hps, hfz, hnd⟩ := hW
  have hq : q = [] := by
    rw [hv] at hV
    exact hV
  subst hq
  rw [List.append_nil] at hps
  subst hps
  have hk : W.keptBut W' (· ∈ before) := hb.frame _
  have hA' : ∀ sp : Nat → Bool, (∀ p ∈ before, sp p.block = true) → DataW.TrodAll enc P W' 0 sp true f.params.toList args.toList ds before := by
    intro sp hsp
    refine DataW.TrodAll.respare K hz hT ?_ hsp
    exact trodAll_carry hA fun p hp => hb.same (hlt p hp)
  have hres : ∀ (b : Nat) (sp : Nat → Bool) (hd : Bool), DataW.TrodAll enc P W' b sp hd f.resultTypes.toList (Value.resultList f.resultTypes.size (.bool true)) (s.fn H (ds ++ [])).results [] := by
    intro b sp hd
    rw [hr, hrt]
    exact trodAll_mk1 (shut_bool htb _)
  have hvars : ∀ sp : Nat → Bool, DataW.TrodVars enc P W' sp s.vars (s.fn H (ds ++ [])).vars [] := by
    intro sp; rw [hv, hvs]; rfl
  have hold : ∀ p ∈ before, (fun b => decide (b < W.heap.size)) p.block = true := fun p hp => by simpa using hlt p hp
  refine ⟨ds, [], before, [], before, [], hW', hres _ _ _, by rw [ha]; exact hA' _ hold, hvars _, World.keptBut_mono (fun p hp => ⟨hp, .inr (.inl hp)⟩) hk, fun _ => ?_⟩
  refine ⟨ok_one hrt (by rfl) (okWide_bool_mk htb _), _, _, ([] ++ before) ++ [], ⟨[] ++ before, [], trodAll_append (hA' _ (fun _ _ => rfl)) (hres _ _ _), hvars _, rfl, ?_, ?_⟩, ?_⟩
  · intro b off hp
    have hp' : MemPlace.cell b off ∈ before := by simpa using hp
    have := hfz b off (by simpa using hp')
    rw [← this]
    exact hb.frozen (hlt _ hp')
  · intro h
    have := hnd h
    simpa using this
  · intro p hp _
    simpa using hp
end
end Go.VM
