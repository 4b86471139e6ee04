import Derived.ProofKit
import Derived.WalkKit
import Derived.OpenShut
import Derived.Deep.DeepHandedRow
import Derived.Shelf.Vars
import Derived.Test.YtfcejbjjeaaleaaGreatDoorCards
import Derived.Test.YtfcejbjjeaaleaaGreatDoorTie
import Derived.Test.YtfcejbjjeaaleaaGreatDoorVM3
set_option linter.unusedVariables false
set_option maxRecDepth 100000
namespace Go.Proofs.YtfcejbjjeaaleaaGreatDoor
open Go.ChangeShapes Go.WideShapes Go.ChangeAt Go.RowKit Go.VM
theorem Tryz.own:ownKnob Tryz.prog.godebug=none:=by kernel_rfl
theorem Tryz.kids:Kids Tryz.prog (· <Tryz.prog.types.size):=kids_rows (by kernel_rfl) (by kernel_rfl)
theorem Tryz.full: ∀t e,t<Tryz.prog.types.size->Tryz.prog.underlying t=some (.slice e)->0<Tryz.prog.cellsOf e:=slices_full_of Tryz.prog (by kernel_rfl)
theorem typesLt: ∀t,t∈[29,31,32]->t<Tryz.prog.types.size:=λt h=>dX (aS.1 (show([29,31,32]:List Nat).all (λt=>decide (t<Tryz.prog.types.size))=true by kernel_rfl) t h)
theorem typesNo: ∀t,t∈[29,31,32]->Tryz.prog.wantsStandIn t=false:=λt h=>dX (aS.1 (show([29,31,32]:List Nat).all (λt=>decide (Tryz.prog.wantsStandIn t=false))=true by kernel_rfl) t h)
noncomputable def laidWorld (os:Os):World:= {World.holding Tryz.prog os ⟨#[], #[],[]⟩with heap:=AeT (AeT (AeT ((World.holding Tryz.prog os ⟨#[], #[],[]⟩).heap) 3 (AXp Rows.laid_unicode_utf8_acceptRanges).toArray) 1 (AXp Rows.laid_webfinger_utf8text_forms).toArray) 2 (AXp Rows.laid_unicode_utf8_first).toArray}
theorem laid_met (os:Os):laidMet Tryz.prog Rows.fingerReadsRow.laid ((laidWorld os).forCall (λ_ _=>0) ⟨#[], #[.agg #[.string ⟨#[]⟩,.int .i64 0,.string ⟨#[]⟩,.string ⟨#[]⟩,.string ⟨#[]⟩,.bool false,.bool false,.int .i64 0,.int .i64 0,.slice none 0 0,.string ⟨#[]⟩,.slice none 0 0],.agg #[.int .i64 0,.string ⟨#[]⟩,.string ⟨#[]⟩,.int .i64 0],.slice none 0 0],[]⟩).memory:=laidMet_of_run' 8 (by kernel_rfl) (by kernel_rfl)
theorem reads (os:Os){H:Type} (enc:TypeId×Value->H): ∃places,DataW.whole enc Tryz.prog ((laidWorld os).forCall (λ_ _=>0) ⟨#[], #[.agg #[.string ⟨#[]⟩,.int .i64 0,.string ⟨#[]⟩,.string ⟨#[]⟩,.string ⟨#[]⟩,.bool false,.bool false,.int .i64 0,.int .i64 0,.slice none 0 0,.string ⟨#[]⟩,.slice none 0 0],.agg #[.int .i64 0,.string ⟨#[]⟩,.string ⟨#[]⟩,.int .i64 0],.slice none 0 0],[]⟩).memory Tryz.f3.params.toList Rows.fingerReadsSpec.vars false #[.agg #[.string ⟨#[]⟩,.int .i64 0,.string ⟨#[]⟩,.string ⟨#[]⟩,.string ⟨#[]⟩,.bool false,.bool false,.int .i64 0,.int .i64 0,.slice none 0 0,.string ⟨#[]⟩,.slice none 0 0],.agg #[.int .i64 0,.string ⟨#[]⟩,.string ⟨#[]⟩,.int .i64 0],.slice none 0 0].toList 8=some ([.agg [.agg [.lit (.string []),.lit (.int .i64 0),.lit (.string []),.lit (.string []),.lit (.string []),.lit (.bool false),.lit (.bool false)],.agg [.lit (.int .i64 0),.lit (.int .i64 0),.nil],.lit (.string []),.nil],.agg [.lit (.int .i64 0),.lit (.string []),.lit (.string []),.lit (.int .i64 0)],.nil],[],places):=⟨[],by kernel_rfl⟩
theorem named0:Tryz.pinned.checked.prog.funcNamed Rows.fingerReadsRow.func=some 3:=by kernel_rfl
theorem closed0:joinedFacts Tryz.pinned.checked.prog 3 Tryz.f3 (OpenSpec.ofChange Rows.fingerReadsSpec).bare Rows.fingerReadsRow=true:=by kernel_rfl
end Go.Proofs.YtfcejbjjeaaleaaGreatDoor
