import Derived.ProofKit
import Derived.WalkKit
import Derived.OpenShut
import Derived.Deep.DeepHandedRow
import Derived.Shelf.Vars
import Derived.Test.YtalbfkgififmfaaGreatDoorCards
import Derived.Test.YtalbfkgififmfaaGreatDoorTie
import Derived.Test.YtalbfkgififmfaaGreatDoorVM3
set_option linter.unusedVariables false
set_option maxRecDepth 100000
namespace Go.Proofs.YtalbfkgififmfaaGreatDoor
open Go.ChangeShapes Go.WideShapes Go.ChangeAt Go.RowKit Go.VM
theorem Tryz.own:ownKnob Tryz.prog.godebug=none:=by kernel_rfl
theorem Tryz.kids:Kids Tryz.prog (· <Tryz.prog.types.size):=kids_rows (by kernel_rfl) (by kernel_rfl)
theorem Tryz.full: ∀t e,t<Tryz.prog.types.size->Tryz.prog.underlying t=some (.slice e)->0<Tryz.prog.cellsOf e:=slices_full_of Tryz.prog (by kernel_rfl)
theorem typesLt: ∀t,t∈[22,22,24,29,30]->t<Tryz.prog.types.size:=λt h=>of_decide_eq_true (List.all_eq_true.1 (show([22,22,24,29,30]:List Nat).all (λt=>decide (t<Tryz.prog.types.size))=true by kernel_rfl) t h)
theorem typesNo: ∀t,t∈[22,22,24,29,30]->Tryz.prog.wantsStandIn t=false:=λt h=>of_decide_eq_true (List.all_eq_true.1 (show([22,22,24,29,30]:List Nat).all (λt=>decide (Tryz.prog.wantsStandIn t=false))=true by kernel_rfl) t h)
noncomputable def laidWorld (os:Os):World:= {World.holding Tryz.prog os ⟨#[], #[],[]⟩with heap:=ApO (ApO (ApO ((World.holding Tryz.prog os ⟨#[], #[],[]⟩).heap) 2 (Abw Rows.laid_unicode_utf8_acceptRanges).toArray) 3 (Abw Rows.laid_webfinger_utf8text_forms).toArray) 1 (Abw Rows.laid_unicode_utf8_first).toArray}
theorem laid_met (os:Os):laidMet Tryz.prog Rows.didfetchLooksRow.laid ((laidWorld os).forCall (λ_ _=>0) ⟨#[], #[.slice none 0 0,.slice none 0 0,.agg #[.int .i64 0,.string ⟨#[]⟩,.string ⟨#[]⟩,.int .i64 0],.agg #[.string ⟨#[]⟩,.slice none 0 0,.slice none 0 0,.slice none 0 0,.slice none 0 0],.int .u64 0],[]⟩).memory:=laidMet_of_run' 8 (by kernel_rfl) (by kernel_rfl)
theorem reads (os:Os){H:Type} (enc:TypeId×Value->H): ∃places,DataW.whole enc Tryz.prog ((laidWorld os).forCall (λ_ _=>0) ⟨#[], #[.slice none 0 0,.slice none 0 0,.agg #[.int .i64 0,.string ⟨#[]⟩,.string ⟨#[]⟩,.int .i64 0],.agg #[.string ⟨#[]⟩,.slice none 0 0,.slice none 0 0,.slice none 0 0,.slice none 0 0],.int .u64 0],[]⟩).memory Tryz.f3.params.toList Rows.didfetchLooksSpec.vars false #[.slice none 0 0,.slice none 0 0,.agg #[.int .i64 0,.string ⟨#[]⟩,.string ⟨#[]⟩,.int .i64 0],.agg #[.string ⟨#[]⟩,.slice none 0 0,.slice none 0 0,.slice none 0 0,.slice none 0 0],.int .u64 0].toList 8=some ([.nil,.nil,.agg [.lit (.int .i64 0),.lit (.string []),.lit (.string []),.lit (.int .i64 0)],.agg [.lit (.string []),.nil,.nil,.nil,.nil],.lit (.int .u64 0)],[],places):=⟨[],by kernel_rfl⟩
theorem named0:Tryz.pinned.checked.prog.funcNamed Rows.didfetchLooksRow.func=some 3:=by kernel_rfl
theorem jo1:(Rows.didfetchLooksRow.inPlace==Tryz.pinned.checked.prog.inPlace 3)=true:=by kernel_rfl
theorem jo2:(Rows.didfetchLooksRow.unfollowed==Tryz.pinned.checked.prog.unfollowed 3)=true:=by kernel_rfl
theorem jo3:(Rows.didfetchLooksRow.recurses==Tryz.pinned.checked.prog.recurses 3)=true:=by kernel_rfl
theorem jo4:(Rows.didfetchLooksRow.named==Tryz.pinned.checked.prog.varsNamed 3)=true:=by kernel_rfl
theorem closed0:joinedFacts Tryz.pinned.checked.prog 3 Tryz.f3 (OpenSpec.ofChange Rows.didfetchLooksSpec).bare Rows.didfetchLooksRow=true:=by
 unfold joinedFacts
 rw[jo1,jo2,jo3,jo4]
 kernel_rfl
end Go.Proofs.YtalbfkgififmfaaGreatDoor
