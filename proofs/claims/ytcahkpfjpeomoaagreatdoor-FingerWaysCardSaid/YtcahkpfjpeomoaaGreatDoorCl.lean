import Derived.ProofKit
import Derived.WalkKit
import Derived.OpenShut
import Derived.Deep.DeepHandedRow
import Derived.Shelf.Vars
import Derived.Test.YtcahkpfjpeomoaaGreatDoorCards
import Derived.Test.YtcahkpfjpeomoaaGreatDoorTie
import Derived.Test.YtcahkpfjpeomoaaGreatDoorVM3
set_option linter.unusedVariables false
set_option maxRecDepth 100000
namespace Go.Proofs.YtcahkpfjpeomoaaGreatDoor
open Go.ChangeShapes Go.WideShapes Go.ChangeAt Go.RowKit Go.VM
theorem Tryz.own:ownKnob Tryz.prog.godebug=none:=by kernel_rfl
theorem Tryz.kids:Kids Tryz.prog (· <Tryz.prog.types.size):=kids_rows (by kernel_rfl) (by kernel_rfl)
theorem Tryz.full: ∀t e,t<Tryz.prog.types.size→Tryz.prog.underlying t=some (.slice e)→0<Tryz.prog.cellsOf e:=slices_full_of Tryz.prog (by kernel_rfl)
theorem typesLt: ∀t,t∈[22,5]→t<Tryz.prog.types.size:=fun t h=>of_decide_eq_true (List.all_eq_true.1 (show([22,5]:List Nat).all (fun t=>decide (t<Tryz.prog.types.size))=true by kernel_rfl) t h)
theorem typesNo: ∀t,t∈[22,5]→Tryz.prog.wantsStandIn t=false:=fun t h=>of_decide_eq_true (List.all_eq_true.1 (show([22,5]:List Nat).all (fun t=>decide (Tryz.prog.wantsStandIn t=false))=true by kernel_rfl) t h)
noncomputable def laidWorld (os:Os):World:= {World.holding Tryz.prog os ⟨#[], #[],[]⟩with heap:=AU6 (AU6 (AU6 ((World.holding Tryz.prog os ⟨#[], #[],[]⟩).heap) 3 (AOd Rows.laid_unicode_utf8_acceptRanges).toArray) 1 (AOd Rows.laid_webfinger_utf8text_forms).toArray) 2 (AOd Rows.laid_unicode_utf8_first).toArray}
theorem laid_met (os:Os):laidMet Tryz.prog Rows.fingerWaysRow.laid ((laidWorld os).forCall (fun _ _=>0) ⟨#[], #[.slice none 0 0,.int .u8 0],[]⟩).memory:=laidMet_of_run' 8 (by kernel_rfl) (by kernel_rfl)
theorem reads (os:Os){H:Type} (enc:TypeId×Value→H): ∃places,DataW.whole enc Tryz.prog ((laidWorld os).forCall (fun _ _=>0) ⟨#[], #[.slice none 0 0,.int .u8 0],[]⟩).memory Tryz.f3.params.toList Rows.fingerWaysSpec.vars false #[.slice none 0 0,.int .u8 0].toList 8=some ([.nil,.lit (.int .u8 0)],[],places):=⟨[],by kernel_rfl⟩
theorem named0:Tryz.pinned.checked.prog.funcNamed Rows.fingerWaysRow.func=some 3:=by kernel_rfl
theorem closed0:joinedFacts Tryz.pinned.checked.prog 3 Tryz.f3 (OpenSpec.ofChange Rows.fingerWaysSpec).bare Rows.fingerWaysRow=true:=by kernel_rfl
end Go.Proofs.YtcahkpfjpeomoaaGreatDoor
