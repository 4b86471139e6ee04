/- Readings of the arguments as values; written by reads.py. -/
import Derived.Test.YtmdjjhakfoenpaaDoorRows
import Derived.Test.YtmdjjhakfoenpaaDoorTy
import Derived.Test.YtmdjjhakfoenpaaDoorVM3
set_option linter.unusedVariables false
set_option maxRecDepth 100000
namespace Go.VM
def okApiToken (x : ApiToken) : Prop := (Lit.int .i64 x.kind).wf = true ∧ x.text.length ≤ reachBytes ∧ (Lit.int .i64 x.at_).wf = true
end Go.VM
namespace Go.Proofs.YtmdjjhakfoenpaaDoor
open Go.VM
theorem rd_ApiToken : ∀ N, Rds Tryd.prog 25 3 (fun x : ApiToken => [.int .i64 x.kind, .str x.text, .int .i64 x.at_]) okApiToken N :=
  rdsA_struct Tryd.underlying25 (by kernel_rfl) (fun N => (rf_cons rfl (by kernel_rfl) ((fun _ => rds_int Tryd.underlying3) N) (rf_cons rfl (by kernel_rfl) ((fun _ => rds_str Tryd.underlying9) N) (rf_cons rfl (by kernel_rfl) ((fun _ => rds_int Tryd.underlying3) N) rf_nil)))) (fun b => ApiToken.mk b.1 b.2.1 b.2.2.1) (fun _ => rfl) (fun b h => ⟨h.1, h.2.1, h.2.2.1⟩)
end Go.Proofs.YtmdjjhakfoenpaaDoor
