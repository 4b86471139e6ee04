/- Readings of the arguments as values; written by reads.py. -/
import Derived.Test.YtdbeiialamganaaRows
import Derived.Test.YtdbeiialamganaaTy
import Derived.Test.YtdbeiialamganaaVM3
set_option linter.unusedVariables false
set_option maxRecDepth 100000
namespace Go.VM
def okApiProperty (x : ApiProperty) : Prop := x.name.length ≤ reachBytes ∧ x.value.length ≤ reachBytes ∧ True
def okApiLink (x : ApiLink) : Prop := x.rel.length ≤ reachBytes ∧ x.type_.length ≤ reachBytes ∧ x.href.length ≤ reachBytes ∧ x.template.length ≤ reachBytes ∧ (x.titles.length ≤ reachBytes ∧ ∀ a, a ∈ x.titles → okApiProperty a) ∧ (x.properties.length ≤ reachBytes ∧ ∀ a, a ∈ x.properties → okApiProperty a)
def okApiJRD (x : ApiJRD) : Prop := x.subject.length ≤ reachBytes ∧ (x.aliases.length ≤ reachBytes ∧ ∀ a, a ∈ x.aliases → a.length ≤ reachBytes) ∧ (x.properties.length ≤ reachBytes ∧ ∀ a, a ∈ x.properties → okApiProperty a) ∧ (x.links.length ≤ reachBytes ∧ ∀ a, a ∈ x.links → okApiLink a)
inductive okApiValue : ApiValue → Prop
  | mk (x : ApiValue) (h0 : (Lit.int .i64 x.kind).wf = true) (h1 : x.text.length ≤ reachBytes) (h2 : (x.keys.length ≤ reachBytes ∧ ∀ a, a ∈ x.keys → a.length ≤ reachBytes)) (h3 : x.items.length ≤ reachBytes) (k3 : ∀ a, a ∈ x.items → okApiValue a) : okApiValue x
end Go.VM
namespace Go.Proofs.Ytdbeiialamganaa
open Go.VM
theorem rd_ApiProperty : ∀ N, Rds Try.prog 98 3 (fun x : ApiProperty => [.str x.name, .str x.value, .bool x.null]) okApiProperty N :=
  rdsA_struct Try.underlying98 (by kernel_rfl) (fun N => (rf_cons rfl (by kernel_rfl) ((fun _ => rds_str Try.underlying9) N) (rf_cons rfl (by kernel_rfl) ((fun _ => rds_str Try.underlying9) N) (rf_cons rfl (by kernel_rfl) ((fun _ => rds_bool Try.underlying4) N) rf_nil)))) (fun b => ApiProperty.mk b.1 b.2.1 b.2.2.1) (fun _ => rfl) (fun b h => ⟨h.1, h.2.1, h.2.2.1⟩)
theorem rd_ApiLink : ∀ N, Rds Try.prog 50 6 (fun x : ApiLink => [.str x.rel, .str x.type_, .str x.href, .str x.template, .slice 3 (List.map encApiProperty x.titles) false, .slice 3 (List.map encApiProperty x.properties) false]) okApiLink N :=
  rdsA_struct Try.underlying50 (by kernel_rfl) (fun N => (rf_cons rfl (by kernel_rfl) ((fun _ => rds_str Try.underlying9) N) (rf_cons rfl (by kernel_rfl) ((fun _ => rds_str Try.underlying9) N) (rf_cons rfl (by kernel_rfl) ((fun _ => rds_str Try.underlying9) N) (rf_cons rfl (by kernel_rfl) ((fun _ => rds_str Try.underlying9) N) (rf_cons rfl (by kernel_rfl) ((rdsA_slice Try.underlying31 (by kernel_rfl) (by decide) (Nat.le_of_ble_eq_true (by kernel_rfl)) rd_ApiProperty encApiProperty (many_cells encApiProperty encApiProperty_eq)) N) (rf_cons rfl (by kernel_rfl) ((rdsA_slice Try.underlying31 (by kernel_rfl) (by decide) (Nat.le_of_ble_eq_true (by kernel_rfl)) rd_ApiProperty encApiProperty (many_cells encApiProperty encApiProperty_eq)) N) rf_nil))))))) (fun b => ApiLink.mk b.1 b.2.1 b.2.2.1 b.2.2.2.1 b.2.2.2.2.1 b.2.2.2.2.2.1) (fun _ => rfl) (fun b h => ⟨h.1, h.2.1, h.2.2.1, h.2.2.2.1, h.2.2.2.2.1, h.2.2.2.2.2.1⟩)
theorem rd_ApiJRD : ∀ N, Rds Try.prog 34 4 (fun x : ApiJRD => [.str x.subject, .slice 1 (List.map AVal.str x.aliases) false, .slice 3 (List.map encApiProperty x.properties) false, .slice 6 (List.map encApiLink x.links) false]) okApiJRD N :=
  rdsA_struct Try.underlying34 (by kernel_rfl) (fun N => (rf_cons rfl (by kernel_rfl) ((fun _ => rds_str Try.underlying9) N) (rf_cons rfl (by kernel_rfl) ((rdsA_slice Try.underlying22 (by kernel_rfl) (by decide) (Nat.le_of_ble_eq_true (by kernel_rfl)) (fun _ => rds_str Try.underlying9) AVal.str (one_cell AVal.str)) N) (rf_cons rfl (by kernel_rfl) ((rdsA_slice Try.underlying31 (by kernel_rfl) (by decide) (Nat.le_of_ble_eq_true (by kernel_rfl)) rd_ApiProperty encApiProperty (many_cells encApiProperty encApiProperty_eq)) N) (rf_cons rfl (by kernel_rfl) ((rdsA_slice Try.underlying32 (by kernel_rfl) (by decide) (Nat.le_of_ble_eq_true (by kernel_rfl)) rd_ApiLink encApiLink (many_cells encApiLink encApiLink_eq)) N) rf_nil))))) (fun b => ApiJRD.mk b.1 b.2.1 b.2.2.1 b.2.2.2.1) (fun _ => rfl) (fun b h => ⟨h.1, h.2.1, h.2.2.1, h.2.2.2.1⟩)
theorem rd_ApiValue : ∀ N, Rds Try.prog 25 4 (fun x : ApiValue => [.int .i64 x.kind, .str x.text, .slice 1 (List.map AVal.str x.keys) false, .slice 4 (List.map encApiValue x.items) false]) okApiValue N
  | 0 => rds_zero
  | N + 1 => by
    have ih := rd_ApiValue N
    exact rds_struct Try.underlying25 (by kernel_rfl) (rf_cons rfl (by kernel_rfl) ((fun _ => rds_int Try.underlying3) N) (rf_cons rfl (by kernel_rfl) ((fun _ => rds_str Try.underlying9) N) (rf_cons rfl (by kernel_rfl) ((rdsA_slice Try.underlying22 (by kernel_rfl) (by decide) (Nat.le_of_ble_eq_true (by kernel_rfl)) (fun _ => rds_str Try.underlying9) AVal.str (one_cell AVal.str)) N) (rf_cons rfl (by kernel_rfl) (match N, ih with | 0, _ => rds_zero | M + 1, ih => rds_slice Try.underlying23 (by kernel_rfl) (by decide) (Nat.le_of_ble_eq_true (by kernel_rfl)) (ih.mono (Nat.le_succ _)) encApiValue (many_cells encApiValue encApiValue_eq)) rf_nil)))) (fun b => ApiValue.mk b.1 b.2.1 b.2.2.1 b.2.2.2.1) (fun _ => rfl) (fun b h => .mk _ h.1 h.2.1 h.2.2.1 h.2.2.2.1.1 h.2.2.2.1.2)
end Go.Proofs.Ytdbeiialamganaa
