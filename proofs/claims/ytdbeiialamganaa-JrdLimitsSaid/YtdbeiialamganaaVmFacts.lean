/- Closed facts on the types of this translation, for the VM library; written by facts.py. -/
import Derived.Test.YtdbeiialamganaaChecked
import Derived.Test.YtdbeiialamganaaVM2
import Derived.Test.YtdbeiialamganaaTy
import Derived.KernelRfl
set_option linter.unusedVariables false
namespace Go.Proofs.Ytdbeiialamganaa
open Go.VM
noncomputable def vE : Env := ⟨Try.prog, vT⟩
theorem vE_mixed : vE.P.follows .mixedOrders = true := by kernel_rfl
theorem callable_1 : callable vE.P 1 = false := by kernel_rfl
theorem elemW_4 : elemW vE.P 4 = 0 := by kernel_rfl
theorem callable_8 : callable vE.P 8 = true := by kernel_rfl
theorem knownT_25 : knownT vE.P 25 = true := by kernel_rfl
theorem isAggT_25 : isAggT vE.P 25 = true := by kernel_rfl
theorem sizeT_25 : sizeT vE.P 25 = some 4 := by kernel_rfl
theorem elemW_3 : elemW vE.P 3 = 0 := by kernel_rfl
theorem elemW_0 : elemW vE.P 0 = 0 := by kernel_rfl
theorem callable_9 : callable vE.P 9 = true := by kernel_rfl
theorem isStrT_9 : isStrT vE.P 9 = true := by kernel_rfl
theorem callable_10 : callable vE.P 10 = true := by kernel_rfl
theorem allocA_25 : ∀ n, allocA vE.P 25 n = some [.int .i64 0, .str [], .slice 1 [] true, .slice 4 [] true] := by intros; kernel_rfl
theorem appI_23 : appI vE.P 23 = some (4, 72) := by kernel_rfl
theorem fieldT_23_0 : fieldT vE.P 23 0 = 25 := by kernel_rfl
theorem isSliceT_23 : isSliceT vE.P 23 = true := by kernel_rfl
theorem sliceI_23 : sliceI vE.P 23 = some 4 := by kernel_rfl
theorem callable_11 : callable vE.P 11 = true := by kernel_rfl
theorem allocA_34 : ∀ n, allocA vE.P 34 n = some [.str [], .slice 1 [] true, .slice 3 [] true, .slice 6 [] true] := by intros; kernel_rfl
theorem sizeT_34 : sizeT vE.P 34 = some 4 := by kernel_rfl
theorem callable_12 : callable vE.P 12 = true := by kernel_rfl
theorem knownT_34 : knownT vE.P 34 = true := by kernel_rfl
theorem isAggT_34 : isAggT vE.P 34 = true := by kernel_rfl
theorem callable_13 : callable vE.P 13 = true := by kernel_rfl
theorem callable_14 : callable vE.P 14 = true := by kernel_rfl
theorem callable_15 : callable vE.P 15 = true := by kernel_rfl
theorem knownT_5 : knownT vE.P 5 = true := by kernel_rfl
theorem intT_3 : intT vE.P 3 = some .i64 := by kernel_rfl
theorem isStrT_3 : isStrT vE.P 3 = false := by kernel_rfl
theorem fieldI_25_2 : fieldI vE.P 25 2 = some (2, 1, false) := by kernel_rfl
theorem knownT_22 : knownT vE.P 22 = true := by kernel_rfl
theorem isAggT_22 : isAggT vE.P 22 = false := by kernel_rfl
theorem sizeT_22 : sizeT vE.P 22 = some 1 := by kernel_rfl
theorem isSliceT_22 : isSliceT vE.P 22 = true := by kernel_rfl
theorem zeroA_25 : zeroA vE.P 25 = some (.agg [.int .i64 0, .str [], .slice 1 [] true, .slice 4 [] true]) := by kernel_rfl
theorem place_25 : (placeA vE.P 25).isSome = true := by kernel_rfl
theorem fieldT_25_0 : fieldT vE.P 25 0 = 3 := by kernel_rfl
theorem placeAt_25_0 : placeAt vE.P 25 0 = some (0, 1) := by kernel_rfl
theorem sliceI_22 : sliceI vE.P 22 = some 1 := by kernel_rfl
theorem elemW_22 : elemW vE.P 22 = 1 := by kernel_rfl
theorem appI_22 : appI vE.P 22 = some (1, 16) := by kernel_rfl
theorem intT_22 : intT vE.P 22 = none := by kernel_rfl
theorem fieldT_22_0 : fieldT vE.P 22 0 = 9 := by kernel_rfl
theorem elemW_9 : elemW vE.P 9 = 0 := by kernel_rfl
theorem fieldI_25_3 : fieldI vE.P 25 3 = some (3, 1, false) := by kernel_rfl
theorem knownT_23 : knownT vE.P 23 = true := by kernel_rfl
theorem isAggT_23 : isAggT vE.P 23 = false := by kernel_rfl
theorem sizeT_23 : sizeT vE.P 23 = some 1 := by kernel_rfl
theorem elemW_23 : elemW vE.P 23 = 4 := by kernel_rfl
theorem intT_23 : intT vE.P 23 = none := by kernel_rfl
theorem elemW_5 : elemW vE.P 5 = 0 := by kernel_rfl
theorem knownT_3 : knownT vE.P 3 = true := by kernel_rfl
theorem intT_5 : intT vE.P 5 = some .u8 := by kernel_rfl
theorem isStrT_5 : isStrT vE.P 5 = false := by kernel_rfl
theorem appI_43 : appI vE.P 43 = some (1, 1) := by kernel_rfl
theorem fieldT_43_0 : fieldT vE.P 43 0 = 5 := by kernel_rfl
theorem knownT_43 : knownT vE.P 43 = true := by kernel_rfl
theorem u8T_43 : u8T vE.P 43 = true := by kernel_rfl
theorem callable_16 : callable vE.P 16 = true := by kernel_rfl
theorem fieldI_25_1 : fieldI vE.P 25 1 = some (1, 1, false) := by kernel_rfl
theorem knownT_9 : knownT vE.P 9 = true := by kernel_rfl
theorem isAggT_9 : isAggT vE.P 9 = false := by kernel_rfl
theorem sizeT_9 : sizeT vE.P 9 = some 1 := by kernel_rfl
theorem fieldT_25_2 : fieldT vE.P 25 2 = 22 := by kernel_rfl
theorem placeAt_25_2 : placeAt vE.P 25 2 = some (2, 1) := by kernel_rfl
theorem fieldT_25_3 : fieldT vE.P 25 3 = 23 := by kernel_rfl
theorem placeAt_25_3 : placeAt vE.P 25 3 = some (3, 1) := by kernel_rfl
theorem elemW_28 : elemW vE.P 28 = 0 := by kernel_rfl
theorem fieldI_34_1 : fieldI vE.P 34 1 = some (1, 1, false) := by kernel_rfl
theorem fieldI_34_2 : fieldI vE.P 34 2 = some (2, 1, false) := by kernel_rfl
theorem knownT_31 : knownT vE.P 31 = true := by kernel_rfl
theorem isAggT_31 : isAggT vE.P 31 = false := by kernel_rfl
theorem sizeT_31 : sizeT vE.P 31 = some 1 := by kernel_rfl
theorem isSliceT_31 : isSliceT vE.P 31 = true := by kernel_rfl
theorem fieldI_34_3 : fieldI vE.P 34 3 = some (3, 1, false) := by kernel_rfl
theorem knownT_32 : knownT vE.P 32 = true := by kernel_rfl
theorem isAggT_32 : isAggT vE.P 32 = false := by kernel_rfl
theorem sizeT_32 : sizeT vE.P 32 = some 1 := by kernel_rfl
theorem isSliceT_32 : isSliceT vE.P 32 = true := by kernel_rfl
theorem appI_44 : appI vE.P 44 = some (1, 8) := by kernel_rfl
theorem fieldT_44_0 : fieldT vE.P 44 0 = 3 := by kernel_rfl
theorem sliceI_44 : sliceI vE.P 44 = some 1 := by kernel_rfl
theorem isAggT_3 : isAggT vE.P 3 = false := by kernel_rfl
theorem sizeT_3 : sizeT vE.P 3 = some 1 := by kernel_rfl
theorem callable_17 : callable vE.P 17 = true := by kernel_rfl
theorem callable_18 : callable vE.P 18 = true := by kernel_rfl
theorem callable_20 : callable vE.P 20 = true := by kernel_rfl
theorem callable_19 : callable vE.P 19 = true := by kernel_rfl
theorem sliceI_32 : sliceI vE.P 32 = some 6 := by kernel_rfl
theorem knownT_50 : knownT vE.P 50 = true := by kernel_rfl
theorem isAggT_50 : isAggT vE.P 50 = true := by kernel_rfl
theorem sizeT_50 : sizeT vE.P 50 = some 6 := by kernel_rfl
theorem callable_21 : callable vE.P 21 = true := by kernel_rfl
theorem fieldI_34_0 : fieldI vE.P 34 0 = some (0, 1, false) := by kernel_rfl
theorem fieldI_50_0 : fieldI vE.P 50 0 = some (0, 1, false) := by kernel_rfl
theorem callable_22 : callable vE.P 22 = true := by kernel_rfl
theorem zeroA_56 : zeroA vE.P 56 = some (.agg [.str [], .int .i64 0, .int .i64 0, .int .i64 0, .int .i64 0]) := by kernel_rfl
theorem place_56 : (placeA vE.P 56).isSome = true := by kernel_rfl
theorem fieldT_56_0 : fieldT vE.P 56 0 = 9 := by kernel_rfl
theorem placeAt_56_0 : placeAt vE.P 56 0 = some (0, 1) := by kernel_rfl
theorem callable_24 : callable vE.P 24 = true := by kernel_rfl
theorem callable_23 : callable vE.P 23 = true := by kernel_rfl
theorem allocA_59 : ∀ n, allocA vE.P 59 n = some [.int .i64 0, .str [], .int .i64 0] := by intros; kernel_rfl
theorem sizeT_59 : sizeT vE.P 59 = some 3 := by kernel_rfl
theorem fieldI_56_3 : fieldI vE.P 56 3 = some (3, 1, false) := by kernel_rfl
theorem knownT_28 : knownT vE.P 28 = true := by kernel_rfl
theorem isAggT_28 : isAggT vE.P 28 = false := by kernel_rfl
theorem sizeT_28 : sizeT vE.P 28 = some 1 := by kernel_rfl
theorem fieldI_59_0 : fieldI vE.P 59 0 = some (0, 1, false) := by kernel_rfl
theorem fieldI_59_2 : fieldI vE.P 59 2 = some (2, 1, false) := by kernel_rfl
theorem callable_25 : callable vE.P 25 = true := by kernel_rfl
theorem fieldI_56_4 : fieldI vE.P 56 4 = some (4, 1, false) := by kernel_rfl
theorem fieldI_25_0 : fieldI vE.P 25 0 = some (0, 1, false) := by kernel_rfl
theorem zeroA_34 : zeroA vE.P 34 = some (.agg [.str [], .slice 1 [] true, .slice 3 [] true, .slice 6 [] true]) := by kernel_rfl
theorem place_34 : (placeA vE.P 34).isSome = true := by kernel_rfl
theorem allocA_63 : ∀ n, allocA vE.P 63 n = some [.int .i64 0] := by intros; kernel_rfl
theorem callable_26 : callable vE.P 26 = true := by kernel_rfl
theorem callable_27 : callable vE.P 27 = true := by kernel_rfl
theorem callable_28 : callable vE.P 28 = true := by kernel_rfl
theorem callable_29 : callable vE.P 29 = true := by kernel_rfl
theorem callable_30 : callable vE.P 30 = true := by kernel_rfl
theorem appI_32 : appI vE.P 32 = some (6, 112) := by kernel_rfl
theorem fieldT_32_0 : fieldT vE.P 32 0 = 50 := by kernel_rfl
theorem intT_32 : intT vE.P 32 = none := by kernel_rfl
theorem fieldI_63_0 : fieldI vE.P 63 0 = some (0, 1, false) := by kernel_rfl
theorem zeroA_71 : zeroA vE.P 71 = some (.agg [.int .i64 0]) := by kernel_rfl
theorem place_71 : (placeA vE.P 71).isSome = true := by kernel_rfl
theorem callable_31 : callable vE.P 31 = true := by kernel_rfl
theorem callable_32 : callable vE.P 32 = true := by kernel_rfl
theorem fieldT_34_0 : fieldT vE.P 34 0 = 9 := by kernel_rfl
theorem placeAt_34_0 : placeAt vE.P 34 0 = some (0, 1) := by kernel_rfl
theorem fieldT_34_1 : fieldT vE.P 34 1 = 22 := by kernel_rfl
theorem placeAt_34_1 : placeAt vE.P 34 1 = some (1, 1) := by kernel_rfl
theorem callable_33 : callable vE.P 33 = true := by kernel_rfl
theorem callable_34 : callable vE.P 34 = true := by kernel_rfl
theorem callable_35 : callable vE.P 35 = true := by kernel_rfl
theorem zeroA_50 : zeroA vE.P 50 = some (.agg [.str [], .str [], .str [], .str [], .slice 3 [] true, .slice 3 [] true]) := by kernel_rfl
theorem place_50 : (placeA vE.P 50).isSome = true := by kernel_rfl
theorem fieldT_50_0 : fieldT vE.P 50 0 = 9 := by kernel_rfl
theorem placeAt_50_0 : placeAt vE.P 50 0 = some (0, 1) := by kernel_rfl
theorem allocA_50 : ∀ n, allocA vE.P 50 n = some [.str [], .str [], .str [], .str [], .slice 3 [] true, .slice 3 [] true] := by intros; kernel_rfl
theorem fieldI_50_1 : fieldI vE.P 50 1 = some (1, 1, false) := by kernel_rfl
theorem fieldI_50_2 : fieldI vE.P 50 2 = some (2, 1, false) := by kernel_rfl
theorem fieldI_50_3 : fieldI vE.P 50 3 = some (3, 1, false) := by kernel_rfl
theorem fieldI_50_4 : fieldI vE.P 50 4 = some (4, 1, false) := by kernel_rfl
theorem fieldI_50_5 : fieldI vE.P 50 5 = some (5, 1, false) := by kernel_rfl
theorem fieldI_71_0 : fieldI vE.P 71 0 = some (0, 1, false) := by kernel_rfl
theorem callable_36 : callable vE.P 36 = true := by kernel_rfl
theorem callable_37 : callable vE.P 37 = true := by kernel_rfl
theorem callable_39 : callable vE.P 39 = true := by kernel_rfl
theorem callable_38 : callable vE.P 38 = true := by kernel_rfl
theorem callable_40 : callable vE.P 40 = true := by kernel_rfl
theorem fieldT_25_1 : fieldT vE.P 25 1 = 9 := by kernel_rfl
theorem placeAt_25_1 : placeAt vE.P 25 1 = some (1, 1) := by kernel_rfl
theorem elemW_32 : elemW vE.P 32 = 6 := by kernel_rfl
theorem elemW_31 : elemW vE.P 31 = 3 := by kernel_rfl
theorem appI_31 : appI vE.P 31 = some (3, 40) := by kernel_rfl
theorem intT_31 : intT vE.P 31 = none := by kernel_rfl
theorem zeroA_81 : zeroA vE.P 81 = some (.agg [.int .i64 0, .str [], .slice 1 [] true, .slice 4 [] true]) := by kernel_rfl
theorem place_81 : (placeA vE.P 81).isSome = true := by kernel_rfl
theorem fieldT_81_0 : fieldT vE.P 81 0 = 25 := by kernel_rfl
theorem placeAt_81_0 : placeAt vE.P 81 0 = some (0, 4) := by kernel_rfl
theorem allocA_81 : ∀ n, allocA vE.P 81 n = some [.int .i64 0, .str [], .slice 1 [] true, .slice 4 [] true] := by intros; kernel_rfl
theorem sizeT_81 : sizeT vE.P 81 = some 4 := by kernel_rfl
theorem callable_41 : callable vE.P 41 = true := by kernel_rfl
theorem callable_42 : callable vE.P 42 = true := by kernel_rfl
theorem callable_43 : callable vE.P 43 = true := by kernel_rfl
theorem callable_44 : callable vE.P 44 = true := by kernel_rfl
theorem fieldI_81_0 : fieldI vE.P 81 0 = some (0, 4, true) := by kernel_rfl
theorem knownT_59 : knownT vE.P 59 = true := by kernel_rfl
theorem isAggT_59 : isAggT vE.P 59 = true := by kernel_rfl
theorem callable_45 : callable vE.P 45 = true := by kernel_rfl
theorem fieldI_59_1 : fieldI vE.P 59 1 = some (1, 1, false) := by kernel_rfl
theorem callable_46 : callable vE.P 46 = true := by kernel_rfl
theorem fieldI_56_2 : fieldI vE.P 56 2 = some (2, 1, false) := by kernel_rfl
theorem callable_47 : callable vE.P 47 = true := by kernel_rfl
theorem callable_48 : callable vE.P 48 = true := by kernel_rfl
theorem callable_49 : callable vE.P 49 = true := by kernel_rfl
theorem zeroA_59 : zeroA vE.P 59 = some (.agg [.int .i64 0, .str [], .int .i64 0]) := by kernel_rfl
theorem place_59 : (placeA vE.P 59).isSome = true := by kernel_rfl
theorem fieldI_56_0 : fieldI vE.P 56 0 = some (0, 1, false) := by kernel_rfl
theorem fieldI_56_1 : fieldI vE.P 56 1 = some (1, 1, false) := by kernel_rfl
theorem callable_50 : callable vE.P 50 = true := by kernel_rfl
theorem callable_51 : callable vE.P 51 = true := by kernel_rfl
theorem callable_52 : callable vE.P 52 = true := by kernel_rfl
theorem callable_53 : callable vE.P 53 = true := by kernel_rfl
theorem zeroA_98 : zeroA vE.P 98 = some (.agg [.str [], .str [], .bool false]) := by kernel_rfl
theorem place_98 : (placeA vE.P 98).isSome = true := by kernel_rfl
theorem fieldT_98_0 : fieldT vE.P 98 0 = 9 := by kernel_rfl
theorem placeAt_98_0 : placeAt vE.P 98 0 = some (0, 1) := by kernel_rfl
theorem allocA_98 : ∀ n, allocA vE.P 98 n = some [.str [], .str [], .bool false] := by intros; kernel_rfl
theorem sizeT_98 : sizeT vE.P 98 = some 3 := by kernel_rfl
theorem fieldI_98_2 : fieldI vE.P 98 2 = some (2, 1, false) := by kernel_rfl
theorem sizeT_4 : sizeT vE.P 4 = some 1 := by kernel_rfl
theorem fieldI_98_1 : fieldI vE.P 98 1 = some (1, 1, false) := by kernel_rfl
theorem knownT_98 : knownT vE.P 98 = true := by kernel_rfl
theorem isAggT_98 : isAggT vE.P 98 = true := by kernel_rfl
theorem fieldT_31_0 : fieldT vE.P 31 0 = 98 := by kernel_rfl
theorem callable_54 : callable vE.P 54 = true := by kernel_rfl
theorem fieldT_98_1 : fieldT vE.P 98 1 = 9 := by kernel_rfl
theorem placeAt_98_1 : placeAt vE.P 98 1 = some (1, 1) := by kernel_rfl
theorem sliceI_31 : sliceI vE.P 31 = some 3 := by kernel_rfl
theorem eqGuard_98 : vE.P.eqGuardType vE.P.depth 98 = false := by kernel_rfl
theorem eqT_98 : ∀ (a0 b0 : List UInt8) (a1 b1 : List UInt8) (a2 b2 : Bool), eqA vE.P 10000 98 (.agg [.str a0, .str a1, .bool a2]) (.agg [.str b0, .str b1, .bool b2]) = some (a0 == b0 && (a1 == b1 && (a2 == b2 && true))) := by intros; kernel_rfl
theorem knownT_4 : knownT vE.P 4 = true := by kernel_rfl
theorem isAggT_4 : isAggT vE.P 4 = false := by kernel_rfl
theorem fieldI_98_0 : fieldI vE.P 98 0 = some (0, 1, false) := by kernel_rfl
theorem callable_55 : callable vE.P 55 = true := by kernel_rfl
theorem callable_56 : callable vE.P 56 = true := by kernel_rfl
theorem callable_58 : callable vE.P 58 = true := by kernel_rfl
theorem callable_57 : callable vE.P 57 = true := by kernel_rfl
theorem intT_103 : intT vE.P 103 = some .u64 := by kernel_rfl
theorem isStrT_103 : isStrT vE.P 103 = false := by kernel_rfl
theorem callable_59 : callable vE.P 59 = true := by kernel_rfl
theorem callable_60 : callable vE.P 60 = true := by kernel_rfl
theorem fieldT_59_0 : fieldT vE.P 59 0 = 3 := by kernel_rfl
theorem placeAt_59_0 : placeAt vE.P 59 0 = some (0, 1) := by kernel_rfl
theorem fieldT_59_2 : fieldT vE.P 59 2 = 3 := by kernel_rfl
theorem placeAt_59_2 : placeAt vE.P 59 2 = some (2, 1) := by kernel_rfl
theorem callable_61 : callable vE.P 61 = true := by kernel_rfl
theorem fieldT_59_1 : fieldT vE.P 59 1 = 9 := by kernel_rfl
theorem placeAt_59_1 : placeAt vE.P 59 1 = some (1, 1) := by kernel_rfl
theorem callable_62 : callable vE.P 62 = true := by kernel_rfl
theorem callable_63 : callable vE.P 63 = true := by kernel_rfl
theorem callable_64 : callable vE.P 64 = true := by kernel_rfl
theorem callable_65 : callable vE.P 65 = true := by kernel_rfl
theorem elemW_103 : elemW vE.P 103 = 0 := by kernel_rfl
theorem knownT_103 : knownT vE.P 103 = true := by kernel_rfl
theorem callable_66 : callable vE.P 66 = true := by kernel_rfl
theorem callable_67 : callable vE.P 67 = true := by kernel_rfl
theorem callable_68 : callable vE.P 68 = true := by kernel_rfl
theorem callable_69 : callable vE.P 69 = true := by kernel_rfl
theorem callable_70 : callable vE.P 70 = true := by kernel_rfl
theorem callable_71 : callable vE.P 71 = true := by kernel_rfl
theorem callable_72 : callable vE.P 72 = true := by kernel_rfl
theorem callable_73 : callable vE.P 73 = true := by kernel_rfl
theorem callable_74 : callable vE.P 74 = true := by kernel_rfl
theorem vE_T (g : Nat) : vE.T g = none := rfl
set_option linter.defProp false
def fxE := And.intro (And.intro (And.intro (And.intro (And.intro (And.intro (And.intro (@callable_1) (And.intro (@elemW_4) (@callable_8))) (And.intro (And.intro (@knownT_25) (@isAggT_25)) (And.intro (@sizeT_25) (@elemW_3)))) (And.intro (And.intro (@elemW_0) (And.intro (@callable_9) (@isStrT_9))) (And.intro (And.intro (@callable_10) (@allocA_25)) (And.intro (@appI_23) (@fieldT_23_0))))) (And.intro (And.intro (And.intro (@isSliceT_23) (And.intro (@sliceI_23) (@callable_11))) (And.intro (And.intro (@allocA_34) (@sizeT_34)) (And.intro (@callable_12) (@knownT_34)))) (And.intro (And.intro (And.intro (@isAggT_34) (@callable_13)) (And.intro (@callable_14) (@callable_15))) (And.intro (And.intro (@knownT_5) (@intT_3)) (And.intro (@isStrT_3) (@fieldI_25_2)))))) (And.intro (And.intro (And.intro (And.intro (@knownT_22) (And.intro (@isAggT_22) (@sizeT_22))) (And.intro (And.intro (@isSliceT_22) (@zeroA_25)) (And.intro (@place_25) (@fieldT_25_0)))) (And.intro (And.intro (And.intro (@placeAt_25_0) (@sliceI_22)) (And.intro (@elemW_22) (@appI_22))) (And.intro (And.intro (@intT_22) (@fieldT_22_0)) (And.intro (@elemW_9) (@fieldI_25_3))))) (And.intro (And.intro (And.intro (@knownT_23) (And.intro (@isAggT_23) (@sizeT_23))) (And.intro (And.intro (@elemW_23) (@intT_23)) (And.intro (@elemW_5) (@knownT_3)))) (And.intro (And.intro (And.intro (@intT_5) (@isStrT_5)) (And.intro (@appI_43) (@fieldT_43_0))) (And.intro (And.intro (@knownT_43) (@u8T_43)) (And.intro (@callable_16) (@fieldI_25_1))))))) (And.intro (And.intro (And.intro (And.intro (And.intro (@knownT_9) (And.intro (@isAggT_9) (@sizeT_9))) (And.intro (And.intro (@fieldT_25_2) (@placeAt_25_2)) (And.intro (@fieldT_25_3) (@placeAt_25_3)))) (And.intro (And.intro (@elemW_28) (And.intro (@fieldI_34_1) (@fieldI_34_2))) (And.intro (And.intro (@knownT_31) (@isAggT_31)) (And.intro (@sizeT_31) (@isSliceT_31))))) (And.intro (And.intro (And.intro (@fieldI_34_3) (And.intro (@knownT_32) (@isAggT_32))) (And.intro (And.intro (@sizeT_32) (@isSliceT_32)) (And.intro (@appI_44) (@fieldT_44_0)))) (And.intro (And.intro (And.intro (@sliceI_44) (@isAggT_3)) (And.intro (@sizeT_3) (@callable_17))) (And.intro (And.intro (@callable_18) (@callable_20)) (And.intro (@callable_19) (@sliceI_32)))))) (And.intro (And.intro (And.intro (And.intro (@knownT_50) (And.intro (@isAggT_50) (@sizeT_50))) (And.intro (And.intro (@callable_21) (@fieldI_34_0)) (And.intro (@fieldI_50_0) (@callable_22)))) (And.intro (And.intro (And.intro (@zeroA_56) (@place_56)) (And.intro (@fieldT_56_0) (@placeAt_56_0))) (And.intro (And.intro (@callable_24) (@callable_23)) (And.intro (@allocA_59) (@sizeT_59))))) (And.intro (And.intro (And.intro (@fieldI_56_3) (And.intro (@knownT_28) (@isAggT_28))) (And.intro (And.intro (@sizeT_28) (@fieldI_59_0)) (And.intro (@fieldI_59_2) (@callable_25)))) (And.intro (And.intro (And.intro (@fieldI_56_4) (@fieldI_25_0)) (And.intro (@zeroA_34) (@place_34))) (And.intro (And.intro (@allocA_63) (@callable_26)) (And.intro (@callable_27) (@callable_28)))))))) (And.intro (And.intro (And.intro (And.intro (And.intro (And.intro (@callable_29) (And.intro (@callable_30) (@appI_32))) (And.intro (And.intro (@fieldT_32_0) (@intT_32)) (And.intro (@fieldI_63_0) (@zeroA_71)))) (And.intro (And.intro (@place_71) (And.intro (@callable_31) (@callable_32))) (And.intro (And.intro (@fieldT_34_0) (@placeAt_34_0)) (And.intro (@fieldT_34_1) (@placeAt_34_1))))) (And.intro (And.intro (And.intro (@callable_33) (And.intro (@callable_34) (@callable_35))) (And.intro (And.intro (@zeroA_50) (@place_50)) (And.intro (@fieldT_50_0) (@placeAt_50_0)))) (And.intro (And.intro (And.intro (@allocA_50) (@fieldI_50_1)) (And.intro (@fieldI_50_2) (@fieldI_50_3))) (And.intro (And.intro (@fieldI_50_4) (@fieldI_50_5)) (And.intro (@fieldI_71_0) (@callable_36)))))) (And.intro (And.intro (And.intro (And.intro (@callable_37) (And.intro (@callable_39) (@callable_38))) (And.intro (And.intro (@callable_40) (@fieldT_25_1)) (And.intro (@placeAt_25_1) (@elemW_32)))) (And.intro (And.intro (And.intro (@elemW_31) (@appI_31)) (And.intro (@intT_31) (@zeroA_81))) (And.intro (And.intro (@place_81) (@fieldT_81_0)) (And.intro (@placeAt_81_0) (@allocA_81))))) (And.intro (And.intro (And.intro (@sizeT_81) (And.intro (@callable_41) (@callable_42))) (And.intro (And.intro (@callable_43) (@callable_44)) (And.intro (@fieldI_81_0) (@knownT_59)))) (And.intro (And.intro (And.intro (@isAggT_59) (@callable_45)) (And.intro (@fieldI_59_1) (@callable_46))) (And.intro (And.intro (@fieldI_56_2) (@callable_47)) (And.intro (@callable_48) (@callable_49))))))) (And.intro (And.intro (And.intro (And.intro (And.intro (@zeroA_59) (And.intro (@place_59) (@fieldI_56_0))) (And.intro (And.intro (@fieldI_56_1) (@callable_50)) (And.intro (@callable_51) (@callable_52)))) (And.intro (And.intro (@callable_53) (And.intro (@zeroA_98) (@place_98))) (And.intro (And.intro (@fieldT_98_0) (@placeAt_98_0)) (And.intro (@allocA_98) (@sizeT_98))))) (And.intro (And.intro (And.intro (@fieldI_98_2) (And.intro (@sizeT_4) (@fieldI_98_1))) (And.intro (And.intro (@knownT_98) (@isAggT_98)) (And.intro (@fieldT_31_0) (@callable_54)))) (And.intro (And.intro (And.intro (@fieldT_98_1) (@placeAt_98_1)) (And.intro (@sliceI_31) (@eqGuard_98))) (And.intro (And.intro (@eqT_98) (@knownT_4)) (And.intro (@isAggT_4) (@fieldI_98_0)))))) (And.intro (And.intro (And.intro (And.intro (@callable_55) (And.intro (@callable_56) (@callable_58))) (And.intro (And.intro (@callable_57) (@intT_103)) (And.intro (@isStrT_103) (@callable_59)))) (And.intro (And.intro (And.intro (@callable_60) (@fieldT_59_0)) (And.intro (@placeAt_59_0) (@fieldT_59_2))) (And.intro (And.intro (@placeAt_59_2) (@callable_61)) (And.intro (@fieldT_59_1) (@placeAt_59_1))))) (And.intro (And.intro (And.intro (@callable_62) (And.intro (@callable_63) (@callable_64))) (And.intro (And.intro (@callable_65) (@elemW_103)) (And.intro (@knownT_103) (@callable_66)))) (And.intro (And.intro (And.intro (@callable_67) (@callable_68)) (And.intro (@callable_69) (@callable_70))) (And.intro (And.intro (@callable_71) (@callable_72)) (And.intro (@callable_73) (@callable_74))))))))
def vm := And.intro vmC (And.intro fxE eE)
end Go.Proofs.Ytdbeiialamganaa
