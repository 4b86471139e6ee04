/- Closed facts on the types of this translation, for the VM library; written by facts.py. -/
import Derived.Test.YtmdjjhakfoenpaaDoorChecked
import Derived.Test.YtmdjjhakfoenpaaDoorVM2
import Derived.Test.YtmdjjhakfoenpaaDoorTy
import Derived.KernelRfl
set_option linter.unusedVariables false
namespace Go.Proofs.YtmdjjhakfoenpaaDoor
open Go.VM
noncomputable def vE : Env := ⟨Tryd.prog, vT⟩
theorem vE_mixed : vE.P.follows .mixedOrders = true := by kernel_rfl
theorem callable_1 : callable vE.P 1 = false := by kernel_rfl
theorem elemW_4 : elemW vE.P 4 = 0 := by kernel_rfl
theorem callable_9 : callable vE.P 9 = true := by kernel_rfl
theorem isStrT_9 : isStrT vE.P 9 = true := by kernel_rfl
theorem elemW_3 : elemW vE.P 3 = 0 := by kernel_rfl
theorem appI_23 : appI vE.P 23 = some (1, 8) := by kernel_rfl
theorem fieldT_23_0 : fieldT vE.P 23 0 = 3 := by kernel_rfl
theorem isSliceT_23 : isSliceT vE.P 23 = true := by kernel_rfl
theorem sliceI_23 : sliceI vE.P 23 = some 1 := by kernel_rfl
theorem knownT_3 : knownT vE.P 3 = true := by kernel_rfl
theorem isAggT_3 : isAggT vE.P 3 = false := by kernel_rfl
theorem sizeT_3 : sizeT vE.P 3 = some 1 := by kernel_rfl
theorem callable_10 : callable vE.P 10 = true := by kernel_rfl
theorem allocA_25 : ∀ n, allocA vE.P 25 n = some [.int .i64 0, .str [], .int .i64 0] := by intros; kernel_rfl
theorem sizeT_25 : sizeT vE.P 25 = some 3 := by kernel_rfl
theorem callable_11 : callable vE.P 11 = true := by kernel_rfl
theorem knownT_25 : knownT vE.P 25 = true := by kernel_rfl
theorem isAggT_25 : isAggT vE.P 25 = true := by kernel_rfl
theorem eqGuard_25 : vE.P.eqGuardType vE.P.depth 25 = false := by kernel_rfl
theorem eqT_25 : ∀ (a0 b0 : Int) (a1 b1 : List UInt8) (a2 b2 : Int), eqA vE.P 10000 25 (.agg [.int .i64 a0, .str a1, .int .i64 a2]) (.agg [.int .i64 b0, .str b1, .int .i64 b2]) = some (a0 == b0 && (a1 == b1 && (a2 == b2 && true))) := by intros; kernel_rfl
theorem callable_12 : callable vE.P 12 = true := by kernel_rfl
theorem callable_13 : callable vE.P 13 = true := by kernel_rfl
theorem elemW_26 : elemW vE.P 26 = 0 := by kernel_rfl
theorem elemW_0 : elemW vE.P 0 = 0 := by kernel_rfl
theorem zeroA_25 : zeroA vE.P 25 = some (.agg [.int .i64 0, .str [], .int .i64 0]) := by kernel_rfl
theorem place_25 : (placeA vE.P 25).isSome = true := by kernel_rfl
theorem fieldT_25_0 : fieldT vE.P 25 0 = 3 := by kernel_rfl
theorem placeAt_25_0 : placeAt vE.P 25 0 = some (0, 1) := by kernel_rfl
theorem fieldT_25_1 : fieldT vE.P 25 1 = 9 := by kernel_rfl
theorem placeAt_25_1 : placeAt vE.P 25 1 = some (1, 1) := by kernel_rfl
theorem callable_14 : callable vE.P 14 = true := by kernel_rfl
theorem callable_15 : callable vE.P 15 = true := by kernel_rfl
theorem elemW_9 : elemW vE.P 9 = 0 := by kernel_rfl
theorem elemW_33 : elemW vE.P 33 = 0 := by kernel_rfl
theorem knownT_33 : knownT vE.P 33 = true := by kernel_rfl
theorem intT_3 : intT vE.P 3 = some .i64 := by kernel_rfl
theorem isStrT_3 : isStrT vE.P 3 = false := by kernel_rfl
theorem callable_16 : callable vE.P 16 = true := by kernel_rfl
theorem elemW_5 : elemW vE.P 5 = 0 := by kernel_rfl
theorem knownT_5 : knownT vE.P 5 = true := by kernel_rfl
theorem callable_17 : callable vE.P 17 = true := by kernel_rfl
theorem callable_18 : callable vE.P 18 = true := by kernel_rfl
theorem fieldI_25_0 : fieldI vE.P 25 0 = some (0, 1, false) := by kernel_rfl
theorem fieldI_25_1 : fieldI vE.P 25 1 = some (1, 1, false) := by kernel_rfl
theorem knownT_9 : knownT vE.P 9 = true := by kernel_rfl
theorem isAggT_9 : isAggT vE.P 9 = false := by kernel_rfl
theorem sizeT_9 : sizeT vE.P 9 = some 1 := by kernel_rfl
theorem zeroA_41 : zeroA vE.P 41 = some (.agg [.str [], .int .i64 0]) := by kernel_rfl
theorem place_41 : (placeA vE.P 41).isSome = true := by kernel_rfl
theorem fieldT_41_0 : fieldT vE.P 41 0 = 9 := by kernel_rfl
theorem placeAt_41_0 : placeAt vE.P 41 0 = some (0, 1) := by kernel_rfl
theorem fieldT_41_1 : fieldT vE.P 41 1 = 3 := by kernel_rfl
theorem placeAt_41_1 : placeAt vE.P 41 1 = some (1, 1) := by kernel_rfl
theorem callable_19 : callable vE.P 19 = true := by kernel_rfl
theorem fieldI_41_1 : fieldI vE.P 41 1 = some (1, 1, false) := by kernel_rfl
theorem callable_21 : callable vE.P 21 = true := by kernel_rfl
theorem fieldT_25_2 : fieldT vE.P 25 2 = 3 := by kernel_rfl
theorem placeAt_25_2 : placeAt vE.P 25 2 = some (2, 1) := by kernel_rfl
theorem callable_22 : callable vE.P 22 = true := by kernel_rfl
theorem callable_23 : callable vE.P 23 = true := by kernel_rfl
theorem callable_24 : callable vE.P 24 = true := by kernel_rfl
theorem callable_25 : callable vE.P 25 = true := by kernel_rfl
theorem callable_26 : callable vE.P 26 = true := by kernel_rfl
theorem callable_27 : callable vE.P 27 = true := by kernel_rfl
theorem callable_28 : callable vE.P 28 = true := by kernel_rfl
theorem appI_50 : appI vE.P 50 = some (1, 1) := by kernel_rfl
theorem fieldT_50_0 : fieldT vE.P 50 0 = 5 := by kernel_rfl
theorem callable_29 : callable vE.P 29 = true := by kernel_rfl
theorem intT_50 : intT vE.P 50 = none := by kernel_rfl
theorem knownT_50 : knownT vE.P 50 = true := by kernel_rfl
theorem u8T_50 : u8T vE.P 50 = true := by kernel_rfl
theorem callable_30 : callable vE.P 30 = true := by kernel_rfl
theorem intT_9 : intT vE.P 9 = none := by kernel_rfl
theorem elemIs_50_5 : elemIs vE.P 50 5 = true := by kernel_rfl
theorem callable_31 : callable vE.P 31 = true := by kernel_rfl
theorem callable_33 : callable vE.P 33 = true := by kernel_rfl
theorem callable_32 : callable vE.P 32 = true := by kernel_rfl
theorem callable_34 : callable vE.P 34 = true := by kernel_rfl
theorem callable_35 : callable vE.P 35 = true := by kernel_rfl
theorem callable_36 : callable vE.P 36 = true := by kernel_rfl
theorem intT_60 : intT vE.P 60 = some .u64 := by kernel_rfl
theorem isStrT_60 : isStrT vE.P 60 = false := by kernel_rfl
theorem callable_37 : callable vE.P 37 = true := by kernel_rfl
theorem callable_38 : callable vE.P 38 = true := by kernel_rfl
theorem callable_40 : callable vE.P 40 = true := by kernel_rfl
theorem callable_39 : callable vE.P 39 = true := by kernel_rfl
theorem callable_41 : callable vE.P 41 = true := by kernel_rfl
theorem intT_5 : intT vE.P 5 = some .u8 := by kernel_rfl
theorem isStrT_5 : isStrT vE.P 5 = false := by kernel_rfl
theorem callable_42 : callable vE.P 42 = true := by kernel_rfl
theorem fieldI_41_0 : fieldI vE.P 41 0 = some (0, 1, false) := by kernel_rfl
theorem callable_43 : callable vE.P 43 = true := by kernel_rfl
theorem callable_44 : callable vE.P 44 = true := by kernel_rfl
theorem callable_45 : callable vE.P 45 = true := by kernel_rfl
theorem callable_46 : callable vE.P 46 = true := by kernel_rfl
theorem callable_47 : callable vE.P 47 = true := by kernel_rfl
theorem callable_48 : callable vE.P 48 = true := by kernel_rfl
theorem callable_49 : callable vE.P 49 = true := by kernel_rfl
theorem callable_50 : callable vE.P 50 = true := by kernel_rfl
theorem callable_51 : callable vE.P 51 = true := by kernel_rfl
theorem callable_52 : callable vE.P 52 = true := by kernel_rfl
theorem callable_53 : callable vE.P 53 = true := by kernel_rfl
theorem callable_54 : callable vE.P 54 = true := by kernel_rfl
theorem isStrT_50 : isStrT vE.P 50 = false := by kernel_rfl
theorem isSliceT_50 : isSliceT vE.P 50 = true := by kernel_rfl
theorem sliceI_50 : sliceI vE.P 50 = some 1 := by kernel_rfl
theorem isAggT_5 : isAggT vE.P 5 = false := by kernel_rfl
theorem sizeT_5 : sizeT vE.P 5 = some 1 := by kernel_rfl
theorem callable_55 : callable vE.P 55 = true := by kernel_rfl
theorem callable_56 : callable vE.P 56 = true := by kernel_rfl
theorem allocA_70 : ∀ n, allocA vE.P 70 n = some (List.map AVal.bool (repB 256)) := by intros; kernel_rfl
theorem sizeT_70 : sizeT vE.P 70 = some 256 := by kernel_rfl
theorem callable_57 : callable vE.P 57 = true := by kernel_rfl
theorem callable_58 : callable vE.P 58 = true := by kernel_rfl
theorem callable_59 : callable vE.P 59 = true := by kernel_rfl
theorem callable_60 : callable vE.P 60 = true := by kernel_rfl
theorem callable_61 : callable vE.P 61 = true := by kernel_rfl
theorem elemW_60 : elemW vE.P 60 = 0 := by kernel_rfl
theorem callable_62 : callable vE.P 62 = true := by kernel_rfl
theorem callable_63 : callable vE.P 63 = true := by kernel_rfl
theorem knownT_60 : knownT vE.P 60 = true := by kernel_rfl
theorem allocA_78 : ∀ n, allocA vE.P 78 n = some [.int .u8 0, .int .u8 0, .int .u8 0, .int .u8 0, .int .u8 0, .int .u8 0, .int .u8 0, .int .u8 0, .int .u8 0, .int .u8 0, .int .u8 0, .int .u8 0, .int .u8 0, .int .u8 0, .int .u8 0, .int .u8 0, .int .u8 0, .int .u8 0, .int .u8 0, .int .u8 0] := by intros; kernel_rfl
theorem arrayI_78 : arrayI vE.P 78 = some (20, 1, false) := by kernel_rfl
theorem sliceI_78 : sliceI vE.P 78 = none := by kernel_rfl
theorem allocA_81 : ∀ n, allocA vE.P 81 n = some [.nself n 81 2, .buf 5 [] true] := by intros; kernel_rfl
theorem callable_65 : callable vE.P 65 = true := by kernel_rfl
theorem callable_67 : callable vE.P 67 = true := by kernel_rfl
theorem callable_68 : callable vE.P 68 = true := by kernel_rfl
theorem callable_69 : callable vE.P 69 = true := by kernel_rfl
theorem callable_70 : callable vE.P 70 = true := by kernel_rfl
theorem callable_71 : callable vE.P 71 = false := by kernel_rfl
theorem callable_72 : callable vE.P 72 = true := by kernel_rfl
theorem knownT_70 : knownT vE.P 70 = true := by kernel_rfl
theorem isAggT_70 : isAggT vE.P 70 = true := by kernel_rfl
theorem arrayI_70 : arrayI vE.P 70 = some (256, 1, false) := by kernel_rfl
theorem sizeT_4 : sizeT vE.P 4 = some 1 := by kernel_rfl
theorem callable_73 : callable vE.P 73 = true := by kernel_rfl
theorem callable_74 : callable vE.P 74 = true := by kernel_rfl
theorem callable_75 : callable vE.P 75 = true := by kernel_rfl
theorem intT_21 : intT vE.P 21 = some .i32 := by kernel_rfl
theorem isStrT_21 : isStrT vE.P 21 = false := by kernel_rfl
theorem elemW_21 : elemW vE.P 21 = 0 := by kernel_rfl
theorem callable_76 : callable vE.P 76 = true := by kernel_rfl
theorem callable_77 : callable vE.P 77 = true := by kernel_rfl
theorem callable_78 : callable vE.P 78 = true := by kernel_rfl
theorem fieldI_81_1 : fieldI vE.P 81 1 = some (1, 1, false) := by kernel_rfl
theorem isAggT_50 : isAggT vE.P 50 = false := by kernel_rfl
theorem sizeT_50 : sizeT vE.P 50 = some 1 := by kernel_rfl
theorem ptrTo_93 : ptrTo vE.P 93 5 = true := by kernel_rfl
theorem callable_79 : callable vE.P 79 = true := by kernel_rfl
theorem callable_80 : callable vE.P 80 = true := by kernel_rfl
theorem callable_81 : callable vE.P 81 = true := by kernel_rfl
theorem elemW_84 : elemW vE.P 84 = 0 := by kernel_rfl
theorem callable_82 : callable vE.P 82 = true := by kernel_rfl
theorem callable_83 : callable vE.P 83 = true := by kernel_rfl
theorem knownT_98 : knownT vE.P 98 = true := by kernel_rfl
theorem isAggT_98 : isAggT vE.P 98 = true := by kernel_rfl
theorem sizeT_98 : sizeT vE.P 98 = some 12 := by kernel_rfl
theorem arrayI_98 : arrayI vE.P 98 = some (4, 3, true) := by kernel_rfl
theorem allocA_97 : ∀ n, allocA vE.P 97 n = some [.int .u8 0, .int .u8 0, .int .i64 0] := by intros; kernel_rfl
theorem sizeT_97 : sizeT vE.P 97 = some 3 := by kernel_rfl
theorem fieldI_97_1 : fieldI vE.P 97 1 = some (1, 1, false) := by kernel_rfl
theorem fieldI_97_0 : fieldI vE.P 97 0 = some (0, 1, false) := by kernel_rfl
theorem fieldI_97_2 : fieldI vE.P 97 2 = some (2, 1, false) := by kernel_rfl
theorem callable_84 : callable vE.P 84 = true := by kernel_rfl
theorem callable_85 : callable vE.P 85 = false := by kernel_rfl
theorem callable_86 : callable vE.P 86 = true := by kernel_rfl
theorem callable_87 : callable vE.P 87 = true := by kernel_rfl
theorem knownT_4 : knownT vE.P 4 = true := by kernel_rfl
theorem isAggT_4 : isAggT vE.P 4 = false := by kernel_rfl
theorem callable_88 : callable vE.P 88 = true := by kernel_rfl
theorem callable_89 : callable vE.P 89 = true := by kernel_rfl
theorem callable_90 : callable vE.P 90 = true := by kernel_rfl
theorem callable_91 : callable vE.P 91 = true := by kernel_rfl
theorem callable_92 : callable vE.P 92 = true := by kernel_rfl
theorem makeI_50 : makeI vE.P 50 = some (1, .int .u8 0) := by kernel_rfl
theorem fieldI_81_0 : fieldI vE.P 81 0 = some (0, 1, false) := by kernel_rfl
theorem knownT_79 : knownT vE.P 79 = true := by kernel_rfl
theorem isAggT_79 : isAggT vE.P 79 = false := by kernel_rfl
theorem sizeT_79 : sizeT vE.P 79 = some 1 := by kernel_rfl
theorem elemW_79 : elemW vE.P 79 = 0 := by kernel_rfl
theorem isPtrT_79 : isPtrT vE.P 79 = true := by kernel_rfl
theorem isStrT_102 : isStrT vE.P 102 = false := by kernel_rfl
theorem convP_79_102_80 : convP vE.P 79 102 80 2 = true := by kernel_rfl
theorem convP_79_102_81 : convP vE.P 79 102 81 2 = true := by kernel_rfl
theorem callable_93 : callable vE.P 93 = false := by kernel_rfl
theorem knownT_102 : knownT vE.P 102 = true := by kernel_rfl
theorem isStrT_79 : isStrT vE.P 79 = false := by kernel_rfl
theorem convP_102_79_80 : convP vE.P 102 79 80 2 = true := by kernel_rfl
theorem convP_102_79_81 : convP vE.P 102 79 81 2 = true := by kernel_rfl
theorem callable_94 : callable vE.P 94 = true := by kernel_rfl
theorem callable_95 : callable vE.P 95 = true := by kernel_rfl
theorem intT_33 : intT vE.P 33 = some .u32 := by kernel_rfl
theorem isStrT_33 : isStrT vE.P 33 = false := by kernel_rfl
theorem arrayI_107 : arrayI vE.P 107 = some (256, 1, false) := by kernel_rfl
theorem arrayI_110 : arrayI vE.P 110 = some (16, 2, true) := by kernel_rfl
theorem knownT_109 : knownT vE.P 109 = true := by kernel_rfl
theorem isAggT_109 : isAggT vE.P 109 = true := by kernel_rfl
theorem sizeT_109 : sizeT vE.P 109 = some 2 := by kernel_rfl
theorem allocA_109 : ∀ n, allocA vE.P 109 n = some [.int .u8 0, .int .u8 0] := by intros; kernel_rfl
theorem fieldI_109_0 : fieldI vE.P 109 0 = some (0, 1, false) := by kernel_rfl
theorem fieldI_109_1 : fieldI vE.P 109 1 = some (1, 1, false) := by kernel_rfl
theorem knownT_21 : knownT vE.P 21 = true := by kernel_rfl
theorem callable_96 : callable vE.P 96 = true := by kernel_rfl
theorem callable_98 : callable vE.P 98 = true := by kernel_rfl
theorem zeroA_109 : zeroA vE.P 109 = some (.agg [.int .u8 0, .int .u8 0]) := by kernel_rfl
theorem place_109 : (placeA vE.P 109).isSome = true := by kernel_rfl
theorem fieldT_109_0 : fieldT vE.P 109 0 = 5 := by kernel_rfl
theorem placeAt_109_0 : placeAt vE.P 109 0 = some (0, 1) := by kernel_rfl
theorem fieldT_109_1 : fieldT vE.P 109 1 = 5 := by kernel_rfl
theorem placeAt_109_1 : placeAt vE.P 109 1 = some (1, 1) := by kernel_rfl
theorem zeroA_110 : zeroA vE.P 110 = some (.agg [.int .u8 0, .int .u8 0, .int .u8 0, .int .u8 0, .int .u8 0, .int .u8 0, .int .u8 0, .int .u8 0, .int .u8 0, .int .u8 0, .int .u8 0, .int .u8 0, .int .u8 0, .int .u8 0, .int .u8 0, .int .u8 0, .int .u8 0, .int .u8 0, .int .u8 0, .int .u8 0, .int .u8 0, .int .u8 0, .int .u8 0, .int .u8 0, .int .u8 0, .int .u8 0, .int .u8 0, .int .u8 0, .int .u8 0, .int .u8 0, .int .u8 0, .int .u8 0]) := by kernel_rfl
theorem place_110 : (placeA vE.P 110).isSome = true := by kernel_rfl
theorem fieldT_110_0 : fieldT vE.P 110 0 = 109 := by kernel_rfl
theorem placeAt_110_0 : placeAt vE.P 110 0 = some (0, 2) := by kernel_rfl
theorem fieldT_110_1 : fieldT vE.P 110 1 = 109 := by kernel_rfl
theorem placeAt_110_1 : placeAt vE.P 110 1 = some (2, 2) := by kernel_rfl
theorem fieldT_110_2 : fieldT vE.P 110 2 = 109 := by kernel_rfl
theorem placeAt_110_2 : placeAt vE.P 110 2 = some (4, 2) := by kernel_rfl
theorem fieldT_110_3 : fieldT vE.P 110 3 = 109 := by kernel_rfl
theorem placeAt_110_3 : placeAt vE.P 110 3 = some (6, 2) := by kernel_rfl
theorem fieldT_110_4 : fieldT vE.P 110 4 = 109 := by kernel_rfl
theorem placeAt_110_4 : placeAt vE.P 110 4 = some (8, 2) := by kernel_rfl
theorem sizeT_110 : sizeT vE.P 110 = some 32 := by kernel_rfl
theorem zeroA_97 : zeroA vE.P 97 = some (.agg [.int .u8 0, .int .u8 0, .int .i64 0]) := by kernel_rfl
theorem place_97 : (placeA vE.P 97).isSome = true := by kernel_rfl
theorem fieldT_97_0 : fieldT vE.P 97 0 = 5 := by kernel_rfl
theorem placeAt_97_0 : placeAt vE.P 97 0 = some (0, 1) := by kernel_rfl
theorem fieldT_97_1 : fieldT vE.P 97 1 = 5 := by kernel_rfl
theorem placeAt_97_1 : placeAt vE.P 97 1 = some (1, 1) := by kernel_rfl
theorem fieldT_97_2 : fieldT vE.P 97 2 = 3 := by kernel_rfl
theorem placeAt_97_2 : placeAt vE.P 97 2 = some (2, 1) := by kernel_rfl
theorem zeroA_98 : zeroA vE.P 98 = some (.agg [.int .u8 0, .int .u8 0, .int .i64 0, .int .u8 0, .int .u8 0, .int .i64 0, .int .u8 0, .int .u8 0, .int .i64 0, .int .u8 0, .int .u8 0, .int .i64 0]) := by kernel_rfl
theorem place_98 : (placeA vE.P 98).isSome = true := by kernel_rfl
theorem fieldT_98_0 : fieldT vE.P 98 0 = 97 := by kernel_rfl
theorem placeAt_98_0 : placeAt vE.P 98 0 = some (0, 3) := by kernel_rfl
theorem fieldT_98_1 : fieldT vE.P 98 1 = 97 := by kernel_rfl
theorem placeAt_98_1 : placeAt vE.P 98 1 = some (3, 3) := by kernel_rfl
theorem fieldT_98_2 : fieldT vE.P 98 2 = 97 := by kernel_rfl
theorem placeAt_98_2 : placeAt vE.P 98 2 = some (6, 3) := by kernel_rfl
theorem fieldT_98_3 : fieldT vE.P 98 3 = 97 := by kernel_rfl
theorem placeAt_98_3 : placeAt vE.P 98 3 = some (9, 3) := by kernel_rfl
theorem rdg_0 : ∀ af t, rd vE af t (.global 0) = .cptr cells_0 := by intros; rfl
theorem stg_0 : stripL cells_0 = cells_0 := by simp [cells_0, stripL, AVal.strip]
theorem tkg_0 : List.take 12 cells_0 = cells_0 := by rfl
theorem ldg_0 : ∀ st, loadA vE 98 (.cptr cells_0) st = some (.agg cells_0) := by intros; kernel_rfl
theorem tab_utf8text_forms_ia {n : Int} {x : Utf8textForm} {k : IntKind} (h : idx tab_utf8text_forms n = some x) : indexAddrA vE 98 (.cptr cells_0) (.int k n) = some (.cptr ([.int .u8 x.mark, .int .u8 x.mask, .int .i64 x.least] ++ List.drop (n.toNat * 3 + 3) cells_0)) := by
  unfold idx at h
  split at h
  · rename_i hn
    obtain ⟨j, rfl⟩ : ∃ j : Nat, n = j := ⟨n.toNat, by omega⟩
    rw [Int.toNat_natCast] at h
    rcases j with _ | j
    · cases h; kernel_rfl
    rcases j with _ | j
    · cases h; kernel_rfl
    rcases j with _ | j
    · cases h; kernel_rfl
    rcases j with _ | j
    · cases h; kernel_rfl
    simp [tab_utf8text_forms] at h
  · cases h
theorem tab_utf8text_forms_in {n : Int} {x : Utf8textForm} {k : IntKind} (h : idx tab_utf8text_forms n = some x) : indexA vE 98 (.agg cells_0) (.int k n) = some (.agg [.int .u8 x.mark, .int .u8 x.mask, .int .i64 x.least]) := by
  unfold idx at h
  split at h
  · rename_i hn
    obtain ⟨j, rfl⟩ : ∃ j : Nat, n = j := ⟨n.toNat, by omega⟩
    rw [Int.toNat_natCast] at h
    rcases j with _ | j
    · cases h; kernel_rfl
    rcases j with _ | j
    · cases h; kernel_rfl
    rcases j with _ | j
    · cases h; kernel_rfl
    rcases j with _ | j
    · cases h; kernel_rfl
    simp [tab_utf8text_forms] at h
  · cases h
theorem isf_71 : (vE.P.funcs[71]?).isSome = true := by kernel_rfl
theorem ext_71 {l : List UInt8} {c : Int} {st : St} {Q : AVal → St → Prop} (h : Gl (Q (.int .i64 (Go.Lib.indexByte l (bchr c))) st)) : XCall vE 71 [.str l, .int .u8 c] st Q := by
  refine ⟨(vE.P.funcs[71]?).get isf_71, Extern.BytealgIndexByte.indexByte, .int .i64 (Go.Lib.indexByte l (bchr c)), (Option.some_get isf_71).symm, by kernel_rfl, by kernel_rfl, by kernel_rfl, by kernel_rfl, fun Γ vs w hr => ?_, ?_⟩
  · cases hr with | cons h1 t => cases t with | cons h2 t => cases t; cases h1; cases h2; exact ⟨_, Go.Lib.run_indexByteString _ _ w, .int _ _⟩
  · have := h.go; simpa [AVal.strip] using this
theorem isf_93 : (vE.P.funcs[93]?).isSome = true := by kernel_rfl
theorem ext_93 {x : AVal} {st : St} {Q : AVal → St → Prop} (h : Gl (Q x.strip st)) : XCall vE 93 [x] st Q := by
  refine ⟨(vE.P.funcs[93]?).get isf_93, Extern.AbiNoEscape.same, x, (Option.some_get isf_93).symm, by kernel_rfl, by kernel_rfl, by kernel_rfl, by kernel_rfl, fun Γ vs w hr => ?_, ?_⟩
  · cases hr with | cons h1 t => cases t; exact ⟨_, Go.Lib.run_noEscape w _, h1⟩
  · have := h.go; simpa [AVal.strip] using this
set_option linter.defProp false
def fxE := And.intro (And.intro (And.intro (And.intro (And.intro (And.intro (And.intro (@callable_1) (And.intro (@elemW_4) (@callable_9))) (And.intro (And.intro (@isStrT_9) (@elemW_3)) (And.intro (@appI_23) (@fieldT_23_0)))) (And.intro (And.intro (And.intro (@isSliceT_23) (@sliceI_23)) (And.intro (@knownT_3) (@isAggT_3))) (And.intro (And.intro (@sizeT_3) (@callable_10)) (And.intro (@allocA_25) (@sizeT_25))))) (And.intro (And.intro (And.intro (@callable_11) (And.intro (@knownT_25) (@isAggT_25))) (And.intro (And.intro (@eqGuard_25) (@eqT_25)) (And.intro (@callable_12) (@callable_13)))) (And.intro (And.intro (And.intro (@elemW_26) (@elemW_0)) (And.intro (@zeroA_25) (@place_25))) (And.intro (And.intro (@fieldT_25_0) (@placeAt_25_0)) (And.intro (@fieldT_25_1) (@placeAt_25_1)))))) (And.intro (And.intro (And.intro (And.intro (@callable_14) (And.intro (@callable_15) (@elemW_9))) (And.intro (And.intro (@elemW_33) (@knownT_33)) (And.intro (@intT_3) (@isStrT_3)))) (And.intro (And.intro (And.intro (@callable_16) (@elemW_5)) (And.intro (@knownT_5) (@callable_17))) (And.intro (And.intro (@callable_18) (@fieldI_25_0)) (And.intro (@fieldI_25_1) (@knownT_9))))) (And.intro (And.intro (And.intro (And.intro (@isAggT_9) (@sizeT_9)) (And.intro (@zeroA_41) (@place_41))) (And.intro (And.intro (@fieldT_41_0) (@placeAt_41_0)) (And.intro (@fieldT_41_1) (@placeAt_41_1)))) (And.intro (And.intro (And.intro (@callable_19) (@fieldI_41_1)) (And.intro (@callable_21) (@fieldT_25_2))) (And.intro (And.intro (@placeAt_25_2) (@callable_22)) (And.intro (@callable_23) (@callable_24))))))) (And.intro (And.intro (And.intro (And.intro (And.intro (@callable_25) (And.intro (@callable_26) (@callable_27))) (And.intro (And.intro (@callable_28) (@appI_50)) (And.intro (@fieldT_50_0) (@callable_29)))) (And.intro (And.intro (And.intro (@intT_50) (@knownT_50)) (And.intro (@u8T_50) (@callable_30))) (And.intro (And.intro (@intT_9) (@elemIs_50_5)) (And.intro (@callable_31) (@callable_33))))) (And.intro (And.intro (And.intro (And.intro (@callable_32) (@callable_34)) (And.intro (@callable_35) (@callable_36))) (And.intro (And.intro (@intT_60) (@isStrT_60)) (And.intro (@callable_37) (@callable_38)))) (And.intro (And.intro (And.intro (@callable_40) (@callable_39)) (And.intro (@callable_41) (@intT_5))) (And.intro (And.intro (@isStrT_5) (@callable_42)) (And.intro (@fieldI_41_0) (@callable_43)))))) (And.intro (And.intro (And.intro (And.intro (@callable_44) (And.intro (@callable_45) (@callable_46))) (And.intro (And.intro (@callable_47) (@callable_48)) (And.intro (@callable_49) (@callable_50)))) (And.intro (And.intro (And.intro (@callable_51) (@callable_52)) (And.intro (@callable_53) (@callable_54))) (And.intro (And.intro (@isStrT_50) (@isSliceT_50)) (And.intro (@sliceI_50) (@isAggT_5))))) (And.intro (And.intro (And.intro (And.intro (@sizeT_5) (@callable_55)) (And.intro (@callable_56) (@allocA_70))) (And.intro (And.intro (@sizeT_70) (@callable_57)) (And.intro (@callable_58) (@callable_59)))) (And.intro (And.intro (And.intro (@callable_60) (@callable_61)) (And.intro (@elemW_60) (@callable_62))) (And.intro (And.intro (@callable_63) (@knownT_60)) (And.intro (@allocA_78) (@arrayI_78)))))))) (And.intro (And.intro (And.intro (And.intro (And.intro (And.intro (@sliceI_78) (And.intro (@allocA_81) (@callable_65))) (And.intro (And.intro (@callable_67) (@callable_68)) (And.intro (@callable_69) (@callable_70)))) (And.intro (And.intro (And.intro (@callable_71) (@callable_72)) (And.intro (@knownT_70) (@isAggT_70))) (And.intro (And.intro (@arrayI_70) (@sizeT_4)) (And.intro (@callable_73) (@callable_74))))) (And.intro (And.intro (And.intro (@callable_75) (And.intro (@intT_21) (@isStrT_21))) (And.intro (And.intro (@elemW_21) (@callable_76)) (And.intro (@callable_77) (@callable_78)))) (And.intro (And.intro (And.intro (@fieldI_81_1) (@isAggT_50)) (And.intro (@sizeT_50) (@ptrTo_93))) (And.intro (And.intro (@callable_79) (@callable_80)) (And.intro (@callable_81) (@elemW_84)))))) (And.intro (And.intro (And.intro (And.intro (@callable_82) (And.intro (@callable_83) (@knownT_98))) (And.intro (And.intro (@isAggT_98) (@sizeT_98)) (And.intro (@arrayI_98) (@allocA_97)))) (And.intro (And.intro (And.intro (@sizeT_97) (@fieldI_97_1)) (And.intro (@fieldI_97_0) (@fieldI_97_2))) (And.intro (And.intro (@callable_84) (@callable_85)) (And.intro (@callable_86) (@callable_87))))) (And.intro (And.intro (And.intro (And.intro (@knownT_4) (@isAggT_4)) (And.intro (@callable_88) (@callable_89))) (And.intro (And.intro (@callable_90) (@callable_91)) (And.intro (@callable_92) (@makeI_50)))) (And.intro (And.intro (And.intro (@fieldI_81_0) (@knownT_79)) (And.intro (@isAggT_79) (@sizeT_79))) (And.intro (And.intro (@elemW_79) (@isPtrT_79)) (And.intro (@isStrT_102) (@convP_79_102_80))))))) (And.intro (And.intro (And.intro (And.intro (And.intro (@convP_79_102_81) (And.intro (@callable_93) (@knownT_102))) (And.intro (And.intro (@isStrT_79) (@convP_102_79_80)) (And.intro (@convP_102_79_81) (@callable_94)))) (And.intro (And.intro (And.intro (@callable_95) (@intT_33)) (And.intro (@isStrT_33) (@arrayI_107))) (And.intro (And.intro (@arrayI_110) (@knownT_109)) (And.intro (@isAggT_109) (@sizeT_109))))) (And.intro (And.intro (And.intro (And.intro (@allocA_109) (@fieldI_109_0)) (And.intro (@fieldI_109_1) (@knownT_21))) (And.intro (And.intro (@callable_96) (@callable_98)) (And.intro (@zeroA_109) (@place_109)))) (And.intro (And.intro (And.intro (@fieldT_109_0) (@placeAt_109_0)) (And.intro (@fieldT_109_1) (@placeAt_109_1))) (And.intro (And.intro (@zeroA_110) (@place_110)) (And.intro (@fieldT_110_0) (@placeAt_110_0)))))) (And.intro (And.intro (And.intro (And.intro (@fieldT_110_1) (And.intro (@placeAt_110_1) (@fieldT_110_2))) (And.intro (And.intro (@placeAt_110_2) (@fieldT_110_3)) (And.intro (@placeAt_110_3) (@fieldT_110_4)))) (And.intro (And.intro (And.intro (@placeAt_110_4) (@sizeT_110)) (And.intro (@zeroA_97) (@place_97))) (And.intro (And.intro (@fieldT_97_0) (@placeAt_97_0)) (And.intro (@fieldT_97_1) (@placeAt_97_1))))) (And.intro (And.intro (And.intro (And.intro (@fieldT_97_2) (@placeAt_97_2)) (And.intro (@zeroA_98) (@place_98))) (And.intro (And.intro (@fieldT_98_0) (@placeAt_98_0)) (And.intro (@fieldT_98_1) (@placeAt_98_1)))) (And.intro (And.intro (And.intro (@fieldT_98_2) (@placeAt_98_2)) (And.intro (@fieldT_98_3) (@placeAt_98_3))) (And.intro (And.intro (@rdg_0) (@stg_0)) (And.intro (@tkg_0) (@ldg_0))))))))
def vm := And.intro vmC (And.intro fxE eE)
end Go.Proofs.YtmdjjhakfoenpaaDoor
