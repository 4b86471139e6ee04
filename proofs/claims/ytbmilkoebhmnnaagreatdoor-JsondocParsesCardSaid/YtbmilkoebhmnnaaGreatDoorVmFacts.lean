/- Closed facts on the types of this translation, for the VM library; written by facts.py. -/
import Derived.Test.YtbmilkoebhmnnaaGreatDoorChecked
import Derived.Test.YtbmilkoebhmnnaaGreatDoorVM2
import Derived.Test.YtbmilkoebhmnnaaGreatDoorTy
import Derived.KernelRfl
set_option linter.unusedVariables false
namespace Go.Proofs.YtbmilkoebhmnnaaGreatDoor
open Go.VM
noncomputable def vE : Env := ⟨Tryz.prog, vT⟩
theorem vE_mixed : vE.P.follows .mixedOrders = true := by kernel_rfl
theorem callable_1 : callable vE.P 1 = false := by kernel_rfl
theorem elemW_4 : elemW vE.P 4 = 0 := by kernel_rfl
theorem callable_7 : callable vE.P 7 = true := by kernel_rfl
theorem isStrT_9 : isStrT vE.P 9 = true := by kernel_rfl
theorem elemW_3 : elemW vE.P 3 = 0 := by kernel_rfl
theorem callable_8 : callable vE.P 8 = true := by kernel_rfl
theorem allocA_26 : ∀ n, allocA vE.P 26 n = some [.int .i64 0, .str [], .slice 1 [] true, .slice 4 [] true] := by intros; kernel_rfl
theorem sizeT_26 : sizeT vE.P 26 = some 4 := by kernel_rfl
theorem callable_9 : callable vE.P 9 = true := by kernel_rfl
theorem knownT_26 : knownT vE.P 26 = true := by kernel_rfl
theorem isAggT_26 : isAggT vE.P 26 = true := by kernel_rfl
theorem callable_10 : callable vE.P 10 = true := by kernel_rfl
theorem elemW_0 : elemW vE.P 0 = 0 := by kernel_rfl
theorem callable_11 : callable vE.P 11 = true := by kernel_rfl
theorem fieldI_26_0 : fieldI vE.P 26 0 = some (0, 1, false) := by kernel_rfl
theorem knownT_3 : knownT vE.P 3 = true := by kernel_rfl
theorem isAggT_3 : isAggT vE.P 3 = false := by kernel_rfl
theorem sizeT_3 : sizeT vE.P 3 = some 1 := by kernel_rfl
theorem callable_12 : callable vE.P 12 = true := by kernel_rfl
theorem elemW_27 : elemW vE.P 27 = 0 := by kernel_rfl
theorem knownT_32 : knownT vE.P 32 = true := by kernel_rfl
theorem intT_3 : intT vE.P 3 = some .i64 := by kernel_rfl
theorem isStrT_3 : isStrT vE.P 3 = false := by kernel_rfl
theorem elemW_9 : elemW vE.P 9 = 0 := by kernel_rfl
theorem callable_13 : callable vE.P 13 = true := by kernel_rfl
theorem callable_14 : callable vE.P 14 = true := by kernel_rfl
theorem callable_15 : callable vE.P 15 = true := by kernel_rfl
theorem callable_16 : callable vE.P 16 = true := by kernel_rfl
theorem callable_17 : callable vE.P 17 = true := by kernel_rfl
theorem isBoolT_4 : isBoolT vE.P 4 = true := by kernel_rfl
theorem callable_18 : callable vE.P 18 = true := by kernel_rfl
theorem fieldI_26_2 : fieldI vE.P 26 2 = some (2, 1, false) := by kernel_rfl
theorem knownT_23 : knownT vE.P 23 = true := by kernel_rfl
theorem isAggT_23 : isAggT vE.P 23 = false := by kernel_rfl
theorem sizeT_23 : sizeT vE.P 23 = some 1 := by kernel_rfl
theorem isSliceT_23 : isSliceT vE.P 23 = true := by kernel_rfl
theorem fieldI_26_3 : fieldI vE.P 26 3 = some (3, 1, false) := by kernel_rfl
theorem knownT_24 : knownT vE.P 24 = true := by kernel_rfl
theorem isAggT_24 : isAggT vE.P 24 = false := by kernel_rfl
theorem sizeT_24 : sizeT vE.P 24 = some 1 := by kernel_rfl
theorem isSliceT_24 : isSliceT vE.P 24 = true := by kernel_rfl
theorem sliceI_24 : sliceI vE.P 24 = some 4 := by kernel_rfl
theorem fieldI_26_1 : fieldI vE.P 26 1 = some (1, 1, false) := by kernel_rfl
theorem knownT_9 : knownT vE.P 9 = true := by kernel_rfl
theorem isAggT_9 : isAggT vE.P 9 = false := by kernel_rfl
theorem sizeT_9 : sizeT vE.P 9 = some 1 := by kernel_rfl
theorem zeroA_26 : zeroA vE.P 26 = some (.agg [.int .i64 0, .str [], .slice 1 [] true, .slice 4 [] true]) := by kernel_rfl
theorem place_26 : (placeA vE.P 26).isSome = true := by kernel_rfl
theorem allocA_46 : ∀ n, allocA vE.P 46 n = some [.slice 5 [] true, .int .i64 0, .int .i64 0, .int .i64 0, .str [], .slice 1 [] true, .slice 4 [] true] := by intros; kernel_rfl
theorem callable_19 : callable vE.P 19 = true := by kernel_rfl
theorem allocA_48 : ∀ n, allocA vE.P 48 n = some [.int .i64 0, .str [], .int .i64 0] := by intros; kernel_rfl
theorem sizeT_48 : sizeT vE.P 48 = some 3 := by kernel_rfl
theorem knownT_48 : knownT vE.P 48 = true := by kernel_rfl
theorem isAggT_48 : isAggT vE.P 48 = true := by kernel_rfl
theorem callable_20 : callable vE.P 20 = true := by kernel_rfl
theorem fieldI_48_2 : fieldI vE.P 48 2 = some (2, 1, false) := by kernel_rfl
theorem fieldI_48_0 : fieldI vE.P 48 0 = some (0, 1, false) := by kernel_rfl
theorem fieldI_46_3 : fieldI vE.P 46 3 = some (3, 4, true) := by kernel_rfl
theorem zeroA_54 : zeroA vE.P 54 = some (.agg [.str [], .int .i64 0, .int .i64 0, .int .i64 0, .int .i64 0]) := by kernel_rfl
theorem place_54 : (placeA vE.P 54).isSome = true := by kernel_rfl
theorem fieldT_54_0 : fieldT vE.P 54 0 = 9 := by kernel_rfl
theorem placeAt_54_0 : placeAt vE.P 54 0 = some (0, 1) := by kernel_rfl
theorem callable_22 : callable vE.P 22 = true := by kernel_rfl
theorem callable_21 : callable vE.P 21 = true := by kernel_rfl
theorem fieldI_54_3 : fieldI vE.P 54 3 = some (3, 1, false) := by kernel_rfl
theorem knownT_27 : knownT vE.P 27 = true := by kernel_rfl
theorem isAggT_27 : isAggT vE.P 27 = false := by kernel_rfl
theorem sizeT_27 : sizeT vE.P 27 = some 1 := by kernel_rfl
theorem callable_23 : callable vE.P 23 = true := by kernel_rfl
theorem fieldI_54_4 : fieldI vE.P 54 4 = some (4, 1, false) := by kernel_rfl
theorem sliceI_23 : sliceI vE.P 23 = some 1 := by kernel_rfl
theorem callable_24 : callable vE.P 24 = true := by kernel_rfl
theorem callable_25 : callable vE.P 25 = true := by kernel_rfl
theorem elemW_37 : elemW vE.P 37 = 1 := by kernel_rfl
theorem elemW_5 : elemW vE.P 5 = 0 := by kernel_rfl
theorem appI_37 : appI vE.P 37 = some (1, 1) := by kernel_rfl
theorem fieldT_37_0 : fieldT vE.P 37 0 = 5 := by kernel_rfl
theorem intT_37 : intT vE.P 37 = none := by kernel_rfl
theorem knownT_37 : knownT vE.P 37 = true := by kernel_rfl
theorem isSliceT_37 : isSliceT vE.P 37 = true := by kernel_rfl
theorem sliceI_37 : sliceI vE.P 37 = some 1 := by kernel_rfl
theorem knownT_5 : knownT vE.P 5 = true := by kernel_rfl
theorem isAggT_5 : isAggT vE.P 5 = false := by kernel_rfl
theorem sizeT_5 : sizeT vE.P 5 = some 1 := by kernel_rfl
theorem u8T_37 : u8T vE.P 37 = true := by kernel_rfl
theorem callable_26 : callable vE.P 26 = true := by kernel_rfl
theorem callable_27 : callable vE.P 27 = true := by kernel_rfl
theorem zeroA_48 : zeroA vE.P 48 = some (.agg [.int .i64 0, .str [], .int .i64 0]) := by kernel_rfl
theorem place_48 : (placeA vE.P 48).isSome = true := by kernel_rfl
theorem zeroA_64 : zeroA vE.P 64 = some (.agg [.str [], .int .i64 0]) := by kernel_rfl
theorem place_64 : (placeA vE.P 64).isSome = true := by kernel_rfl
theorem fieldT_64_0 : fieldT vE.P 64 0 = 9 := by kernel_rfl
theorem placeAt_64_0 : placeAt vE.P 64 0 = some (0, 1) := by kernel_rfl
theorem fieldT_64_1 : fieldT vE.P 64 1 = 3 := by kernel_rfl
theorem placeAt_64_1 : placeAt vE.P 64 1 = some (1, 1) := by kernel_rfl
theorem callable_28 : callable vE.P 28 = true := by kernel_rfl
theorem fieldI_64_1 : fieldI vE.P 64 1 = some (1, 1, false) := by kernel_rfl
theorem callable_30 : callable vE.P 30 = true := by kernel_rfl
theorem fieldT_48_0 : fieldT vE.P 48 0 = 3 := by kernel_rfl
theorem placeAt_48_0 : placeAt vE.P 48 0 = some (0, 1) := by kernel_rfl
theorem fieldT_48_1 : fieldT vE.P 48 1 = 9 := by kernel_rfl
theorem placeAt_48_1 : placeAt vE.P 48 1 = some (1, 1) := by kernel_rfl
theorem fieldT_48_2 : fieldT vE.P 48 2 = 3 := by kernel_rfl
theorem placeAt_48_2 : placeAt vE.P 48 2 = some (2, 1) := by kernel_rfl
theorem callable_31 : callable vE.P 31 = true := by kernel_rfl
theorem fieldI_48_1 : fieldI vE.P 48 1 = some (1, 1, false) := by kernel_rfl
theorem callable_32 : callable vE.P 32 = true := by kernel_rfl
theorem fieldI_46_1 : fieldI vE.P 46 1 = some (1, 1, false) := by kernel_rfl
theorem callable_33 : callable vE.P 33 = true := by kernel_rfl
theorem callable_34 : callable vE.P 34 = true := by kernel_rfl
theorem callable_35 : callable vE.P 35 = true := by kernel_rfl
theorem fieldT_26_0 : fieldT vE.P 26 0 = 3 := by kernel_rfl
theorem placeAt_26_0 : placeAt vE.P 26 0 = some (0, 1) := by kernel_rfl
theorem fieldT_26_1 : fieldT vE.P 26 1 = 9 := by kernel_rfl
theorem placeAt_26_1 : placeAt vE.P 26 1 = some (1, 1) := by kernel_rfl
theorem callable_36 : callable vE.P 36 = true := by kernel_rfl
theorem fieldI_54_2 : fieldI vE.P 54 2 = some (2, 1, false) := by kernel_rfl
theorem callable_37 : callable vE.P 37 = true := by kernel_rfl
theorem callable_38 : callable vE.P 38 = true := by kernel_rfl
theorem callable_39 : callable vE.P 39 = true := by kernel_rfl
theorem fieldI_54_0 : fieldI vE.P 54 0 = some (0, 1, false) := by kernel_rfl
theorem fieldI_54_1 : fieldI vE.P 54 1 = some (1, 1, false) := by kernel_rfl
theorem callable_40 : callable vE.P 40 = true := by kernel_rfl
theorem callable_41 : callable vE.P 41 = true := by kernel_rfl
theorem callable_43 : callable vE.P 43 = true := by kernel_rfl
theorem callable_42 : callable vE.P 42 = true := by kernel_rfl
theorem elemW_60 : elemW vE.P 60 = 0 := by kernel_rfl
theorem callable_44 : callable vE.P 44 = true := by kernel_rfl
theorem callable_45 : callable vE.P 45 = true := by kernel_rfl
theorem fieldI_64_0 : fieldI vE.P 64 0 = some (0, 1, false) := by kernel_rfl
theorem callable_46 : callable vE.P 46 = true := by kernel_rfl
theorem callable_47 : callable vE.P 47 = true := by kernel_rfl
theorem callable_48 : callable vE.P 48 = true := by kernel_rfl
theorem callable_49 : callable vE.P 49 = true := by kernel_rfl
theorem callable_50 : callable vE.P 50 = true := by kernel_rfl
theorem fieldI_46_0 : fieldI vE.P 46 0 = some (0, 1, false) := by kernel_rfl
theorem knownT_44 : knownT vE.P 44 = true := by kernel_rfl
theorem isAggT_44 : isAggT vE.P 44 = false := by kernel_rfl
theorem sizeT_44 : sizeT vE.P 44 = some 1 := by kernel_rfl
theorem isSliceT_44 : isSliceT vE.P 44 = true := by kernel_rfl
theorem callable_51 : callable vE.P 51 = true := by kernel_rfl
theorem fieldI_85_0 : fieldI vE.P 85 0 = some (0, 4, true) := by kernel_rfl
theorem callable_52 : callable vE.P 52 = true := by kernel_rfl
theorem callable_53 : callable vE.P 53 = true := by kernel_rfl
theorem sliceI_44 : sliceI vE.P 44 = some 5 := by kernel_rfl
theorem callable_54 : callable vE.P 54 = true := by kernel_rfl
theorem fieldI_85_1 : fieldI vE.P 85 1 = some (4, 1, false) := by kernel_rfl
theorem knownT_83 : knownT vE.P 83 = true := by kernel_rfl
theorem isAggT_83 : isAggT vE.P 83 = false := by kernel_rfl
theorem sizeT_83 : sizeT vE.P 83 = some 1 := by kernel_rfl
theorem appI_23 : appI vE.P 23 = some (1, 16) := by kernel_rfl
theorem fieldT_23_0 : fieldT vE.P 23 0 = 9 := by kernel_rfl
theorem intT_23 : intT vE.P 23 = none := by kernel_rfl
theorem callable_55 : callable vE.P 55 = true := by kernel_rfl
theorem fieldI_46_2 : fieldI vE.P 46 2 = some (2, 1, false) := by kernel_rfl
theorem callable_56 : callable vE.P 56 = true := by kernel_rfl
theorem callable_57 : callable vE.P 57 = true := by kernel_rfl
theorem callable_59 : callable vE.P 59 = true := by kernel_rfl
theorem callable_58 : callable vE.P 58 = true := by kernel_rfl
theorem intT_94 : intT vE.P 94 = some .u64 := by kernel_rfl
theorem isStrT_94 : isStrT vE.P 94 = false := by kernel_rfl
theorem callable_60 : callable vE.P 60 = true := by kernel_rfl
theorem appI_24 : appI vE.P 24 = some (4, 72) := by kernel_rfl
theorem fieldT_24_0 : fieldT vE.P 24 0 = 26 := by kernel_rfl
theorem intT_24 : intT vE.P 24 = none := by kernel_rfl
theorem callable_61 : callable vE.P 61 = true := by kernel_rfl
theorem callable_62 : callable vE.P 62 = true := by kernel_rfl
theorem callable_63 : callable vE.P 63 = true := by kernel_rfl
theorem callable_64 : callable vE.P 64 = true := by kernel_rfl
theorem callable_65 : callable vE.P 65 = true := by kernel_rfl
theorem callable_66 : callable vE.P 66 = true := by kernel_rfl
theorem intT_9 : intT vE.P 9 = none := by kernel_rfl
theorem elemIs_37_5 : elemIs vE.P 37 5 = true := by kernel_rfl
theorem callable_67 : callable vE.P 67 = true := by kernel_rfl
theorem callable_68 : callable vE.P 68 = true := by kernel_rfl
theorem callable_69 : callable vE.P 69 = true := by kernel_rfl
theorem callable_70 : callable vE.P 70 = true := by kernel_rfl
theorem allocA_102 : ∀ n, allocA vE.P 102 n = some [.nself n 102 2, .buf 5 [] true] := by intros; kernel_rfl
theorem callable_72 : callable vE.P 72 = true := by kernel_rfl
theorem callable_74 : callable vE.P 74 = true := by kernel_rfl
theorem callable_75 : callable vE.P 75 = true := by kernel_rfl
theorem callable_76 : callable vE.P 76 = true := by kernel_rfl
theorem elemW_86 : elemW vE.P 86 = 0 := by kernel_rfl
theorem place_85 : (placeA vE.P 85).isSome = true := by kernel_rfl
theorem fieldT_85_0 : fieldT vE.P 85 0 = 26 := by kernel_rfl
theorem placeAt_85_0 : placeAt vE.P 85 0 = some (0, 4) := by kernel_rfl
theorem fieldT_85_1 : fieldT vE.P 85 1 = 83 := by kernel_rfl
theorem placeAt_85_1 : placeAt vE.P 85 1 = some (4, 1) := by kernel_rfl
theorem appI_44 : appI vE.P 44 = some (5, 80) := by kernel_rfl
theorem fieldT_44_0 : fieldT vE.P 44 0 = 85 := by kernel_rfl
theorem intT_44 : intT vE.P 44 = none := by kernel_rfl
theorem elemW_26 : elemW vE.P 26 = 0 := by kernel_rfl
theorem callable_78 : callable vE.P 78 = true := by kernel_rfl
theorem callable_77 : callable vE.P 77 = true := by kernel_rfl
theorem callable_79 : callable vE.P 79 = true := by kernel_rfl
theorem callable_80 : callable vE.P 80 = true := by kernel_rfl
theorem callable_81 : callable vE.P 81 = true := by kernel_rfl
theorem callable_82 : callable vE.P 82 = true := by kernel_rfl
theorem callable_83 : callable vE.P 83 = true := by kernel_rfl
theorem elemW_94 : elemW vE.P 94 = 0 := by kernel_rfl
theorem knownT_94 : knownT vE.P 94 = true := by kernel_rfl
theorem intT_5 : intT vE.P 5 = some .u8 := by kernel_rfl
theorem isStrT_5 : isStrT vE.P 5 = false := by kernel_rfl
theorem callable_84 : callable vE.P 84 = true := by kernel_rfl
theorem callable_85 : callable vE.P 85 = true := by kernel_rfl
theorem elemW_23 : elemW vE.P 23 = 1 := by kernel_rfl
theorem callable_86 : callable vE.P 86 = true := by kernel_rfl
theorem callable_87 : callable vE.P 87 = false := by kernel_rfl
theorem callable_88 : callable vE.P 88 = true := by kernel_rfl
theorem fieldI_102_1 : fieldI vE.P 102 1 = some (1, 1, false) := by kernel_rfl
theorem isAggT_37 : isAggT vE.P 37 = false := by kernel_rfl
theorem sizeT_37 : sizeT vE.P 37 = some 1 := by kernel_rfl
theorem ptrTo_115 : ptrTo vE.P 115 5 = true := by kernel_rfl
theorem callable_89 : callable vE.P 89 = true := by kernel_rfl
theorem callable_90 : callable vE.P 90 = true := by kernel_rfl
theorem callable_91 : callable vE.P 91 = true := by kernel_rfl
theorem elemW_105 : elemW vE.P 105 = 0 := by kernel_rfl
theorem callable_92 : callable vE.P 92 = true := by kernel_rfl
theorem callable_93 : callable vE.P 93 = true := by kernel_rfl
theorem isStrT_37 : isStrT vE.P 37 = false := by kernel_rfl
theorem callable_94 : callable vE.P 94 = true := by kernel_rfl
theorem callable_95 : callable vE.P 95 = true := by kernel_rfl
theorem allocA_122 : ∀ n, allocA vE.P 122 n = some (List.map AVal.bool (repB 256)) := by intros; kernel_rfl
theorem sizeT_122 : sizeT vE.P 122 = some 256 := by kernel_rfl
theorem callable_96 : callable vE.P 96 = true := by kernel_rfl
theorem callable_97 : callable vE.P 97 = true := by kernel_rfl
theorem callable_98 : callable vE.P 98 = true := by kernel_rfl
theorem callable_99 : callable vE.P 99 = true := by kernel_rfl
theorem callable_100 : callable vE.P 100 = true := by kernel_rfl
theorem callable_101 : callable vE.P 101 = true := by kernel_rfl
theorem callable_102 : callable vE.P 102 = true := by kernel_rfl
theorem allocA_130 : ∀ n, allocA vE.P 130 n = some [.int .u8 0, .int .u8 0, .int .u8 0, .int .u8 0, .int .u8 0, .int .u8 0, .int .u8 0, .int .u8 0, .int .u8 0, .int .u8 0, .int .u8 0, .int .u8 0, .int .u8 0, .int .u8 0, .int .u8 0, .int .u8 0, .int .u8 0, .int .u8 0, .int .u8 0, .int .u8 0] := by intros; kernel_rfl
theorem arrayI_130 : arrayI vE.P 130 = some (20, 1, false) := by kernel_rfl
theorem sliceI_130 : sliceI vE.P 130 = none := by kernel_rfl
theorem callable_103 : callable vE.P 103 = true := by kernel_rfl
theorem callable_104 : callable vE.P 104 = true := by kernel_rfl
theorem callable_105 : callable vE.P 105 = true := by kernel_rfl
theorem knownT_134 : knownT vE.P 134 = true := by kernel_rfl
theorem isAggT_134 : isAggT vE.P 134 = true := by kernel_rfl
theorem sizeT_134 : sizeT vE.P 134 = some 12 := by kernel_rfl
theorem arrayI_134 : arrayI vE.P 134 = some (4, 3, true) := by kernel_rfl
theorem allocA_133 : ∀ n, allocA vE.P 133 n = some [.int .u8 0, .int .u8 0, .int .i64 0] := by intros; kernel_rfl
theorem sizeT_133 : sizeT vE.P 133 = some 3 := by kernel_rfl
theorem fieldI_133_1 : fieldI vE.P 133 1 = some (1, 1, false) := by kernel_rfl
theorem fieldI_133_0 : fieldI vE.P 133 0 = some (0, 1, false) := by kernel_rfl
theorem fieldI_133_2 : fieldI vE.P 133 2 = some (2, 1, false) := by kernel_rfl
theorem callable_106 : callable vE.P 106 = true := by kernel_rfl
theorem callable_107 : callable vE.P 107 = true := by kernel_rfl
theorem makeI_37 : makeI vE.P 37 = some (1, .int .u8 0) := by kernel_rfl
theorem fieldI_102_0 : fieldI vE.P 102 0 = some (0, 1, false) := by kernel_rfl
theorem knownT_100 : knownT vE.P 100 = true := by kernel_rfl
theorem isAggT_100 : isAggT vE.P 100 = false := by kernel_rfl
theorem sizeT_100 : sizeT vE.P 100 = some 1 := by kernel_rfl
theorem elemW_100 : elemW vE.P 100 = 0 := by kernel_rfl
theorem isPtrT_100 : isPtrT vE.P 100 = true := by kernel_rfl
theorem isStrT_136 : isStrT vE.P 136 = false := by kernel_rfl
theorem convP_100_136_101 : convP vE.P 100 136 101 2 = true := by kernel_rfl
theorem convP_100_136_102 : convP vE.P 100 136 102 2 = true := by kernel_rfl
theorem callable_108 : callable vE.P 108 = false := by kernel_rfl
theorem knownT_136 : knownT vE.P 136 = true := by kernel_rfl
theorem isStrT_100 : isStrT vE.P 100 = false := by kernel_rfl
theorem convP_136_100_101 : convP vE.P 136 100 101 2 = true := by kernel_rfl
theorem convP_136_100_102 : convP vE.P 136 100 102 2 = true := by kernel_rfl
theorem callable_109 : callable vE.P 109 = true := by kernel_rfl
theorem knownT_122 : knownT vE.P 122 = true := by kernel_rfl
theorem isAggT_122 : isAggT vE.P 122 = true := by kernel_rfl
theorem arrayI_122 : arrayI vE.P 122 = some (256, 1, false) := by kernel_rfl
theorem sizeT_4 : sizeT vE.P 4 = some 1 := by kernel_rfl
theorem callable_110 : callable vE.P 110 = true := by kernel_rfl
theorem callable_111 : callable vE.P 111 = true := by kernel_rfl
theorem callable_112 : callable vE.P 112 = true := by kernel_rfl
theorem intT_21 : intT vE.P 21 = some .i32 := by kernel_rfl
theorem isStrT_21 : isStrT vE.P 21 = false := by kernel_rfl
theorem elemW_21 : elemW vE.P 21 = 0 := by kernel_rfl
theorem callable_113 : callable vE.P 113 = true := by kernel_rfl
theorem callable_114 : callable vE.P 114 = true := by kernel_rfl
theorem callable_115 : callable vE.P 115 = true := by kernel_rfl
theorem callable_116 : callable vE.P 116 = true := by kernel_rfl
theorem callable_117 : callable vE.P 117 = true := by kernel_rfl
theorem callable_119 : callable vE.P 119 = false := by kernel_rfl
theorem callable_120 : callable vE.P 120 = true := by kernel_rfl
theorem callable_121 : callable vE.P 121 = true := by kernel_rfl
theorem knownT_4 : knownT vE.P 4 = true := by kernel_rfl
theorem isAggT_4 : isAggT vE.P 4 = false := by kernel_rfl
theorem callable_122 : callable vE.P 122 = true := by kernel_rfl
theorem callable_123 : callable vE.P 123 = true := by kernel_rfl
theorem callable_124 : callable vE.P 124 = true := by kernel_rfl
theorem callable_125 : callable vE.P 125 = true := by kernel_rfl
theorem callable_126 : callable vE.P 126 = true := by kernel_rfl
theorem callable_127 : callable vE.P 127 = true := by kernel_rfl
theorem elemW_146 : elemW vE.P 146 = 0 := by kernel_rfl
theorem intT_146 : intT vE.P 146 = some .u32 := by kernel_rfl
theorem isStrT_146 : isStrT vE.P 146 = false := by kernel_rfl
theorem arrayI_149 : arrayI vE.P 149 = some (256, 1, false) := by kernel_rfl
theorem arrayI_152 : arrayI vE.P 152 = some (16, 2, true) := by kernel_rfl
theorem knownT_151 : knownT vE.P 151 = true := by kernel_rfl
theorem isAggT_151 : isAggT vE.P 151 = true := by kernel_rfl
theorem sizeT_151 : sizeT vE.P 151 = some 2 := by kernel_rfl
theorem allocA_151 : ∀ n, allocA vE.P 151 n = some [.int .u8 0, .int .u8 0] := by intros; kernel_rfl
theorem fieldI_151_0 : fieldI vE.P 151 0 = some (0, 1, false) := by kernel_rfl
theorem fieldI_151_1 : fieldI vE.P 151 1 = some (1, 1, false) := by kernel_rfl
theorem knownT_21 : knownT vE.P 21 = true := by kernel_rfl
theorem callable_128 : callable vE.P 128 = true := by kernel_rfl
theorem callable_129 : callable vE.P 129 = true := by kernel_rfl
theorem zeroA_151 : zeroA vE.P 151 = some (.agg [.int .u8 0, .int .u8 0]) := by kernel_rfl
theorem place_151 : (placeA vE.P 151).isSome = true := by kernel_rfl
theorem fieldT_151_0 : fieldT vE.P 151 0 = 5 := by kernel_rfl
theorem placeAt_151_0 : placeAt vE.P 151 0 = some (0, 1) := by kernel_rfl
theorem fieldT_151_1 : fieldT vE.P 151 1 = 5 := by kernel_rfl
theorem placeAt_151_1 : placeAt vE.P 151 1 = some (1, 1) := by kernel_rfl
theorem zeroA_152 : zeroA vE.P 152 = some (.agg [.int .u8 0, .int .u8 0, .int .u8 0, .int .u8 0, .int .u8 0, .int .u8 0, .int .u8 0, .int .u8 0, .int .u8 0, .int .u8 0, .int .u8 0, .int .u8 0, .int .u8 0, .int .u8 0, .int .u8 0, .int .u8 0, .int .u8 0, .int .u8 0, .int .u8 0, .int .u8 0, .int .u8 0, .int .u8 0, .int .u8 0, .int .u8 0, .int .u8 0, .int .u8 0, .int .u8 0, .int .u8 0, .int .u8 0, .int .u8 0, .int .u8 0, .int .u8 0]) := by kernel_rfl
theorem place_152 : (placeA vE.P 152).isSome = true := by kernel_rfl
theorem fieldT_152_0 : fieldT vE.P 152 0 = 151 := by kernel_rfl
theorem placeAt_152_0 : placeAt vE.P 152 0 = some (0, 2) := by kernel_rfl
theorem fieldT_152_1 : fieldT vE.P 152 1 = 151 := by kernel_rfl
theorem placeAt_152_1 : placeAt vE.P 152 1 = some (2, 2) := by kernel_rfl
theorem fieldT_152_2 : fieldT vE.P 152 2 = 151 := by kernel_rfl
theorem placeAt_152_2 : placeAt vE.P 152 2 = some (4, 2) := by kernel_rfl
theorem fieldT_152_3 : fieldT vE.P 152 3 = 151 := by kernel_rfl
theorem placeAt_152_3 : placeAt vE.P 152 3 = some (6, 2) := by kernel_rfl
theorem fieldT_152_4 : fieldT vE.P 152 4 = 151 := by kernel_rfl
theorem placeAt_152_4 : placeAt vE.P 152 4 = some (8, 2) := by kernel_rfl
theorem sizeT_152 : sizeT vE.P 152 = some 32 := by kernel_rfl
theorem zeroA_133 : zeroA vE.P 133 = some (.agg [.int .u8 0, .int .u8 0, .int .i64 0]) := by kernel_rfl
theorem place_133 : (placeA vE.P 133).isSome = true := by kernel_rfl
theorem fieldT_133_0 : fieldT vE.P 133 0 = 5 := by kernel_rfl
theorem placeAt_133_0 : placeAt vE.P 133 0 = some (0, 1) := by kernel_rfl
theorem fieldT_133_1 : fieldT vE.P 133 1 = 5 := by kernel_rfl
theorem placeAt_133_1 : placeAt vE.P 133 1 = some (1, 1) := by kernel_rfl
theorem fieldT_133_2 : fieldT vE.P 133 2 = 3 := by kernel_rfl
theorem placeAt_133_2 : placeAt vE.P 133 2 = some (2, 1) := by kernel_rfl
theorem zeroA_134 : zeroA vE.P 134 = some (.agg [.int .u8 0, .int .u8 0, .int .i64 0, .int .u8 0, .int .u8 0, .int .i64 0, .int .u8 0, .int .u8 0, .int .i64 0, .int .u8 0, .int .u8 0, .int .i64 0]) := by kernel_rfl
theorem place_134 : (placeA vE.P 134).isSome = true := by kernel_rfl
theorem fieldT_134_0 : fieldT vE.P 134 0 = 133 := by kernel_rfl
theorem placeAt_134_0 : placeAt vE.P 134 0 = some (0, 3) := by kernel_rfl
theorem fieldT_134_1 : fieldT vE.P 134 1 = 133 := by kernel_rfl
theorem placeAt_134_1 : placeAt vE.P 134 1 = some (3, 3) := by kernel_rfl
theorem fieldT_134_2 : fieldT vE.P 134 2 = 133 := by kernel_rfl
theorem placeAt_134_2 : placeAt vE.P 134 2 = some (6, 3) := by kernel_rfl
theorem fieldT_134_3 : fieldT vE.P 134 3 = 133 := by kernel_rfl
theorem placeAt_134_3 : placeAt vE.P 134 3 = some (9, 3) := by kernel_rfl
theorem rdg_1 : ∀ af t, rd vE af t (.global 1) = .cptr cells_1 := by intros; rfl
theorem stg_1 : stripL cells_1 = cells_1 := by simp [cells_1, stripL, AVal.strip]
theorem tkg_1 : List.take 12 cells_1 = cells_1 := by rfl
theorem ldg_1 : ∀ st, loadA vE 134 (.cptr cells_1) st = some (.agg cells_1) := by intros; kernel_rfl
theorem tab_utf8text_forms_ia {n : Int} {x : Utf8textForm} {k : IntKind} (h : idx tab_utf8text_forms n = some x) : indexAddrA vE 134 (.cptr cells_1) (.int k n) = some (.cptr ([.int .u8 x.mark, .int .u8 x.mask, .int .i64 x.least] ++ List.drop (n.toNat * 3 + 3) cells_1)) := by
  unfold idx at h
  split at h
  · rename_i hn
    obtain ⟨j, rfl⟩ : ∃ j : Nat, n = j := ⟨n.toNat, by omega⟩
    rw [Int.toNat_natCast] at h
    rcases j with _ | j
    · cases h; kernel_rfl
    rcases j with _ | j
    · cases h; kernel_rfl
    rcases j with _ | j
    · cases h; kernel_rfl
    rcases j with _ | j
    · cases h; kernel_rfl
    simp [tab_utf8text_forms] at h
  · cases h
theorem tab_utf8text_forms_in {n : Int} {x : Utf8textForm} {k : IntKind} (h : idx tab_utf8text_forms n = some x) : indexA vE 134 (.agg cells_1) (.int k n) = some (.agg [.int .u8 x.mark, .int .u8 x.mask, .int .i64 x.least]) := by
  unfold idx at h
  split at h
  · rename_i hn
    obtain ⟨j, rfl⟩ : ∃ j : Nat, n = j := ⟨n.toNat, by omega⟩
    rw [Int.toNat_natCast] at h
    rcases j with _ | j
    · cases h; kernel_rfl
    rcases j with _ | j
    · cases h; kernel_rfl
    rcases j with _ | j
    · cases h; kernel_rfl
    rcases j with _ | j
    · cases h; kernel_rfl
    simp [tab_utf8text_forms] at h
  · cases h
theorem isf_87 : (vE.P.funcs[87]?).isSome = true := by kernel_rfl
theorem ext_87 {l : List UInt8} {c : Int} {st : St} {Q : AVal → St → Prop} (h : Gl (Q (.int .i64 (Go.Lib.indexByte l (bchr c))) st)) : XCall vE 87 [.str l, .int .u8 c] st Q := by
  refine ⟨(vE.P.funcs[87]?).get isf_87, Extern.BytealgIndexByte.indexByte, .int .i64 (Go.Lib.indexByte l (bchr c)), (Option.some_get isf_87).symm, by kernel_rfl, by kernel_rfl, by kernel_rfl, by kernel_rfl, fun Γ vs w hr => ?_, ?_⟩
  · cases hr with | cons h1 t => cases t with | cons h2 t => cases t; cases h1; cases h2; exact ⟨_, Go.Lib.run_indexByteString _ _ w, .int _ _⟩
  · have := h.go; simpa [AVal.strip] using this
theorem isf_108 : (vE.P.funcs[108]?).isSome = true := by kernel_rfl
theorem ext_108 {x : AVal} {st : St} {Q : AVal → St → Prop} (h : Gl (Q x.strip st)) : XCall vE 108 [x] st Q := by
  refine ⟨(vE.P.funcs[108]?).get isf_108, Extern.AbiNoEscape.same, x, (Option.some_get isf_108).symm, by kernel_rfl, by kernel_rfl, by kernel_rfl, by kernel_rfl, fun Γ vs w hr => ?_, ?_⟩
  · cases hr with | cons h1 t => cases t; exact ⟨_, Go.Lib.run_noEscape w _, h1⟩
  · have := h.go; simpa [AVal.strip] using this
set_option linter.defProp false
def fxE := And.intro (And.intro (And.intro (And.intro (And.intro (And.intro (And.intro (And.intro (@callable_1) (@elemW_4)) (And.intro (@callable_7) (And.intro (@isStrT_9) (@elemW_3)))) (And.intro (And.intro (@callable_8) (@allocA_26)) (And.intro (@sizeT_26) (And.intro (@callable_9) (@knownT_26))))) (And.intro (And.intro (And.intro (@isAggT_26) (@callable_10)) (And.intro (@elemW_0) (And.intro (@callable_11) (@fieldI_26_0)))) (And.intro (And.intro (@knownT_3) (And.intro (@isAggT_3) (@sizeT_3))) (And.intro (@callable_12) (And.intro (@elemW_27) (@knownT_32)))))) (And.intro (And.intro (And.intro (And.intro (@intT_3) (@isStrT_3)) (And.intro (@elemW_9) (And.intro (@callable_13) (@callable_14)))) (And.intro (And.intro (@callable_15) (And.intro (@callable_16) (@callable_17))) (And.intro (@isBoolT_4) (And.intro (@callable_18) (@fieldI_26_2))))) (And.intro (And.intro (And.intro (@knownT_23) (@isAggT_23)) (And.intro (@sizeT_23) (And.intro (@isSliceT_23) (@fieldI_26_3)))) (And.intro (And.intro (@knownT_24) (And.intro (@isAggT_24) (@sizeT_24))) (And.intro (@isSliceT_24) (And.intro (@sliceI_24) (@fieldI_26_1))))))) (And.intro (And.intro (And.intro (And.intro (And.intro (@knownT_9) (@isAggT_9)) (And.intro (@sizeT_9) (And.intro (@zeroA_26) (@place_26)))) (And.intro (And.intro (@allocA_46) (@callable_19)) (And.intro (@allocA_48) (And.intro (@sizeT_48) (@knownT_48))))) (And.intro (And.intro (And.intro (@isAggT_48) (@callable_20)) (And.intro (@fieldI_48_2) (And.intro (@fieldI_48_0) (@fieldI_46_3)))) (And.intro (And.intro (@zeroA_54) (And.intro (@place_54) (@fieldT_54_0))) (And.intro (@placeAt_54_0) (And.intro (@callable_22) (@callable_21)))))) (And.intro (And.intro (And.intro (And.intro (@fieldI_54_3) (@knownT_27)) (And.intro (@isAggT_27) (And.intro (@sizeT_27) (@callable_23)))) (And.intro (And.intro (@fieldI_54_4) (And.intro (@sliceI_23) (@callable_24))) (And.intro (@callable_25) (And.intro (@elemW_37) (@elemW_5))))) (And.intro (And.intro (And.intro (@appI_37) (@fieldT_37_0)) (And.intro (@intT_37) (And.intro (@knownT_37) (@isSliceT_37)))) (And.intro (And.intro (@sliceI_37) (And.intro (@knownT_5) (@isAggT_5))) (And.intro (@sizeT_5) (And.intro (@u8T_37) (@callable_26)))))))) (And.intro (And.intro (And.intro (And.intro (And.intro (And.intro (@callable_27) (@zeroA_48)) (And.intro (@place_48) (And.intro (@zeroA_64) (@place_64)))) (And.intro (And.intro (@fieldT_64_0) (@placeAt_64_0)) (And.intro (@fieldT_64_1) (And.intro (@placeAt_64_1) (@callable_28))))) (And.intro (And.intro (And.intro (@fieldI_64_1) (@callable_30)) (And.intro (@fieldT_48_0) (And.intro (@placeAt_48_0) (@fieldT_48_1)))) (And.intro (And.intro (@placeAt_48_1) (And.intro (@fieldT_48_2) (@placeAt_48_2))) (And.intro (@callable_31) (And.intro (@fieldI_48_1) (@callable_32)))))) (And.intro (And.intro (And.intro (And.intro (@fieldI_46_1) (@callable_33)) (And.intro (@callable_34) (And.intro (@callable_35) (@fieldT_26_0)))) (And.intro (And.intro (@placeAt_26_0) (And.intro (@fieldT_26_1) (@placeAt_26_1))) (And.intro (@callable_36) (And.intro (@fieldI_54_2) (@callable_37))))) (And.intro (And.intro (And.intro (@callable_38) (@callable_39)) (And.intro (@fieldI_54_0) (And.intro (@fieldI_54_1) (@callable_40)))) (And.intro (And.intro (@callable_41) (And.intro (@callable_43) (@callable_42))) (And.intro (@elemW_60) (And.intro (@callable_44) (@callable_45))))))) (And.intro (And.intro (And.intro (And.intro (And.intro (@fieldI_64_0) (@callable_46)) (And.intro (@callable_47) (And.intro (@callable_48) (@callable_49)))) (And.intro (And.intro (@callable_50) (@fieldI_46_0)) (And.intro (@knownT_44) (And.intro (@isAggT_44) (@sizeT_44))))) (And.intro (And.intro (And.intro (@isSliceT_44) (@callable_51)) (And.intro (@fieldI_85_0) (And.intro (@callable_52) (@callable_53)))) (And.intro (And.intro (@sliceI_44) (And.intro (@callable_54) (@fieldI_85_1))) (And.intro (@knownT_83) (And.intro (@isAggT_83) (@sizeT_83)))))) (And.intro (And.intro (And.intro (And.intro (@appI_23) (@fieldT_23_0)) (And.intro (@intT_23) (And.intro (@callable_55) (@fieldI_46_2)))) (And.intro (And.intro (@callable_56) (And.intro (@callable_57) (@callable_59))) (And.intro (@callable_58) (And.intro (@intT_94) (@isStrT_94))))) (And.intro (And.intro (And.intro (@callable_60) (@appI_24)) (And.intro (@fieldT_24_0) (And.intro (@intT_24) (@callable_61)))) (And.intro (And.intro (@callable_62) (And.intro (@callable_63) (@callable_64))) (And.intro (@callable_65) (And.intro (@callable_66) (@intT_9))))))))) (And.intro (And.intro (And.intro (And.intro (And.intro (And.intro (And.intro (@elemIs_37_5) (@callable_67)) (And.intro (@callable_68) (And.intro (@callable_69) (@callable_70)))) (And.intro (And.intro (@allocA_102) (@callable_72)) (And.intro (@callable_74) (And.intro (@callable_75) (@callable_76))))) (And.intro (And.intro (And.intro (@elemW_86) (@place_85)) (And.intro (@fieldT_85_0) (And.intro (@placeAt_85_0) (@fieldT_85_1)))) (And.intro (And.intro (@placeAt_85_1) (And.intro (@appI_44) (@fieldT_44_0))) (And.intro (@intT_44) (And.intro (@elemW_26) (@callable_78)))))) (And.intro (And.intro (And.intro (And.intro (@callable_77) (@callable_79)) (And.intro (@callable_80) (And.intro (@callable_81) (@callable_82)))) (And.intro (And.intro (@callable_83) (And.intro (@elemW_94) (@knownT_94))) (And.intro (@intT_5) (And.intro (@isStrT_5) (@callable_84))))) (And.intro (And.intro (And.intro (@callable_85) (@elemW_23)) (And.intro (@callable_86) (And.intro (@callable_87) (@callable_88)))) (And.intro (And.intro (@fieldI_102_1) (And.intro (@isAggT_37) (@sizeT_37))) (And.intro (@ptrTo_115) (And.intro (@callable_89) (@callable_90))))))) (And.intro (And.intro (And.intro (And.intro (And.intro (@callable_91) (@elemW_105)) (And.intro (@callable_92) (And.intro (@callable_93) (@isStrT_37)))) (And.intro (And.intro (@callable_94) (@callable_95)) (And.intro (@allocA_122) (And.intro (@sizeT_122) (@callable_96))))) (And.intro (And.intro (And.intro (@callable_97) (@callable_98)) (And.intro (@callable_99) (And.intro (@callable_100) (@callable_101)))) (And.intro (And.intro (@callable_102) (And.intro (@allocA_130) (@arrayI_130))) (And.intro (@sliceI_130) (And.intro (@callable_103) (@callable_104)))))) (And.intro (And.intro (And.intro (And.intro (@callable_105) (@knownT_134)) (And.intro (@isAggT_134) (And.intro (@sizeT_134) (@arrayI_134)))) (And.intro (And.intro (@allocA_133) (And.intro (@sizeT_133) (@fieldI_133_1))) (And.intro (@fieldI_133_0) (And.intro (@fieldI_133_2) (@callable_106))))) (And.intro (And.intro (And.intro (@callable_107) (@makeI_37)) (And.intro (@fieldI_102_0) (And.intro (@knownT_100) (@isAggT_100)))) (And.intro (And.intro (@sizeT_100) (And.intro (@elemW_100) (@isPtrT_100))) (And.intro (@isStrT_136) (And.intro (@convP_100_136_101) (@convP_100_136_102)))))))) (And.intro (And.intro (And.intro (And.intro (And.intro (And.intro (@callable_108) (@knownT_136)) (And.intro (@isStrT_100) (And.intro (@convP_136_100_101) (@convP_136_100_102)))) (And.intro (And.intro (@callable_109) (@knownT_122)) (And.intro (@isAggT_122) (And.intro (@arrayI_122) (@sizeT_4))))) (And.intro (And.intro (And.intro (@callable_110) (@callable_111)) (And.intro (@callable_112) (And.intro (@intT_21) (@isStrT_21)))) (And.intro (And.intro (@elemW_21) (And.intro (@callable_113) (@callable_114))) (And.intro (@callable_115) (And.intro (@callable_116) (@callable_117)))))) (And.intro (And.intro (And.intro (And.intro (@callable_119) (@callable_120)) (And.intro (@callable_121) (And.intro (@knownT_4) (@isAggT_4)))) (And.intro (And.intro (@callable_122) (And.intro (@callable_123) (@callable_124))) (And.intro (@callable_125) (And.intro (@callable_126) (@callable_127))))) (And.intro (And.intro (And.intro (@elemW_146) (@intT_146)) (And.intro (@isStrT_146) (And.intro (@arrayI_149) (@arrayI_152)))) (And.intro (And.intro (@knownT_151) (And.intro (@isAggT_151) (@sizeT_151))) (And.intro (@allocA_151) (And.intro (@fieldI_151_0) (@fieldI_151_1))))))) (And.intro (And.intro (And.intro (And.intro (And.intro (@knownT_21) (@callable_128)) (And.intro (@callable_129) (And.intro (@zeroA_151) (@place_151)))) (And.intro (And.intro (@fieldT_151_0) (And.intro (@placeAt_151_0) (@fieldT_151_1))) (And.intro (@placeAt_151_1) (And.intro (@zeroA_152) (@place_152))))) (And.intro (And.intro (And.intro (@fieldT_152_0) (@placeAt_152_0)) (And.intro (@fieldT_152_1) (And.intro (@placeAt_152_1) (@fieldT_152_2)))) (And.intro (And.intro (@placeAt_152_2) (And.intro (@fieldT_152_3) (@placeAt_152_3))) (And.intro (@fieldT_152_4) (And.intro (@placeAt_152_4) (@sizeT_152)))))) (And.intro (And.intro (And.intro (And.intro (@zeroA_133) (@place_133)) (And.intro (@fieldT_133_0) (And.intro (@placeAt_133_0) (@fieldT_133_1)))) (And.intro (And.intro (@placeAt_133_1) (And.intro (@fieldT_133_2) (@placeAt_133_2))) (And.intro (@zeroA_134) (And.intro (@place_134) (@fieldT_134_0))))) (And.intro (And.intro (And.intro (@placeAt_134_0) (@fieldT_134_1)) (And.intro (@placeAt_134_1) (And.intro (@fieldT_134_2) (@placeAt_134_2)))) (And.intro (And.intro (@fieldT_134_3) (And.intro (@placeAt_134_3) (@rdg_1))) (And.intro (@stg_1) (And.intro (@tkg_1) (@ldg_1)))))))))
def vm := And.intro vmC (And.intro fxE eE)
end Go.Proofs.YtbmilkoebhmnnaaGreatDoor
