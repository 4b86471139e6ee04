/- Closed facts on the types of this translation, for the VM library; written by facts.py. -/
import Derived.Test.YtbmilkoebhmnnaaDoorChecked
import Derived.Test.YtbmilkoebhmnnaaDoorVM2
import Derived.Test.YtbmilkoebhmnnaaDoorTy
import Derived.KernelRfl
set_option linter.unusedVariables false
namespace Go.Proofs.YtbmilkoebhmnnaaDoor
open Go.VM
noncomputable def vE : Env := ⟨Tryd.prog, vT⟩
theorem vE_mixed : vE.P.follows .mixedOrders = true := by kernel_rfl
theorem callable_1 : callable vE.P 1 = false := by kernel_rfl
theorem elemW_4 : elemW vE.P 4 = 0 := by kernel_rfl
theorem callable_6 : callable vE.P 6 = true := by kernel_rfl
theorem elemW_9 : elemW vE.P 9 = 0 := by kernel_rfl
theorem elemW_5 : elemW vE.P 5 = 0 := by kernel_rfl
theorem knownT_5 : knownT vE.P 5 = true := by kernel_rfl
theorem intT_3 : intT vE.P 3 = some .i64 := by kernel_rfl
theorem isStrT_3 : isStrT vE.P 3 = false := by kernel_rfl
theorem elemW_3 : elemW vE.P 3 = 0 := by kernel_rfl
theorem callable_7 : callable vE.P 7 = true := by kernel_rfl
theorem allocA_26 : ∀ n, allocA vE.P 26 n = some [.int .i64 0, .str [], .slice 1 [] true, .slice 4 [] true] := by intros; kernel_rfl
theorem sizeT_26 : sizeT vE.P 26 = some 4 := by kernel_rfl
theorem elemW_27 : elemW vE.P 27 = 0 := by kernel_rfl
theorem isStrT_9 : isStrT vE.P 9 = true := by kernel_rfl
theorem fieldI_26_0 : fieldI vE.P 26 0 = some (0, 1, false) := by kernel_rfl
theorem knownT_3 : knownT vE.P 3 = true := by kernel_rfl
theorem isAggT_3 : isAggT vE.P 3 = false := by kernel_rfl
theorem sizeT_3 : sizeT vE.P 3 = some 1 := by kernel_rfl
theorem isSliceT_23 : isSliceT vE.P 23 = true := by kernel_rfl
theorem elemW_0 : elemW vE.P 0 = 0 := by kernel_rfl
theorem callable_8 : callable vE.P 8 = true := by kernel_rfl
theorem zeroA_26 : zeroA vE.P 26 = some (.agg [.int .i64 0, .str [], .slice 1 [] true, .slice 4 [] true]) := by kernel_rfl
theorem place_26 : (placeA vE.P 26).isSome = true := by kernel_rfl
theorem fieldT_26_0 : fieldT vE.P 26 0 = 3 := by kernel_rfl
theorem placeAt_26_0 : placeAt vE.P 26 0 = some (0, 1) := by kernel_rfl
theorem sliceI_23 : sliceI vE.P 23 = some 1 := by kernel_rfl
theorem knownT_9 : knownT vE.P 9 = true := by kernel_rfl
theorem isAggT_9 : isAggT vE.P 9 = false := by kernel_rfl
theorem sizeT_9 : sizeT vE.P 9 = some 1 := by kernel_rfl
theorem fieldI_26_2 : fieldI vE.P 26 2 = some (2, 1, false) := by kernel_rfl
theorem knownT_23 : knownT vE.P 23 = true := by kernel_rfl
theorem isAggT_23 : isAggT vE.P 23 = false := by kernel_rfl
theorem sizeT_23 : sizeT vE.P 23 = some 1 := by kernel_rfl
theorem appI_23 : appI vE.P 23 = some (1, 16) := by kernel_rfl
theorem fieldT_23_0 : fieldT vE.P 23 0 = 9 := by kernel_rfl
theorem intT_23 : intT vE.P 23 = none := by kernel_rfl
theorem fieldI_26_3 : fieldI vE.P 26 3 = some (3, 1, false) := by kernel_rfl
theorem knownT_24 : knownT vE.P 24 = true := by kernel_rfl
theorem isAggT_24 : isAggT vE.P 24 = false := by kernel_rfl
theorem sizeT_24 : sizeT vE.P 24 = some 1 := by kernel_rfl
theorem appI_24 : appI vE.P 24 = some (4, 72) := by kernel_rfl
theorem fieldT_24_0 : fieldT vE.P 24 0 = 26 := by kernel_rfl
theorem intT_24 : intT vE.P 24 = none := by kernel_rfl
theorem knownT_26 : knownT vE.P 26 = true := by kernel_rfl
theorem isAggT_26 : isAggT vE.P 26 = true := by kernel_rfl
theorem callable_9 : callable vE.P 9 = true := by kernel_rfl
theorem fieldT_26_1 : fieldT vE.P 26 1 = 9 := by kernel_rfl
theorem placeAt_26_1 : placeAt vE.P 26 1 = some (1, 1) := by kernel_rfl
theorem callable_10 : callable vE.P 10 = true := by kernel_rfl
theorem callable_11 : callable vE.P 11 = true := by kernel_rfl
theorem callable_12 : callable vE.P 12 = true := by kernel_rfl
theorem isBoolT_4 : isBoolT vE.P 4 = true := by kernel_rfl
theorem callable_13 : callable vE.P 13 = true := by kernel_rfl
theorem isSliceT_24 : isSliceT vE.P 24 = true := by kernel_rfl
theorem sliceI_24 : sliceI vE.P 24 = some 4 := by kernel_rfl
theorem fieldI_26_1 : fieldI vE.P 26 1 = some (1, 1, false) := by kernel_rfl
theorem allocA_42 : ∀ n, allocA vE.P 42 n = some [.slice 5 [] true, .int .i64 0, .int .i64 0, .int .i64 0, .str [], .slice 1 [] true, .slice 4 [] true] := by intros; kernel_rfl
theorem callable_14 : callable vE.P 14 = true := by kernel_rfl
theorem allocA_44 : ∀ n, allocA vE.P 44 n = some [.int .i64 0, .str [], .int .i64 0] := by intros; kernel_rfl
theorem sizeT_44 : sizeT vE.P 44 = some 3 := by kernel_rfl
theorem knownT_44 : knownT vE.P 44 = true := by kernel_rfl
theorem isAggT_44 : isAggT vE.P 44 = true := by kernel_rfl
theorem callable_15 : callable vE.P 15 = true := by kernel_rfl
theorem fieldI_44_2 : fieldI vE.P 44 2 = some (2, 1, false) := by kernel_rfl
theorem fieldI_44_0 : fieldI vE.P 44 0 = some (0, 1, false) := by kernel_rfl
theorem fieldI_42_3 : fieldI vE.P 42 3 = some (3, 4, true) := by kernel_rfl
theorem callable_16 : callable vE.P 16 = true := by kernel_rfl
theorem callable_17 : callable vE.P 17 = true := by kernel_rfl
theorem zeroA_44 : zeroA vE.P 44 = some (.agg [.int .i64 0, .str [], .int .i64 0]) := by kernel_rfl
theorem place_44 : (placeA vE.P 44).isSome = true := by kernel_rfl
theorem zeroA_51 : zeroA vE.P 51 = some (.agg [.str [], .int .i64 0]) := by kernel_rfl
theorem place_51 : (placeA vE.P 51).isSome = true := by kernel_rfl
theorem fieldT_51_0 : fieldT vE.P 51 0 = 9 := by kernel_rfl
theorem placeAt_51_0 : placeAt vE.P 51 0 = some (0, 1) := by kernel_rfl
theorem fieldT_51_1 : fieldT vE.P 51 1 = 3 := by kernel_rfl
theorem placeAt_51_1 : placeAt vE.P 51 1 = some (1, 1) := by kernel_rfl
theorem callable_18 : callable vE.P 18 = true := by kernel_rfl
theorem fieldI_51_1 : fieldI vE.P 51 1 = some (1, 1, false) := by kernel_rfl
theorem callable_20 : callable vE.P 20 = true := by kernel_rfl
theorem fieldT_44_0 : fieldT vE.P 44 0 = 3 := by kernel_rfl
theorem placeAt_44_0 : placeAt vE.P 44 0 = some (0, 1) := by kernel_rfl
theorem fieldT_44_1 : fieldT vE.P 44 1 = 9 := by kernel_rfl
theorem placeAt_44_1 : placeAt vE.P 44 1 = some (1, 1) := by kernel_rfl
theorem fieldT_44_2 : fieldT vE.P 44 2 = 3 := by kernel_rfl
theorem placeAt_44_2 : placeAt vE.P 44 2 = some (2, 1) := by kernel_rfl
theorem callable_21 : callable vE.P 21 = true := by kernel_rfl
theorem fieldI_44_1 : fieldI vE.P 44 1 = some (1, 1, false) := by kernel_rfl
theorem callable_22 : callable vE.P 22 = true := by kernel_rfl
theorem fieldI_42_1 : fieldI vE.P 42 1 = some (1, 1, false) := by kernel_rfl
theorem callable_23 : callable vE.P 23 = true := by kernel_rfl
theorem callable_24 : callable vE.P 24 = true := by kernel_rfl
theorem callable_25 : callable vE.P 25 = true := by kernel_rfl
theorem callable_26 : callable vE.P 26 = true := by kernel_rfl
theorem callable_28 : callable vE.P 28 = true := by kernel_rfl
theorem callable_27 : callable vE.P 27 = true := by kernel_rfl
theorem fieldI_51_0 : fieldI vE.P 51 0 = some (0, 1, false) := by kernel_rfl
theorem callable_29 : callable vE.P 29 = true := by kernel_rfl
theorem callable_30 : callable vE.P 30 = true := by kernel_rfl
theorem callable_31 : callable vE.P 31 = true := by kernel_rfl
theorem callable_32 : callable vE.P 32 = true := by kernel_rfl
theorem callable_33 : callable vE.P 33 = true := by kernel_rfl
theorem fieldI_42_0 : fieldI vE.P 42 0 = some (0, 1, false) := by kernel_rfl
theorem knownT_40 : knownT vE.P 40 = true := by kernel_rfl
theorem isAggT_40 : isAggT vE.P 40 = false := by kernel_rfl
theorem sizeT_40 : sizeT vE.P 40 = some 1 := by kernel_rfl
theorem isSliceT_40 : isSliceT vE.P 40 = true := by kernel_rfl
theorem callable_34 : callable vE.P 34 = true := by kernel_rfl
theorem fieldI_68_0 : fieldI vE.P 68 0 = some (0, 4, true) := by kernel_rfl
theorem callable_35 : callable vE.P 35 = true := by kernel_rfl
theorem callable_36 : callable vE.P 36 = true := by kernel_rfl
theorem sliceI_40 : sliceI vE.P 40 = some 5 := by kernel_rfl
theorem callable_37 : callable vE.P 37 = true := by kernel_rfl
theorem fieldI_68_1 : fieldI vE.P 68 1 = some (4, 1, false) := by kernel_rfl
theorem knownT_66 : knownT vE.P 66 = true := by kernel_rfl
theorem isAggT_66 : isAggT vE.P 66 = false := by kernel_rfl
theorem sizeT_66 : sizeT vE.P 66 = some 1 := by kernel_rfl
theorem callable_38 : callable vE.P 38 = true := by kernel_rfl
theorem fieldI_42_2 : fieldI vE.P 42 2 = some (2, 1, false) := by kernel_rfl
theorem callable_39 : callable vE.P 39 = true := by kernel_rfl
theorem callable_40 : callable vE.P 40 = true := by kernel_rfl
theorem callable_41 : callable vE.P 41 = true := by kernel_rfl
theorem elemW_76 : elemW vE.P 76 = 1 := by kernel_rfl
theorem appI_76 : appI vE.P 76 = some (1, 1) := by kernel_rfl
theorem fieldT_76_0 : fieldT vE.P 76 0 = 5 := by kernel_rfl
theorem intT_76 : intT vE.P 76 = none := by kernel_rfl
theorem knownT_76 : knownT vE.P 76 = true := by kernel_rfl
theorem intT_9 : intT vE.P 9 = none := by kernel_rfl
theorem elemIs_76_5 : elemIs vE.P 76 5 = true := by kernel_rfl
theorem u8T_76 : u8T vE.P 76 = true := by kernel_rfl
theorem callable_42 : callable vE.P 42 = true := by kernel_rfl
theorem callable_43 : callable vE.P 43 = true := by kernel_rfl
theorem allocA_80 : ∀ n, allocA vE.P 80 n = some [.nself n 80 2, .buf 5 [] true] := by intros; kernel_rfl
theorem callable_45 : callable vE.P 45 = true := by kernel_rfl
theorem callable_47 : callable vE.P 47 = true := by kernel_rfl
theorem callable_48 : callable vE.P 48 = true := by kernel_rfl
theorem callable_49 : callable vE.P 49 = true := by kernel_rfl
theorem elemW_69 : elemW vE.P 69 = 0 := by kernel_rfl
theorem place_68 : (placeA vE.P 68).isSome = true := by kernel_rfl
theorem fieldT_68_0 : fieldT vE.P 68 0 = 26 := by kernel_rfl
theorem placeAt_68_0 : placeAt vE.P 68 0 = some (0, 4) := by kernel_rfl
theorem fieldT_68_1 : fieldT vE.P 68 1 = 66 := by kernel_rfl
theorem placeAt_68_1 : placeAt vE.P 68 1 = some (4, 1) := by kernel_rfl
theorem appI_40 : appI vE.P 40 = some (5, 80) := by kernel_rfl
theorem fieldT_40_0 : fieldT vE.P 40 0 = 68 := by kernel_rfl
theorem intT_40 : intT vE.P 40 = none := by kernel_rfl
theorem elemW_26 : elemW vE.P 26 = 0 := by kernel_rfl
theorem callable_51 : callable vE.P 51 = true := by kernel_rfl
theorem callable_50 : callable vE.P 50 = true := by kernel_rfl
theorem callable_52 : callable vE.P 52 = true := by kernel_rfl
theorem callable_53 : callable vE.P 53 = true := by kernel_rfl
theorem callable_54 : callable vE.P 54 = true := by kernel_rfl
theorem intT_94 : intT vE.P 94 = some .u64 := by kernel_rfl
theorem isStrT_94 : isStrT vE.P 94 = false := by kernel_rfl
theorem callable_55 : callable vE.P 55 = true := by kernel_rfl
theorem callable_56 : callable vE.P 56 = true := by kernel_rfl
theorem callable_57 : callable vE.P 57 = true := by kernel_rfl
theorem callable_58 : callable vE.P 58 = true := by kernel_rfl
theorem elemW_23 : elemW vE.P 23 = 1 := by kernel_rfl
theorem callable_59 : callable vE.P 59 = false := by kernel_rfl
theorem callable_60 : callable vE.P 60 = true := by kernel_rfl
theorem fieldI_80_1 : fieldI vE.P 80 1 = some (1, 1, false) := by kernel_rfl
theorem isAggT_76 : isAggT vE.P 76 = false := by kernel_rfl
theorem sizeT_76 : sizeT vE.P 76 = some 1 := by kernel_rfl
theorem isSliceT_76 : isSliceT vE.P 76 = true := by kernel_rfl
theorem ptrTo_98 : ptrTo vE.P 98 5 = true := by kernel_rfl
theorem callable_61 : callable vE.P 61 = true := by kernel_rfl
theorem callable_62 : callable vE.P 62 = true := by kernel_rfl
theorem callable_63 : callable vE.P 63 = true := by kernel_rfl
theorem elemW_83 : elemW vE.P 83 = 0 := by kernel_rfl
theorem callable_64 : callable vE.P 64 = true := by kernel_rfl
theorem callable_65 : callable vE.P 65 = true := by kernel_rfl
theorem isStrT_76 : isStrT vE.P 76 = false := by kernel_rfl
theorem sliceI_76 : sliceI vE.P 76 = some 1 := by kernel_rfl
theorem isAggT_5 : isAggT vE.P 5 = false := by kernel_rfl
theorem sizeT_5 : sizeT vE.P 5 = some 1 := by kernel_rfl
theorem callable_66 : callable vE.P 66 = true := by kernel_rfl
theorem callable_67 : callable vE.P 67 = true := by kernel_rfl
theorem allocA_105 : ∀ n, allocA vE.P 105 n = some (List.map AVal.bool (repB 256)) := by intros; kernel_rfl
theorem sizeT_105 : sizeT vE.P 105 = some 256 := by kernel_rfl
theorem callable_68 : callable vE.P 68 = true := by kernel_rfl
theorem callable_69 : callable vE.P 69 = true := by kernel_rfl
theorem callable_70 : callable vE.P 70 = true := by kernel_rfl
theorem callable_71 : callable vE.P 71 = true := by kernel_rfl
theorem callable_72 : callable vE.P 72 = true := by kernel_rfl
theorem elemW_94 : elemW vE.P 94 = 0 := by kernel_rfl
theorem callable_73 : callable vE.P 73 = true := by kernel_rfl
theorem callable_74 : callable vE.P 74 = true := by kernel_rfl
theorem knownT_94 : knownT vE.P 94 = true := by kernel_rfl
theorem allocA_113 : ∀ n, allocA vE.P 113 n = some [.int .u8 0, .int .u8 0, .int .u8 0, .int .u8 0, .int .u8 0, .int .u8 0, .int .u8 0, .int .u8 0, .int .u8 0, .int .u8 0, .int .u8 0, .int .u8 0, .int .u8 0, .int .u8 0, .int .u8 0, .int .u8 0, .int .u8 0, .int .u8 0, .int .u8 0, .int .u8 0] := by intros; kernel_rfl
theorem intT_5 : intT vE.P 5 = some .u8 := by kernel_rfl
theorem isStrT_5 : isStrT vE.P 5 = false := by kernel_rfl
theorem arrayI_113 : arrayI vE.P 113 = some (20, 1, false) := by kernel_rfl
theorem sliceI_113 : sliceI vE.P 113 = none := by kernel_rfl
theorem callable_75 : callable vE.P 75 = true := by kernel_rfl
theorem callable_76 : callable vE.P 76 = true := by kernel_rfl
theorem callable_78 : callable vE.P 78 = true := by kernel_rfl
theorem callable_77 : callable vE.P 77 = true := by kernel_rfl
theorem callable_79 : callable vE.P 79 = true := by kernel_rfl
theorem callable_80 : callable vE.P 80 = true := by kernel_rfl
theorem knownT_118 : knownT vE.P 118 = true := by kernel_rfl
theorem isAggT_118 : isAggT vE.P 118 = true := by kernel_rfl
theorem sizeT_118 : sizeT vE.P 118 = some 12 := by kernel_rfl
theorem arrayI_118 : arrayI vE.P 118 = some (4, 3, true) := by kernel_rfl
theorem allocA_117 : ∀ n, allocA vE.P 117 n = some [.int .u8 0, .int .u8 0, .int .i64 0] := by intros; kernel_rfl
theorem sizeT_117 : sizeT vE.P 117 = some 3 := by kernel_rfl
theorem fieldI_117_1 : fieldI vE.P 117 1 = some (1, 1, false) := by kernel_rfl
theorem fieldI_117_0 : fieldI vE.P 117 0 = some (0, 1, false) := by kernel_rfl
theorem fieldI_117_2 : fieldI vE.P 117 2 = some (2, 1, false) := by kernel_rfl
theorem callable_81 : callable vE.P 81 = true := by kernel_rfl
theorem callable_82 : callable vE.P 82 = true := by kernel_rfl
theorem makeI_76 : makeI vE.P 76 = some (1, .int .u8 0) := by kernel_rfl
theorem fieldI_80_0 : fieldI vE.P 80 0 = some (0, 1, false) := by kernel_rfl
theorem knownT_78 : knownT vE.P 78 = true := by kernel_rfl
theorem isAggT_78 : isAggT vE.P 78 = false := by kernel_rfl
theorem sizeT_78 : sizeT vE.P 78 = some 1 := by kernel_rfl
theorem elemW_78 : elemW vE.P 78 = 0 := by kernel_rfl
theorem isPtrT_78 : isPtrT vE.P 78 = true := by kernel_rfl
theorem isStrT_121 : isStrT vE.P 121 = false := by kernel_rfl
theorem convP_78_121_79 : convP vE.P 78 121 79 2 = true := by kernel_rfl
theorem convP_78_121_80 : convP vE.P 78 121 80 2 = true := by kernel_rfl
theorem callable_83 : callable vE.P 83 = false := by kernel_rfl
theorem knownT_121 : knownT vE.P 121 = true := by kernel_rfl
theorem isStrT_78 : isStrT vE.P 78 = false := by kernel_rfl
theorem convP_121_78_79 : convP vE.P 121 78 79 2 = true := by kernel_rfl
theorem convP_121_78_80 : convP vE.P 121 78 80 2 = true := by kernel_rfl
theorem callable_84 : callable vE.P 84 = true := by kernel_rfl
theorem knownT_105 : knownT vE.P 105 = true := by kernel_rfl
theorem isAggT_105 : isAggT vE.P 105 = true := by kernel_rfl
theorem arrayI_105 : arrayI vE.P 105 = some (256, 1, false) := by kernel_rfl
theorem sizeT_4 : sizeT vE.P 4 = some 1 := by kernel_rfl
theorem callable_85 : callable vE.P 85 = true := by kernel_rfl
theorem callable_86 : callable vE.P 86 = true := by kernel_rfl
theorem callable_87 : callable vE.P 87 = true := by kernel_rfl
theorem intT_21 : intT vE.P 21 = some .i32 := by kernel_rfl
theorem isStrT_21 : isStrT vE.P 21 = false := by kernel_rfl
theorem elemW_21 : elemW vE.P 21 = 0 := by kernel_rfl
theorem callable_88 : callable vE.P 88 = true := by kernel_rfl
theorem callable_89 : callable vE.P 89 = true := by kernel_rfl
theorem callable_90 : callable vE.P 90 = true := by kernel_rfl
theorem callable_91 : callable vE.P 91 = true := by kernel_rfl
theorem callable_92 : callable vE.P 92 = true := by kernel_rfl
theorem callable_93 : callable vE.P 93 = true := by kernel_rfl
theorem callable_94 : callable vE.P 94 = true := by kernel_rfl
theorem callable_96 : callable vE.P 96 = false := by kernel_rfl
theorem callable_97 : callable vE.P 97 = true := by kernel_rfl
theorem callable_98 : callable vE.P 98 = true := by kernel_rfl
theorem knownT_4 : knownT vE.P 4 = true := by kernel_rfl
theorem isAggT_4 : isAggT vE.P 4 = false := by kernel_rfl
theorem callable_99 : callable vE.P 99 = true := by kernel_rfl
theorem callable_100 : callable vE.P 100 = true := by kernel_rfl
theorem callable_101 : callable vE.P 101 = true := by kernel_rfl
theorem callable_102 : callable vE.P 102 = true := by kernel_rfl
theorem callable_103 : callable vE.P 103 = true := by kernel_rfl
theorem callable_104 : callable vE.P 104 = true := by kernel_rfl
theorem callable_105 : callable vE.P 105 = true := by kernel_rfl
theorem elemW_131 : elemW vE.P 131 = 0 := by kernel_rfl
theorem intT_131 : intT vE.P 131 = some .u32 := by kernel_rfl
theorem isStrT_131 : isStrT vE.P 131 = false := by kernel_rfl
theorem arrayI_134 : arrayI vE.P 134 = some (256, 1, false) := by kernel_rfl
theorem arrayI_137 : arrayI vE.P 137 = some (16, 2, true) := by kernel_rfl
theorem knownT_136 : knownT vE.P 136 = true := by kernel_rfl
theorem isAggT_136 : isAggT vE.P 136 = true := by kernel_rfl
theorem sizeT_136 : sizeT vE.P 136 = some 2 := by kernel_rfl
theorem allocA_136 : ∀ n, allocA vE.P 136 n = some [.int .u8 0, .int .u8 0] := by intros; kernel_rfl
theorem fieldI_136_0 : fieldI vE.P 136 0 = some (0, 1, false) := by kernel_rfl
theorem fieldI_136_1 : fieldI vE.P 136 1 = some (1, 1, false) := by kernel_rfl
theorem knownT_21 : knownT vE.P 21 = true := by kernel_rfl
theorem callable_106 : callable vE.P 106 = true := by kernel_rfl
theorem callable_107 : callable vE.P 107 = true := by kernel_rfl
theorem zeroA_136 : zeroA vE.P 136 = some (.agg [.int .u8 0, .int .u8 0]) := by kernel_rfl
theorem place_136 : (placeA vE.P 136).isSome = true := by kernel_rfl
theorem fieldT_136_0 : fieldT vE.P 136 0 = 5 := by kernel_rfl
theorem placeAt_136_0 : placeAt vE.P 136 0 = some (0, 1) := by kernel_rfl
theorem fieldT_136_1 : fieldT vE.P 136 1 = 5 := by kernel_rfl
theorem placeAt_136_1 : placeAt vE.P 136 1 = some (1, 1) := by kernel_rfl
theorem zeroA_137 : zeroA vE.P 137 = some (.agg [.int .u8 0, .int .u8 0, .int .u8 0, .int .u8 0, .int .u8 0, .int .u8 0, .int .u8 0, .int .u8 0, .int .u8 0, .int .u8 0, .int .u8 0, .int .u8 0, .int .u8 0, .int .u8 0, .int .u8 0, .int .u8 0, .int .u8 0, .int .u8 0, .int .u8 0, .int .u8 0, .int .u8 0, .int .u8 0, .int .u8 0, .int .u8 0, .int .u8 0, .int .u8 0, .int .u8 0, .int .u8 0, .int .u8 0, .int .u8 0, .int .u8 0, .int .u8 0]) := by kernel_rfl
theorem place_137 : (placeA vE.P 137).isSome = true := by kernel_rfl
theorem fieldT_137_0 : fieldT vE.P 137 0 = 136 := by kernel_rfl
theorem placeAt_137_0 : placeAt vE.P 137 0 = some (0, 2) := by kernel_rfl
theorem fieldT_137_1 : fieldT vE.P 137 1 = 136 := by kernel_rfl
theorem placeAt_137_1 : placeAt vE.P 137 1 = some (2, 2) := by kernel_rfl
theorem fieldT_137_2 : fieldT vE.P 137 2 = 136 := by kernel_rfl
theorem placeAt_137_2 : placeAt vE.P 137 2 = some (4, 2) := by kernel_rfl
theorem fieldT_137_3 : fieldT vE.P 137 3 = 136 := by kernel_rfl
theorem placeAt_137_3 : placeAt vE.P 137 3 = some (6, 2) := by kernel_rfl
theorem fieldT_137_4 : fieldT vE.P 137 4 = 136 := by kernel_rfl
theorem placeAt_137_4 : placeAt vE.P 137 4 = some (8, 2) := by kernel_rfl
theorem sizeT_137 : sizeT vE.P 137 = some 32 := by kernel_rfl
theorem zeroA_117 : zeroA vE.P 117 = some (.agg [.int .u8 0, .int .u8 0, .int .i64 0]) := by kernel_rfl
theorem place_117 : (placeA vE.P 117).isSome = true := by kernel_rfl
theorem fieldT_117_0 : fieldT vE.P 117 0 = 5 := by kernel_rfl
theorem placeAt_117_0 : placeAt vE.P 117 0 = some (0, 1) := by kernel_rfl
theorem fieldT_117_1 : fieldT vE.P 117 1 = 5 := by kernel_rfl
theorem placeAt_117_1 : placeAt vE.P 117 1 = some (1, 1) := by kernel_rfl
theorem fieldT_117_2 : fieldT vE.P 117 2 = 3 := by kernel_rfl
theorem placeAt_117_2 : placeAt vE.P 117 2 = some (2, 1) := by kernel_rfl
theorem zeroA_118 : zeroA vE.P 118 = some (.agg [.int .u8 0, .int .u8 0, .int .i64 0, .int .u8 0, .int .u8 0, .int .i64 0, .int .u8 0, .int .u8 0, .int .i64 0, .int .u8 0, .int .u8 0, .int .i64 0]) := by kernel_rfl
theorem place_118 : (placeA vE.P 118).isSome = true := by kernel_rfl
theorem fieldT_118_0 : fieldT vE.P 118 0 = 117 := by kernel_rfl
theorem placeAt_118_0 : placeAt vE.P 118 0 = some (0, 3) := by kernel_rfl
theorem fieldT_118_1 : fieldT vE.P 118 1 = 117 := by kernel_rfl
theorem placeAt_118_1 : placeAt vE.P 118 1 = some (3, 3) := by kernel_rfl
theorem fieldT_118_2 : fieldT vE.P 118 2 = 117 := by kernel_rfl
theorem placeAt_118_2 : placeAt vE.P 118 2 = some (6, 3) := by kernel_rfl
theorem fieldT_118_3 : fieldT vE.P 118 3 = 117 := by kernel_rfl
theorem placeAt_118_3 : placeAt vE.P 118 3 = some (9, 3) := by kernel_rfl
theorem rdg_1 : ∀ af t, rd vE af t (.global 1) = .cptr cells_1 := by intros; rfl
theorem stg_1 : stripL cells_1 = cells_1 := by simp [cells_1, stripL, AVal.strip]
theorem tkg_1 : List.take 12 cells_1 = cells_1 := by rfl
theorem ldg_1 : ∀ st, loadA vE 118 (.cptr cells_1) st = some (.agg cells_1) := by intros; kernel_rfl
theorem tab_utf8text_forms_ia {n : Int} {x : Utf8textForm} {k : IntKind} (h : idx tab_utf8text_forms n = some x) : indexAddrA vE 118 (.cptr cells_1) (.int k n) = some (.cptr ([.int .u8 x.mark, .int .u8 x.mask, .int .i64 x.least] ++ List.drop (n.toNat * 3 + 3) cells_1)) := by
  unfold idx at h
  split at h
  · rename_i hn
    obtain ⟨j, rfl⟩ : ∃ j : Nat, n = j := ⟨n.toNat, by omega⟩
    rw [Int.toNat_natCast] at h
    rcases j with _ | j
    · cases h; kernel_rfl
    rcases j with _ | j
    · cases h; kernel_rfl
    rcases j with _ | j
    · cases h; kernel_rfl
    rcases j with _ | j
    · cases h; kernel_rfl
    simp [tab_utf8text_forms] at h
  · cases h
theorem tab_utf8text_forms_in {n : Int} {x : Utf8textForm} {k : IntKind} (h : idx tab_utf8text_forms n = some x) : indexA vE 118 (.agg cells_1) (.int k n) = some (.agg [.int .u8 x.mark, .int .u8 x.mask, .int .i64 x.least]) := by
  unfold idx at h
  split at h
  · rename_i hn
    obtain ⟨j, rfl⟩ : ∃ j : Nat, n = j := ⟨n.toNat, by omega⟩
    rw [Int.toNat_natCast] at h
    rcases j with _ | j
    · cases h; kernel_rfl
    rcases j with _ | j
    · cases h; kernel_rfl
    rcases j with _ | j
    · cases h; kernel_rfl
    rcases j with _ | j
    · cases h; kernel_rfl
    simp [tab_utf8text_forms] at h
  · cases h
theorem isf_59 : (vE.P.funcs[59]?).isSome = true := by kernel_rfl
theorem ext_59 {l : List UInt8} {c : Int} {st : St} {Q : AVal → St → Prop} (h : Gl (Q (.int .i64 (Go.Lib.indexByte l (bchr c))) st)) : XCall vE 59 [.str l, .int .u8 c] st Q := by
  refine ⟨(vE.P.funcs[59]?).get isf_59, Extern.BytealgIndexByte.indexByte, .int .i64 (Go.Lib.indexByte l (bchr c)), (Option.some_get isf_59).symm, by kernel_rfl, by kernel_rfl, by kernel_rfl, by kernel_rfl, fun Γ vs w hr => ?_, ?_⟩
  · cases hr with | cons h1 t => cases t with | cons h2 t => cases t; cases h1; cases h2; exact ⟨_, Go.Lib.run_indexByteString _ _ w, .int _ _⟩
  · have := h.go; simpa [AVal.strip] using this
theorem isf_83 : (vE.P.funcs[83]?).isSome = true := by kernel_rfl
theorem ext_83 {x : AVal} {st : St} {Q : AVal → St → Prop} (h : Gl (Q x.strip st)) : XCall vE 83 [x] st Q := by
  refine ⟨(vE.P.funcs[83]?).get isf_83, Extern.AbiNoEscape.same, x, (Option.some_get isf_83).symm, by kernel_rfl, by kernel_rfl, by kernel_rfl, by kernel_rfl, fun Γ vs w hr => ?_, ?_⟩
  · cases hr with | cons h1 t => cases t; exact ⟨_, Go.Lib.run_noEscape w _, h1⟩
  · have := h.go; simpa [AVal.strip] using this
set_option linter.defProp false
def fxE := And.intro (And.intro (And.intro (And.intro (And.intro (And.intro (And.intro (And.intro (@callable_1) (@elemW_4)) (And.intro (@callable_6) (@elemW_9))) (And.intro (And.intro (@elemW_5) (@knownT_5)) (And.intro (@intT_3) (And.intro (@isStrT_3) (@elemW_3))))) (And.intro (And.intro (And.intro (@callable_7) (@allocA_26)) (And.intro (@sizeT_26) (And.intro (@elemW_27) (@isStrT_9)))) (And.intro (And.intro (@fieldI_26_0) (@knownT_3)) (And.intro (@isAggT_3) (And.intro (@sizeT_3) (@isSliceT_23)))))) (And.intro (And.intro (And.intro (And.intro (@elemW_0) (@callable_8)) (And.intro (@zeroA_26) (@place_26))) (And.intro (And.intro (@fieldT_26_0) (@placeAt_26_0)) (And.intro (@sliceI_23) (And.intro (@knownT_9) (@isAggT_9))))) (And.intro (And.intro (And.intro (@sizeT_9) (@fieldI_26_2)) (And.intro (@knownT_23) (And.intro (@isAggT_23) (@sizeT_23)))) (And.intro (And.intro (@appI_23) (@fieldT_23_0)) (And.intro (@intT_23) (And.intro (@fieldI_26_3) (@knownT_24))))))) (And.intro (And.intro (And.intro (And.intro (And.intro (@isAggT_24) (@sizeT_24)) (And.intro (@appI_24) (@fieldT_24_0))) (And.intro (And.intro (@intT_24) (@knownT_26)) (And.intro (@isAggT_26) (And.intro (@callable_9) (@fieldT_26_1))))) (And.intro (And.intro (And.intro (@placeAt_26_1) (@callable_10)) (And.intro (@callable_11) (And.intro (@callable_12) (@isBoolT_4)))) (And.intro (And.intro (@callable_13) (@isSliceT_24)) (And.intro (@sliceI_24) (And.intro (@fieldI_26_1) (@allocA_42)))))) (And.intro (And.intro (And.intro (And.intro (@callable_14) (@allocA_44)) (And.intro (@sizeT_44) (And.intro (@knownT_44) (@isAggT_44)))) (And.intro (And.intro (@callable_15) (@fieldI_44_2)) (And.intro (@fieldI_44_0) (And.intro (@fieldI_42_3) (@callable_16))))) (And.intro (And.intro (And.intro (@callable_17) (@zeroA_44)) (And.intro (@place_44) (And.intro (@zeroA_51) (@place_51)))) (And.intro (And.intro (@fieldT_51_0) (@placeAt_51_0)) (And.intro (@fieldT_51_1) (And.intro (@placeAt_51_1) (@callable_18)))))))) (And.intro (And.intro (And.intro (And.intro (And.intro (And.intro (@fieldI_51_1) (@callable_20)) (And.intro (@fieldT_44_0) (@placeAt_44_0))) (And.intro (And.intro (@fieldT_44_1) (@placeAt_44_1)) (And.intro (@fieldT_44_2) (And.intro (@placeAt_44_2) (@callable_21))))) (And.intro (And.intro (And.intro (@fieldI_44_1) (@callable_22)) (And.intro (@fieldI_42_1) (And.intro (@callable_23) (@callable_24)))) (And.intro (And.intro (@callable_25) (@callable_26)) (And.intro (@callable_28) (And.intro (@callable_27) (@fieldI_51_0)))))) (And.intro (And.intro (And.intro (And.intro (@callable_29) (@callable_30)) (And.intro (@callable_31) (And.intro (@callable_32) (@callable_33)))) (And.intro (And.intro (@fieldI_42_0) (@knownT_40)) (And.intro (@isAggT_40) (And.intro (@sizeT_40) (@isSliceT_40))))) (And.intro (And.intro (And.intro (@callable_34) (@fieldI_68_0)) (And.intro (@callable_35) (And.intro (@callable_36) (@sliceI_40)))) (And.intro (And.intro (@callable_37) (@fieldI_68_1)) (And.intro (@knownT_66) (And.intro (@isAggT_66) (@sizeT_66))))))) (And.intro (And.intro (And.intro (And.intro (And.intro (@callable_38) (@fieldI_42_2)) (And.intro (@callable_39) (@callable_40))) (And.intro (And.intro (@callable_41) (@elemW_76)) (And.intro (@appI_76) (And.intro (@fieldT_76_0) (@intT_76))))) (And.intro (And.intro (And.intro (@knownT_76) (@intT_9)) (And.intro (@elemIs_76_5) (And.intro (@u8T_76) (@callable_42)))) (And.intro (And.intro (@callable_43) (@allocA_80)) (And.intro (@callable_45) (And.intro (@callable_47) (@callable_48)))))) (And.intro (And.intro (And.intro (And.intro (@callable_49) (@elemW_69)) (And.intro (@place_68) (And.intro (@fieldT_68_0) (@placeAt_68_0)))) (And.intro (And.intro (@fieldT_68_1) (@placeAt_68_1)) (And.intro (@appI_40) (And.intro (@fieldT_40_0) (@intT_40))))) (And.intro (And.intro (And.intro (@elemW_26) (@callable_51)) (And.intro (@callable_50) (And.intro (@callable_52) (@callable_53)))) (And.intro (And.intro (@callable_54) (@intT_94)) (And.intro (@isStrT_94) (And.intro (@callable_55) (@callable_56))))))))) (And.intro (And.intro (And.intro (And.intro (And.intro (And.intro (And.intro (@callable_57) (@callable_58)) (And.intro (@elemW_23) (@callable_59))) (And.intro (And.intro (@callable_60) (@fieldI_80_1)) (And.intro (@isAggT_76) (And.intro (@sizeT_76) (@isSliceT_76))))) (And.intro (And.intro (And.intro (@ptrTo_98) (@callable_61)) (And.intro (@callable_62) (And.intro (@callable_63) (@elemW_83)))) (And.intro (And.intro (@callable_64) (@callable_65)) (And.intro (@isStrT_76) (And.intro (@sliceI_76) (@isAggT_5)))))) (And.intro (And.intro (And.intro (And.intro (@sizeT_5) (@callable_66)) (And.intro (@callable_67) (@allocA_105))) (And.intro (And.intro (@sizeT_105) (@callable_68)) (And.intro (@callable_69) (And.intro (@callable_70) (@callable_71))))) (And.intro (And.intro (And.intro (@callable_72) (@elemW_94)) (And.intro (@callable_73) (And.intro (@callable_74) (@knownT_94)))) (And.intro (And.intro (@allocA_113) (@intT_5)) (And.intro (@isStrT_5) (And.intro (@arrayI_113) (@sliceI_113))))))) (And.intro (And.intro (And.intro (And.intro (And.intro (@callable_75) (@callable_76)) (And.intro (@callable_78) (@callable_77))) (And.intro (And.intro (@callable_79) (@callable_80)) (And.intro (@knownT_118) (And.intro (@isAggT_118) (@sizeT_118))))) (And.intro (And.intro (And.intro (@arrayI_118) (@allocA_117)) (And.intro (@sizeT_117) (And.intro (@fieldI_117_1) (@fieldI_117_0)))) (And.intro (And.intro (@fieldI_117_2) (@callable_81)) (And.intro (@callable_82) (And.intro (@makeI_76) (@fieldI_80_0)))))) (And.intro (And.intro (And.intro (And.intro (@knownT_78) (@isAggT_78)) (And.intro (@sizeT_78) (And.intro (@elemW_78) (@isPtrT_78)))) (And.intro (And.intro (@isStrT_121) (@convP_78_121_79)) (And.intro (@convP_78_121_80) (And.intro (@callable_83) (@knownT_121))))) (And.intro (And.intro (And.intro (@isStrT_78) (@convP_121_78_79)) (And.intro (@convP_121_78_80) (And.intro (@callable_84) (@knownT_105)))) (And.intro (And.intro (@isAggT_105) (@arrayI_105)) (And.intro (@sizeT_4) (And.intro (@callable_85) (@callable_86)))))))) (And.intro (And.intro (And.intro (And.intro (And.intro (And.intro (@callable_87) (@intT_21)) (And.intro (@isStrT_21) (@elemW_21))) (And.intro (And.intro (@callable_88) (@callable_89)) (And.intro (@callable_90) (And.intro (@callable_91) (@callable_92))))) (And.intro (And.intro (And.intro (@callable_93) (@callable_94)) (And.intro (@callable_96) (And.intro (@callable_97) (@callable_98)))) (And.intro (And.intro (@knownT_4) (@isAggT_4)) (And.intro (@callable_99) (And.intro (@callable_100) (@callable_101)))))) (And.intro (And.intro (And.intro (And.intro (@callable_102) (@callable_103)) (And.intro (@callable_104) (And.intro (@callable_105) (@elemW_131)))) (And.intro (And.intro (@intT_131) (@isStrT_131)) (And.intro (@arrayI_134) (And.intro (@arrayI_137) (@knownT_136))))) (And.intro (And.intro (And.intro (@isAggT_136) (@sizeT_136)) (And.intro (@allocA_136) (And.intro (@fieldI_136_0) (@fieldI_136_1)))) (And.intro (And.intro (@knownT_21) (@callable_106)) (And.intro (@callable_107) (And.intro (@zeroA_136) (@place_136))))))) (And.intro (And.intro (And.intro (And.intro (And.intro (@fieldT_136_0) (@placeAt_136_0)) (And.intro (@fieldT_136_1) (@placeAt_136_1))) (And.intro (And.intro (@zeroA_137) (@place_137)) (And.intro (@fieldT_137_0) (And.intro (@placeAt_137_0) (@fieldT_137_1))))) (And.intro (And.intro (And.intro (@placeAt_137_1) (@fieldT_137_2)) (And.intro (@placeAt_137_2) (And.intro (@fieldT_137_3) (@placeAt_137_3)))) (And.intro (And.intro (@fieldT_137_4) (@placeAt_137_4)) (And.intro (@sizeT_137) (And.intro (@zeroA_117) (@place_117)))))) (And.intro (And.intro (And.intro (And.intro (@fieldT_117_0) (@placeAt_117_0)) (And.intro (@fieldT_117_1) (And.intro (@placeAt_117_1) (@fieldT_117_2)))) (And.intro (And.intro (@placeAt_117_2) (@zeroA_118)) (And.intro (@place_118) (And.intro (@fieldT_118_0) (@placeAt_118_0))))) (And.intro (And.intro (And.intro (@fieldT_118_1) (@placeAt_118_1)) (And.intro (@fieldT_118_2) (And.intro (@placeAt_118_2) (@fieldT_118_3)))) (And.intro (And.intro (@placeAt_118_3) (@rdg_1)) (And.intro (@stg_1) (And.intro (@tkg_1) (@ldg_1)))))))))
def vm := And.intro vmC (And.intro fxE eE)
end Go.Proofs.YtbmilkoebhmnnaaDoor
