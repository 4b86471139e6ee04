import Derived.Test.YtbmilkoebhmnnaaGreatDoorChecked
import Derived.Test.YtbmilkoebhmnnaaGreatDoorVM2
import Derived.Test.YtbmilkoebhmnnaaGreatDoorTy
import Derived.KernelRfl
set_option linter.unusedVariables false
namespace Go.Proofs.YtbmilkoebhmnnaaGreatDoor
open Go.VM
noncomputable def vE : Env := ⟨Tryz.prog, vT⟩
theorem Ah : vE.P.follows .mixedOrders = true := by kernel_rfl
theorem Zy : callable vE.P 1 = false := by kernel_rfl
theorem AHl : G8 vE.P 4 = 0 := by kernel_rfl
theorem ABW : callable vE.P 7 = true := by kernel_rfl
theorem AHG : CS vE.P 9 = true := by kernel_rfl
theorem AJI : G8 vE.P 3 = 0 := by kernel_rfl
theorem AAM : callable vE.P 8 = true := by kernel_rfl
theorem ADO : ∀ n, GL vE.P 26 n = some [.int .i64 0, .str [], .slice 1 [] true, .slice 4 [] true] := by intros; kernel_rfl
theorem AFd : De vE.P 26 = some 4 := by kernel_rfl
theorem AA6 : callable vE.P 9 = true := by kernel_rfl
theorem ACu : Bc vE.P 26 = true := by kernel_rfl
theorem ACM : DV vE.P 26 = true := by kernel_rfl
theorem YX : callable vE.P 10 = true := by kernel_rfl
theorem AHc : G8 vE.P 0 = 0 := by kernel_rfl
theorem Zh : callable vE.P 11 = true := by kernel_rfl
theorem WT : Cn vE.P 26 0 = some (0, 1, false) := by kernel_rfl
theorem AG5 : Bc vE.P 3 = true := by kernel_rfl
theorem AFe : DV vE.P 3 = false := by kernel_rfl
theorem AIj : De vE.P 3 = some 1 := by kernel_rfl
theorem Yu : callable vE.P 12 = true := by kernel_rfl
theorem AFi : G8 vE.P 27 = 0 := by kernel_rfl
theorem AEL : Bc vE.P 32 = true := by kernel_rfl
theorem AKn : IQ vE.P 3 = some .i64 := by kernel_rfl
theorem AF6 : CS vE.P 3 = false := by kernel_rfl
theorem AIo : G8 vE.P 9 = 0 := by kernel_rfl
theorem ZI : callable vE.P 13 = true := by kernel_rfl
theorem Y9 : callable vE.P 14 = true := by kernel_rfl
theorem Xj : callable vE.P 15 = true := by kernel_rfl
theorem Xq : callable vE.P 16 = true := by kernel_rfl
theorem ZF : callable vE.P 17 = true := by kernel_rfl
theorem ADH : LQ vE.P 4 = true := by kernel_rfl
theorem Yk : callable vE.P 18 = true := by kernel_rfl
theorem ZP : Cn vE.P 26 2 = some (2, 1, false) := by kernel_rfl
theorem ACH : Bc vE.P 23 = true := by kernel_rfl
theorem ACv : DV vE.P 23 = false := by kernel_rfl
theorem AF4 : De vE.P 23 = some 1 := by kernel_rfl
theorem YR : EB vE.P 23 = true := by kernel_rfl
theorem V5 : Cn vE.P 26 3 = some (3, 1, false) := by kernel_rfl
theorem ADz : Bc vE.P 24 = true := by kernel_rfl
theorem AEC : DV vE.P 24 = false := by kernel_rfl
theorem AGw : De vE.P 24 = some 1 := by kernel_rfl
theorem WK : EB vE.P 24 = true := by kernel_rfl
theorem Su : EI vE.P 24 = some 4 := by kernel_rfl
theorem Zg : Cn vE.P 26 1 = some (1, 1, false) := by kernel_rfl
theorem AGC : Bc vE.P 9 = true := by kernel_rfl
theorem AFb : DV vE.P 9 = false := by kernel_rfl
theorem AIK : De vE.P 9 = some 1 := by kernel_rfl
theorem AFY : Ff vE.P 26 = some (.agg [.int .i64 0, .str [], .slice 1 [] true, .slice 4 [] true]) := by kernel_rfl
theorem AEW : (Gq vE.P 26).isSome = true := by kernel_rfl
theorem ADr : ∀ n, GL vE.P 46 n = some [.slice 5 [] true, .int .i64 0, .int .i64 0, .int .i64 0, .str [], .slice 1 [] true, .slice 4 [] true] := by intros; kernel_rfl
theorem XI : callable vE.P 19 = true := by kernel_rfl
theorem AD8 : ∀ n, GL vE.P 48 n = some [.int .i64 0, .str [], .int .i64 0] := by intros; kernel_rfl
theorem AFX : De vE.P 48 = some 3 := by kernel_rfl
theorem ADW : Bc vE.P 48 = true := by kernel_rfl
theorem AEU : DV vE.P 48 = true := by kernel_rfl
theorem ZJ : callable vE.P 20 = true := by kernel_rfl
theorem Vy : Cn vE.P 48 2 = some (2, 1, false) := by kernel_rfl
theorem X5 : Cn vE.P 48 0 = some (0, 1, false) := by kernel_rfl
theorem WW : Cn vE.P 46 3 = some (3, 4, true) := by kernel_rfl
theorem AGS : Ff vE.P 54 = some (.agg [.str [], .int .i64 0, .int .i64 0, .int .i64 0, .int .i64 0]) := by kernel_rfl
theorem AFr : (Gq vE.P 54).isSome = true := by kernel_rfl
theorem Ya : Ap vE.P 54 0 = 9 := by kernel_rfl
theorem Ud : Bt vE.P 54 0 = some (0, 1) := by kernel_rfl
theorem XH : callable vE.P 22 = true := by kernel_rfl
theorem WG : callable vE.P 21 = true := by kernel_rfl
theorem XG : Cn vE.P 54 3 = some (3, 1, false) := by kernel_rfl
theorem ACA : Bc vE.P 27 = true := by kernel_rfl
theorem ACF : DV vE.P 27 = false := by kernel_rfl
theorem AGt : De vE.P 27 = some 1 := by kernel_rfl
theorem ZG : callable vE.P 23 = true := by kernel_rfl
theorem Xd : Cn vE.P 54 4 = some (4, 1, false) := by kernel_rfl
theorem ADt : EI vE.P 23 = some 1 := by kernel_rfl
theorem Zb : callable vE.P 24 = true := by kernel_rfl
theorem Xu : callable vE.P 25 = true := by kernel_rfl
theorem AEz : G8 vE.P 37 = 1 := by kernel_rfl
theorem AHf : G8 vE.P 5 = 0 := by kernel_rfl
theorem AIi : MG vE.P 37 = some (1, 1) := by kernel_rfl
theorem Wu : Ap vE.P 37 0 = 5 := by kernel_rfl
theorem AJM : IQ vE.P 37 = none := by kernel_rfl
theorem ACf : Bc vE.P 37 = true := by kernel_rfl
theorem XF : EB vE.P 37 = true := by kernel_rfl
theorem ADg : EI vE.P 37 = some 1 := by kernel_rfl
theorem AFH : Bc vE.P 5 = true := by kernel_rfl
theorem AGR : DV vE.P 5 = false := by kernel_rfl
theorem AI8 : De vE.P 5 = some 1 := by kernel_rfl
theorem AJs : u8T vE.P 37 = true := by kernel_rfl
theorem Vw : callable vE.P 26 = true := by kernel_rfl
theorem XO : callable vE.P 27 = true := by kernel_rfl
theorem AHE : Ff vE.P 48 = some (.agg [.int .i64 0, .str [], .int .i64 0]) := by kernel_rfl
theorem AGj : (Gq vE.P 48).isSome = true := by kernel_rfl
theorem AGn : Ff vE.P 64 = some (.agg [.str [], .int .i64 0]) := by kernel_rfl
theorem AGV : (Gq vE.P 64).isSome = true := by kernel_rfl
theorem Wp : Ap vE.P 64 0 = 9 := by kernel_rfl
theorem VO : Bt vE.P 64 0 = some (0, 1) := by kernel_rfl
theorem XN : Ap vE.P 64 1 = 3 := by kernel_rfl
theorem Uf : Bt vE.P 64 1 = some (1, 1) := by kernel_rfl
theorem Xm : callable vE.P 28 = true := by kernel_rfl
theorem Vz : Cn vE.P 64 1 = some (1, 1, false) := by kernel_rfl
theorem WZ : callable vE.P 30 = true := by kernel_rfl
theorem XK : Ap vE.P 48 0 = 3 := by kernel_rfl
theorem Ti : Bt vE.P 48 0 = some (0, 1) := by kernel_rfl
theorem X3 : Ap vE.P 48 1 = 9 := by kernel_rfl
theorem UA : Bt vE.P 48 1 = some (1, 1) := by kernel_rfl
theorem WB : Ap vE.P 48 2 = 3 := by kernel_rfl
theorem U6 : Bt vE.P 48 2 = some (2, 1) := by kernel_rfl
theorem Ye : callable vE.P 31 = true := by kernel_rfl
theorem ZT : Cn vE.P 48 1 = some (1, 1, false) := by kernel_rfl
theorem XY : callable vE.P 32 = true := by kernel_rfl
theorem Wm : Cn vE.P 46 1 = some (1, 1, false) := by kernel_rfl
theorem Yp : callable vE.P 33 = true := by kernel_rfl
theorem Yg : callable vE.P 34 = true := by kernel_rfl
theorem Wz : callable vE.P 35 = true := by kernel_rfl
theorem Wq : Ap vE.P 26 0 = 3 := by kernel_rfl
theorem UF : Bt vE.P 26 0 = some (0, 1) := by kernel_rfl
theorem Xk : Ap vE.P 26 1 = 9 := by kernel_rfl
theorem U3 : Bt vE.P 26 1 = some (1, 1) := by kernel_rfl
theorem ZY : callable vE.P 36 = true := by kernel_rfl
theorem YS : Cn vE.P 54 2 = some (2, 1, false) := by kernel_rfl
theorem Ww : callable vE.P 37 = true := by kernel_rfl
theorem WF : callable vE.P 38 = true := by kernel_rfl
theorem Xv : callable vE.P 39 = true := by kernel_rfl
theorem YV : Cn vE.P 54 0 = some (0, 1, false) := by kernel_rfl
theorem YO : Cn vE.P 54 1 = some (1, 1, false) := by kernel_rfl
theorem ZC : callable vE.P 40 = true := by kernel_rfl
theorem Y6 : callable vE.P 41 = true := by kernel_rfl
theorem Vt : callable vE.P 43 = true := by kernel_rfl
theorem WS : callable vE.P 42 = true := by kernel_rfl
theorem AFR : G8 vE.P 60 = 0 := by kernel_rfl
theorem WL : callable vE.P 44 = true := by kernel_rfl
theorem Yi : callable vE.P 45 = true := by kernel_rfl
theorem XP : Cn vE.P 64 0 = some (0, 1, false) := by kernel_rfl
theorem XL : callable vE.P 46 = true := by kernel_rfl
theorem WI : callable vE.P 47 = true := by kernel_rfl
theorem Vv : callable vE.P 48 = true := by kernel_rfl
theorem WN : callable vE.P 49 = true := by kernel_rfl
theorem WY : callable vE.P 50 = true := by kernel_rfl
theorem ZA : Cn vE.P 46 0 = some (0, 1, false) := by kernel_rfl
theorem Nc : Bc vE.P 44 = true := by kernel_rfl
theorem AES : DV vE.P 44 = false := by kernel_rfl
theorem AGP : De vE.P 44 = some 1 := by kernel_rfl
theorem Cr : EB vE.P 44 = true := by kernel_rfl
theorem Wl : callable vE.P 51 = true := by kernel_rfl
theorem YB : Cn vE.P 85 0 = some (0, 4, true) := by kernel_rfl
theorem Yv : callable vE.P 52 = true := by kernel_rfl
theorem X7 : callable vE.P 53 = true := by kernel_rfl
theorem Nv : EI vE.P 44 = some 5 := by kernel_rfl
theorem YY : callable vE.P 54 = true := by kernel_rfl
theorem ZL : Cn vE.P 85 1 = some (4, 1, false) := by kernel_rfl
theorem ACn : Bc vE.P 83 = true := by kernel_rfl
theorem AB7 : DV vE.P 83 = false := by kernel_rfl
theorem AFE : De vE.P 83 = some 1 := by kernel_rfl
theorem AJH : MG vE.P 23 = some (1, 16) := by kernel_rfl
theorem Xr : Ap vE.P 23 0 = 9 := by kernel_rfl
theorem AJR : IQ vE.P 23 = none := by kernel_rfl
theorem Y4 : callable vE.P 55 = true := by kernel_rfl
theorem Xx : Cn vE.P 46 2 = some (2, 1, false) := by kernel_rfl
theorem XR : callable vE.P 56 = true := by kernel_rfl
theorem V3 : callable vE.P 57 = true := by kernel_rfl
theorem ZX : callable vE.P 59 = true := by kernel_rfl
theorem Xy : callable vE.P 58 = true := by kernel_rfl
theorem AIk : IQ vE.P 94 = some .u64 := by kernel_rfl
theorem ACz : CS vE.P 94 = false := by kernel_rfl
theorem YL : callable vE.P 60 = true := by kernel_rfl
theorem AHu : MG vE.P 24 = some (4, 72) := by kernel_rfl
theorem Xe : Ap vE.P 24 0 = 26 := by kernel_rfl
theorem AHe : IQ vE.P 24 = none := by kernel_rfl
theorem We : callable vE.P 61 = true := by kernel_rfl
theorem Vs : callable vE.P 62 = true := by kernel_rfl
theorem WQ : callable vE.P 63 = true := by kernel_rfl
theorem Yh : callable vE.P 64 = true := by kernel_rfl
theorem YE : callable vE.P 65 = true := by kernel_rfl
theorem Xp : callable vE.P 66 = true := by kernel_rfl
theorem AKQ : IQ vE.P 9 = none := by kernel_rfl
theorem Wv : QA vE.P 37 5 = true := by kernel_rfl
theorem ZE : callable vE.P 67 = true := by kernel_rfl
theorem Yw : callable vE.P 68 = true := by kernel_rfl
theorem YA : callable vE.P 69 = true := by kernel_rfl
theorem ZH : callable vE.P 70 = true := by kernel_rfl
theorem AAo : ∀ n, GL vE.P 102 n = some [.nself n 102 2, .buf 5 [] true] := by intros; kernel_rfl
theorem YI : callable vE.P 72 = true := by kernel_rfl
theorem ZW : callable vE.P 74 = true := by kernel_rfl
theorem YN : callable vE.P 75 = true := by kernel_rfl
theorem V4 : callable vE.P 76 = true := by kernel_rfl
theorem AGA : G8 vE.P 86 = 0 := by kernel_rfl
theorem AEm : (Gq vE.P 85).isSome = true := by kernel_rfl
theorem YJ : Ap vE.P 85 0 = 26 := by kernel_rfl
theorem Ui : Bt vE.P 85 0 = some (0, 4) := by kernel_rfl
theorem Xo : Ap vE.P 85 1 = 83 := by kernel_rfl
theorem VP : Bt vE.P 85 1 = some (4, 1) := by kernel_rfl
theorem Uc : MG vE.P 44 = some (5, 80) := by kernel_rfl
theorem XQ : Ap vE.P 44 0 = 85 := by kernel_rfl
theorem Tg : IQ vE.P 44 = none := by kernel_rfl
theorem AGZ : G8 vE.P 26 = 0 := by kernel_rfl
theorem Yq : callable vE.P 78 = true := by kernel_rfl
theorem Wy : callable vE.P 77 = true := by kernel_rfl
theorem Xf : callable vE.P 79 = true := by kernel_rfl
theorem YU : callable vE.P 80 = true := by kernel_rfl
theorem WV : callable vE.P 81 = true := by kernel_rfl
theorem XW : callable vE.P 82 = true := by kernel_rfl
theorem Yf : callable vE.P 83 = true := by kernel_rfl
theorem AFJ : G8 vE.P 94 = 0 := by kernel_rfl
theorem AB6 : Bc vE.P 94 = true := by kernel_rfl
theorem AJw : IQ vE.P 5 = some .u8 := by kernel_rfl
theorem AG3 : CS vE.P 5 = false := by kernel_rfl
theorem Yo : callable vE.P 84 = true := by kernel_rfl
theorem Wh : callable vE.P 85 = true := by kernel_rfl
theorem AEY : G8 vE.P 23 = 1 := by kernel_rfl
theorem W9 : callable vE.P 86 = true := by kernel_rfl
theorem Wo : callable vE.P 87 = false := by kernel_rfl
theorem Yx : callable vE.P 88 = true := by kernel_rfl
theorem TT : Cn vE.P 102 1 = some (1, 1, false) := by kernel_rfl
theorem ACl : DV vE.P 37 = false := by kernel_rfl
theorem AGQ : De vE.P 37 = some 1 := by kernel_rfl
theorem AET : ptrTo vE.P 115 5 = true := by kernel_rfl
theorem YF : callable vE.P 89 = true := by kernel_rfl
theorem YK : callable vE.P 90 = true := by kernel_rfl
theorem Xg : callable vE.P 91 = true := by kernel_rfl
theorem AEO : G8 vE.P 105 = 0 := by kernel_rfl
theorem Vx : callable vE.P 92 = true := by kernel_rfl
theorem Ze : callable vE.P 93 = true := by kernel_rfl
theorem ACi : CS vE.P 37 = false := by kernel_rfl
theorem X4 : callable vE.P 94 = true := by kernel_rfl
theorem Y8 : callable vE.P 95 = true := by kernel_rfl
theorem AAn : ∀ n, GL vE.P 122 n = some (List.map AVal.bool (Vd 256)) := by intros; kernel_rfl
theorem ADA : De vE.P 122 = some 256 := by kernel_rfl
theorem Yd : callable vE.P 96 = true := by kernel_rfl
theorem Za : callable vE.P 97 = true := by kernel_rfl
theorem Zj : callable vE.P 98 = true := by kernel_rfl
theorem Xb : callable vE.P 99 = true := by kernel_rfl
theorem Tw : callable vE.P 100 = true := by kernel_rfl
theorem Uv : callable vE.P 101 = true := by kernel_rfl
theorem Tq : callable vE.P 102 = true := by kernel_rfl
theorem AAq : ∀ n, GL vE.P 130 n = some [.int .u8 0, .int .u8 0, .int .u8 0, .int .u8 0, .int .u8 0, .int .u8 0, .int .u8 0, .int .u8 0, .int .u8 0, .int .u8 0, .int .u8 0, .int .u8 0, .int .u8 0, .int .u8 0, .int .u8 0, .int .u8 0, .int .u8 0, .int .u8 0, .int .u8 0, .int .u8 0] := by intros; kernel_rfl
theorem AAg : GH vE.P 130 = some (20, 1, false) := by kernel_rfl
theorem AA4 : EI vE.P 130 = none := by kernel_rfl
theorem Va : callable vE.P 103 = true := by kernel_rfl
theorem VW : callable vE.P 104 = true := by kernel_rfl
theorem Ue : callable vE.P 105 = true := by kernel_rfl
theorem AAY : Bc vE.P 134 = true := by kernel_rfl
theorem ABR : DV vE.P 134 = true := by kernel_rfl
theorem ACP : De vE.P 134 = some 12 := by kernel_rfl
theorem AAU : GH vE.P 134 = some (4, 3, true) := by kernel_rfl
theorem AA2 : ∀ n, GL vE.P 133 n = some [.int .u8 0, .int .u8 0, .int .i64 0] := by intros; kernel_rfl
theorem ADU : De vE.P 133 = some 3 := by kernel_rfl
theorem Tx : Cn vE.P 133 1 = some (1, 1, false) := by kernel_rfl
theorem VR : Cn vE.P 133 0 = some (0, 1, false) := by kernel_rfl
theorem UK : Cn vE.P 133 2 = some (2, 1, false) := by kernel_rfl
theorem Vh : callable vE.P 106 = true := by kernel_rfl
theorem Ty : callable vE.P 107 = true := by kernel_rfl
theorem AFQ : ZO vE.P 37 = some (1, .int .u8 0) := by kernel_rfl
theorem U2 : Cn vE.P 102 0 = some (0, 1, false) := by kernel_rfl
theorem AA1 : Bc vE.P 100 = true := by kernel_rfl
theorem AAT : DV vE.P 100 = false := by kernel_rfl
theorem ADT : De vE.P 100 = some 1 := by kernel_rfl
theorem ACR : G8 vE.P 100 = 0 := by kernel_rfl
theorem ABG : J9 vE.P 100 = true := by kernel_rfl
theorem AAm : CS vE.P 136 = false := by kernel_rfl
theorem Mg : NE vE.P 100 136 101 2 = true := by kernel_rfl
theorem M5 : NE vE.P 100 136 102 2 = true := by kernel_rfl
theorem UQ : callable vE.P 108 = false := by kernel_rfl
theorem ABP : Bc vE.P 136 = true := by kernel_rfl
theorem Z0 : CS vE.P 100 = false := by kernel_rfl
theorem NT : NE vE.P 136 100 101 2 = true := by kernel_rfl
theorem Mw : NE vE.P 136 100 102 2 = true := by kernel_rfl
theorem Vk : callable vE.P 109 = true := by kernel_rfl
theorem ABN : Bc vE.P 122 = true := by kernel_rfl
theorem ABF : DV vE.P 122 = true := by kernel_rfl
theorem AAD : GH vE.P 122 = some (256, 1, false) := by kernel_rfl
theorem AI0 : De vE.P 4 = some 1 := by kernel_rfl
theorem U5 : callable vE.P 110 = true := by kernel_rfl
theorem VY : callable vE.P 111 = true := by kernel_rfl
theorem UD : callable vE.P 112 = true := by kernel_rfl
theorem AH3 : IQ vE.P 21 = some .i32 := by kernel_rfl
theorem AB5 : CS vE.P 21 = false := by kernel_rfl
theorem AEl : G8 vE.P 21 = 0 := by kernel_rfl
theorem VC : callable vE.P 113 = true := by kernel_rfl
theorem Uj : callable vE.P 114 = true := by kernel_rfl
theorem VV : callable vE.P 115 = true := by kernel_rfl
theorem Vo : callable vE.P 116 = true := by kernel_rfl
theorem Us : callable vE.P 117 = true := by kernel_rfl
theorem Tp : callable vE.P 119 = false := by kernel_rfl
theorem Vf : callable vE.P 120 = true := by kernel_rfl
theorem Vm : callable vE.P 121 = true := by kernel_rfl
theorem AFh : Bc vE.P 4 = true := by kernel_rfl
theorem AGH : DV vE.P 4 = false := by kernel_rfl
theorem VH : callable vE.P 122 = true := by kernel_rfl
theorem TV : callable vE.P 123 = true := by kernel_rfl
theorem U0 : callable vE.P 124 = true := by kernel_rfl
theorem Ux : callable vE.P 125 = true := by kernel_rfl
theorem UY : callable vE.P 126 = true := by kernel_rfl
theorem Vi : callable vE.P 127 = true := by kernel_rfl
theorem AB8 : G8 vE.P 146 = 0 := by kernel_rfl
theorem AFm : IQ vE.P 146 = some .u32 := by kernel_rfl
theorem ABX : CS vE.P 146 = false := by kernel_rfl
theorem AA5 : GH vE.P 149 = some (256, 1, false) := by kernel_rfl
theorem AAz : GH vE.P 152 = some (16, 2, true) := by kernel_rfl
theorem AAX : Bc vE.P 151 = true := by kernel_rfl
theorem ABH : DV vE.P 151 = true := by kernel_rfl
theorem AD3 : De vE.P 151 = some 2 := by kernel_rfl
theorem Z5 : ∀ n, GL vE.P 151 n = some [.int .u8 0, .int .u8 0] := by intros; kernel_rfl
theorem Ur : Cn vE.P 151 0 = some (0, 1, false) := by kernel_rfl
theorem VX : Cn vE.P 151 1 = some (1, 1, false) := by kernel_rfl
theorem AD7 : Bc vE.P 21 = true := by kernel_rfl
theorem VD : callable vE.P 128 = true := by kernel_rfl
theorem TU : callable vE.P 129 = true := by kernel_rfl
theorem ADk : Ff vE.P 151 = some (.agg [.int .u8 0, .int .u8 0]) := by kernel_rfl
theorem ACy : (Gq vE.P 151).isSome = true := by kernel_rfl
theorem TN : Ap vE.P 151 0 = 5 := by kernel_rfl
theorem Ry : Bt vE.P 151 0 = some (0, 1) := by kernel_rfl
theorem U7 : Ap vE.P 151 1 = 5 := by kernel_rfl
theorem Rp : Bt vE.P 151 1 = some (1, 1) := by kernel_rfl
theorem ADG : Ff vE.P 152 = some (.agg [.int .u8 0, .int .u8 0, .int .u8 0, .int .u8 0, .int .u8 0, .int .u8 0, .int .u8 0, .int .u8 0, .int .u8 0, .int .u8 0, .int .u8 0, .int .u8 0, .int .u8 0, .int .u8 0, .int .u8 0, .int .u8 0, .int .u8 0, .int .u8 0, .int .u8 0, .int .u8 0, .int .u8 0, .int .u8 0, .int .u8 0, .int .u8 0, .int .u8 0, .int .u8 0, .int .u8 0, .int .u8 0, .int .u8 0, .int .u8 0, .int .u8 0, .int .u8 0]) := by kernel_rfl
theorem ACr : (Gq vE.P 152).isSome = true := by kernel_rfl
theorem Tz : Ap vE.P 152 0 = 151 := by kernel_rfl
theorem R8 : Bt vE.P 152 0 = some (0, 2) := by kernel_rfl
theorem Uy : Ap vE.P 152 1 = 151 := by kernel_rfl
theorem RU : Bt vE.P 152 1 = some (2, 2) := by kernel_rfl
theorem TW : Ap vE.P 152 2 = 151 := by kernel_rfl
theorem Rk : Bt vE.P 152 2 = some (4, 2) := by kernel_rfl
theorem VF : Ap vE.P 152 3 = 151 := by kernel_rfl
theorem Rv : Bt vE.P 152 3 = some (6, 2) := by kernel_rfl
theorem UV : Ap vE.P 152 4 = 151 := by kernel_rfl
theorem Rq : Bt vE.P 152 4 = some (8, 2) := by kernel_rfl
theorem ADy : De vE.P 152 = some 32 := by kernel_rfl
theorem ADR : Ff vE.P 133 = some (.agg [.int .u8 0, .int .u8 0, .int .i64 0]) := by kernel_rfl
theorem ACh : (Gq vE.P 133).isSome = true := by kernel_rfl
theorem Ua : Ap vE.P 133 0 = 5 := by kernel_rfl
theorem Rf : Bt vE.P 133 0 = some (0, 1) := by kernel_rfl
theorem Ve : Ap vE.P 133 1 = 5 := by kernel_rfl
theorem Rs : Bt vE.P 133 1 = some (1, 1) := by kernel_rfl
theorem UM : Ap vE.P 133 2 = 3 := by kernel_rfl
theorem Rl : Bt vE.P 133 2 = some (2, 1) := by kernel_rfl
theorem ACN : Ff vE.P 134 = some (.agg [.int .u8 0, .int .u8 0, .int .i64 0, .int .u8 0, .int .u8 0, .int .i64 0, .int .u8 0, .int .u8 0, .int .i64 0, .int .u8 0, .int .u8 0, .int .i64 0]) := by kernel_rfl
theorem ACK : (Gq vE.P 134).isSome = true := by kernel_rfl
theorem Uu : Ap vE.P 134 0 = 133 := by kernel_rfl
theorem RP : Bt vE.P 134 0 = some (0, 3) := by kernel_rfl
theorem Uq : Ap vE.P 134 1 = 133 := by kernel_rfl
theorem Rw : Bt vE.P 134 1 = some (3, 3) := by kernel_rfl
theorem Uw : Ap vE.P 134 2 = 133 := by kernel_rfl
theorem R3 : Bt vE.P 134 2 = some (6, 3) := by kernel_rfl
theorem UW : Ap vE.P 134 3 = 133 := by kernel_rfl
theorem R9 : Bt vE.P 134 3 = some (9, 3) := by kernel_rfl
theorem ALm : ∀ af t, rd vE af t (.global 1) = .cptr GG := by intros; rfl
theorem AL7 : stripL GG = GG := by simp [GG, stripL, AVal.strip]
theorem ALy : List.take 12 GG = GG := by rfl
theorem AL1 : ∀ st, Jr vE 134 (.cptr GG) st = some (.agg GG) := by intros; kernel_rfl
theorem G7 {n : Int} {x : Utf8textForm} {k : IntKind} (h : idx Ak n = some x) : CK vE 134 (.cptr GG) (.int k n) = some (.cptr ([.int .u8 x.mark, .int .u8 x.mask, .int .i64 x.least] ++ List.drop (n.toNat * 3 + 3) GG)) := by
  unfold idx at h
  split at h
  · rename_i hn
    obtain ⟨j, rfl⟩ : ∃ j : Nat, n = j := ⟨n.toNat, by omega⟩
    rw [Int.toNat_natCast] at h
    rcases j with _ | j
    · cases h; kernel_rfl
    rcases j with _ | j
    · cases h; kernel_rfl
    rcases j with _ | j
    · cases h; kernel_rfl
    rcases j with _ | j
    · cases h; kernel_rfl
    simp [Ak] at h
  · cases h
theorem KR {n : Int} {x : Utf8textForm} {k : IntKind} (h : idx Ak n = some x) : Ky vE 134 (.agg GG) (.int k n) = some (.agg [.int .u8 x.mark, .int .u8 x.mask, .int .i64 x.least]) := by
  unfold idx at h
  split at h
  · rename_i hn
    obtain ⟨j, rfl⟩ : ∃ j : Nat, n = j := ⟨n.toNat, by omega⟩
    rw [Int.toNat_natCast] at h
    rcases j with _ | j
    · cases h; kernel_rfl
    rcases j with _ | j
    · cases h; kernel_rfl
    rcases j with _ | j
    · cases h; kernel_rfl
    rcases j with _ | j
    · cases h; kernel_rfl
    simp [Ak] at h
  · cases h
theorem AF5 : (vE.P.funcs[87]?).isSome = true := by kernel_rfl
theorem ALI {l : List UInt8} {c : Int} {st : St} {Q : AVal → St → Prop} (h : Gl (Q (.int .i64 (Go.Lib.indexByte l (EN c))) st)) : ABl vE 87 [.str l, .int .u8 c] st Q := by
  refine ⟨(vE.P.funcs[87]?).get AF5, Extern.BytealgIndexByte.indexByte, .int .i64 (Go.Lib.indexByte l (EN c)), (Option.some_get AF5).symm, by kernel_rfl, by kernel_rfl, by kernel_rfl, by kernel_rfl, fun Γ vs w hr => ?_, ?_⟩
  · cases hr with | cons h1 t => cases t with | cons h2 t => cases t; cases h1; cases h2; exact ⟨_, Go.Lib.run_indexByteString _ _ w, .int _ _⟩
  · have := h.go; simpa [AVal.strip] using this
theorem ABZ : (vE.P.funcs[108]?).isSome = true := by kernel_rfl
theorem AH1 {x : AVal} {st : St} {Q : AVal → St → Prop} (h : Gl (Q x.strip st)) : ABl vE 108 [x] st Q := by
  refine ⟨(vE.P.funcs[108]?).get ABZ, Extern.AbiNoEscape.same, x, (Option.some_get ABZ).symm, by kernel_rfl, by kernel_rfl, by kernel_rfl, by kernel_rfl, fun Γ vs w hr => ?_, ?_⟩
  · cases hr with | cons h1 t => cases t; exact ⟨_, Go.Lib.run_noEscape w _, h1⟩
  · have := h.go; simpa [AVal.strip] using this
set_option linter.defProp false
def fxE := And.intro (And.intro (And.intro (And.intro (And.intro (And.intro (And.intro (And.intro (@Zy) (@AHl)) (And.intro (@ABW) (And.intro (@AHG) (@AJI)))) (And.intro (And.intro (@AAM) (@ADO)) (And.intro (@AFd) (And.intro (@AA6) (@ACu))))) (And.intro (And.intro (And.intro (@ACM) (@YX)) (And.intro (@AHc) (And.intro (@Zh) (@WT)))) (And.intro (And.intro (@AG5) (And.intro (@AFe) (@AIj))) (And.intro (@Yu) (And.intro (@AFi) (@AEL)))))) (And.intro (And.intro (And.intro (And.intro (@AKn) (@AF6)) (And.intro (@AIo) (And.intro (@ZI) (@Y9)))) (And.intro (And.intro (@Xj) (And.intro (@Xq) (@ZF))) (And.intro (@ADH) (And.intro (@Yk) (@ZP))))) (And.intro (And.intro (And.intro (@ACH) (@ACv)) (And.intro (@AF4) (And.intro (@YR) (@V5)))) (And.intro (And.intro (@ADz) (And.intro (@AEC) (@AGw))) (And.intro (@WK) (And.intro (@Su) (@Zg))))))) (And.intro (And.intro (And.intro (And.intro (And.intro (@AGC) (@AFb)) (And.intro (@AIK) (And.intro (@AFY) (@AEW)))) (And.intro (And.intro (@ADr) (@XI)) (And.intro (@AD8) (And.intro (@AFX) (@ADW))))) (And.intro (And.intro (And.intro (@AEU) (@ZJ)) (And.intro (@Vy) (And.intro (@X5) (@WW)))) (And.intro (And.intro (@AGS) (And.intro (@AFr) (@Ya))) (And.intro (@Ud) (And.intro (@XH) (@WG)))))) (And.intro (And.intro (And.intro (And.intro (@XG) (@ACA)) (And.intro (@ACF) (And.intro (@AGt) (@ZG)))) (And.intro (And.intro (@Xd) (And.intro (@ADt) (@Zb))) (And.intro (@Xu) (And.intro (@AEz) (@AHf))))) (And.intro (And.intro (And.intro (@AIi) (@Wu)) (And.intro (@AJM) (And.intro (@ACf) (@XF)))) (And.intro (And.intro (@ADg) (And.intro (@AFH) (@AGR))) (And.intro (@AI8) (And.intro (@AJs) (@Vw)))))))) (And.intro (And.intro (And.intro (And.intro (And.intro (And.intro (@XO) (@AHE)) (And.intro (@AGj) (And.intro (@AGn) (@AGV)))) (And.intro (And.intro (@Wp) (@VO)) (And.intro (@XN) (And.intro (@Uf) (@Xm))))) (And.intro (And.intro (And.intro (@Vz) (@WZ)) (And.intro (@XK) (And.intro (@Ti) (@X3)))) (And.intro (And.intro (@UA) (And.intro (@WB) (@U6))) (And.intro (@Ye) (And.intro (@ZT) (@XY)))))) (And.intro (And.intro (And.intro (And.intro (@Wm) (@Yp)) (And.intro (@Yg) (And.intro (@Wz) (@Wq)))) (And.intro (And.intro (@UF) (And.intro (@Xk) (@U3))) (And.intro (@ZY) (And.intro (@YS) (@Ww))))) (And.intro (And.intro (And.intro (@WF) (@Xv)) (And.intro (@YV) (And.intro (@YO) (@ZC)))) (And.intro (And.intro (@Y6) (And.intro (@Vt) (@WS))) (And.intro (@AFR) (And.intro (@WL) (@Yi))))))) (And.intro (And.intro (And.intro (And.intro (And.intro (@XP) (@XL)) (And.intro (@WI) (And.intro (@Vv) (@WN)))) (And.intro (And.intro (@WY) (@ZA)) (And.intro (@Nc) (And.intro (@AES) (@AGP))))) (And.intro (And.intro (And.intro (@Cr) (@Wl)) (And.intro (@YB) (And.intro (@Yv) (@X7)))) (And.intro (And.intro (@Nv) (And.intro (@YY) (@ZL))) (And.intro (@ACn) (And.intro (@AB7) (@AFE)))))) (And.intro (And.intro (And.intro (And.intro (@AJH) (@Xr)) (And.intro (@AJR) (And.intro (@Y4) (@Xx)))) (And.intro (And.intro (@XR) (And.intro (@V3) (@ZX))) (And.intro (@Xy) (And.intro (@AIk) (@ACz))))) (And.intro (And.intro (And.intro (@YL) (@AHu)) (And.intro (@Xe) (And.intro (@AHe) (@We)))) (And.intro (And.intro (@Vs) (And.intro (@WQ) (@Yh))) (And.intro (@YE) (And.intro (@Xp) (@AKQ))))))))) (And.intro (And.intro (And.intro (And.intro (And.intro (And.intro (And.intro (@Wv) (@ZE)) (And.intro (@Yw) (And.intro (@YA) (@ZH)))) (And.intro (And.intro (@AAo) (@YI)) (And.intro (@ZW) (And.intro (@YN) (@V4))))) (And.intro (And.intro (And.intro (@AGA) (@AEm)) (And.intro (@YJ) (And.intro (@Ui) (@Xo)))) (And.intro (And.intro (@VP) (And.intro (@Uc) (@XQ))) (And.intro (@Tg) (And.intro (@AGZ) (@Yq)))))) (And.intro (And.intro (And.intro (And.intro (@Wy) (@Xf)) (And.intro (@YU) (And.intro (@WV) (@XW)))) (And.intro (And.intro (@Yf) (And.intro (@AFJ) (@AB6))) (And.intro (@AJw) (And.intro (@AG3) (@Yo))))) (And.intro (And.intro (And.intro (@Wh) (@AEY)) (And.intro (@W9) (And.intro (@Wo) (@Yx)))) (And.intro (And.intro (@TT) (And.intro (@ACl) (@AGQ))) (And.intro (@AET) (And.intro (@YF) (@YK))))))) (And.intro (And.intro (And.intro (And.intro (And.intro (@Xg) (@AEO)) (And.intro (@Vx) (And.intro (@Ze) (@ACi)))) (And.intro (And.intro (@X4) (@Y8)) (And.intro (@AAn) (And.intro (@ADA) (@Yd))))) (And.intro (And.intro (And.intro (@Za) (@Zj)) (And.intro (@Xb) (And.intro (@Tw) (@Uv)))) (And.intro (And.intro (@Tq) (And.intro (@AAq) (@AAg))) (And.intro (@AA4) (And.intro (@Va) (@VW)))))) (And.intro (And.intro (And.intro (And.intro (@Ue) (@AAY)) (And.intro (@ABR) (And.intro (@ACP) (@AAU)))) (And.intro (And.intro (@AA2) (And.intro (@ADU) (@Tx))) (And.intro (@VR) (And.intro (@UK) (@Vh))))) (And.intro (And.intro (And.intro (@Ty) (@AFQ)) (And.intro (@U2) (And.intro (@AA1) (@AAT)))) (And.intro (And.intro (@ADT) (And.intro (@ACR) (@ABG))) (And.intro (@AAm) (And.intro (@Mg) (@M5)))))))) (And.intro (And.intro (And.intro (And.intro (And.intro (And.intro (@UQ) (@ABP)) (And.intro (@Z0) (And.intro (@NT) (@Mw)))) (And.intro (And.intro (@Vk) (@ABN)) (And.intro (@ABF) (And.intro (@AAD) (@AI0))))) (And.intro (And.intro (And.intro (@U5) (@VY)) (And.intro (@UD) (And.intro (@AH3) (@AB5)))) (And.intro (And.intro (@AEl) (And.intro (@VC) (@Uj))) (And.intro (@VV) (And.intro (@Vo) (@Us)))))) (And.intro (And.intro (And.intro (And.intro (@Tp) (@Vf)) (And.intro (@Vm) (And.intro (@AFh) (@AGH)))) (And.intro (And.intro (@VH) (And.intro (@TV) (@U0))) (And.intro (@Ux) (And.intro (@UY) (@Vi))))) (And.intro (And.intro (And.intro (@AB8) (@AFm)) (And.intro (@ABX) (And.intro (@AA5) (@AAz)))) (And.intro (And.intro (@AAX) (And.intro (@ABH) (@AD3))) (And.intro (@Z5) (And.intro (@Ur) (@VX))))))) (And.intro (And.intro (And.intro (And.intro (And.intro (@AD7) (@VD)) (And.intro (@TU) (And.intro (@ADk) (@ACy)))) (And.intro (And.intro (@TN) (And.intro (@Ry) (@U7))) (And.intro (@Rp) (And.intro (@ADG) (@ACr))))) (And.intro (And.intro (And.intro (@Tz) (@R8)) (And.intro (@Uy) (And.intro (@RU) (@TW)))) (And.intro (And.intro (@Rk) (And.intro (@VF) (@Rv))) (And.intro (@UV) (And.intro (@Rq) (@ADy)))))) (And.intro (And.intro (And.intro (And.intro (@ADR) (@ACh)) (And.intro (@Ua) (And.intro (@Rf) (@Ve)))) (And.intro (And.intro (@Rs) (And.intro (@UM) (@Rl))) (And.intro (@ACN) (And.intro (@ACK) (@Uu))))) (And.intro (And.intro (And.intro (@RP) (@Uq)) (And.intro (@Rw) (And.intro (@Uw) (@R3)))) (And.intro (And.intro (@UW) (And.intro (@R9) (@ALm))) (And.intro (@AL7) (And.intro (@ALy) (@AL1)))))))))
def vm := And.intro vmC (And.intro fxE eE)
end Go.Proofs.YtbmilkoebhmnnaaGreatDoor
