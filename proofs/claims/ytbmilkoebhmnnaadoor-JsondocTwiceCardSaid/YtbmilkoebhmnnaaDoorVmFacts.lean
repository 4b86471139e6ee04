import Derived.Test.YtbmilkoebhmnnaaDoorChecked
import Derived.Test.YtbmilkoebhmnnaaDoorVM2
import Derived.Test.YtbmilkoebhmnnaaDoorTy
import Derived.KernelRfl
set_option linter.unusedVariables false
namespace Go.Proofs.YtbmilkoebhmnnaaDoor
open Go.VM
noncomputable def vE : Env := ⟨Tryd.prog, vT⟩
theorem Ah : vE.P.follows .mixedOrders = true := by kernel_rfl
theorem AAB : callable vE.P 1 = false := by kernel_rfl
theorem AGH : Ho vE.P 4 = 0 := by kernel_rfl
theorem AAM : callable vE.P 6 = true := by kernel_rfl
theorem AHO : Ho vE.P 9 = 0 := by kernel_rfl
theorem AHe : Ho vE.P 5 = 0 := by kernel_rfl
theorem AEI : Bg vE.P 5 = true := by kernel_rfl
theorem AI3 : II vE.P 3 = some .i64 := by kernel_rfl
theorem ADB : CW vE.P 3 = false := by kernel_rfl
theorem AF9 : Ho vE.P 3 = 0 := by kernel_rfl
theorem Zf : callable vE.P 7 = true := by kernel_rfl
theorem ABC : ∀ n, GI vE.P 26 n = some [.int .i64 0, .str [], .slice 1 [] true, .slice 4 [] true] := by intros; kernel_rfl
theorem AEm : Db vE.P 26 = some 4 := by kernel_rfl
theorem ADh : Ho vE.P 27 = 0 := by kernel_rfl
theorem AD2 : CW vE.P 9 = true := by kernel_rfl
theorem XY : DY vE.P 26 0 = some (0, 1, false) := by kernel_rfl
theorem ADN : Bg vE.P 3 = true := by kernel_rfl
theorem AEf : DX vE.P 3 = false := by kernel_rfl
theorem AHc : Db vE.P 3 = some 1 := by kernel_rfl
theorem OP : D5 vE.P 23 = true := by kernel_rfl
theorem AHg : Ho vE.P 0 = 0 := by kernel_rfl
theorem Y5 : callable vE.P 8 = true := by kernel_rfl
theorem AEw : GX vE.P 26 = some (.agg [.int .i64 0, .str [], .slice 1 [] true, .slice 4 [] true]) := by kernel_rfl
theorem ADd : (G9 vE.P 26).isSome = true := by kernel_rfl
theorem XU : Aq vE.P 26 0 = 3 := by kernel_rfl
theorem Uo : Bv vE.P 26 0 = some (0, 1) := by kernel_rfl
theorem Rz : D8 vE.P 23 = some 1 := by kernel_rfl
theorem AFr : Bg vE.P 9 = true := by kernel_rfl
theorem AEq : DX vE.P 9 = false := by kernel_rfl
theorem AGP : Db vE.P 9 = some 1 := by kernel_rfl
theorem WW : DY vE.P 26 2 = some (2, 1, false) := by kernel_rfl
theorem NZ : Bg vE.P 23 = true := by kernel_rfl
theorem ACf : DX vE.P 23 = false := by kernel_rfl
theorem AEk : Db vE.P 23 = some 1 := by kernel_rfl
theorem Tq : L6 vE.P 23 = some (1, 16) := by kernel_rfl
theorem Wi : Aq vE.P 23 0 = 9 := by kernel_rfl
theorem Sm : II vE.P 23 = none := by kernel_rfl
theorem Wp : DY vE.P 26 3 = some (3, 1, false) := by kernel_rfl
theorem ACo : Bg vE.P 24 = true := by kernel_rfl
theorem ACq : DX vE.P 24 = false := by kernel_rfl
theorem AD8 : Db vE.P 24 = some 1 := by kernel_rfl
theorem AGv : L6 vE.P 24 = some (4, 72) := by kernel_rfl
theorem WT : Aq vE.P 24 0 = 26 := by kernel_rfl
theorem AGS : II vE.P 24 = none := by kernel_rfl
theorem ABk : Bg vE.P 26 = true := by kernel_rfl
theorem ABd : DX vE.P 26 = true := by kernel_rfl
theorem AAE : callable vE.P 9 = true := by kernel_rfl
theorem U0 : Aq vE.P 26 1 = 9 := by kernel_rfl
theorem TC : Bv vE.P 26 1 = some (1, 1) := by kernel_rfl
theorem Xv : callable vE.P 10 = true := by kernel_rfl
theorem XG : callable vE.P 11 = true := by kernel_rfl
theorem Vr : callable vE.P 12 = true := by kernel_rfl
theorem ACR : Ky vE.P 4 = true := by kernel_rfl
theorem Yc : callable vE.P 13 = true := by kernel_rfl
theorem Xx : D5 vE.P 24 = true := by kernel_rfl
theorem Ri : D8 vE.P 24 = some 4 := by kernel_rfl
theorem YN : DY vE.P 26 1 = some (1, 1, false) := by kernel_rfl
theorem AB8 : ∀ n, GI vE.P 42 n = some [.slice 5 [] true, .int .i64 0, .int .i64 0, .int .i64 0, .str [], .slice 1 [] true, .slice 4 [] true] := by intros; kernel_rfl
theorem XK : callable vE.P 14 = true := by kernel_rfl
theorem ABK : ∀ n, GI vE.P 44 n = some [.int .i64 0, .str [], .int .i64 0] := by intros; kernel_rfl
theorem AD0 : Db vE.P 44 = some 3 := by kernel_rfl
theorem ACH : Bg vE.P 44 = true := by kernel_rfl
theorem ACx : DX vE.P 44 = true := by kernel_rfl
theorem Va : callable vE.P 15 = true := by kernel_rfl
theorem VA : DY vE.P 44 2 = some (2, 1, false) := by kernel_rfl
theorem YE : DY vE.P 44 0 = some (0, 1, false) := by kernel_rfl
theorem YG : DY vE.P 42 3 = some (3, 4, true) := by kernel_rfl
theorem W9 : callable vE.P 16 = true := by kernel_rfl
theorem YY : callable vE.P 17 = true := by kernel_rfl
theorem ADl : GX vE.P 44 = some (.agg [.int .i64 0, .str [], .int .i64 0]) := by kernel_rfl
theorem AEM : (G9 vE.P 44).isSome = true := by kernel_rfl
theorem AE0 : GX vE.P 51 = some (.agg [.str [], .int .i64 0]) := by kernel_rfl
theorem AEh : (G9 vE.P 51).isSome = true := by kernel_rfl
theorem YM : Aq vE.P 51 0 = 9 := by kernel_rfl
theorem TL : Bv vE.P 51 0 = some (0, 1) := by kernel_rfl
theorem Wu : Aq vE.P 51 1 = 3 := by kernel_rfl
theorem TA : Bv vE.P 51 1 = some (1, 1) := by kernel_rfl
theorem YK : callable vE.P 18 = true := by kernel_rfl
theorem YV : DY vE.P 51 1 = some (1, 1, false) := by kernel_rfl
theorem Vj : callable vE.P 20 = true := by kernel_rfl
theorem X5 : Aq vE.P 44 0 = 3 := by kernel_rfl
theorem TY : Bv vE.P 44 0 = some (0, 1) := by kernel_rfl
theorem WJ : Aq vE.P 44 1 = 9 := by kernel_rfl
theorem UE : Bv vE.P 44 1 = some (1, 1) := by kernel_rfl
theorem VP : Aq vE.P 44 2 = 3 := by kernel_rfl
theorem UI : Bv vE.P 44 2 = some (2, 1) := by kernel_rfl
theorem V6 : callable vE.P 21 = true := by kernel_rfl
theorem Wo : DY vE.P 44 1 = some (1, 1, false) := by kernel_rfl
theorem VS : callable vE.P 22 = true := by kernel_rfl
theorem Ye : DY vE.P 42 1 = some (1, 1, false) := by kernel_rfl
theorem V7 : callable vE.P 23 = true := by kernel_rfl
theorem Xc : callable vE.P 24 = true := by kernel_rfl
theorem Xm : callable vE.P 25 = true := by kernel_rfl
theorem Uv : callable vE.P 26 = true := by kernel_rfl
theorem XQ : callable vE.P 28 = true := by kernel_rfl
theorem Vq : callable vE.P 27 = true := by kernel_rfl
theorem Xt : DY vE.P 51 0 = some (0, 1, false) := by kernel_rfl
theorem VG : callable vE.P 29 = true := by kernel_rfl
theorem VY : callable vE.P 30 = true := by kernel_rfl
theorem WZ : callable vE.P 31 = true := by kernel_rfl
theorem WU : callable vE.P 32 = true := by kernel_rfl
theorem XB : callable vE.P 33 = true := by kernel_rfl
theorem Xi : DY vE.P 42 0 = some (0, 1, false) := by kernel_rfl
theorem Np : Bg vE.P 40 = true := by kernel_rfl
theorem AAy : DX vE.P 40 = false := by kernel_rfl
theorem AEs : Db vE.P 40 = some 1 := by kernel_rfl
theorem Co : D5 vE.P 40 = true := by kernel_rfl
theorem WY : callable vE.P 34 = true := by kernel_rfl
theorem Vz : DY vE.P 68 0 = some (0, 4, true) := by kernel_rfl
theorem Vi : callable vE.P 35 = true := by kernel_rfl
theorem Yb : callable vE.P 36 = true := by kernel_rfl
theorem Nk : D8 vE.P 40 = some 5 := by kernel_rfl
theorem XC : callable vE.P 37 = true := by kernel_rfl
theorem XD : DY vE.P 68 1 = some (4, 1, false) := by kernel_rfl
theorem ABU : Bg vE.P 66 = true := by kernel_rfl
theorem AAu : DX vE.P 66 = false := by kernel_rfl
theorem AFQ : Db vE.P 66 = some 1 := by kernel_rfl
theorem U9 : callable vE.P 38 = true := by kernel_rfl
theorem X9 : DY vE.P 42 2 = some (2, 1, false) := by kernel_rfl
theorem U3 : callable vE.P 39 = true := by kernel_rfl
theorem YO : callable vE.P 40 = true := by kernel_rfl
theorem XE : callable vE.P 41 = true := by kernel_rfl
theorem AFE : Ho vE.P 76 = 1 := by kernel_rfl
theorem AF6 : L6 vE.P 76 = some (1, 1) := by kernel_rfl
theorem YA : Aq vE.P 76 0 = 5 := by kernel_rfl
theorem AGG : II vE.P 76 = none := by kernel_rfl
theorem ABi : Bg vE.P 76 = true := by kernel_rfl
theorem AJi : II vE.P 9 = none := by kernel_rfl
theorem Wh : P8 vE.P 76 5 = true := by kernel_rfl
theorem AI4 : u8T vE.P 76 = true := by kernel_rfl
theorem Uw : callable vE.P 42 = true := by kernel_rfl
theorem Vd : callable vE.P 43 = true := by kernel_rfl
theorem ABO : ∀ n, GI vE.P 80 n = some [.nself n 80 2, .buf 5 [] true] := by intros; kernel_rfl
theorem Xq : callable vE.P 45 = true := by kernel_rfl
theorem V3 : callable vE.P 47 = true := by kernel_rfl
theorem VL : callable vE.P 48 = true := by kernel_rfl
theorem Vn : callable vE.P 49 = true := by kernel_rfl
theorem AEo : Ho vE.P 69 = 0 := by kernel_rfl
theorem ADe : (G9 vE.P 68).isSome = true := by kernel_rfl
theorem VD : Aq vE.P 68 0 = 26 := by kernel_rfl
theorem Tc : Bv vE.P 68 0 = some (0, 4) := by kernel_rfl
theorem Ww : Aq vE.P 68 1 = 66 := by kernel_rfl
theorem TM : Bv vE.P 68 1 = some (4, 1) := by kernel_rfl
theorem Tf : L6 vE.P 40 = some (5, 80) := by kernel_rfl
theorem Uz : Aq vE.P 40 0 = 68 := by kernel_rfl
theorem Un : II vE.P 40 = none := by kernel_rfl
theorem ADm : Ho vE.P 26 = 0 := by kernel_rfl
theorem VH : callable vE.P 51 = true := by kernel_rfl
theorem VQ : callable vE.P 50 = true := by kernel_rfl
theorem WV : callable vE.P 52 = true := by kernel_rfl
theorem XA : callable vE.P 53 = true := by kernel_rfl
theorem XL : callable vE.P 54 = true := by kernel_rfl
theorem AH9 : II vE.P 94 = some .u64 := by kernel_rfl
theorem ACi : CW vE.P 94 = false := by kernel_rfl
theorem Xg : callable vE.P 55 = true := by kernel_rfl
theorem Xa : callable vE.P 56 = true := by kernel_rfl
theorem Wy : callable vE.P 57 = true := by kernel_rfl
theorem Ut : callable vE.P 58 = true := by kernel_rfl
theorem AE3 : Ho vE.P 23 = 1 := by kernel_rfl
theorem VO : callable vE.P 59 = false := by kernel_rfl
theorem V8 : callable vE.P 60 = true := by kernel_rfl
theorem WQ : DY vE.P 80 1 = some (1, 1, false) := by kernel_rfl
theorem AA7 : DX vE.P 76 = false := by kernel_rfl
theorem AE7 : Db vE.P 76 = some 1 := by kernel_rfl
theorem WN : D5 vE.P 76 = true := by kernel_rfl
theorem ADL : ptrTo vE.P 98 5 = true := by kernel_rfl
theorem We : callable vE.P 61 = true := by kernel_rfl
theorem YI : callable vE.P 62 = true := by kernel_rfl
theorem VB : callable vE.P 63 = true := by kernel_rfl
theorem ADR : Ho vE.P 83 = 0 := by kernel_rfl
theorem WI : callable vE.P 64 = true := by kernel_rfl
theorem XF : callable vE.P 65 = true := by kernel_rfl
theorem ACw : CW vE.P 76 = false := by kernel_rfl
theorem AC2 : D8 vE.P 76 = some 1 := by kernel_rfl
theorem ADk : DX vE.P 5 = false := by kernel_rfl
theorem AGs : Db vE.P 5 = some 1 := by kernel_rfl
theorem YC : callable vE.P 66 = true := by kernel_rfl
theorem WX : callable vE.P 67 = true := by kernel_rfl
theorem Z0 : ∀ n, GI vE.P 105 n = some (List.map AVal.bool (Sd 256)) := by intros; kernel_rfl
theorem AAr : Db vE.P 105 = some 256 := by kernel_rfl
theorem XH : callable vE.P 68 = true := by kernel_rfl
theorem YW : callable vE.P 69 = true := by kernel_rfl
theorem WP : callable vE.P 70 = true := by kernel_rfl
theorem WS : callable vE.P 71 = true := by kernel_rfl
theorem Vh : callable vE.P 72 = true := by kernel_rfl
theorem ADF : Ho vE.P 94 = 0 := by kernel_rfl
theorem U8 : callable vE.P 73 = true := by kernel_rfl
theorem YZ : callable vE.P 74 = true := by kernel_rfl
theorem ACT : Bg vE.P 94 = true := by kernel_rfl
theorem Zb : ∀ n, GI vE.P 113 n = some [.int .u8 0, .int .u8 0, .int .u8 0, .int .u8 0, .int .u8 0, .int .u8 0, .int .u8 0, .int .u8 0, .int .u8 0, .int .u8 0, .int .u8 0, .int .u8 0, .int .u8 0, .int .u8 0, .int .u8 0, .int .u8 0, .int .u8 0, .int .u8 0, .int .u8 0, .int .u8 0] := by intros; kernel_rfl
theorem AIW : II vE.P 5 = some .u8 := by kernel_rfl
theorem AE5 : CW vE.P 5 = false := by kernel_rfl
theorem Yg : GG vE.P 113 = some (20, 1, false) := by kernel_rfl
theorem AAJ : D8 vE.P 113 = none := by kernel_rfl
theorem Wx : callable vE.P 75 = true := by kernel_rfl
theorem Xd : callable vE.P 76 = true := by kernel_rfl
theorem Wz : callable vE.P 78 = true := by kernel_rfl
theorem YL : callable vE.P 77 = true := by kernel_rfl
theorem Xu : callable vE.P 79 = true := by kernel_rfl
theorem WH : callable vE.P 80 = true := by kernel_rfl
theorem ZF : Bg vE.P 118 = true := by kernel_rfl
theorem Yj : DX vE.P 118 = true := by kernel_rfl
theorem ACv : Db vE.P 118 = some 12 := by kernel_rfl
theorem Yu : GG vE.P 118 = some (4, 3, true) := by kernel_rfl
theorem Y2 : ∀ n, GI vE.P 117 n = some [.int .u8 0, .int .u8 0, .int .i64 0] := by intros; kernel_rfl
theorem AB0 : Db vE.P 117 = some 3 := by kernel_rfl
theorem Tp : DY vE.P 117 1 = some (1, 1, false) := by kernel_rfl
theorem UJ : DY vE.P 117 0 = some (0, 1, false) := by kernel_rfl
theorem TI : DY vE.P 117 2 = some (2, 1, false) := by kernel_rfl
theorem VK : callable vE.P 81 = true := by kernel_rfl
theorem Xr : callable vE.P 82 = true := by kernel_rfl
theorem AD6 : XX vE.P 76 = some (1, .int .u8 0) := by kernel_rfl
theorem YT : DY vE.P 80 0 = some (0, 1, false) := by kernel_rfl
theorem ABl : Bg vE.P 78 = true := by kernel_rfl
theorem AB4 : DX vE.P 78 = false := by kernel_rfl
theorem AEl : Db vE.P 78 = some 1 := by kernel_rfl
theorem AD9 : Ho vE.P 78 = 0 := by kernel_rfl
theorem ACs : Jh vE.P 78 = true := by kernel_rfl
theorem Zz : CW vE.P 121 = false := by kernel_rfl
theorem O0 : M6 vE.P 78 121 79 2 = true := by kernel_rfl
theorem O1 : M6 vE.P 78 121 80 2 = true := by kernel_rfl
theorem XN : callable vE.P 83 = false := by kernel_rfl
theorem Zt : Bg vE.P 121 = true := by kernel_rfl
theorem ABg : CW vE.P 78 = false := by kernel_rfl
theorem Oq : M6 vE.P 121 78 79 2 = true := by kernel_rfl
theorem Ou : M6 vE.P 121 78 80 2 = true := by kernel_rfl
theorem Ve : callable vE.P 84 = true := by kernel_rfl
theorem ZM : Bg vE.P 105 = true := by kernel_rfl
theorem ZY : DX vE.P 105 = true := by kernel_rfl
theorem Yz : GG vE.P 105 = some (256, 1, false) := by kernel_rfl
theorem AHN : Db vE.P 4 = some 1 := by kernel_rfl
theorem YJ : callable vE.P 85 = true := by kernel_rfl
theorem YU : callable vE.P 86 = true := by kernel_rfl
theorem WB : callable vE.P 87 = true := by kernel_rfl
theorem AGq : II vE.P 21 = some .i32 := by kernel_rfl
theorem ABG : CW vE.P 21 = false := by kernel_rfl
theorem AFO : Ho vE.P 21 = 0 := by kernel_rfl
theorem WA : callable vE.P 88 = true := by kernel_rfl
theorem Wt : callable vE.P 89 = true := by kernel_rfl
theorem X6 : callable vE.P 90 = true := by kernel_rfl
theorem VX : callable vE.P 91 = true := by kernel_rfl
theorem Xb : callable vE.P 92 = true := by kernel_rfl
theorem WK : callable vE.P 93 = true := by kernel_rfl
theorem VE : callable vE.P 94 = true := by kernel_rfl
theorem U5 : callable vE.P 96 = false := by kernel_rfl
theorem WG : callable vE.P 97 = true := by kernel_rfl
theorem VJ : callable vE.P 98 = true := by kernel_rfl
theorem AEU : Bg vE.P 4 = true := by kernel_rfl
theorem AFR : DX vE.P 4 = false := by kernel_rfl
theorem Uu : callable vE.P 99 = true := by kernel_rfl
theorem TU : callable vE.P 100 = true := by kernel_rfl
theorem Sn : callable vE.P 101 = true := by kernel_rfl
theorem UM : callable vE.P 102 = true := by kernel_rfl
theorem Uf : callable vE.P 103 = true := by kernel_rfl
theorem UG : callable vE.P 104 = true := by kernel_rfl
theorem UC : callable vE.P 105 = true := by kernel_rfl
theorem ABw : Ho vE.P 131 = 0 := by kernel_rfl
theorem AFK : II vE.P 131 = some .u32 := by kernel_rfl
theorem Yh : CW vE.P 131 = false := by kernel_rfl
theorem Yf : GG vE.P 134 = some (256, 1, false) := by kernel_rfl
theorem ZI : GG vE.P 137 = some (16, 2, true) := by kernel_rfl
theorem Y4 : Bg vE.P 136 = true := by kernel_rfl
theorem ZE : DX vE.P 136 = true := by kernel_rfl
theorem ACZ : Db vE.P 136 = some 2 := by kernel_rfl
theorem AAF : ∀ n, GI vE.P 136 n = some [.int .u8 0, .int .u8 0] := by intros; kernel_rfl
theorem Ta : DY vE.P 136 0 = some (0, 1, false) := by kernel_rfl
theorem Sj : DY vE.P 136 1 = some (1, 1, false) := by kernel_rfl
theorem AA4 : Bg vE.P 21 = true := by kernel_rfl
theorem UB : callable vE.P 106 = true := by kernel_rfl
theorem UO : callable vE.P 107 = true := by kernel_rfl
theorem ACA : GX vE.P 136 = some (.agg [.int .u8 0, .int .u8 0]) := by kernel_rfl
theorem ABx : (G9 vE.P 136).isSome = true := by kernel_rfl
theorem Sg : Aq vE.P 136 0 = 5 := by kernel_rfl
theorem Qw : Bv vE.P 136 0 = some (0, 1) := by kernel_rfl
theorem TZ : Aq vE.P 136 1 = 5 := by kernel_rfl
theorem Qy : Bv vE.P 136 1 = some (1, 1) := by kernel_rfl
theorem ACM : GX vE.P 137 = some (.agg [.int .u8 0, .int .u8 0, .int .u8 0, .int .u8 0, .int .u8 0, .int .u8 0, .int .u8 0, .int .u8 0, .int .u8 0, .int .u8 0, .int .u8 0, .int .u8 0, .int .u8 0, .int .u8 0, .int .u8 0, .int .u8 0, .int .u8 0, .int .u8 0, .int .u8 0, .int .u8 0, .int .u8 0, .int .u8 0, .int .u8 0, .int .u8 0, .int .u8 0, .int .u8 0, .int .u8 0, .int .u8 0, .int .u8 0, .int .u8 0, .int .u8 0, .int .u8 0]) := by kernel_rfl
theorem AA8 : (G9 vE.P 137).isSome = true := by kernel_rfl
theorem TD : Aq vE.P 137 0 = 136 := by kernel_rfl
theorem RH : Bv vE.P 137 0 = some (0, 2) := by kernel_rfl
theorem TN : Aq vE.P 137 1 = 136 := by kernel_rfl
theorem RY : Bv vE.P 137 1 = some (2, 2) := by kernel_rfl
theorem TP : Aq vE.P 137 2 = 136 := by kernel_rfl
theorem RF : Bv vE.P 137 2 = some (4, 2) := by kernel_rfl
theorem TS : Aq vE.P 137 3 = 136 := by kernel_rfl
theorem RS : Bv vE.P 137 3 = some (6, 2) := by kernel_rfl
theorem Ur : Aq vE.P 137 4 = 136 := by kernel_rfl
theorem RN : Bv vE.P 137 4 = some (8, 2) := by kernel_rfl
theorem ABA : Db vE.P 137 = some 32 := by kernel_rfl
theorem AAt : GX vE.P 117 = some (.agg [.int .u8 0, .int .u8 0, .int .i64 0]) := by kernel_rfl
theorem ACD : (G9 vE.P 117).isSome = true := by kernel_rfl
theorem TV : Aq vE.P 117 0 = 5 := by kernel_rfl
theorem RJ : Bv vE.P 117 0 = some (0, 1) := by kernel_rfl
theorem Ue : Aq vE.P 117 1 = 5 := by kernel_rfl
theorem Qs : Bv vE.P 117 1 = some (1, 1) := by kernel_rfl
theorem TF : Aq vE.P 117 2 = 3 := by kernel_rfl
theorem Qu : Bv vE.P 117 2 = some (2, 1) := by kernel_rfl
theorem ABP : GX vE.P 118 = some (.agg [.int .u8 0, .int .u8 0, .int .i64 0, .int .u8 0, .int .u8 0, .int .i64 0, .int .u8 0, .int .u8 0, .int .i64 0, .int .u8 0, .int .u8 0, .int .i64 0]) := by kernel_rfl
theorem ABt : (G9 vE.P 118).isSome = true := by kernel_rfl
theorem Tv : Aq vE.P 118 0 = 117 := by kernel_rfl
theorem RX : Bv vE.P 118 0 = some (0, 3) := by kernel_rfl
theorem Tx : Aq vE.P 118 1 = 117 := by kernel_rfl
theorem Q6 : Bv vE.P 118 1 = some (3, 3) := by kernel_rfl
theorem Te : Aq vE.P 118 2 = 117 := by kernel_rfl
theorem Rc : Bv vE.P 118 2 = some (6, 3) := by kernel_rfl
theorem Ud : Aq vE.P 118 3 = 117 := by kernel_rfl
theorem Qv : Bv vE.P 118 3 = some (9, 3) := by kernel_rfl
theorem AKA : ∀ af t, rd vE af t (.global 1) = .cptr GD := by intros; rfl
theorem AKV : stripL GD = GD := by simp [GD, stripL, AVal.strip]
theorem AKP : List.take 12 GD = GD := by rfl
theorem AKJ : ∀ st, JQ vE 118 (.cptr GD) st = some (.agg GD) := by intros; kernel_rfl
theorem G8 {n : Int} {x : Utf8textForm} {k : IntKind} (h : idx Ak n = some x) : Bp vE 118 (.cptr GD) (.int k n) = some (.cptr ([.int .u8 x.mark, .int .u8 x.mask, .int .i64 x.least] ++ List.drop (n.toNat * 3 + 3) GD)) := by
  unfold idx at h
  split at h
  · rename_i hn
    obtain ⟨j, rfl⟩ : ∃ j : Nat, n = j := ⟨n.toNat, by omega⟩
    rw [Int.toNat_natCast] at h
    rcases j with _ | j
    · cases h; kernel_rfl
    rcases j with _ | j
    · cases h; kernel_rfl
    rcases j with _ | j
    · cases h; kernel_rfl
    rcases j with _ | j
    · cases h; kernel_rfl
    simp [Ak] at h
  · cases h
theorem J8 {n : Int} {x : Utf8textForm} {k : IntKind} (h : idx Ak n = some x) : Kh vE 118 (.agg GD) (.int k n) = some (.agg [.int .u8 x.mark, .int .u8 x.mask, .int .i64 x.least]) := by
  unfold idx at h
  split at h
  · rename_i hn
    obtain ⟨j, rfl⟩ : ∃ j : Nat, n = j := ⟨n.toNat, by omega⟩
    rw [Int.toNat_natCast] at h
    rcases j with _ | j
    · cases h; kernel_rfl
    rcases j with _ | j
    · cases h; kernel_rfl
    rcases j with _ | j
    · cases h; kernel_rfl
    rcases j with _ | j
    · cases h; kernel_rfl
    simp [Ak] at h
  · cases h
theorem AEW : (vE.P.funcs[59]?).isSome = true := by kernel_rfl
theorem AIv {l : List UInt8} {c : Int} {st : St} {Q : AVal → St → Prop} (h : Gl (Q (.int .i64 (Go.Lib.indexByte l (EY c))) st)) : AAO vE 59 [.str l, .int .u8 c] st Q := by
  refine ⟨(vE.P.funcs[59]?).get AEW, Extern.BytealgIndexByte.indexByte, .int .i64 (Go.Lib.indexByte l (EY c)), (Option.some_get AEW).symm, by kernel_rfl, by kernel_rfl, by kernel_rfl, by kernel_rfl, fun Γ vs w hr => ?_, ?_⟩
  · cases hr with | cons h1 t => cases t with | cons h2 t => cases t; cases h1; cases h2; exact ⟨_, Go.Lib.run_indexByteString _ _ w, .int _ _⟩
  · have := h.go; simpa [AVal.strip] using this
theorem AFj : (vE.P.funcs[83]?).isSome = true := by kernel_rfl
theorem AIm {x : AVal} {st : St} {Q : AVal → St → Prop} (h : Gl (Q x.strip st)) : AAO vE 83 [x] st Q := by
  refine ⟨(vE.P.funcs[83]?).get AFj, Extern.AbiNoEscape.same, x, (Option.some_get AFj).symm, by kernel_rfl, by kernel_rfl, by kernel_rfl, by kernel_rfl, fun Γ vs w hr => ?_, ?_⟩
  · cases hr with | cons h1 t => cases t; exact ⟨_, Go.Lib.run_noEscape w _, h1⟩
  · have := h.go; simpa [AVal.strip] using this
set_option linter.defProp false
def fxE := And.intro (And.intro (And.intro (And.intro (And.intro (And.intro (And.intro (And.intro (@AAB) (@AGH)) (And.intro (@AAM) (@AHO))) (And.intro (And.intro (@AHe) (@AEI)) (And.intro (@AI3) (And.intro (@ADB) (@AF9))))) (And.intro (And.intro (And.intro (@Zf) (@ABC)) (And.intro (@AEm) (And.intro (@ADh) (@AD2)))) (And.intro (And.intro (@XY) (@ADN)) (And.intro (@AEf) (And.intro (@AHc) (@OP)))))) (And.intro (And.intro (And.intro (And.intro (@AHg) (@Y5)) (And.intro (@AEw) (@ADd))) (And.intro (And.intro (@XU) (@Uo)) (And.intro (@Rz) (And.intro (@AFr) (@AEq))))) (And.intro (And.intro (And.intro (@AGP) (@WW)) (And.intro (@NZ) (And.intro (@ACf) (@AEk)))) (And.intro (And.intro (@Tq) (@Wi)) (And.intro (@Sm) (And.intro (@Wp) (@ACo))))))) (And.intro (And.intro (And.intro (And.intro (And.intro (@ACq) (@AD8)) (And.intro (@AGv) (@WT))) (And.intro (And.intro (@AGS) (@ABk)) (And.intro (@ABd) (And.intro (@AAE) (@U0))))) (And.intro (And.intro (And.intro (@TC) (@Xv)) (And.intro (@XG) (And.intro (@Vr) (@ACR)))) (And.intro (And.intro (@Yc) (@Xx)) (And.intro (@Ri) (And.intro (@YN) (@AB8)))))) (And.intro (And.intro (And.intro (And.intro (@XK) (@ABK)) (And.intro (@AD0) (And.intro (@ACH) (@ACx)))) (And.intro (And.intro (@Va) (@VA)) (And.intro (@YE) (And.intro (@YG) (@W9))))) (And.intro (And.intro (And.intro (@YY) (@ADl)) (And.intro (@AEM) (And.intro (@AE0) (@AEh)))) (And.intro (And.intro (@YM) (@TL)) (And.intro (@Wu) (And.intro (@TA) (@YK)))))))) (And.intro (And.intro (And.intro (And.intro (And.intro (And.intro (@YV) (@Vj)) (And.intro (@X5) (@TY))) (And.intro (And.intro (@WJ) (@UE)) (And.intro (@VP) (And.intro (@UI) (@V6))))) (And.intro (And.intro (And.intro (@Wo) (@VS)) (And.intro (@Ye) (And.intro (@V7) (@Xc)))) (And.intro (And.intro (@Xm) (@Uv)) (And.intro (@XQ) (And.intro (@Vq) (@Xt)))))) (And.intro (And.intro (And.intro (And.intro (@VG) (@VY)) (And.intro (@WZ) (And.intro (@WU) (@XB)))) (And.intro (And.intro (@Xi) (@Np)) (And.intro (@AAy) (And.intro (@AEs) (@Co))))) (And.intro (And.intro (And.intro (@WY) (@Vz)) (And.intro (@Vi) (And.intro (@Yb) (@Nk)))) (And.intro (And.intro (@XC) (@XD)) (And.intro (@ABU) (And.intro (@AAu) (@AFQ))))))) (And.intro (And.intro (And.intro (And.intro (And.intro (@U9) (@X9)) (And.intro (@U3) (@YO))) (And.intro (And.intro (@XE) (@AFE)) (And.intro (@AF6) (And.intro (@YA) (@AGG))))) (And.intro (And.intro (And.intro (@ABi) (@AJi)) (And.intro (@Wh) (And.intro (@AI4) (@Uw)))) (And.intro (And.intro (@Vd) (@ABO)) (And.intro (@Xq) (And.intro (@V3) (@VL)))))) (And.intro (And.intro (And.intro (And.intro (@Vn) (@AEo)) (And.intro (@ADe) (And.intro (@VD) (@Tc)))) (And.intro (And.intro (@Ww) (@TM)) (And.intro (@Tf) (And.intro (@Uz) (@Un))))) (And.intro (And.intro (And.intro (@ADm) (@VH)) (And.intro (@VQ) (And.intro (@WV) (@XA)))) (And.intro (And.intro (@XL) (@AH9)) (And.intro (@ACi) (And.intro (@Xg) (@Xa))))))))) (And.intro (And.intro (And.intro (And.intro (And.intro (And.intro (And.intro (@Wy) (@Ut)) (And.intro (@AE3) (@VO))) (And.intro (And.intro (@V8) (@WQ)) (And.intro (@AA7) (And.intro (@AE7) (@WN))))) (And.intro (And.intro (And.intro (@ADL) (@We)) (And.intro (@YI) (And.intro (@VB) (@ADR)))) (And.intro (And.intro (@WI) (@XF)) (And.intro (@ACw) (And.intro (@AC2) (@ADk)))))) (And.intro (And.intro (And.intro (And.intro (@AGs) (@YC)) (And.intro (@WX) (@Z0))) (And.intro (And.intro (@AAr) (@XH)) (And.intro (@YW) (And.intro (@WP) (@WS))))) (And.intro (And.intro (And.intro (@Vh) (@ADF)) (And.intro (@U8) (And.intro (@YZ) (@ACT)))) (And.intro (And.intro (@Zb) (@AIW)) (And.intro (@AE5) (And.intro (@Yg) (@AAJ))))))) (And.intro (And.intro (And.intro (And.intro (And.intro (@Wx) (@Xd)) (And.intro (@Wz) (@YL))) (And.intro (And.intro (@Xu) (@WH)) (And.intro (@ZF) (And.intro (@Yj) (@ACv))))) (And.intro (And.intro (And.intro (@Yu) (@Y2)) (And.intro (@AB0) (And.intro (@Tp) (@UJ)))) (And.intro (And.intro (@TI) (@VK)) (And.intro (@Xr) (And.intro (@AD6) (@YT)))))) (And.intro (And.intro (And.intro (And.intro (@ABl) (@AB4)) (And.intro (@AEl) (And.intro (@AD9) (@ACs)))) (And.intro (And.intro (@Zz) (@O0)) (And.intro (@O1) (And.intro (@XN) (@Zt))))) (And.intro (And.intro (And.intro (@ABg) (@Oq)) (And.intro (@Ou) (And.intro (@Ve) (@ZM)))) (And.intro (And.intro (@ZY) (@Yz)) (And.intro (@AHN) (And.intro (@YJ) (@YU)))))))) (And.intro (And.intro (And.intro (And.intro (And.intro (And.intro (@WB) (@AGq)) (And.intro (@ABG) (@AFO))) (And.intro (And.intro (@WA) (@Wt)) (And.intro (@X6) (And.intro (@VX) (@Xb))))) (And.intro (And.intro (And.intro (@WK) (@VE)) (And.intro (@U5) (And.intro (@WG) (@VJ)))) (And.intro (And.intro (@AEU) (@AFR)) (And.intro (@Uu) (And.intro (@TU) (@Sn)))))) (And.intro (And.intro (And.intro (And.intro (@UM) (@Uf)) (And.intro (@UG) (And.intro (@UC) (@ABw)))) (And.intro (And.intro (@AFK) (@Yh)) (And.intro (@Yf) (And.intro (@ZI) (@Y4))))) (And.intro (And.intro (And.intro (@ZE) (@ACZ)) (And.intro (@AAF) (And.intro (@Ta) (@Sj)))) (And.intro (And.intro (@AA4) (@UB)) (And.intro (@UO) (And.intro (@ACA) (@ABx))))))) (And.intro (And.intro (And.intro (And.intro (And.intro (@Sg) (@Qw)) (And.intro (@TZ) (@Qy))) (And.intro (And.intro (@ACM) (@AA8)) (And.intro (@TD) (And.intro (@RH) (@TN))))) (And.intro (And.intro (And.intro (@RY) (@TP)) (And.intro (@RF) (And.intro (@TS) (@RS)))) (And.intro (And.intro (@Ur) (@RN)) (And.intro (@ABA) (And.intro (@AAt) (@ACD)))))) (And.intro (And.intro (And.intro (And.intro (@TV) (@RJ)) (And.intro (@Ue) (And.intro (@Qs) (@TF)))) (And.intro (And.intro (@Qu) (@ABP)) (And.intro (@ABt) (And.intro (@Tv) (@RX))))) (And.intro (And.intro (And.intro (@Tx) (@Q6)) (And.intro (@Te) (And.intro (@Rc) (@Ud)))) (And.intro (And.intro (@Qv) (@AKA)) (And.intro (@AKV) (And.intro (@AKP) (@AKJ)))))))))
def vm := And.intro vmC (And.intro fxE eE)
end Go.Proofs.YtbmilkoebhmnnaaDoor
