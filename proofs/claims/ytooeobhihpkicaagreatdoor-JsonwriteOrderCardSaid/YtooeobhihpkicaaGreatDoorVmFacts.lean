import Derived.Test.YtooeobhihpkicaaGreatDoorChecked
import Derived.Test.YtooeobhihpkicaaGreatDoorVM2
import Derived.Test.YtooeobhihpkicaaGreatDoorTy
import Derived.KernelRfl
set_option linter.unusedVariables false
namespace Go.Proofs.YtooeobhihpkicaaGreatDoor
open Go.VM
noncomputable def vE : Env := ⟨Tryz.prog, vT⟩
theorem Am : vE.P.follows .mixedOrders = true := by kernel_rfl
theorem Xl : callable vE.P 1 = false := by kernel_rfl
theorem AF8 : Gs vE.P 4 = 0 := by kernel_rfl
theorem Yv : callable vE.P 8 = true := by kernel_rfl
theorem ACJ : Cm vE.P 9 = true := by kernel_rfl
theorem AE5 : Gs vE.P 3 = 0 := by kernel_rfl
theorem YL : callable vE.P 9 = true := by kernel_rfl
theorem ABW : ∀ n, GH vE.P 26 n = some [.int .i64 0, .str [], .slice 1 [] true, .slice 4 [] true] := by intros; kernel_rfl
theorem ACb : D7 vE.P 26 = some 4 := by kernel_rfl
theorem AEg : Gs vE.P 27 = 0 := by kernel_rfl
theorem AAU : CY vE.P 26 = true := by kernel_rfl
theorem Zu : Dy vE.P 26 = true := by kernel_rfl
theorem Uf : callable vE.P 10 = true := by kernel_rfl
theorem Vn : callable vE.P 11 = true := by kernel_rfl
theorem AFP : Gs vE.P 0 = 0 := by kernel_rfl
theorem Uk : callable vE.P 12 = true := by kernel_rfl
theorem Vw : Dn vE.P 26 0 = some (0, 1, false) := by kernel_rfl
theorem ACd : CY vE.P 3 = true := by kernel_rfl
theorem AEw : Dy vE.P 3 = false := by kernel_rfl
theorem AGk : D7 vE.P 3 = some 1 := by kernel_rfl
theorem Vl : Dn vE.P 26 2 = some (2, 1, false) := by kernel_rfl
theorem AAH : CY vE.P 23 = true := by kernel_rfl
theorem ABr : Dy vE.P 23 = false := by kernel_rfl
theorem AE0 : D7 vE.P 23 = some 1 := by kernel_rfl
theorem Xa : Ey vE.P 23 = true := by kernel_rfl
theorem Vm : Dn vE.P 26 3 = some (3, 1, false) := by kernel_rfl
theorem AAz : CY vE.P 24 = true := by kernel_rfl
theorem AAt : Dy vE.P 24 = false := by kernel_rfl
theorem AC2 : D7 vE.P 24 = some 1 := by kernel_rfl
theorem U7 : Ey vE.P 24 = true := by kernel_rfl
theorem ADC : CY vE.P 5 = true := by kernel_rfl
theorem AIo : IW vE.P 3 = some .i64 := by kernel_rfl
theorem ACM : Cm vE.P 3 = false := by kernel_rfl
theorem Zy : Eh vE.P 23 = some 1 := by kernel_rfl
theorem AD6 : Gs vE.P 23 = 1 := by kernel_rfl
theorem AFt : Mc vE.P 23 = some (1, 16) := by kernel_rfl
theorem AFn : IW vE.P 23 = none := by kernel_rfl
theorem AB3 : Eh vE.P 24 = some 4 := by kernel_rfl
theorem ACf : Gs vE.P 24 = 4 := by kernel_rfl
theorem AE8 : Mc vE.P 24 = some (4, 72) := by kernel_rfl
theorem AGK : IW vE.P 24 = none := by kernel_rfl
theorem AAq : LW vE.P 4 = true := by kernel_rfl
theorem Ub : callable vE.P 13 = true := by kernel_rfl
theorem XQ : callable vE.P 14 = true := by kernel_rfl
theorem UI : callable vE.P 15 = true := by kernel_rfl
theorem WB : callable vE.P 17 = true := by kernel_rfl
theorem XJ : callable vE.P 18 = true := by kernel_rfl
theorem Vp : callable vE.P 16 = true := by kernel_rfl
theorem AF9 : Gs vE.P 9 = 0 := by kernel_rfl
theorem ADi : Hw vE.P 26 = some (.agg [.int .i64 0, .str [], .slice 1 [] true, .slice 4 [] true]) := by kernel_rfl
theorem ADF : (IA vE.P 26).isSome = true := by kernel_rfl
theorem AEr : Hw vE.P 40 = some (.agg [.str [], .int .i64 0, .int .i64 0, .int .i64 0, .int .i64 0]) := by kernel_rfl
theorem ACx : (IA vE.P 40).isSome = true := by kernel_rfl
theorem WC : Bb vE.P 40 0 = 9 := by kernel_rfl
theorem TV : Cs vE.P 40 0 = some (0, 1) := by kernel_rfl
theorem VF : callable vE.P 20 = true := by kernel_rfl
theorem WP : callable vE.P 19 = true := by kernel_rfl
theorem AA4 : ∀ n, GH vE.P 43 n = some [.int .i64 0, .str [], .int .i64 0] := by intros; kernel_rfl
theorem ACc : D7 vE.P 43 = some 3 := by kernel_rfl
theorem Ua : Dn vE.P 40 3 = some (3, 1, false) := by kernel_rfl
theorem AAa : CY vE.P 27 = true := by kernel_rfl
theorem AAD : Dy vE.P 27 = false := by kernel_rfl
theorem ADQ : D7 vE.P 27 = some 1 := by kernel_rfl
theorem WX : Dn vE.P 43 0 = some (0, 1, false) := by kernel_rfl
theorem Ux : Dn vE.P 43 2 = some (2, 1, false) := by kernel_rfl
theorem Wp : callable vE.P 21 = true := by kernel_rfl
theorem V9 : Dn vE.P 40 4 = some (4, 1, false) := by kernel_rfl
theorem AAn : ∀ n, GH vE.P 51 n = some [.nself n 51 2, .buf 5 [] true] := by intros; kernel_rfl
theorem WM : callable vE.P 22 = true := by kernel_rfl
theorem VY : Dn vE.P 51 0 = some (0, 2, true) := by kernel_rfl
theorem XD : callable vE.P 23 = true := by kernel_rfl
theorem Un : callable vE.P 24 = true := by kernel_rfl
theorem XP : Dn vE.P 26 1 = some (1, 1, false) := by kernel_rfl
theorem AC7 : CY vE.P 9 = true := by kernel_rfl
theorem AEi : Dy vE.P 9 = false := by kernel_rfl
theorem AG8 : D7 vE.P 9 = some 1 := by kernel_rfl
theorem V7 : callable vE.P 25 = true := by kernel_rfl
theorem Us : callable vE.P 26 = true := by kernel_rfl
theorem Wj : callable vE.P 27 = true := by kernel_rfl
theorem WF : callable vE.P 29 = true := by kernel_rfl
theorem Um : callable vE.P 28 = true := by kernel_rfl
theorem ABl : ∀ n, GH vE.P 60 n = some [.int .i64 0] := by intros; kernel_rfl
theorem Ue : callable vE.P 30 = true := by kernel_rfl
theorem Ui : callable vE.P 31 = true := by kernel_rfl
theorem Ug : callable vE.P 32 = true := by kernel_rfl
theorem XX : callable vE.P 33 = true := by kernel_rfl
theorem AAI : CY vE.P 43 = true := by kernel_rfl
theorem ABa : Dy vE.P 43 = true := by kernel_rfl
theorem Vd : callable vE.P 34 = true := by kernel_rfl
theorem Vz : Dn vE.P 43 1 = some (1, 1, false) := by kernel_rfl
theorem WI : Bb vE.P 26 0 = 3 := by kernel_rfl
theorem SY : Cs vE.P 26 0 = some (0, 1) := by kernel_rfl
theorem UT : Bb vE.P 26 1 = 9 := by kernel_rfl
theorem Si : Cs vE.P 26 1 = some (1, 1) := by kernel_rfl
theorem VR : callable vE.P 35 = true := by kernel_rfl
theorem Uv : Dn vE.P 40 2 = some (2, 1, false) := by kernel_rfl
theorem VU : callable vE.P 36 = true := by kernel_rfl
theorem XK : callable vE.P 37 = true := by kernel_rfl
theorem Wh : callable vE.P 38 = true := by kernel_rfl
theorem ACV : Hw vE.P 43 = some (.agg [.int .i64 0, .str [], .int .i64 0]) := by kernel_rfl
theorem AEN : (IA vE.P 43).isSome = true := by kernel_rfl
theorem XU : Dn vE.P 40 0 = some (0, 1, false) := by kernel_rfl
theorem Vf : Dn vE.P 40 1 = some (1, 1, false) := by kernel_rfl
theorem Vk : callable vE.P 39 = true := by kernel_rfl
theorem XH : callable vE.P 40 = true := by kernel_rfl
theorem VI : callable vE.P 41 = true := by kernel_rfl
theorem XR : callable vE.P 42 = true := by kernel_rfl
theorem Vx : Dn vE.P 49 1 = some (1, 1, false) := by kernel_rfl
theorem ACD : CY vE.P 47 = true := by kernel_rfl
theorem AB0 : Dy vE.P 47 = false := by kernel_rfl
theorem AER : D7 vE.P 47 = some 1 := by kernel_rfl
theorem UR : Ey vE.P 47 = true := by kernel_rfl
theorem AD8 : ptrTo vE.P 75 5 = true := by kernel_rfl
theorem Wl : callable vE.P 43 = true := by kernel_rfl
theorem AEn : Gs vE.P 47 = 1 := by kernel_rfl
theorem AFo : Mc vE.P 47 = some (1, 1) := by kernel_rfl
theorem Ws : Bb vE.P 47 0 = 5 := by kernel_rfl
theorem AGb : Gs vE.P 5 = 0 := by kernel_rfl
theorem AGz : IW vE.P 47 = none := by kernel_rfl
theorem AHS : IW vE.P 9 = none := by kernel_rfl
theorem V5 : Pf vE.P 47 5 = true := by kernel_rfl
theorem AIK : u8T vE.P 47 = true := by kernel_rfl
theorem W9 : Bb vE.P 24 0 = 26 := by kernel_rfl
theorem UM : callable vE.P 44 = true := by kernel_rfl
theorem Vv : Bb vE.P 23 0 = 9 := by kernel_rfl
theorem Wu : Dn vE.P 60 0 = some (0, 1, false) := by kernel_rfl
theorem Vq : callable vE.P 45 = true := by kernel_rfl
theorem UV : callable vE.P 46 = true := by kernel_rfl
theorem XC : callable vE.P 47 = true := by kernel_rfl
theorem Wo : callable vE.P 48 = true := by kernel_rfl
theorem Vt : callable vE.P 49 = true := by kernel_rfl
theorem WL : Ey vE.P 79 = true := by kernel_rfl
theorem Zw : Eh vE.P 79 = some 1 := by kernel_rfl
theorem VQ : callable vE.P 50 = true := by kernel_rfl
theorem VZ : callable vE.P 51 = true := by kernel_rfl
theorem UF : callable vE.P 53 = true := by kernel_rfl
theorem VT : callable vE.P 52 = true := by kernel_rfl
theorem AE7 : IW vE.P 84 = some .u64 := by kernel_rfl
theorem AAR : Cm vE.P 84 = false := by kernel_rfl
theorem U2 : callable vE.P 54 = true := by kernel_rfl
theorem Xd : callable vE.P 55 = true := by kernel_rfl
theorem WS : Bb vE.P 43 0 = 3 := by kernel_rfl
theorem Rv : Cs vE.P 43 0 = some (0, 1) := by kernel_rfl
theorem Vo : Bb vE.P 43 2 = 3 := by kernel_rfl
theorem Te : Cs vE.P 43 2 = some (2, 1) := by kernel_rfl
theorem VV : callable vE.P 56 = true := by kernel_rfl
theorem Wy : Bb vE.P 43 1 = 9 := by kernel_rfl
theorem Sg : Cs vE.P 43 1 = some (1, 1) := by kernel_rfl
theorem Wx : callable vE.P 57 = true := by kernel_rfl
theorem Uw : callable vE.P 58 = true := by kernel_rfl
theorem WG : callable vE.P 59 = true := by kernel_rfl
theorem ADe : Gs vE.P 70 = 0 := by kernel_rfl
theorem Wq : callable vE.P 60 = true := by kernel_rfl
theorem Vr : callable vE.P 61 = true := by kernel_rfl
theorem VK : callable vE.P 62 = true := by kernel_rfl
theorem XG : callable vE.P 63 = true := by kernel_rfl
theorem UG : callable vE.P 64 = true := by kernel_rfl
theorem ADP : Gs vE.P 79 = 1 := by kernel_rfl
theorem ACX : VX vE.P 79 = some (8, .int .i64 0) := by kernel_rfl
theorem WW : callable vE.P 65 = true := by kernel_rfl
theorem XN : callable vE.P 68 = true := by kernel_rfl
theorem AEU : Gs vE.P 84 = 0 := by kernel_rfl
theorem ABm : CY vE.P 84 = true := by kernel_rfl
theorem AHZ : IW vE.P 5 = some .u8 := by kernel_rfl
theorem ADK : Cm vE.P 5 = false := by kernel_rfl
theorem VA : callable vE.P 69 = true := by kernel_rfl
theorem Xc : callable vE.P 70 = true := by kernel_rfl
theorem Vg : Dn vE.P 49 0 = some (0, 1, false) := by kernel_rfl
theorem Zp : CY vE.P 46 = true := by kernel_rfl
theorem AAv : Dy vE.P 46 = false := by kernel_rfl
theorem ACY : D7 vE.P 46 = some 1 := by kernel_rfl
theorem ACj : Gs vE.P 46 = 0 := by kernel_rfl
theorem Zq : KG vE.P 46 = true := by kernel_rfl
theorem AB7 : Cm vE.P 94 = false := by kernel_rfl
theorem Pg : Jr vE.P 46 94 48 2 = true := by kernel_rfl
theorem PK : Jr vE.P 46 94 49 2 = true := by kernel_rfl
theorem Oa : Jr vE.P 46 94 50 2 = true := by kernel_rfl
theorem OV : Jr vE.P 46 94 51 2 = true := by kernel_rfl
theorem U4 : callable vE.P 71 = false := by kernel_rfl
theorem ABD : CY vE.P 94 = true := by kernel_rfl
theorem AAT : Cm vE.P 46 = false := by kernel_rfl
theorem Om : Jr vE.P 94 46 48 2 = true := by kernel_rfl
theorem Ow : Jr vE.P 94 46 49 2 = true := by kernel_rfl
theorem PP : Jr vE.P 94 46 50 2 = true := by kernel_rfl
theorem OW : Jr vE.P 94 46 51 2 = true := by kernel_rfl
theorem XF : callable vE.P 72 = true := by kernel_rfl
theorem AA0 : Hw vE.P 100 = some (.agg [.str [], .int .i64 0]) := by kernel_rfl
theorem ABv : (IA vE.P 100).isSome = true := by kernel_rfl
theorem Sy : Bb vE.P 100 0 = 9 := by kernel_rfl
theorem QZ : Cs vE.P 100 0 = some (0, 1) := by kernel_rfl
theorem WV : callable vE.P 73 = true := by kernel_rfl
theorem U1 : callable vE.P 75 = true := by kernel_rfl
theorem Ur : callable vE.P 74 = true := by kernel_rfl
theorem V3 : callable vE.P 76 = true := by kernel_rfl
theorem UQ : callable vE.P 77 = true := by kernel_rfl
theorem UL : callable vE.P 78 = true := by kernel_rfl
theorem XM : callable vE.P 79 = true := by kernel_rfl
theorem WU : callable vE.P 80 = true := by kernel_rfl
theorem AGP : IW vE.P 97 = some .u64 := by kernel_rfl
theorem Zv : Cm vE.P 97 = false := by kernel_rfl
theorem U6 : callable vE.P 82 = true := by kernel_rfl
theorem WT : callable vE.P 81 = true := by kernel_rfl
theorem Uz : callable vE.P 67 = true := by kernel_rfl
theorem XV : callable vE.P 83 = true := by kernel_rfl
theorem VH : callable vE.P 84 = true := by kernel_rfl
theorem U9 : callable vE.P 85 = true := by kernel_rfl
theorem XO : callable vE.P 86 = true := by kernel_rfl
theorem Vs : callable vE.P 87 = true := by kernel_rfl
theorem Sj : Dn vE.P 100 1 = some (1, 1, false) := by kernel_rfl
theorem VW : callable vE.P 88 = true := by kernel_rfl
theorem UX : callable vE.P 89 = true := by kernel_rfl
theorem WE : callable vE.P 91 = true := by kernel_rfl
theorem Sl : Dn vE.P 100 0 = some (0, 1, false) := by kernel_rfl
theorem Uc : callable vE.P 92 = true := by kernel_rfl
theorem AAg : Cm vE.P 47 = false := by kernel_rfl
theorem AAy : Eh vE.P 47 = some 1 := by kernel_rfl
theorem ADU : Dy vE.P 5 = false := by kernel_rfl
theorem AE9 : D7 vE.P 5 = some 1 := by kernel_rfl
theorem Vy : callable vE.P 93 = true := by kernel_rfl
theorem XA : callable vE.P 94 = true := by kernel_rfl
theorem Yl : ∀ n, GH vE.P 116 n = some (List.map AVal.bool (Ty 256)) := by intros; kernel_rfl
theorem ABo : D7 vE.P 116 = some 256 := by kernel_rfl
theorem VP : callable vE.P 95 = true := by kernel_rfl
theorem Wt : callable vE.P 96 = true := by kernel_rfl
theorem UW : callable vE.P 97 = true := by kernel_rfl
theorem VB : callable vE.P 98 = true := by kernel_rfl
theorem UJ : callable vE.P 99 = true := by kernel_rfl
theorem Rm : callable vE.P 100 = true := by kernel_rfl
theorem Sb : callable vE.P 101 = true := by kernel_rfl
theorem X6 : ∀ n, GH vE.P 124 n = some [.int .u8 0, .int .u8 0, .int .u8 0, .int .u8 0, .int .u8 0, .int .u8 0, .int .u8 0, .int .u8 0, .int .u8 0, .int .u8 0, .int .u8 0, .int .u8 0, .int .u8 0, .int .u8 0, .int .u8 0, .int .u8 0, .int .u8 0, .int .u8 0, .int .u8 0, .int .u8 0] := by intros; kernel_rfl
theorem Xt : Gm vE.P 124 = some (20, 1, false) := by kernel_rfl
theorem Y1 : Eh vE.P 124 = none := by kernel_rfl
theorem Tv : callable vE.P 102 = true := by kernel_rfl
theorem UA : callable vE.P 103 = true := by kernel_rfl
theorem Sr : callable vE.P 104 = true := by kernel_rfl
theorem Tu : callable vE.P 105 = true := by kernel_rfl
theorem TB : callable vE.P 106 = true := by kernel_rfl
theorem Z0 : Gs vE.P 126 = 0 := by kernel_rfl
theorem UB : callable vE.P 107 = true := by kernel_rfl
theorem TD : callable vE.P 108 = true := by kernel_rfl
theorem SG : callable vE.P 109 = true := by kernel_rfl
theorem SF : callable vE.P 110 = true := by kernel_rfl
theorem ABB : CY vE.P 97 = true := by kernel_rfl
theorem ACm : IW vE.P 133 = some .u32 := by kernel_rfl
theorem YC : Cm vE.P 133 = false := by kernel_rfl
theorem TE : callable vE.P 111 = true := by kernel_rfl
theorem Sd : callable vE.P 112 = true := by kernel_rfl
theorem R9 : callable vE.P 113 = true := by kernel_rfl
theorem RV : callable vE.P 114 = true := by kernel_rfl
theorem RS : callable vE.P 115 = false := by kernel_rfl
theorem Rt : callable vE.P 116 = true := by kernel_rfl
theorem YJ : CY vE.P 116 = true := by kernel_rfl
theorem Yy : Dy vE.P 116 = true := by kernel_rfl
theorem Xh : Gm vE.P 116 = some (256, 1, false) := by kernel_rfl
theorem AGd : D7 vE.P 4 = some 1 := by kernel_rfl
theorem TJ : callable vE.P 117 = true := by kernel_rfl
theorem RZ : callable vE.P 118 = true := by kernel_rfl
theorem RO : callable vE.P 119 = true := by kernel_rfl
theorem AFg : IW vE.P 21 = some .i32 := by kernel_rfl
theorem Zj : Cm vE.P 21 = false := by kernel_rfl
theorem ADg : Gs vE.P 21 = 0 := by kernel_rfl
theorem SQ : callable vE.P 120 = true := by kernel_rfl
theorem SH : callable vE.P 121 = true := by kernel_rfl
theorem Tm : callable vE.P 122 = true := by kernel_rfl
theorem Yj : CY vE.P 142 = true := by kernel_rfl
theorem Y9 : Dy vE.P 142 = true := by kernel_rfl
theorem ABb : D7 vE.P 142 = some 12 := by kernel_rfl
theorem Ym : Gm vE.P 142 = some (4, 3, true) := by kernel_rfl
theorem Yz : ∀ n, GH vE.P 141 n = some [.int .u8 0, .int .u8 0, .int .i64 0] := by intros; kernel_rfl
theorem ABk : D7 vE.P 141 = some 3 := by kernel_rfl
theorem Rs : Dn vE.P 141 1 = some (1, 1, false) := by kernel_rfl
theorem S9 : Dn vE.P 141 0 = some (0, 1, false) := by kernel_rfl
theorem TU : Dn vE.P 141 2 = some (2, 1, false) := by kernel_rfl
theorem Rx : callable vE.P 123 = true := by kernel_rfl
theorem R4 : callable vE.P 124 = true := by kernel_rfl
theorem AEJ : IW vE.P 143 = some .u64 := by kernel_rfl
theorem YU : Cm vE.P 143 = false := by kernel_rfl
theorem Y8 : ∀ n, GH vE.P 143 n = some [.int .u64 0] := by intros; kernel_rfl
theorem ABq : D7 vE.P 143 = some 1 := by kernel_rfl
theorem Re : callable vE.P 125 = true := by kernel_rfl
theorem SA : callable vE.P 126 = true := by kernel_rfl
theorem ACs : Gs vE.P 97 = 0 := by kernel_rfl
theorem AEF : ∀ n, GH vE.P 3 n = some [.int .i64 0] := by intros; kernel_rfl
theorem Su : callable vE.P 127 = true := by kernel_rfl
theorem Ta : callable vE.P 128 = true := by kernel_rfl
theorem AAN : Gs vE.P 133 = 0 := by kernel_rfl
theorem Yb : CY vE.P 133 = true := by kernel_rfl
theorem TQ : callable vE.P 129 = true := by kernel_rfl
theorem TI : callable vE.P 130 = false := by kernel_rfl
theorem TC : callable vE.P 131 = true := by kernel_rfl
theorem Tf : callable vE.P 132 = true := by kernel_rfl
theorem ACn : CY vE.P 4 = true := by kernel_rfl
theorem AEO : Dy vE.P 4 = false := by kernel_rfl
theorem R8 : callable vE.P 133 = true := by kernel_rfl
theorem TF : callable vE.P 134 = true := by kernel_rfl
theorem TA : callable vE.P 135 = true := by kernel_rfl
theorem Tq : callable vE.P 136 = true := by kernel_rfl
theorem Ya : CY vE.P 143 = true := by kernel_rfl
theorem YV : Dy vE.P 143 = false := by kernel_rfl
theorem ABY : Gs vE.P 143 = 0 := by kernel_rfl
theorem Tp : callable vE.P 137 = true := by kernel_rfl
theorem TT : callable vE.P 138 = true := by kernel_rfl
theorem TS : callable vE.P 139 = true := by kernel_rfl
theorem YD : Gm vE.P 158 = some (256, 1, false) := by kernel_rfl
theorem Xn : Gm vE.P 161 = some (16, 2, true) := by kernel_rfl
theorem Yc : CY vE.P 160 = true := by kernel_rfl
theorem Xe : Dy vE.P 160 = true := by kernel_rfl
theorem ACG : D7 vE.P 160 = some 2 := by kernel_rfl
theorem Yn : ∀ n, GH vE.P 160 n = some [.int .u8 0, .int .u8 0] := by intros; kernel_rfl
theorem TR : Dn vE.P 160 0 = some (0, 1, false) := by kernel_rfl
theorem Tw : Dn vE.P 160 1 = some (1, 1, false) := by kernel_rfl
theorem AB1 : CY vE.P 21 = true := by kernel_rfl
theorem TM : callable vE.P 140 = true := by kernel_rfl
theorem WH : callable vE.P 90 = true := by kernel_rfl
theorem AB2 : Hw vE.P 160 = some (.agg [.int .u8 0, .int .u8 0]) := by kernel_rfl
theorem ABN : (IA vE.P 160).isSome = true := by kernel_rfl
theorem Rw : Bb vE.P 160 0 = 5 := by kernel_rfl
theorem QP : Cs vE.P 160 0 = some (0, 1) := by kernel_rfl
theorem Ti : Bb vE.P 160 1 = 5 := by kernel_rfl
theorem QL : Cs vE.P 160 1 = some (1, 1) := by kernel_rfl
theorem ABj : Hw vE.P 161 = some (.agg [.int .u8 0, .int .u8 0, .int .u8 0, .int .u8 0, .int .u8 0, .int .u8 0, .int .u8 0, .int .u8 0, .int .u8 0, .int .u8 0, .int .u8 0, .int .u8 0, .int .u8 0, .int .u8 0, .int .u8 0, .int .u8 0, .int .u8 0, .int .u8 0, .int .u8 0, .int .u8 0, .int .u8 0, .int .u8 0, .int .u8 0, .int .u8 0, .int .u8 0, .int .u8 0, .int .u8 0, .int .u8 0, .int .u8 0, .int .u8 0, .int .u8 0, .int .u8 0]) := by kernel_rfl
theorem AA6 : (IA vE.P 161).isSome = true := by kernel_rfl
theorem Rl : Bb vE.P 161 0 = 160 := by kernel_rfl
theorem Qf : Cs vE.P 161 0 = some (0, 2) := by kernel_rfl
theorem TH : Bb vE.P 161 1 = 160 := by kernel_rfl
theorem Qg : Cs vE.P 161 1 = some (2, 2) := by kernel_rfl
theorem Tg : Bb vE.P 161 2 = 160 := by kernel_rfl
theorem QX : Cs vE.P 161 2 = some (4, 2) := by kernel_rfl
theorem Rb : Bb vE.P 161 3 = 160 := by kernel_rfl
theorem QM : Cs vE.P 161 3 = some (6, 2) := by kernel_rfl
theorem SV : Bb vE.P 161 4 = 160 := by kernel_rfl
theorem QY : Cs vE.P 161 4 = some (8, 2) := by kernel_rfl
theorem AB5 : D7 vE.P 161 = some 32 := by kernel_rfl
theorem ABt : Hw vE.P 141 = some (.agg [.int .u8 0, .int .u8 0, .int .i64 0]) := by kernel_rfl
theorem AAF : (IA vE.P 141).isSome = true := by kernel_rfl
theorem Td : Bb vE.P 141 0 = 5 := by kernel_rfl
theorem Qb : Cs vE.P 141 0 = some (0, 1) := by kernel_rfl
theorem Rf : Bb vE.P 141 1 = 5 := by kernel_rfl
theorem QQ : Cs vE.P 141 1 = some (1, 1) := by kernel_rfl
theorem R5 : Bb vE.P 141 2 = 3 := by kernel_rfl
theorem QK : Cs vE.P 141 2 = some (2, 1) := by kernel_rfl
theorem AB4 : Hw vE.P 142 = some (.agg [.int .u8 0, .int .u8 0, .int .i64 0, .int .u8 0, .int .u8 0, .int .i64 0, .int .u8 0, .int .u8 0, .int .i64 0, .int .u8 0, .int .u8 0, .int .i64 0]) := by kernel_rfl
theorem ABO : (IA vE.P 142).isSome = true := by kernel_rfl
theorem SX : Bb vE.P 142 0 = 141 := by kernel_rfl
theorem QV : Cs vE.P 142 0 = some (0, 3) := by kernel_rfl
theorem Rk : Bb vE.P 142 1 = 141 := by kernel_rfl
theorem QH : Cs vE.P 142 1 = some (3, 3) := by kernel_rfl
theorem Rj : Bb vE.P 142 2 = 141 := by kernel_rfl
theorem QC : Cs vE.P 142 2 = some (6, 3) := by kernel_rfl
theorem T9 : Bb vE.P 142 3 = 141 := by kernel_rfl
theorem QN : Cs vE.P 142 3 = some (9, 3) := by kernel_rfl
theorem AJQ : ∀ af t, rd vE af t (.global 0) = .cptr IK := by intros; rfl
theorem AJW : stripL IK = IK := by simp [IK, stripL, AVal.strip]
theorem AJI : List.take 12 IK = IK := by rfl
theorem AJC : ∀ st, Jz vE 142 (.cptr IK) st = some (.agg IK) := by intros; kernel_rfl
theorem Kb {n : Int} {x : Utf8textForm} {k : IntKind} (h : idx DK n = some x) : Ku vE 142 (.agg IK) (.int k n) = some (.agg [.int .u8 x.mark, .int .u8 x.mask, .int .i64 x.least]) := by
  unfold idx at h
  split at h
  · rename_i hn
    obtain ⟨j, rfl⟩ : ∃ j : Nat, n = j := ⟨n.toNat, by omega⟩
    rw [Int.toNat_natCast] at h
    rcases j with _ | j
    · cases h; kernel_rfl
    rcases j with _ | j
    · cases h; kernel_rfl
    rcases j with _ | j
    · cases h; kernel_rfl
    rcases j with _ | j
    · cases h; kernel_rfl
    simp [DK] at h
  · cases h
theorem AEq : (vE.P.funcs[71]?).isSome = true := by kernel_rfl
theorem AHh {x : AVal} {st : St} {Q : AVal → St → Prop} (h : Gl (Q x.strip st)) : Zg vE 71 [x] st Q := by
  refine ⟨(vE.P.funcs[71]?).get AEq, Extern.AbiNoEscape.same, x, (Option.some_get AEq).symm, by kernel_rfl, by kernel_rfl, by kernel_rfl, by kernel_rfl, fun Γ vs w hr => ?_, ?_⟩
  · cases hr with | cons h1 t => cases t; exact ⟨_, Go.Lib.run_noEscape w _, h1⟩
  · have := h.go; simpa [AVal.strip] using this
theorem Zb : (vE.P.funcs[115]?).isSome = true := by kernel_rfl
theorem AF5 {l : List UInt8} {c : Int} {st : St} {Q : AVal → St → Prop} (h : Gl (Q (.int .i64 (Go.Lib.indexByte l (IB c))) st)) : Zg vE 115 [.str l, .int .u8 c] st Q := by
  refine ⟨(vE.P.funcs[115]?).get Zb, Extern.BytealgIndexByte.indexByte, .int .i64 (Go.Lib.indexByte l (IB c)), (Option.some_get Zb).symm, by kernel_rfl, by kernel_rfl, by kernel_rfl, by kernel_rfl, fun Γ vs w hr => ?_, ?_⟩
  · cases hr with | cons h1 t => cases t with | cons h2 t => cases t; cases h1; cases h2; exact ⟨_, Go.Lib.run_indexByteString _ _ w, .int _ _⟩
  · have := h.go; simpa [AVal.strip] using this
set_option linter.defProp false
def fxE := And.intro (And.intro (And.intro (And.intro (And.intro (And.intro (And.intro (And.intro (@Xl) (@AF8)) (And.intro (@Yv) (And.intro (@ACJ) (@AE5)))) (And.intro (And.intro (@YL) (And.intro (@ABW) (@ACb))) (And.intro (@AEg) (And.intro (@AAU) (@Zu))))) (And.intro (And.intro (And.intro (@Uf) (@Vn)) (And.intro (@AFP) (And.intro (@Uk) (@Vw)))) (And.intro (And.intro (@ACd) (And.intro (@AEw) (@AGk))) (And.intro (@Vl) (And.intro (@AAH) (@ABr)))))) (And.intro (And.intro (And.intro (And.intro (@AE0) (@Xa)) (And.intro (@Vm) (And.intro (@AAz) (@AAt)))) (And.intro (And.intro (@AC2) (And.intro (@U7) (@ADC))) (And.intro (@AIo) (And.intro (@ACM) (@Zy))))) (And.intro (And.intro (And.intro (@AD6) (@AFt)) (And.intro (@AFn) (And.intro (@AB3) (@ACf)))) (And.intro (And.intro (@AE8) (And.intro (@AGK) (@AAq))) (And.intro (@Ub) (And.intro (@XQ) (@UI))))))) (And.intro (And.intro (And.intro (And.intro (And.intro (@WB) (@XJ)) (And.intro (@Vp) (And.intro (@AF9) (@ADi)))) (And.intro (And.intro (@ADF) (And.intro (@AEr) (@ACx))) (And.intro (@WC) (And.intro (@TV) (@VF))))) (And.intro (And.intro (And.intro (@WP) (@AA4)) (And.intro (@ACc) (And.intro (@Ua) (@AAa)))) (And.intro (And.intro (@AAD) (And.intro (@ADQ) (@WX))) (And.intro (@Ux) (And.intro (@Wp) (@V9)))))) (And.intro (And.intro (And.intro (And.intro (@AAn) (@WM)) (And.intro (@VY) (And.intro (@XD) (@Un)))) (And.intro (And.intro (@XP) (And.intro (@AC7) (@AEi))) (And.intro (@AG8) (And.intro (@V7) (@Us))))) (And.intro (And.intro (And.intro (@Wj) (@WF)) (And.intro (@Um) (And.intro (@ABl) (@Ue)))) (And.intro (And.intro (@Ui) (And.intro (@Ug) (@XX))) (And.intro (@AAI) (And.intro (@ABa) (@Vd)))))))) (And.intro (And.intro (And.intro (And.intro (And.intro (And.intro (@Vz) (@WI)) (And.intro (@SY) (And.intro (@UT) (@Si)))) (And.intro (And.intro (@VR) (And.intro (@Uv) (@VU))) (And.intro (@XK) (And.intro (@Wh) (@ACV))))) (And.intro (And.intro (And.intro (@AEN) (@XU)) (And.intro (@Vf) (And.intro (@Vk) (@XH)))) (And.intro (And.intro (@VI) (And.intro (@XR) (@Vx))) (And.intro (@ACD) (And.intro (@AB0) (@AER)))))) (And.intro (And.intro (And.intro (And.intro (@UR) (@AD8)) (And.intro (@Wl) (And.intro (@AEn) (@AFo)))) (And.intro (And.intro (@Ws) (And.intro (@AGb) (@AGz))) (And.intro (@AHS) (And.intro (@V5) (@AIK))))) (And.intro (And.intro (And.intro (@W9) (@UM)) (And.intro (@Vv) (And.intro (@Wu) (@Vq)))) (And.intro (And.intro (@UV) (And.intro (@XC) (@Wo))) (And.intro (@Vt) (And.intro (@WL) (@Zw))))))) (And.intro (And.intro (And.intro (And.intro (And.intro (@VQ) (@VZ)) (And.intro (@UF) (And.intro (@VT) (@AE7)))) (And.intro (And.intro (@AAR) (And.intro (@U2) (@Xd))) (And.intro (@WS) (And.intro (@Rv) (@Vo))))) (And.intro (And.intro (And.intro (@Te) (@VV)) (And.intro (@Wy) (And.intro (@Sg) (@Wx)))) (And.intro (And.intro (@Uw) (And.intro (@WG) (@ADe))) (And.intro (@Wq) (And.intro (@Vr) (@VK)))))) (And.intro (And.intro (And.intro (And.intro (@XG) (@UG)) (And.intro (@ADP) (And.intro (@ACX) (@WW)))) (And.intro (And.intro (@XN) (And.intro (@AEU) (@ABm))) (And.intro (@AHZ) (And.intro (@ADK) (@VA))))) (And.intro (And.intro (And.intro (@Xc) (And.intro (@Vg) (@Zp))) (And.intro (@AAv) (And.intro (@ACY) (@ACj)))) (And.intro (And.intro (@Zq) (And.intro (@AB7) (@Pg))) (And.intro (@PK) (And.intro (@Oa) (@OV))))))))) (And.intro (And.intro (And.intro (And.intro (And.intro (And.intro (And.intro (@U4) (@ABD)) (And.intro (@AAT) (And.intro (@Om) (@Ow)))) (And.intro (And.intro (@PP) (And.intro (@OW) (@XF))) (And.intro (@AA0) (And.intro (@ABv) (@Sy))))) (And.intro (And.intro (And.intro (@QZ) (@WV)) (And.intro (@U1) (And.intro (@Ur) (@V3)))) (And.intro (And.intro (@UQ) (And.intro (@UL) (@XM))) (And.intro (@WU) (And.intro (@AGP) (@Zv)))))) (And.intro (And.intro (And.intro (And.intro (@U6) (@WT)) (And.intro (@Uz) (And.intro (@XV) (@VH)))) (And.intro (And.intro (@U9) (And.intro (@XO) (@Vs))) (And.intro (@Sj) (And.intro (@VW) (@UX))))) (And.intro (And.intro (And.intro (@WE) (@Sl)) (And.intro (@Uc) (And.intro (@AAg) (@AAy)))) (And.intro (And.intro (@ADU) (And.intro (@AE9) (@Vy))) (And.intro (@XA) (And.intro (@Yl) (@ABo))))))) (And.intro (And.intro (And.intro (And.intro (And.intro (@VP) (@Wt)) (And.intro (@UW) (And.intro (@VB) (@UJ)))) (And.intro (And.intro (@Rm) (And.intro (@Sb) (@X6))) (And.intro (@Xt) (And.intro (@Y1) (@Tv))))) (And.intro (And.intro (And.intro (@UA) (@Sr)) (And.intro (@Tu) (And.intro (@TB) (@Z0)))) (And.intro (And.intro (@UB) (And.intro (@TD) (@SG))) (And.intro (@SF) (And.intro (@ABB) (@ACm)))))) (And.intro (And.intro (And.intro (And.intro (@YC) (@TE)) (And.intro (@Sd) (And.intro (@R9) (@RV)))) (And.intro (And.intro (@RS) (And.intro (@Rt) (@YJ))) (And.intro (@Yy) (And.intro (@Xh) (@AGd))))) (And.intro (And.intro (And.intro (@TJ) (@RZ)) (And.intro (@RO) (And.intro (@AFg) (@Zj)))) (And.intro (And.intro (@ADg) (And.intro (@SQ) (@SH))) (And.intro (@Tm) (And.intro (@Yj) (@Y9)))))))) (And.intro (And.intro (And.intro (And.intro (And.intro (And.intro (@ABb) (@Ym)) (And.intro (@Yz) (And.intro (@ABk) (@Rs)))) (And.intro (And.intro (@S9) (And.intro (@TU) (@Rx))) (And.intro (@R4) (And.intro (@AEJ) (@YU))))) (And.intro (And.intro (And.intro (@Y8) (@ABq)) (And.intro (@Re) (And.intro (@SA) (@ACs)))) (And.intro (And.intro (@AEF) (And.intro (@Su) (@Ta))) (And.intro (@AAN) (And.intro (@Yb) (@TQ)))))) (And.intro (And.intro (And.intro (And.intro (@TI) (@TC)) (And.intro (@Tf) (And.intro (@ACn) (@AEO)))) (And.intro (And.intro (@R8) (And.intro (@TF) (@TA))) (And.intro (@Tq) (And.intro (@Ya) (@YV))))) (And.intro (And.intro (And.intro (@ABY) (@Tp)) (And.intro (@TT) (And.intro (@TS) (@YD)))) (And.intro (And.intro (@Xn) (And.intro (@Yc) (@Xe))) (And.intro (@ACG) (And.intro (@Yn) (@TR))))))) (And.intro (And.intro (And.intro (And.intro (And.intro (@Tw) (@AB1)) (And.intro (@TM) (And.intro (@WH) (@AB2)))) (And.intro (And.intro (@ABN) (And.intro (@Rw) (@QP))) (And.intro (@Ti) (And.intro (@QL) (@ABj))))) (And.intro (And.intro (And.intro (@AA6) (@Rl)) (And.intro (@Qf) (And.intro (@TH) (@Qg)))) (And.intro (And.intro (@Tg) (And.intro (@QX) (@Rb))) (And.intro (@QM) (And.intro (@SV) (@QY)))))) (And.intro (And.intro (And.intro (And.intro (@AB5) (@ABt)) (And.intro (@AAF) (And.intro (@Td) (@Qb)))) (And.intro (And.intro (@Rf) (And.intro (@QQ) (@R5))) (And.intro (@QK) (And.intro (@AB4) (@ABO))))) (And.intro (And.intro (And.intro (@SX) (And.intro (@QV) (@Rk))) (And.intro (@QH) (And.intro (@Rj) (@QC)))) (And.intro (And.intro (@T9) (And.intro (@QN) (@AJQ))) (And.intro (@AJW) (And.intro (@AJI) (@AJC)))))))))
def vm := And.intro vmC (And.intro fxE eE)
end Go.Proofs.YtooeobhihpkicaaGreatDoor
