import Derived.Test.YtbmilkoebhmnnaaGreatDoorChecked
import Derived.Test.YtbmilkoebhmnnaaGreatDoorVM2
import Derived.Test.YtbmilkoebhmnnaaGreatDoorTy
import Derived.KernelRfl
set_option linter.unusedVariables false
namespace Go.Proofs.YtbmilkoebhmnnaaGreatDoor
open Go.VM
noncomputable def vE : Env := ⟨Tryz.prog, vT⟩
theorem Am : vE.P.follows .mixedOrders = true := by kernel_rfl
theorem Zj : callable vE.P 1 = false := by kernel_rfl
theorem AHW : HV vE.P 4 = 0 := by kernel_rfl
theorem ABG : callable vE.P 7 = true := by kernel_rfl
theorem AGO : CY vE.P 9 = true := by kernel_rfl
theorem AHk : HV vE.P 3 = 0 := by kernel_rfl
theorem AAN : callable vE.P 8 = true := by kernel_rfl
theorem ADl : ∀ n, GH vE.P 26 n = some [.int .i64 0, .str [], .slice 1 [] true, .slice 4 [] true] := by intros; kernel_rfl
theorem AEn : Df vE.P 26 = some 4 := by kernel_rfl
theorem Zg : callable vE.P 9 = true := by kernel_rfl
theorem ACk : BV vE.P 26 = true := by kernel_rfl
theorem ACf : DT vE.P 26 = true := by kernel_rfl
theorem XX : callable vE.P 10 = true := by kernel_rfl
theorem AHa : HV vE.P 0 = 0 := by kernel_rfl
theorem YO : callable vE.P 11 = true := by kernel_rfl
theorem Yg : Co vE.P 26 0 = some (0, 1, false) := by kernel_rfl
theorem AEa : BV vE.P 3 = true := by kernel_rfl
theorem AGP : DT vE.P 3 = false := by kernel_rfl
theorem AHM : Df vE.P 3 = some 1 := by kernel_rfl
theorem ZC : callable vE.P 12 = true := by kernel_rfl
theorem AEr : HV vE.P 27 = 0 := by kernel_rfl
theorem ABw : BV vE.P 32 = true := by kernel_rfl
theorem AJr : IM vE.P 3 = some .i64 := by kernel_rfl
theorem AEL : CY vE.P 3 = false := by kernel_rfl
theorem AIJ : HV vE.P 9 = 0 := by kernel_rfl
theorem Wh : callable vE.P 13 = true := by kernel_rfl
theorem ZJ : callable vE.P 14 = true := by kernel_rfl
theorem Xe : callable vE.P 15 = true := by kernel_rfl
theorem V8 : callable vE.P 16 = true := by kernel_rfl
theorem XA : callable vE.P 17 = true := by kernel_rfl
theorem AD1 : LB vE.P 4 = true := by kernel_rfl
theorem Ww : callable vE.P 18 = true := by kernel_rfl
theorem Vy : Co vE.P 26 2 = some (2, 1, false) := by kernel_rfl
theorem ADE : BV vE.P 23 = true := by kernel_rfl
theorem AB0 : DT vE.P 23 = false := by kernel_rfl
theorem AGH : Df vE.P 23 = some 1 := by kernel_rfl
theorem V3 : EE vE.P 23 = true := by kernel_rfl
theorem Vi : Co vE.P 26 3 = some (3, 1, false) := by kernel_rfl
theorem ADV : BV vE.P 24 = true := by kernel_rfl
theorem ACQ : DT vE.P 24 = false := by kernel_rfl
theorem AFn : Df vE.P 24 = some 1 := by kernel_rfl
theorem Wq : EE vE.P 24 = true := by kernel_rfl
theorem Rz : D9 vE.P 24 = some 4 := by kernel_rfl
theorem YE : Co vE.P 26 1 = some (1, 1, false) := by kernel_rfl
theorem AF2 : BV vE.P 9 = true := by kernel_rfl
theorem AEv : DT vE.P 9 = false := by kernel_rfl
theorem AHv : Df vE.P 9 = some 1 := by kernel_rfl
theorem AFi : F3 vE.P 26 = some (.agg [.int .i64 0, .str [], .slice 1 [] true, .slice 4 [] true]) := by kernel_rfl
theorem AE3 : (Gm vE.P 26).isSome = true := by kernel_rfl
theorem AC8 : ∀ n, GH vE.P 46 n = some [.slice 5 [] true, .int .i64 0, .int .i64 0, .int .i64 0, .str [], .slice 1 [] true, .slice 4 [] true] := by intros; kernel_rfl
theorem WN : callable vE.P 19 = true := by kernel_rfl
theorem ADx : ∀ n, GH vE.P 48 n = some [.int .i64 0, .str [], .int .i64 0] := by intros; kernel_rfl
theorem AGD : Df vE.P 48 = some 3 := by kernel_rfl
theorem ADU : BV vE.P 48 = true := by kernel_rfl
theorem ACc : DT vE.P 48 = true := by kernel_rfl
theorem YT : callable vE.P 20 = true := by kernel_rfl
theorem XQ : Co vE.P 48 2 = some (2, 1, false) := by kernel_rfl
theorem Vo : Co vE.P 48 0 = some (0, 1, false) := by kernel_rfl
theorem YQ : Co vE.P 46 3 = some (3, 4, true) := by kernel_rfl
theorem AEC : F3 vE.P 54 = some (.agg [.str [], .int .i64 0, .int .i64 0, .int .i64 0, .int .i64 0]) := by kernel_rfl
theorem AF8 : (Gm vE.P 54).isSome = true := by kernel_rfl
theorem Y2 : Ap vE.P 54 0 = 9 := by kernel_rfl
theorem Tx : Bu vE.P 54 0 = some (0, 1) := by kernel_rfl
theorem Vd : callable vE.P 22 = true := by kernel_rfl
theorem ZM : callable vE.P 21 = true := by kernel_rfl
theorem Xj : Co vE.P 54 3 = some (3, 1, false) := by kernel_rfl
theorem ADd : BV vE.P 27 = true := by kernel_rfl
theorem ACJ : DT vE.P 27 = false := by kernel_rfl
theorem AGA : Df vE.P 27 = some 1 := by kernel_rfl
theorem Xa : callable vE.P 23 = true := by kernel_rfl
theorem Vt : Co vE.P 54 4 = some (4, 1, false) := by kernel_rfl
theorem ABo : D9 vE.P 23 = some 1 := by kernel_rfl
theorem XV : callable vE.P 24 = true := by kernel_rfl
theorem WR : callable vE.P 25 = true := by kernel_rfl
theorem AEf : HV vE.P 37 = 1 := by kernel_rfl
theorem AI3 : HV vE.P 5 = 0 := by kernel_rfl
theorem AI5 : MI vE.P 37 = some (1, 1) := by kernel_rfl
theorem ZH : Ap vE.P 37 0 = 5 := by kernel_rfl
theorem AHi : IM vE.P 37 = none := by kernel_rfl
theorem AD5 : BV vE.P 37 = true := by kernel_rfl
theorem V7 : EE vE.P 37 = true := by kernel_rfl
theorem ABp : D9 vE.P 37 = some 1 := by kernel_rfl
theorem AEo : BV vE.P 5 = true := by kernel_rfl
theorem AGt : DT vE.P 5 = false := by kernel_rfl
theorem AH5 : Df vE.P 5 = some 1 := by kernel_rfl
theorem AJU : u8T vE.P 37 = true := by kernel_rfl
theorem We : callable vE.P 26 = true := by kernel_rfl
theorem Yr : callable vE.P 27 = true := by kernel_rfl
theorem AGo : F3 vE.P 48 = some (.agg [.int .i64 0, .str [], .int .i64 0]) := by kernel_rfl
theorem AE9 : (Gm vE.P 48).isSome = true := by kernel_rfl
theorem AEP : F3 vE.P 64 = some (.agg [.str [], .int .i64 0]) := by kernel_rfl
theorem AFw : (Gm vE.P 64).isSome = true := by kernel_rfl
theorem WB : Ap vE.P 64 0 = 9 := by kernel_rfl
theorem Ue : Bu vE.P 64 0 = some (0, 1) := by kernel_rfl
theorem Xo : Ap vE.P 64 1 = 3 := by kernel_rfl
theorem VR : Bu vE.P 64 1 = some (1, 1) := by kernel_rfl
theorem Vr : callable vE.P 28 = true := by kernel_rfl
theorem Xx : Co vE.P 64 1 = some (1, 1, false) := by kernel_rfl
theorem Xr : callable vE.P 30 = true := by kernel_rfl
theorem WY : Ap vE.P 48 0 = 3 := by kernel_rfl
theorem VK : Bu vE.P 48 0 = some (0, 1) := by kernel_rfl
theorem Y0 : Ap vE.P 48 1 = 9 := by kernel_rfl
theorem UM : Bu vE.P 48 1 = some (1, 1) := by kernel_rfl
theorem XL : Ap vE.P 48 2 = 3 := by kernel_rfl
theorem Ug : Bu vE.P 48 2 = some (2, 1) := by kernel_rfl
theorem WE : callable vE.P 31 = true := by kernel_rfl
theorem Xv : Co vE.P 48 1 = some (1, 1, false) := by kernel_rfl
theorem Ws : callable vE.P 32 = true := by kernel_rfl
theorem Yv : Co vE.P 46 1 = some (1, 1, false) := by kernel_rfl
theorem YU : callable vE.P 33 = true := by kernel_rfl
theorem Xm : callable vE.P 34 = true := by kernel_rfl
theorem Ye : callable vE.P 35 = true := by kernel_rfl
theorem WF : Ap vE.P 26 0 = 3 := by kernel_rfl
theorem UR : Bu vE.P 26 0 = some (0, 1) := by kernel_rfl
theorem X0 : Ap vE.P 26 1 = 9 := by kernel_rfl
theorem Uj : Bu vE.P 26 1 = some (1, 1) := by kernel_rfl
theorem Wi : callable vE.P 36 = true := by kernel_rfl
theorem Y5 : Co vE.P 54 2 = some (2, 1, false) := by kernel_rfl
theorem Yp : callable vE.P 37 = true := by kernel_rfl
theorem YG : callable vE.P 38 = true := by kernel_rfl
theorem YP : callable vE.P 39 = true := by kernel_rfl
theorem XO : Co vE.P 54 0 = some (0, 1, false) := by kernel_rfl
theorem Vn : Co vE.P 54 1 = some (1, 1, false) := by kernel_rfl
theorem XH : callable vE.P 40 = true := by kernel_rfl
theorem YD : callable vE.P 41 = true := by kernel_rfl
theorem ZT : callable vE.P 43 = true := by kernel_rfl
theorem Vz : callable vE.P 42 = true := by kernel_rfl
theorem AEl : HV vE.P 60 = 0 := by kernel_rfl
theorem Wy : callable vE.P 44 = true := by kernel_rfl
theorem Y9 : callable vE.P 45 = true := by kernel_rfl
theorem WV : Co vE.P 64 0 = some (0, 1, false) := by kernel_rfl
theorem WL : callable vE.P 46 = true := by kernel_rfl
theorem WA : callable vE.P 47 = true := by kernel_rfl
theorem X8 : callable vE.P 48 = true := by kernel_rfl
theorem WQ : callable vE.P 49 = true := by kernel_rfl
theorem ZF : callable vE.P 50 = true := by kernel_rfl
theorem XZ : Co vE.P 46 0 = some (0, 1, false) := by kernel_rfl
theorem Nv : BV vE.P 44 = true := by kernel_rfl
theorem ACA : DT vE.P 44 = false := by kernel_rfl
theorem AFR : Df vE.P 44 = some 1 := by kernel_rfl
theorem Ct : EE vE.P 44 = true := by kernel_rfl
theorem Xf : callable vE.P 51 = true := by kernel_rfl
theorem WZ : Co vE.P 85 0 = some (0, 4, true) := by kernel_rfl
theorem Y1 : callable vE.P 52 = true := by kernel_rfl
theorem Wx : callable vE.P 53 = true := by kernel_rfl
theorem OD : D9 vE.P 44 = some 5 := by kernel_rfl
theorem ZQ : callable vE.P 54 = true := by kernel_rfl
theorem Ym : Co vE.P 85 1 = some (4, 1, false) := by kernel_rfl
theorem ACZ : BV vE.P 83 = true := by kernel_rfl
theorem ACH : DT vE.P 83 = false := by kernel_rfl
theorem AFT : Df vE.P 83 = some 1 := by kernel_rfl
theorem AHg : MI vE.P 23 = some (1, 16) := by kernel_rfl
theorem Xc : Ap vE.P 23 0 = 9 := by kernel_rfl
theorem AHn : IM vE.P 23 = none := by kernel_rfl
theorem ZN : callable vE.P 55 = true := by kernel_rfl
theorem ZG : Co vE.P 46 2 = some (2, 1, false) := by kernel_rfl
theorem X6 : callable vE.P 56 = true := by kernel_rfl
theorem YK : callable vE.P 57 = true := by kernel_rfl
theorem V9 : callable vE.P 59 = true := by kernel_rfl
theorem ZL : callable vE.P 58 = true := by kernel_rfl
theorem AHD : IM vE.P 94 = some .u64 := by kernel_rfl
theorem ACR : CY vE.P 94 = false := by kernel_rfl
theorem YH : callable vE.P 60 = true := by kernel_rfl
theorem AIv : MI vE.P 24 = some (4, 72) := by kernel_rfl
theorem YN : Ap vE.P 24 0 = 26 := by kernel_rfl
theorem AIV : IM vE.P 24 = none := by kernel_rfl
theorem Xn : callable vE.P 61 = true := by kernel_rfl
theorem YI : callable vE.P 62 = true := by kernel_rfl
theorem Xh : callable vE.P 63 = true := by kernel_rfl
theorem WJ : callable vE.P 64 = true := by kernel_rfl
theorem Wj : callable vE.P 65 = true := by kernel_rfl
theorem Vb : callable vE.P 66 = true := by kernel_rfl
theorem AK0 : IM vE.P 9 = none := by kernel_rfl
theorem Yd : QE vE.P 37 5 = true := by kernel_rfl
theorem XI : callable vE.P 67 = true := by kernel_rfl
theorem XP : callable vE.P 68 = true := by kernel_rfl
theorem Yu : callable vE.P 69 = true := by kernel_rfl
theorem Yq : callable vE.P 70 = true := by kernel_rfl
theorem AAa : ∀ n, GH vE.P 102 n = some [.nself n 102 2, .buf 5 [] true] := by intros; kernel_rfl
theorem ZU : callable vE.P 72 = true := by kernel_rfl
theorem Yx : callable vE.P 74 = true := by kernel_rfl
theorem WC : callable vE.P 75 = true := by kernel_rfl
theorem Xl : callable vE.P 76 = true := by kernel_rfl
theorem AE5 : HV vE.P 86 = 0 := by kernel_rfl
theorem AEF : (Gm vE.P 85).isSome = true := by kernel_rfl
theorem VZ : Ap vE.P 85 0 = 26 := by kernel_rfl
theorem UV : Bu vE.P 85 0 = some (0, 4) := by kernel_rfl
theorem V5 : Ap vE.P 85 1 = 83 := by kernel_rfl
theorem UU : Bu vE.P 85 1 = some (4, 1) := by kernel_rfl
theorem TF : MI vE.P 44 = some (5, 80) := by kernel_rfl
theorem WX : Ap vE.P 44 0 = 85 := by kernel_rfl
theorem VO : IM vE.P 44 = none := by kernel_rfl
theorem AFW : HV vE.P 26 = 0 := by kernel_rfl
theorem Xy : callable vE.P 78 = true := by kernel_rfl
theorem Yw : callable vE.P 77 = true := by kernel_rfl
theorem WH : callable vE.P 79 = true := by kernel_rfl
theorem YB : callable vE.P 80 = true := by kernel_rfl
theorem Vk : callable vE.P 81 = true := by kernel_rfl
theorem Wl : callable vE.P 82 = true := by kernel_rfl
theorem X7 : callable vE.P 83 = true := by kernel_rfl
theorem AGq : HV vE.P 94 = 0 := by kernel_rfl
theorem ACv : BV vE.P 94 = true := by kernel_rfl
theorem AJZ : IM vE.P 5 = some .u8 := by kernel_rfl
theorem AGe : CY vE.P 5 = false := by kernel_rfl
theorem XJ : callable vE.P 84 = true := by kernel_rfl
theorem XU : callable vE.P 85 = true := by kernel_rfl
theorem AF6 : HV vE.P 23 = 1 := by kernel_rfl
theorem XF : callable vE.P 86 = true := by kernel_rfl
theorem Vx : callable vE.P 87 = false := by kernel_rfl
theorem ZO : callable vE.P 88 = true := by kernel_rfl
theorem UO : Co vE.P 102 1 = some (1, 1, false) := by kernel_rfl
theorem ACm : DT vE.P 37 = false := by kernel_rfl
theorem AEX : Df vE.P 37 = some 1 := by kernel_rfl
theorem ADw : ptrTo vE.P 115 5 = true := by kernel_rfl
theorem Xb : callable vE.P 89 = true := by kernel_rfl
theorem ZP : callable vE.P 90 = true := by kernel_rfl
theorem Yh : callable vE.P 91 = true := by kernel_rfl
theorem AC4 : HV vE.P 105 = 0 := by kernel_rfl
theorem XG : callable vE.P 92 = true := by kernel_rfl
theorem XD : callable vE.P 93 = true := by kernel_rfl
theorem ACs : CY vE.P 37 = false := by kernel_rfl
theorem XN : callable vE.P 94 = true := by kernel_rfl
theorem YZ : callable vE.P 95 = true := by kernel_rfl
theorem Zm : ∀ n, GH vE.P 122 n = some (List.map AVal.bool (TT 256)) := by intros; kernel_rfl
theorem ABu : Df vE.P 122 = some 256 := by kernel_rfl
theorem X9 : callable vE.P 96 = true := by kernel_rfl
theorem Vf : callable vE.P 97 = true := by kernel_rfl
theorem Wv : callable vE.P 98 = true := by kernel_rfl
theorem Vm : callable vE.P 99 = true := by kernel_rfl
theorem VT : callable vE.P 100 = true := by kernel_rfl
theorem TA : callable vE.P 101 = true := by kernel_rfl
theorem UC : callable vE.P 102 = true := by kernel_rfl
theorem AA2 : ∀ n, GH vE.P 130 n = some [.int .u8 0, .int .u8 0, .int .u8 0, .int .u8 0, .int .u8 0, .int .u8 0, .int .u8 0, .int .u8 0, .int .u8 0, .int .u8 0, .int .u8 0, .int .u8 0, .int .u8 0, .int .u8 0, .int .u8 0, .int .u8 0, .int .u8 0, .int .u8 0, .int .u8 0, .int .u8 0] := by intros; kernel_rfl
theorem AAX : GG vE.P 130 = some (20, 1, false) := by kernel_rfl
theorem Z9 : D9 vE.P 130 = none := by kernel_rfl
theorem UF : callable vE.P 103 = true := by kernel_rfl
theorem TC : callable vE.P 104 = true := by kernel_rfl
theorem VJ : callable vE.P 105 = true := by kernel_rfl
theorem AAl : BV vE.P 134 = true := by kernel_rfl
theorem AAc : DT vE.P 134 = true := by kernel_rfl
theorem AD6 : Df vE.P 134 = some 12 := by kernel_rfl
theorem AAY : GG vE.P 134 = some (4, 3, true) := by kernel_rfl
theorem Zd : ∀ n, GH vE.P 133 n = some [.int .u8 0, .int .u8 0, .int .i64 0] := by intros; kernel_rfl
theorem ADF : Df vE.P 133 = some 3 := by kernel_rfl
theorem Tg : Co vE.P 133 1 = some (1, 1, false) := by kernel_rfl
theorem VH : Co vE.P 133 0 = some (0, 1, false) := by kernel_rfl
theorem Uv : Co vE.P 133 2 = some (2, 1, false) := by kernel_rfl
theorem TW : callable vE.P 106 = true := by kernel_rfl
theorem Ti : callable vE.P 107 = true := by kernel_rfl
theorem AEW : Y6 vE.P 37 = some (1, .int .u8 0) := by kernel_rfl
theorem Uc : Co vE.P 102 0 = some (0, 1, false) := by kernel_rfl
theorem AAS : BV vE.P 100 = true := by kernel_rfl
theorem AAw : DT vE.P 100 = false := by kernel_rfl
theorem AC2 : Df vE.P 100 = some 1 := by kernel_rfl
theorem ACn : HV vE.P 100 = 0 := by kernel_rfl
theorem Z4 : KA vE.P 100 = true := by kernel_rfl
theorem AAA : CY vE.P 136 = false := by kernel_rfl
theorem M5 : Mv vE.P 100 136 101 2 = true := by kernel_rfl
theorem Mg : Mv vE.P 100 136 102 2 = true := by kernel_rfl
theorem VB : callable vE.P 108 = false := by kernel_rfl
theorem Zh : BV vE.P 136 = true := by kernel_rfl
theorem Zb : CY vE.P 100 = false := by kernel_rfl
theorem Ml : Mv vE.P 136 100 101 2 = true := by kernel_rfl
theorem Ma : Mv vE.P 136 100 102 2 = true := by kernel_rfl
theorem Tt : callable vE.P 109 = true := by kernel_rfl
theorem AAb : BV vE.P 122 = true := by kernel_rfl
theorem AAH : DT vE.P 122 = true := by kernel_rfl
theorem AAs : GG vE.P 122 = some (256, 1, false) := by kernel_rfl
theorem AH1 : Df vE.P 4 = some 1 := by kernel_rfl
theorem UN : callable vE.P 110 = true := by kernel_rfl
theorem TU : callable vE.P 111 = true := by kernel_rfl
theorem UK : callable vE.P 112 = true := by kernel_rfl
theorem AHd : IM vE.P 21 = some .i32 := by kernel_rfl
theorem AC6 : CY vE.P 21 = false := by kernel_rfl
theorem AG5 : HV vE.P 21 = 0 := by kernel_rfl
theorem Uo : callable vE.P 113 = true := by kernel_rfl
theorem TV : callable vE.P 114 = true := by kernel_rfl
theorem TD : callable vE.P 115 = true := by kernel_rfl
theorem U1 : callable vE.P 116 = true := by kernel_rfl
theorem Ty : callable vE.P 117 = true := by kernel_rfl
theorem Uf : callable vE.P 119 = false := by kernel_rfl
theorem U3 : callable vE.P 120 = true := by kernel_rfl
theorem TH : callable vE.P 121 = true := by kernel_rfl
theorem AFL : BV vE.P 4 = true := by kernel_rfl
theorem AG1 : DT vE.P 4 = false := by kernel_rfl
theorem TN : callable vE.P 122 = true := by kernel_rfl
theorem T9 : callable vE.P 123 = true := by kernel_rfl
theorem VY : callable vE.P 124 = true := by kernel_rfl
theorem TB : callable vE.P 125 = true := by kernel_rfl
theorem Ua : callable vE.P 126 = true := by kernel_rfl
theorem Ur : callable vE.P 127 = true := by kernel_rfl
theorem ACM : HV vE.P 146 = 0 := by kernel_rfl
theorem AGU : IM vE.P 146 = some .u32 := by kernel_rfl
theorem Z6 : CY vE.P 146 = false := by kernel_rfl
theorem AAq : GG vE.P 149 = some (256, 1, false) := by kernel_rfl
theorem AAr : GG vE.P 152 = some (16, 2, true) := by kernel_rfl
theorem AA8 : BV vE.P 151 = true := by kernel_rfl
theorem ABJ : DT vE.P 151 = true := by kernel_rfl
theorem AB5 : Df vE.P 151 = some 2 := by kernel_rfl
theorem AAD : ∀ n, GH vE.P 151 n = some [.int .u8 0, .int .u8 0] := by intros; kernel_rfl
theorem VG : Co vE.P 151 0 = some (0, 1, false) := by kernel_rfl
theorem VC : Co vE.P 151 1 = some (1, 1, false) := by kernel_rfl
theorem ADC : BV vE.P 21 = true := by kernel_rfl
theorem TI : callable vE.P 128 = true := by kernel_rfl
theorem TZ : callable vE.P 129 = true := by kernel_rfl
theorem ACg : F3 vE.P 151 = some (.agg [.int .u8 0, .int .u8 0]) := by kernel_rfl
theorem ADj : (Gm vE.P 151).isSome = true := by kernel_rfl
theorem TE : Ap vE.P 151 0 = 5 := by kernel_rfl
theorem Rk : Bu vE.P 151 0 = some (0, 1) := by kernel_rfl
theorem Tz : Ap vE.P 151 1 = 5 := by kernel_rfl
theorem Ru : Bu vE.P 151 1 = some (1, 1) := by kernel_rfl
theorem ADP : F3 vE.P 152 = some (.agg [.int .u8 0, .int .u8 0, .int .u8 0, .int .u8 0, .int .u8 0, .int .u8 0, .int .u8 0, .int .u8 0, .int .u8 0, .int .u8 0, .int .u8 0, .int .u8 0, .int .u8 0, .int .u8 0, .int .u8 0, .int .u8 0, .int .u8 0, .int .u8 0, .int .u8 0, .int .u8 0, .int .u8 0, .int .u8 0, .int .u8 0, .int .u8 0, .int .u8 0, .int .u8 0, .int .u8 0, .int .u8 0, .int .u8 0, .int .u8 0, .int .u8 0, .int .u8 0]) := by kernel_rfl
theorem ACW : (Gm vE.P 152).isSome = true := by kernel_rfl
theorem U7 : Ap vE.P 152 0 = 151 := by kernel_rfl
theorem Rq : Bu vE.P 152 0 = some (0, 2) := by kernel_rfl
theorem Uw : Ap vE.P 152 1 = 151 := by kernel_rfl
theorem RB : Bu vE.P 152 1 = some (2, 2) := by kernel_rfl
theorem UI : Ap vE.P 152 2 = 151 := by kernel_rfl
theorem RH : Bu vE.P 152 2 = some (4, 2) := by kernel_rfl
theorem UQ : Ap vE.P 152 3 = 151 := by kernel_rfl
theorem Rp : Bu vE.P 152 3 = some (6, 2) := by kernel_rfl
theorem UZ : Ap vE.P 152 4 = 151 := by kernel_rfl
theorem RG : Bu vE.P 152 4 = some (8, 2) := by kernel_rfl
theorem ACb : Df vE.P 152 = some 32 := by kernel_rfl
theorem AD0 : F3 vE.P 133 = some (.agg [.int .u8 0, .int .u8 0, .int .i64 0]) := by kernel_rfl
theorem AEA : (Gm vE.P 133).isSome = true := by kernel_rfl
theorem UH : Ap vE.P 133 0 = 5 := by kernel_rfl
theorem Ry : Bu vE.P 133 0 = some (0, 1) := by kernel_rfl
theorem VI : Ap vE.P 133 1 = 5 := by kernel_rfl
theorem Rf : Bu vE.P 133 1 = some (1, 1) := by kernel_rfl
theorem VW : Ap vE.P 133 2 = 3 := by kernel_rfl
theorem RX : Bu vE.P 133 2 = some (2, 1) := by kernel_rfl
theorem ACl : F3 vE.P 134 = some (.agg [.int .u8 0, .int .u8 0, .int .i64 0, .int .u8 0, .int .u8 0, .int .i64 0, .int .u8 0, .int .u8 0, .int .i64 0, .int .u8 0, .int .u8 0, .int .i64 0]) := by kernel_rfl
theorem ABv : (Gm vE.P 134).isSome = true := by kernel_rfl
theorem TS : Ap vE.P 134 0 = 133 := by kernel_rfl
theorem RQ : Bu vE.P 134 0 = some (0, 3) := by kernel_rfl
theorem Us : Ap vE.P 134 1 = 133 := by kernel_rfl
theorem Ra : Bu vE.P 134 1 = some (3, 3) := by kernel_rfl
theorem VL : Ap vE.P 134 2 = 133 := by kernel_rfl
theorem RD : Bu vE.P 134 2 = some (6, 3) := by kernel_rfl
theorem Ux : Ap vE.P 134 3 = 133 := by kernel_rfl
theorem RZ : Bu vE.P 134 3 = some (9, 3) := by kernel_rfl
theorem ALH : ∀ af t, rd vE af t (.global 1) = .cptr GA := by intros; rfl
theorem ALh : stripL GA = GA := by simp [GA, stripL, AVal.strip]
theorem ALX : List.take 12 GA = GA := by rfl
theorem ALi : ∀ st, Jm vE 134 (.cptr GA) st = some (.agg GA) := by intros; kernel_rfl
theorem G8 {n : Int} {x : Utf8textForm} {k : IntKind} (h : idx Ah n = some x) : CQ vE 134 (.cptr GA) (.int k n) = some (.cptr ([.int .u8 x.mark, .int .u8 x.mask, .int .i64 x.least] ++ List.drop (n.toNat * 3 + 3) GA)) := by
  unfold idx at h
  split at h
  · rename_i hn
    obtain ⟨j, rfl⟩ : ∃ j : Nat, n = j := ⟨n.toNat, by omega⟩
    rw [Int.toNat_natCast] at h
    rcases j with _ | j
    · cases h; kernel_rfl
    rcases j with _ | j
    · cases h; kernel_rfl
    rcases j with _ | j
    · cases h; kernel_rfl
    rcases j with _ | j
    · cases h; kernel_rfl
    simp [Ah] at h
  · cases h
theorem KM {n : Int} {x : Utf8textForm} {k : IntKind} (h : idx Ah n = some x) : Kk vE 134 (.agg GA) (.int k n) = some (.agg [.int .u8 x.mark, .int .u8 x.mask, .int .i64 x.least]) := by
  unfold idx at h
  split at h
  · rename_i hn
    obtain ⟨j, rfl⟩ : ∃ j : Nat, n = j := ⟨n.toNat, by omega⟩
    rw [Int.toNat_natCast] at h
    rcases j with _ | j
    · cases h; kernel_rfl
    rcases j with _ | j
    · cases h; kernel_rfl
    rcases j with _ | j
    · cases h; kernel_rfl
    rcases j with _ | j
    · cases h; kernel_rfl
    simp [Ah] at h
  · cases h
theorem AGK : (vE.P.funcs[87]?).isSome = true := by kernel_rfl
theorem AKL {l : List UInt8} {c : Int} {st : St} {Q : AVal → St → Prop} (h : Gl (Q (.int .i64 (Go.Lib.indexByte l (EW c))) st)) : ABW vE 87 [.str l, .int .u8 c] st Q := by
  refine ⟨(vE.P.funcs[87]?).get AGK, Extern.BytealgIndexByte.indexByte, .int .i64 (Go.Lib.indexByte l (EW c)), (Option.some_get AGK).symm, by kernel_rfl, by kernel_rfl, by kernel_rfl, by kernel_rfl, fun Γ vs w hr => ?_, ?_⟩
  · cases hr with | cons h1 t => cases t with | cons h2 t => cases t; cases h1; cases h2; exact ⟨_, Go.Lib.run_indexByteString _ _ w, .int _ _⟩
  · have := h.go; simpa [AVal.strip] using this
theorem ABi : (vE.P.funcs[108]?).isSome = true := by kernel_rfl
theorem AH0 {x : AVal} {st : St} {Q : AVal → St → Prop} (h : Gl (Q x.strip st)) : ABW vE 108 [x] st Q := by
  refine ⟨(vE.P.funcs[108]?).get ABi, Extern.AbiNoEscape.same, x, (Option.some_get ABi).symm, by kernel_rfl, by kernel_rfl, by kernel_rfl, by kernel_rfl, fun Γ vs w hr => ?_, ?_⟩
  · cases hr with | cons h1 t => cases t; exact ⟨_, Go.Lib.run_noEscape w _, h1⟩
  · have := h.go; simpa [AVal.strip] using this
set_option linter.defProp false
def fxE := And.intro (And.intro (And.intro (And.intro (And.intro (And.intro (And.intro (And.intro (@Zj) (@AHW)) (And.intro (@ABG) (And.intro (@AGO) (@AHk)))) (And.intro (And.intro (@AAN) (@ADl)) (And.intro (@AEn) (And.intro (@Zg) (@ACk))))) (And.intro (And.intro (And.intro (@ACf) (@XX)) (And.intro (@AHa) (And.intro (@YO) (@Yg)))) (And.intro (And.intro (@AEa) (And.intro (@AGP) (@AHM))) (And.intro (@ZC) (And.intro (@AEr) (@ABw)))))) (And.intro (And.intro (And.intro (And.intro (@AJr) (@AEL)) (And.intro (@AIJ) (And.intro (@Wh) (@ZJ)))) (And.intro (And.intro (@Xe) (And.intro (@V8) (@XA))) (And.intro (@AD1) (And.intro (@Ww) (@Vy))))) (And.intro (And.intro (And.intro (@ADE) (@AB0)) (And.intro (@AGH) (And.intro (@V3) (@Vi)))) (And.intro (And.intro (@ADV) (And.intro (@ACQ) (@AFn))) (And.intro (@Wq) (And.intro (@Rz) (@YE))))))) (And.intro (And.intro (And.intro (And.intro (And.intro (@AF2) (@AEv)) (And.intro (@AHv) (And.intro (@AFi) (@AE3)))) (And.intro (And.intro (@AC8) (@WN)) (And.intro (@ADx) (And.intro (@AGD) (@ADU))))) (And.intro (And.intro (And.intro (@ACc) (@YT)) (And.intro (@XQ) (And.intro (@Vo) (@YQ)))) (And.intro (And.intro (@AEC) (And.intro (@AF8) (@Y2))) (And.intro (@Tx) (And.intro (@Vd) (@ZM)))))) (And.intro (And.intro (And.intro (And.intro (@Xj) (@ADd)) (And.intro (@ACJ) (And.intro (@AGA) (@Xa)))) (And.intro (And.intro (@Vt) (And.intro (@ABo) (@XV))) (And.intro (@WR) (And.intro (@AEf) (@AI3))))) (And.intro (And.intro (And.intro (@AI5) (@ZH)) (And.intro (@AHi) (And.intro (@AD5) (@V7)))) (And.intro (And.intro (@ABp) (And.intro (@AEo) (@AGt))) (And.intro (@AH5) (And.intro (@AJU) (@We)))))))) (And.intro (And.intro (And.intro (And.intro (And.intro (And.intro (@Yr) (@AGo)) (And.intro (@AE9) (And.intro (@AEP) (@AFw)))) (And.intro (And.intro (@WB) (@Ue)) (And.intro (@Xo) (And.intro (@VR) (@Vr))))) (And.intro (And.intro (And.intro (@Xx) (@Xr)) (And.intro (@WY) (And.intro (@VK) (@Y0)))) (And.intro (And.intro (@UM) (And.intro (@XL) (@Ug))) (And.intro (@WE) (And.intro (@Xv) (@Ws)))))) (And.intro (And.intro (And.intro (And.intro (@Yv) (@YU)) (And.intro (@Xm) (And.intro (@Ye) (@WF)))) (And.intro (And.intro (@UR) (And.intro (@X0) (@Uj))) (And.intro (@Wi) (And.intro (@Y5) (@Yp))))) (And.intro (And.intro (And.intro (@YG) (@YP)) (And.intro (@XO) (And.intro (@Vn) (@XH)))) (And.intro (And.intro (@YD) (And.intro (@ZT) (@Vz))) (And.intro (@AEl) (And.intro (@Wy) (@Y9))))))) (And.intro (And.intro (And.intro (And.intro (And.intro (@WV) (@WL)) (And.intro (@WA) (And.intro (@X8) (@WQ)))) (And.intro (And.intro (@ZF) (@XZ)) (And.intro (@Nv) (And.intro (@ACA) (@AFR))))) (And.intro (And.intro (And.intro (@Ct) (@Xf)) (And.intro (@WZ) (And.intro (@Y1) (@Wx)))) (And.intro (And.intro (@OD) (And.intro (@ZQ) (@Ym))) (And.intro (@ACZ) (And.intro (@ACH) (@AFT)))))) (And.intro (And.intro (And.intro (And.intro (@AHg) (@Xc)) (And.intro (@AHn) (And.intro (@ZN) (@ZG)))) (And.intro (And.intro (@X6) (And.intro (@YK) (@V9))) (And.intro (@ZL) (And.intro (@AHD) (@ACR))))) (And.intro (And.intro (And.intro (@YH) (@AIv)) (And.intro (@YN) (And.intro (@AIV) (@Xn)))) (And.intro (And.intro (@YI) (And.intro (@Xh) (@WJ))) (And.intro (@Wj) (And.intro (@Vb) (@AK0))))))))) (And.intro (And.intro (And.intro (And.intro (And.intro (And.intro (And.intro (@Yd) (@XI)) (And.intro (@XP) (And.intro (@Yu) (@Yq)))) (And.intro (And.intro (@AAa) (@ZU)) (And.intro (@Yx) (And.intro (@WC) (@Xl))))) (And.intro (And.intro (And.intro (@AE5) (@AEF)) (And.intro (@VZ) (And.intro (@UV) (@V5)))) (And.intro (And.intro (@UU) (And.intro (@TF) (@WX))) (And.intro (@VO) (And.intro (@AFW) (@Xy)))))) (And.intro (And.intro (And.intro (And.intro (@Yw) (@WH)) (And.intro (@YB) (And.intro (@Vk) (@Wl)))) (And.intro (And.intro (@X7) (And.intro (@AGq) (@ACv))) (And.intro (@AJZ) (And.intro (@AGe) (@XJ))))) (And.intro (And.intro (And.intro (@XU) (@AF6)) (And.intro (@XF) (And.intro (@Vx) (@ZO)))) (And.intro (And.intro (@UO) (And.intro (@ACm) (@AEX))) (And.intro (@ADw) (And.intro (@Xb) (@ZP))))))) (And.intro (And.intro (And.intro (And.intro (And.intro (@Yh) (@AC4)) (And.intro (@XG) (And.intro (@XD) (@ACs)))) (And.intro (And.intro (@XN) (@YZ)) (And.intro (@Zm) (And.intro (@ABu) (@X9))))) (And.intro (And.intro (And.intro (@Vf) (@Wv)) (And.intro (@Vm) (And.intro (@VT) (@TA)))) (And.intro (And.intro (@UC) (And.intro (@AA2) (@AAX))) (And.intro (@Z9) (And.intro (@UF) (@TC)))))) (And.intro (And.intro (And.intro (And.intro (@VJ) (@AAl)) (And.intro (@AAc) (And.intro (@AD6) (@AAY)))) (And.intro (And.intro (@Zd) (And.intro (@ADF) (@Tg))) (And.intro (@VH) (And.intro (@Uv) (@TW))))) (And.intro (And.intro (And.intro (@Ti) (@AEW)) (And.intro (@Uc) (And.intro (@AAS) (@AAw)))) (And.intro (And.intro (@AC2) (And.intro (@ACn) (@Z4))) (And.intro (@AAA) (And.intro (@M5) (@Mg)))))))) (And.intro (And.intro (And.intro (And.intro (And.intro (And.intro (@VB) (@Zh)) (And.intro (@Zb) (And.intro (@Ml) (@Ma)))) (And.intro (And.intro (@Tt) (@AAb)) (And.intro (@AAH) (And.intro (@AAs) (@AH1))))) (And.intro (And.intro (And.intro (@UN) (@TU)) (And.intro (@UK) (And.intro (@AHd) (@AC6)))) (And.intro (And.intro (@AG5) (And.intro (@Uo) (@TV))) (And.intro (@TD) (And.intro (@U1) (@Ty)))))) (And.intro (And.intro (And.intro (And.intro (@Uf) (@U3)) (And.intro (@TH) (And.intro (@AFL) (@AG1)))) (And.intro (And.intro (@TN) (And.intro (@T9) (@VY))) (And.intro (@TB) (And.intro (@Ua) (@Ur))))) (And.intro (And.intro (And.intro (@ACM) (@AGU)) (And.intro (@Z6) (And.intro (@AAq) (@AAr)))) (And.intro (And.intro (@AA8) (And.intro (@ABJ) (@AB5))) (And.intro (@AAD) (And.intro (@VG) (@VC))))))) (And.intro (And.intro (And.intro (And.intro (And.intro (@ADC) (@TI)) (And.intro (@TZ) (And.intro (@ACg) (@ADj)))) (And.intro (And.intro (@TE) (And.intro (@Rk) (@Tz))) (And.intro (@Ru) (And.intro (@ADP) (@ACW))))) (And.intro (And.intro (And.intro (@U7) (@Rq)) (And.intro (@Uw) (And.intro (@RB) (@UI)))) (And.intro (And.intro (@RH) (And.intro (@UQ) (@Rp))) (And.intro (@UZ) (And.intro (@RG) (@ACb)))))) (And.intro (And.intro (And.intro (And.intro (@AD0) (@AEA)) (And.intro (@UH) (And.intro (@Ry) (@VI)))) (And.intro (And.intro (@Rf) (And.intro (@VW) (@RX))) (And.intro (@ACl) (And.intro (@ABv) (@TS))))) (And.intro (And.intro (And.intro (@RQ) (@Us)) (And.intro (@Ra) (And.intro (@VL) (@RD)))) (And.intro (And.intro (@Ux) (And.intro (@RZ) (@ALH))) (And.intro (@ALh) (And.intro (@ALX) (@ALi)))))))))
def vm := And.intro vmC (And.intro fxE eE)
end Go.Proofs.YtbmilkoebhmnnaaGreatDoor
