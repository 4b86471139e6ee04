import Derived.Test.YtooeobhihpkicaaGreatDoorChecked
import Derived.Test.YtooeobhihpkicaaGreatDoorVM2
import Derived.Test.YtooeobhihpkicaaGreatDoorTy
import Derived.KernelRfl
set_option linter.unusedVariables false
namespace Go.Proofs.YtooeobhihpkicaaGreatDoor
open Go.VM
noncomputable def vE:Env:=⟨Tryz.prog,vT⟩
theorem Aq:vE.P.follows .mixedOrders=true:=by kernel_rfl
theorem ZG:callable vE.P 1=false:=by kernel_rfl
theorem AHC:Ha vE.P 4=0:=by kernel_rfl
theorem Yn:callable vE.P 8=true:=by kernel_rfl
theorem ADv:Co vE.P 9=true:=by kernel_rfl
theorem AG1:Ha vE.P 3=0:=by kernel_rfl
theorem ZI:callable vE.P 9=true:=by kernel_rfl
theorem AA8: ∀n,Gc vE.P 26 n=some [.int .i64 0,.str [],.slice 1 [] true,.slice 4 [] true]:=by intros;kernel_rfl
theorem ADp:EF vE.P 26=some 4:=by kernel_rfl
theorem AE3:Ha vE.P 27=0:=by kernel_rfl
theorem AC4:CZ vE.P 26=true:=by kernel_rfl
theorem AB0:D8 vE.P 26=true:=by kernel_rfl
theorem YO:callable vE.P 10=true:=by kernel_rfl
theorem Uv:callable vE.P 11=true:=by kernel_rfl
theorem AHH:Ha vE.P 0=0:=by kernel_rfl
theorem X4:callable vE.P 12=true:=by kernel_rfl
theorem Uz:Dx vE.P 26 0=some (0,1,false):=by kernel_rfl
theorem ADZ:CZ vE.P 3=true:=by kernel_rfl
theorem AEe:D8 vE.P 3=false:=by kernel_rfl
theorem AGc:EF vE.P 3=some 1:=by kernel_rfl
theorem YR:Dx vE.P 26 2=some (2,1,false):=by kernel_rfl
theorem ACJ:CZ vE.P 23=true:=by kernel_rfl
theorem AAg:D8 vE.P 23=false:=by kernel_rfl
theorem AEw:EF vE.P 23=some 1:=by kernel_rfl
theorem VN:FD vE.P 23=true:=by kernel_rfl
theorem YG:Dx vE.P 26 3=some (3,1,false):=by kernel_rfl
theorem ABJ:CZ vE.P 24=true:=by kernel_rfl
theorem AA1:D8 vE.P 24=false:=by kernel_rfl
theorem AFG:EF vE.P 24=some 1:=by kernel_rfl
theorem YM:FD vE.P 24=true:=by kernel_rfl
theorem ADn:CZ vE.P 5=true:=by kernel_rfl
theorem AJr:Ic vE.P 3=some .i64:=by kernel_rfl
theorem AFK:Co vE.P 3=false:=by kernel_rfl
theorem ABU:Eu vE.P 23=some 1:=by kernel_rfl
theorem AFW:Ha vE.P 23=1:=by kernel_rfl
theorem AGU:Mw vE.P 23=some (1,16):=by kernel_rfl
theorem AHc:Ic vE.P 23=none:=by kernel_rfl
theorem AB1:Eu vE.P 24=some 4:=by kernel_rfl
theorem AEZ:Ha vE.P 24=4:=by kernel_rfl
theorem AGd:Mw vE.P 24=some (4,72):=by kernel_rfl
theorem AHr:Ic vE.P 24=none:=by kernel_rfl
theorem AAe:Ll vE.P 4=true:=by kernel_rfl
theorem WJ:callable vE.P 13=true:=by kernel_rfl
theorem W9:callable vE.P 14=true:=by kernel_rfl
theorem XJ:callable vE.P 15=true:=by kernel_rfl
theorem Vi:callable vE.P 17=true:=by kernel_rfl
theorem Vj:callable vE.P 18=true:=by kernel_rfl
theorem Xk:callable vE.P 16=true:=by kernel_rfl
theorem AH3:Ha vE.P 9=0:=by kernel_rfl
theorem AEY:H9 vE.P 26=some (.agg [.int .i64 0,.str [],.slice 1 [] true,.slice 4 [] true]):=by kernel_rfl
theorem AFm:(IR vE.P 26).isSome=true:=by kernel_rfl
theorem ADc:H9 vE.P 40=some (.agg [.str [],.int .i64 0,.int .i64 0,.int .i64 0,.int .i64 0]):=by kernel_rfl
theorem ADb:(IR vE.P 40).isSome=true:=by kernel_rfl
theorem Xr:Bc vE.P 40 0=9:=by kernel_rfl
theorem TT:Cy vE.P 40 0=some (0,1):=by kernel_rfl
theorem VI:callable vE.P 20=true:=by kernel_rfl
theorem XH:callable vE.P 19=true:=by kernel_rfl
theorem AB8: ∀n,Gc vE.P 43 n=some [.int .i64 0,.str [],.int .i64 0]:=by intros;kernel_rfl
theorem AFS:EF vE.P 43=some 3:=by kernel_rfl
theorem YE:Dx vE.P 40 3=some (3,1,false):=by kernel_rfl
theorem ABW:CZ vE.P 27=true:=by kernel_rfl
theorem AC9:D8 vE.P 27=false:=by kernel_rfl
theorem AFP:EF vE.P 27=some 1:=by kernel_rfl
theorem Xh:Dx vE.P 43 0=some (0,1,false):=by kernel_rfl
theorem WV:Dx vE.P 43 2=some (2,1,false):=by kernel_rfl
theorem Vk:callable vE.P 21=true:=by kernel_rfl
theorem WN:Dx vE.P 40 4=some (4,1,false):=by kernel_rfl
theorem ACB: ∀n,Gc vE.P 51 n=some [.nself n 51 2,.buf 5 [] true]:=by intros;kernel_rfl
theorem VG:callable vE.P 22=true:=by kernel_rfl
theorem WY:Dx vE.P 51 0=some (0,2,true):=by kernel_rfl
theorem Vy:callable vE.P 23=true:=by kernel_rfl
theorem Xi:callable vE.P 24=true:=by kernel_rfl
theorem YF:Dx vE.P 26 1=some (1,1,false):=by kernel_rfl
theorem ADa:CZ vE.P 9=true:=by kernel_rfl
theorem ADj:D8 vE.P 9=false:=by kernel_rfl
theorem AGF:EF vE.P 9=some 1:=by kernel_rfl
theorem V8:callable vE.P 25=true:=by kernel_rfl
theorem X9:callable vE.P 26=true:=by kernel_rfl
theorem Wu:callable vE.P 27=true:=by kernel_rfl
theorem YL:callable vE.P 29=true:=by kernel_rfl
theorem Vl:callable vE.P 28=true:=by kernel_rfl
theorem ABb: ∀n,Gc vE.P 60 n=some [.int .i64 0]:=by intros;kernel_rfl
theorem V4:callable vE.P 30=true:=by kernel_rfl
theorem Xj:callable vE.P 31=true:=by kernel_rfl
theorem XN:callable vE.P 32=true:=by kernel_rfl
theorem U9:callable vE.P 33=true:=by kernel_rfl
theorem ABl:CZ vE.P 43=true:=by kernel_rfl
theorem AAl:D8 vE.P 43=true:=by kernel_rfl
theorem VT:callable vE.P 34=true:=by kernel_rfl
theorem We:Dx vE.P 43 1=some (1,1,false):=by kernel_rfl
theorem Xw:Bc vE.P 26 0=3:=by kernel_rfl
theorem UR:Cy vE.P 26 0=some (0,1):=by kernel_rfl
theorem VQ:Bc vE.P 26 1=9:=by kernel_rfl
theorem Tp:Cy vE.P 26 1=some (1,1):=by kernel_rfl
theorem Vw:callable vE.P 35=true:=by kernel_rfl
theorem Wz:Dx vE.P 40 2=some (2,1,false):=by kernel_rfl
theorem XZ:callable vE.P 36=true:=by kernel_rfl
theorem XM:callable vE.P 37=true:=by kernel_rfl
theorem WC:callable vE.P 38=true:=by kernel_rfl
theorem AFz:H9 vE.P 43=some (.agg [.int .i64 0,.str [],.int .i64 0]):=by kernel_rfl
theorem AES:(IR vE.P 43).isSome=true:=by kernel_rfl
theorem YN:Dx vE.P 40 0=some (0,1,false):=by kernel_rfl
theorem Vq:Dx vE.P 40 1=some (1,1,false):=by kernel_rfl
theorem Xd:callable vE.P 39=true:=by kernel_rfl
theorem Vp:callable vE.P 40=true:=by kernel_rfl
theorem Vg:callable vE.P 41=true:=by kernel_rfl
theorem WL:callable vE.P 42=true:=by kernel_rfl
theorem Wt:Dx vE.P 49 1=some (1,1,false):=by kernel_rfl
theorem ABX:CZ vE.P 47=true:=by kernel_rfl
theorem AAx:D8 vE.P 47=false:=by kernel_rfl
theorem ADL:EF vE.P 47=some 1:=by kernel_rfl
theorem WQ:FD vE.P 47=true:=by kernel_rfl
theorem AD7:ptrTo vE.P 75 5=true:=by kernel_rfl
theorem Vx:callable vE.P 43=true:=by kernel_rfl
theorem AER:Ha vE.P 47=1:=by kernel_rfl
theorem AGI:Mw vE.P 47=some (1,1):=by kernel_rfl
theorem WZ:Bc vE.P 47 0=5:=by kernel_rfl
theorem AGf:Ha vE.P 5=0:=by kernel_rfl
theorem AHB:Ic vE.P 47=none:=by kernel_rfl
theorem AJi:Ic vE.P 9=none:=by kernel_rfl
theorem VJ:QD vE.P 47 5=true:=by kernel_rfl
theorem AJL:u8T vE.P 47=true:=by kernel_rfl
theorem U6:Bc vE.P 24 0=26:=by kernel_rfl
theorem XF:callable vE.P 44=true:=by kernel_rfl
theorem Wv:Bc vE.P 23 0=9:=by kernel_rfl
theorem Vt:Dx vE.P 60 0=some (0,1,false):=by kernel_rfl
theorem Xl:callable vE.P 45=true:=by kernel_rfl
theorem XA:callable vE.P 46=true:=by kernel_rfl
theorem Wq:callable vE.P 47=true:=by kernel_rfl
theorem Vr:callable vE.P 48=true:=by kernel_rfl
theorem Wj:callable vE.P 49=true:=by kernel_rfl
theorem X5:FD vE.P 79=true:=by kernel_rfl
theorem ABZ:Eu vE.P 79=some 1:=by kernel_rfl
theorem WG:callable vE.P 50=true:=by kernel_rfl
theorem Xp:callable vE.P 51=true:=by kernel_rfl
theorem Vd:callable vE.P 53=true:=by kernel_rfl
theorem Xc:callable vE.P 52=true:=by kernel_rfl
theorem AF5:Ic vE.P 84=some .u64:=by kernel_rfl
theorem ACp:Co vE.P 84=false:=by kernel_rfl
theorem Uw:callable vE.P 54=true:=by kernel_rfl
theorem XL:callable vE.P 55=true:=by kernel_rfl
theorem Wi:Bc vE.P 43 0=3:=by kernel_rfl
theorem UH:Cy vE.P 43 0=some (0,1):=by kernel_rfl
theorem V9:Bc vE.P 43 2=3:=by kernel_rfl
theorem SB:Cy vE.P 43 2=some (2,1):=by kernel_rfl
theorem YA:callable vE.P 56=true:=by kernel_rfl
theorem VP:Bc vE.P 43 1=9:=by kernel_rfl
theorem TL:Cy vE.P 43 1=some (1,1):=by kernel_rfl
theorem WW:callable vE.P 57=true:=by kernel_rfl
theorem VY:callable vE.P 58=true:=by kernel_rfl
theorem WT:callable vE.P 59=true:=by kernel_rfl
theorem AE6:Ha vE.P 70=0:=by kernel_rfl
theorem U2:callable vE.P 60=true:=by kernel_rfl
theorem Vu:callable vE.P 61=true:=by kernel_rfl
theorem YB:callable vE.P 62=true:=by kernel_rfl
theorem X3:callable vE.P 63=true:=by kernel_rfl
theorem YS:callable vE.P 64=true:=by kernel_rfl
theorem AD4:Ha vE.P 79=1:=by kernel_rfl
theorem AD8:XY vE.P 79=some (8,.int .i64 0):=by kernel_rfl
theorem V6:callable vE.P 65=true:=by kernel_rfl
theorem WI:callable vE.P 68=true:=by kernel_rfl
theorem AEr:Ha vE.P 84=0:=by kernel_rfl
theorem ACh:CZ vE.P 84=true:=by kernel_rfl
theorem AJs:Ic vE.P 5=some .u8:=by kernel_rfl
theorem AFI:Co vE.P 5=false:=by kernel_rfl
theorem Vo:callable vE.P 69=true:=by kernel_rfl
theorem Xt:callable vE.P 70=true:=by kernel_rfl
theorem YJ:Dx vE.P 49 0=some (0,1,false):=by kernel_rfl
theorem ACk:CZ vE.P 46=true:=by kernel_rfl
theorem ABo:D8 vE.P 46=false:=by kernel_rfl
theorem ADi:EF vE.P 46=some 1:=by kernel_rfl
theorem AEh:Ha vE.P 46=0:=by kernel_rfl
theorem AAh:Kg vE.P 46=true:=by kernel_rfl
theorem AAz:Co vE.P 94=false:=by kernel_rfl
theorem Ox:J7 vE.P 46 94 48 2=true:=by kernel_rfl
theorem P6:J7 vE.P 46 94 49 2=true:=by kernel_rfl
theorem O4:J7 vE.P 46 94 50 2=true:=by kernel_rfl
theorem PP:J7 vE.P 46 94 51 2=true:=by kernel_rfl
theorem WX:callable vE.P 71=false:=by kernel_rfl
theorem ACM:CZ vE.P 94=true:=by kernel_rfl
theorem ACm:Co vE.P 46=false:=by kernel_rfl
theorem O5:J7 vE.P 94 46 48 2=true:=by kernel_rfl
theorem PE:J7 vE.P 94 46 49 2=true:=by kernel_rfl
theorem PH:J7 vE.P 94 46 50 2=true:=by kernel_rfl
theorem PI:J7 vE.P 94 46 51 2=true:=by kernel_rfl
theorem YK:callable vE.P 72=true:=by kernel_rfl
theorem ACH:H9 vE.P 100=some (.agg [.str [],.int .i64 0]):=by kernel_rfl
theorem ABL:(IR vE.P 100).isSome=true:=by kernel_rfl
theorem Uf:Bc vE.P 100 0=9:=by kernel_rfl
theorem Qw:Cy vE.P 100 0=some (0,1):=by kernel_rfl
theorem Xz:callable vE.P 73=true:=by kernel_rfl
theorem Xf:callable vE.P 75=true:=by kernel_rfl
theorem XD:callable vE.P 74=true:=by kernel_rfl
theorem Wp:callable vE.P 76=true:=by kernel_rfl
theorem WK:callable vE.P 77=true:=by kernel_rfl
theorem Wm:callable vE.P 78=true:=by kernel_rfl
theorem XV:callable vE.P 79=true:=by kernel_rfl
theorem XB:callable vE.P 80=true:=by kernel_rfl
theorem AGJ:Ic vE.P 97=some .u64:=by kernel_rfl
theorem AAm:Co vE.P 97=false:=by kernel_rfl
theorem Xu:callable vE.P 82=true:=by kernel_rfl
theorem Vn:callable vE.P 81=true:=by kernel_rfl
theorem VS:callable vE.P 67=true:=by kernel_rfl
theorem YP:callable vE.P 83=true:=by kernel_rfl
theorem VO:callable vE.P 84=true:=by kernel_rfl
theorem Wh:callable vE.P 85=true:=by kernel_rfl
theorem XX:callable vE.P 86=true:=by kernel_rfl
theorem VE:callable vE.P 87=true:=by kernel_rfl
theorem TF:Dx vE.P 100 1=some (1,1,false):=by kernel_rfl
theorem Uy:callable vE.P 88=true:=by kernel_rfl
theorem U5:callable vE.P 89=true:=by kernel_rfl
theorem XG:callable vE.P 91=true:=by kernel_rfl
theorem R8:Dx vE.P 100 0=some (0,1,false):=by kernel_rfl
theorem Xg:callable vE.P 92=true:=by kernel_rfl
theorem ABy:Co vE.P 47=false:=by kernel_rfl
theorem ACZ:Eu vE.P 47=some 1:=by kernel_rfl
theorem AD5:D8 vE.P 5=false:=by kernel_rfl
theorem AGa:EF vE.P 5=some 1:=by kernel_rfl
theorem Uu:callable vE.P 93=true:=by kernel_rfl
theorem Ve:callable vE.P 94=true:=by kernel_rfl
theorem Yl: ∀n,Gc vE.P 116 n=some (List.map AVal.bool (Sl 256)):=by intros;kernel_rfl
theorem ABz:EF vE.P 116=some 256:=by kernel_rfl
theorem XE:callable vE.P 95=true:=by kernel_rfl
theorem Vv:callable vE.P 96=true:=by kernel_rfl
theorem XW:callable vE.P 97=true:=by kernel_rfl
theorem XR:callable vE.P 98=true:=by kernel_rfl
theorem Xn:callable vE.P 99=true:=by kernel_rfl
theorem TW:callable vE.P 100=true:=by kernel_rfl
theorem Tc:callable vE.P 101=true:=by kernel_rfl
theorem Zp: ∀n,Gc vE.P 124 n=some [.int .u8 0,.int .u8 0,.int .u8 0,.int .u8 0,.int .u8 0,.int .u8 0,.int .u8 0,.int .u8 0,.int .u8 0,.int .u8 0,.int .u8 0,.int .u8 0,.int .u8 0,.int .u8 0,.int .u8 0,.int .u8 0,.int .u8 0,.int .u8 0,.int .u8 0,.int .u8 0]:=by intros;kernel_rfl
theorem ZU:Gz vE.P 124=some (20,1,false):=by kernel_rfl
theorem ZQ:Eu vE.P 124=none:=by kernel_rfl
theorem Sd:callable vE.P 102=true:=by kernel_rfl
theorem Tk:callable vE.P 103=true:=by kernel_rfl
theorem Ud:callable vE.P 104=true:=by kernel_rfl
theorem TY:callable vE.P 105=true:=by kernel_rfl
theorem UY:callable vE.P 106=true:=by kernel_rfl
theorem ACY:Ha vE.P 126=0:=by kernel_rfl
theorem UI:callable vE.P 107=true:=by kernel_rfl
theorem Tu:callable vE.P 108=true:=by kernel_rfl
theorem Ui:callable vE.P 109=true:=by kernel_rfl
theorem Uj:callable vE.P 110=true:=by kernel_rfl
theorem ABF:CZ vE.P 97=true:=by kernel_rfl
theorem AEG:Ic vE.P 133=some .u32:=by kernel_rfl
theorem ZV:Co vE.P 133=false:=by kernel_rfl
theorem SS:callable vE.P 111=true:=by kernel_rfl
theorem TQ:callable vE.P 112=true:=by kernel_rfl
theorem Ut:callable vE.P 113=true:=by kernel_rfl
theorem SY:callable vE.P 114=true:=by kernel_rfl
theorem UN:callable vE.P 115=false:=by kernel_rfl
theorem UM:callable vE.P 116=true:=by kernel_rfl
theorem Yi:CZ vE.P 116=true:=by kernel_rfl
theorem ZT:D8 vE.P 116=true:=by kernel_rfl
theorem ZK:Gz vE.P 116=some (256,1,false):=by kernel_rfl
theorem AHV:EF vE.P 4=some 1:=by kernel_rfl
theorem UE:callable vE.P 117=true:=by kernel_rfl
theorem R9:callable vE.P 118=true:=by kernel_rfl
theorem UA:callable vE.P 119=true:=by kernel_rfl
theorem AGq:Ic vE.P 21=some .i32:=by kernel_rfl
theorem ABf:Co vE.P 21=false:=by kernel_rfl
theorem AFH:Ha vE.P 21=0:=by kernel_rfl
theorem SA:callable vE.P 120=true:=by kernel_rfl
theorem Sj:callable vE.P 121=true:=by kernel_rfl
theorem UT:callable vE.P 122=true:=by kernel_rfl
theorem Ye:CZ vE.P 142=true:=by kernel_rfl
theorem Z4:D8 vE.P 142=true:=by kernel_rfl
theorem ABp:EF vE.P 142=some 12:=by kernel_rfl
theorem YT:Gz vE.P 142=some (4,3,true):=by kernel_rfl
theorem Yk: ∀n,Gc vE.P 141 n=some [.int .u8 0,.int .u8 0,.int .i64 0]:=by intros;kernel_rfl
theorem ACD:EF vE.P 141=some 3:=by kernel_rfl
theorem Si:Dx vE.P 141 1=some (1,1,false):=by kernel_rfl
theorem Sb:Dx vE.P 141 0=some (0,1,false):=by kernel_rfl
theorem Sr:Dx vE.P 141 2=some (2,1,false):=by kernel_rfl
theorem Te:callable vE.P 123=true:=by kernel_rfl
theorem UD:callable vE.P 124=true:=by kernel_rfl
theorem AFZ:Ic vE.P 143=some .u64:=by kernel_rfl
theorem Zj:Co vE.P 143=false:=by kernel_rfl
theorem ZJ: ∀n,Gc vE.P 143 n=some [.int .u64 0]:=by intros;kernel_rfl
theorem ABQ:EF vE.P 143=some 1:=by kernel_rfl
theorem Us:callable vE.P 125=true:=by kernel_rfl
theorem TC:callable vE.P 126=true:=by kernel_rfl
theorem AEE:Ha vE.P 97=0:=by kernel_rfl
theorem AEv: ∀n,Gc vE.P 3 n=some [.int .i64 0]:=by intros;kernel_rfl
theorem Tg:callable vE.P 127=true:=by kernel_rfl
theorem SK:callable vE.P 128=true:=by kernel_rfl
theorem AAt:Ha vE.P 133=0:=by kernel_rfl
theorem Yr:CZ vE.P 133=true:=by kernel_rfl
theorem Ug:callable vE.P 129=true:=by kernel_rfl
theorem SI:callable vE.P 130=false:=by kernel_rfl
theorem SG:callable vE.P 131=true:=by kernel_rfl
theorem Tf:callable vE.P 132=true:=by kernel_rfl
theorem AED:CZ vE.P 4=true:=by kernel_rfl
theorem ADy:D8 vE.P 4=false:=by kernel_rfl
theorem SX:callable vE.P 133=true:=by kernel_rfl
theorem UQ:callable vE.P 134=true:=by kernel_rfl
theorem UK:callable vE.P 135=true:=by kernel_rfl
theorem TZ:callable vE.P 136=true:=by kernel_rfl
theorem ZX:CZ vE.P 143=true:=by kernel_rfl
theorem YU:D8 vE.P 143=false:=by kernel_rfl
theorem AC0:Ha vE.P 143=0:=by kernel_rfl
theorem Tz:callable vE.P 137=true:=by kernel_rfl
theorem TG:callable vE.P 138=true:=by kernel_rfl
theorem Ty:callable vE.P 139=true:=by kernel_rfl
theorem Zb:Gz vE.P 158=some (256,1,false):=by kernel_rfl
theorem Zf:Gz vE.P 161=some (16,2,true):=by kernel_rfl
theorem Yh:CZ vE.P 160=true:=by kernel_rfl
theorem Y1:D8 vE.P 160=true:=by kernel_rfl
theorem ABx:EF vE.P 160=some 2:=by kernel_rfl
theorem ZF: ∀n,Gc vE.P 160 n=some [.int .u8 0,.int .u8 0]:=by intros;kernel_rfl
theorem Tx:Dx vE.P 160 0=some (0,1,false):=by kernel_rfl
theorem TU:Dx vE.P 160 1=some (1,1,false):=by kernel_rfl
theorem ACI:CZ vE.P 21=true:=by kernel_rfl
theorem Um:callable vE.P 140=true:=by kernel_rfl
theorem Xv:callable vE.P 90=true:=by kernel_rfl
theorem ABg:H9 vE.P 160=some (.agg [.int .u8 0,.int .u8 0]):=by kernel_rfl
theorem ACT:(IR vE.P 160).isSome=true:=by kernel_rfl
theorem T9:Bc vE.P 160 0=5:=by kernel_rfl
theorem Qh:Cy vE.P 160 0=some (0,1):=by kernel_rfl
theorem Un:Bc vE.P 160 1=5:=by kernel_rfl
theorem Qo:Cy vE.P 160 1=some (1,1):=by kernel_rfl
theorem ACC:H9 vE.P 161=some (.agg [.int .u8 0,.int .u8 0,.int .u8 0,.int .u8 0,.int .u8 0,.int .u8 0,.int .u8 0,.int .u8 0,.int .u8 0,.int .u8 0,.int .u8 0,.int .u8 0,.int .u8 0,.int .u8 0,.int .u8 0,.int .u8 0,.int .u8 0,.int .u8 0,.int .u8 0,.int .u8 0,.int .u8 0,.int .u8 0,.int .u8 0,.int .u8 0,.int .u8 0,.int .u8 0,.int .u8 0,.int .u8 0,.int .u8 0,.int .u8 0,.int .u8 0,.int .u8 0]):=by kernel_rfl
theorem ABs:(IR vE.P 161).isSome=true:=by kernel_rfl
theorem SC:Bc vE.P 161 0=160:=by kernel_rfl
theorem Qk:Cy vE.P 161 0=some (0,2):=by kernel_rfl
theorem SF:Bc vE.P 161 1=160:=by kernel_rfl
theorem Qa:Cy vE.P 161 1=some (2,2):=by kernel_rfl
theorem Sg:Bc vE.P 161 2=160:=by kernel_rfl
theorem Qb:Cy vE.P 161 2=some (4,2):=by kernel_rfl
theorem Tt:Bc vE.P 161 3=160:=by kernel_rfl
theorem Qq:Cy vE.P 161 3=some (6,2):=by kernel_rfl
theorem UB:Bc vE.P 161 4=160:=by kernel_rfl
theorem Qf:Cy vE.P 161 4=some (8,2):=by kernel_rfl
theorem AAv:EF vE.P 161=some 32:=by kernel_rfl
theorem ACs:H9 vE.P 141=some (.agg [.int .u8 0,.int .u8 0,.int .i64 0]):=by kernel_rfl
theorem ACi:(IR vE.P 141).isSome=true:=by kernel_rfl
theorem UV:Bc vE.P 141 0=5:=by kernel_rfl
theorem Qm:Cy vE.P 141 0=some (0,1):=by kernel_rfl
theorem Uc:Bc vE.P 141 1=5:=by kernel_rfl
theorem Qt:Cy vE.P 141 1=some (1,1):=by kernel_rfl
theorem SH:Bc vE.P 141 2=3:=by kernel_rfl
theorem Qr:Cy vE.P 141 2=some (2,1):=by kernel_rfl
theorem ACv:H9 vE.P 142=some (.agg [.int .u8 0,.int .u8 0,.int .i64 0,.int .u8 0,.int .u8 0,.int .i64 0,.int .u8 0,.int .u8 0,.int .i64 0,.int .u8 0,.int .u8 0,.int .i64 0]):=by kernel_rfl
theorem ABw:(IR vE.P 142).isSome=true:=by kernel_rfl
theorem Ul:Bc vE.P 142 0=141:=by kernel_rfl
theorem Qd:Cy vE.P 142 0=some (0,3):=by kernel_rfl
theorem Ue:Bc vE.P 142 1=141:=by kernel_rfl
theorem Qs:Cy vE.P 142 1=some (3,3):=by kernel_rfl
theorem TR:Bc vE.P 142 2=141:=by kernel_rfl
theorem Qu:Cy vE.P 142 2=some (6,3):=by kernel_rfl
theorem TN:Bc vE.P 142 3=141:=by kernel_rfl
theorem Qy:Cy vE.P 142 3=some (9,3):=by kernel_rfl
theorem AKJ: ∀af t,rd vE af t (.global 0)=.cptr IZ:=by intros;rfl
theorem AKP:stripL IZ=IZ:=by simp[IZ,stripL,AVal.strip]
theorem AKa:List.take 12 IZ=IZ:=by rfl
theorem AKD: ∀st,J9 vE 142 (.cptr IZ) st=some (.agg IZ):=by intros;kernel_rfl
theorem Kr{n:Int}{x:Utf8textForm}{k:IntKind} (h:idx DU n=some x):LY vE 142 (.agg IZ) (.int k n)=some (.agg [.int .u8 x.mark,.int .u8 x.mask,.int .i64 x.least]):=by
  unfold idx at h
  split at h
  · rename_i hn
    obtain⟨j,rfl⟩: ∃j:Nat,n=j:=⟨n.toNat,by omega⟩
    rw[Int.toNat_natCast]at h
    rcases j with _|j
    · cases h;kernel_rfl
    rcases j with _|j
    · cases h;kernel_rfl
    rcases j with _|j
    · cases h;kernel_rfl
    rcases j with _|j
    · cases h;kernel_rfl
    simp[DU]at h
  · cases h
theorem AF0:(vE.P.funcs[71]?).isSome=true:=by kernel_rfl
theorem AI8{x:AVal}{st:St}{Q:AVal→St→Prop} (h:Gl (Q x.strip st)):AAG vE 71 [x] st Q:=by
  refine⟨(vE.P.funcs[71]?).get AF0,Extern.AbiNoEscape.same,x,(Option.some_get AF0).symm,by kernel_rfl,by kernel_rfl,by kernel_rfl,by kernel_rfl,fun Γ vs w hr=>?_,?_⟩
  · cases hr with|cons h1 t=>cases t;exact⟨_,Go.Lib.run_noEscape w _,h1⟩
  · have:=h.go;simpa[AVal.strip]using this
theorem AAF:(vE.P.funcs[115]?).isSome=true:=by kernel_rfl
theorem AHk{l:List UInt8}{c:Int}{st:St}{Q:AVal→St→Prop} (h:Gl (Q (.int .i64 (Go.Lib.indexByte l (IQ c))) st)):AAG vE 115 [.str l,.int .u8 c] st Q:=by
  refine⟨(vE.P.funcs[115]?).get AAF,Extern.BytealgIndexByte.indexByte,.int .i64 (Go.Lib.indexByte l (IQ c)),(Option.some_get AAF).symm,by kernel_rfl,by kernel_rfl,by kernel_rfl,by kernel_rfl,fun Γ vs w hr=>?_,?_⟩
  · cases hr with|cons h1 t=>cases t with|cons h2 t=>cases t;cases h1;cases h2;exact⟨_,Go.Lib.run_indexByteString _ _ w,.int _ _⟩
  · have:=h.go;simpa[AVal.strip]using this
set_option linter.defProp false
def fxE:=And.intro (And.intro (And.intro (And.intro (And.intro (And.intro (And.intro (And.intro (@ZG) (@AHC)) (And.intro (@Yn) (And.intro (@ADv) (@AG1)))) (And.intro (And.intro (@ZI) (And.intro (@AA8) (@ADp))) (And.intro (@AE3) (And.intro (@AC4) (@AB0))))) (And.intro (And.intro (And.intro (@YO) (@Uv)) (And.intro (@AHH) (And.intro (@X4) (@Uz)))) (And.intro (And.intro (@ADZ) (And.intro (@AEe) (@AGc))) (And.intro (@YR) (And.intro (@ACJ) (@AAg)))))) (And.intro (And.intro (And.intro (And.intro (@AEw) (@VN)) (And.intro (@YG) (And.intro (@ABJ) (@AA1)))) (And.intro (And.intro (@AFG) (And.intro (@YM) (@ADn))) (And.intro (@AJr) (And.intro (@AFK) (@ABU))))) (And.intro (And.intro (And.intro (@AFW) (@AGU)) (And.intro (@AHc) (And.intro (@AB1) (@AEZ)))) (And.intro (And.intro (@AGd) (And.intro (@AHr) (@AAe))) (And.intro (@WJ) (And.intro (@W9) (@XJ))))))) (And.intro (And.intro (And.intro (And.intro (And.intro (@Vi) (@Vj)) (And.intro (@Xk) (And.intro (@AH3) (@AEY)))) (And.intro (And.intro (@AFm) (And.intro (@ADc) (@ADb))) (And.intro (@Xr) (And.intro (@TT) (@VI))))) (And.intro (And.intro (And.intro (@XH) (@AB8)) (And.intro (@AFS) (And.intro (@YE) (@ABW)))) (And.intro (And.intro (@AC9) (And.intro (@AFP) (@Xh))) (And.intro (@WV) (And.intro (@Vk) (@WN)))))) (And.intro (And.intro (And.intro (And.intro (@ACB) (@VG)) (And.intro (@WY) (And.intro (@Vy) (@Xi)))) (And.intro (And.intro (@YF) (And.intro (@ADa) (@ADj))) (And.intro (@AGF) (And.intro (@V8) (@X9))))) (And.intro (And.intro (And.intro (@Wu) (@YL)) (And.intro (@Vl) (And.intro (@ABb) (@V4)))) (And.intro (And.intro (@Xj) (And.intro (@XN) (@U9))) (And.intro (@ABl) (And.intro (@AAl) (@VT)))))))) (And.intro (And.intro (And.intro (And.intro (And.intro (And.intro (@We) (@Xw)) (And.intro (@UR) (And.intro (@VQ) (@Tp)))) (And.intro (And.intro (@Vw) (And.intro (@Wz) (@XZ))) (And.intro (@XM) (And.intro (@WC) (@AFz))))) (And.intro (And.intro (And.intro (@AES) (@YN)) (And.intro (@Vq) (And.intro (@Xd) (@Vp)))) (And.intro (And.intro (@Vg) (And.intro (@WL) (@Wt))) (And.intro (@ABX) (And.intro (@AAx) (@ADL)))))) (And.intro (And.intro (And.intro (And.intro (@WQ) (@AD7)) (And.intro (@Vx) (And.intro (@AER) (@AGI)))) (And.intro (And.intro (@WZ) (And.intro (@AGf) (@AHB))) (And.intro (@AJi) (And.intro (@VJ) (@AJL))))) (And.intro (And.intro (And.intro (@U6) (@XF)) (And.intro (@Wv) (And.intro (@Vt) (@Xl)))) (And.intro (And.intro (@XA) (And.intro (@Wq) (@Vr))) (And.intro (@Wj) (And.intro (@X5) (@ABZ))))))) (And.intro (And.intro (And.intro (And.intro (And.intro (@WG) (@Xp)) (And.intro (@Vd) (And.intro (@Xc) (@AF5)))) (And.intro (And.intro (@ACp) (And.intro (@Uw) (@XL))) (And.intro (@Wi) (And.intro (@UH) (@V9))))) (And.intro (And.intro (And.intro (@SB) (@YA)) (And.intro (@VP) (And.intro (@TL) (@WW)))) (And.intro (And.intro (@VY) (And.intro (@WT) (@AE6))) (And.intro (@U2) (And.intro (@Vu) (@YB)))))) (And.intro (And.intro (And.intro (And.intro (@X3) (@YS)) (And.intro (@AD4) (And.intro (@AD8) (@V6)))) (And.intro (And.intro (@WI) (And.intro (@AEr) (@ACh))) (And.intro (@AJs) (And.intro (@AFI) (@Vo))))) (And.intro (And.intro (And.intro (@Xt) (And.intro (@YJ) (@ACk))) (And.intro (@ABo) (And.intro (@ADi) (@AEh)))) (And.intro (And.intro (@AAh) (And.intro (@AAz) (@Ox))) (And.intro (@P6) (And.intro (@O4) (@PP))))))))) (And.intro (And.intro (And.intro (And.intro (And.intro (And.intro (And.intro (@WX) (@ACM)) (And.intro (@ACm) (And.intro (@O5) (@PE)))) (And.intro (And.intro (@PH) (And.intro (@PI) (@YK))) (And.intro (@ACH) (And.intro (@ABL) (@Uf))))) (And.intro (And.intro (And.intro (@Qw) (@Xz)) (And.intro (@Xf) (And.intro (@XD) (@Wp)))) (And.intro (And.intro (@WK) (And.intro (@Wm) (@XV))) (And.intro (@XB) (And.intro (@AGJ) (@AAm)))))) (And.intro (And.intro (And.intro (And.intro (@Xu) (@Vn)) (And.intro (@VS) (And.intro (@YP) (@VO)))) (And.intro (And.intro (@Wh) (And.intro (@XX) (@VE))) (And.intro (@TF) (And.intro (@Uy) (@U5))))) (And.intro (And.intro (And.intro (@XG) (@R8)) (And.intro (@Xg) (And.intro (@ABy) (@ACZ)))) (And.intro (And.intro (@AD5) (And.intro (@AGa) (@Uu))) (And.intro (@Ve) (And.intro (@Yl) (@ABz))))))) (And.intro (And.intro (And.intro (And.intro (And.intro (@XE) (@Vv)) (And.intro (@XW) (And.intro (@XR) (@Xn)))) (And.intro (And.intro (@TW) (And.intro (@Tc) (@Zp))) (And.intro (@ZU) (And.intro (@ZQ) (@Sd))))) (And.intro (And.intro (And.intro (@Tk) (@Ud)) (And.intro (@TY) (And.intro (@UY) (@ACY)))) (And.intro (And.intro (@UI) (And.intro (@Tu) (@Ui))) (And.intro (@Uj) (And.intro (@ABF) (@AEG)))))) (And.intro (And.intro (And.intro (And.intro (@ZV) (@SS)) (And.intro (@TQ) (And.intro (@Ut) (@SY)))) (And.intro (And.intro (@UN) (And.intro (@UM) (@Yi))) (And.intro (@ZT) (And.intro (@ZK) (@AHV))))) (And.intro (And.intro (And.intro (@UE) (@R9)) (And.intro (@UA) (And.intro (@AGq) (@ABf)))) (And.intro (And.intro (@AFH) (And.intro (@SA) (@Sj))) (And.intro (@UT) (And.intro (@Ye) (@Z4)))))))) (And.intro (And.intro (And.intro (And.intro (And.intro (And.intro (@ABp) (@YT)) (And.intro (@Yk) (And.intro (@ACD) (@Si)))) (And.intro (And.intro (@Sb) (And.intro (@Sr) (@Te))) (And.intro (@UD) (And.intro (@AFZ) (@Zj))))) (And.intro (And.intro (And.intro (@ZJ) (@ABQ)) (And.intro (@Us) (And.intro (@TC) (@AEE)))) (And.intro (And.intro (@AEv) (And.intro (@Tg) (@SK))) (And.intro (@AAt) (And.intro (@Yr) (@Ug)))))) (And.intro (And.intro (And.intro (And.intro (@SI) (@SG)) (And.intro (@Tf) (And.intro (@AED) (@ADy)))) (And.intro (And.intro (@SX) (And.intro (@UQ) (@UK))) (And.intro (@TZ) (And.intro (@ZX) (@YU))))) (And.intro (And.intro (And.intro (@AC0) (@Tz)) (And.intro (@TG) (And.intro (@Ty) (@Zb)))) (And.intro (And.intro (@Zf) (And.intro (@Yh) (@Y1))) (And.intro (@ABx) (And.intro (@ZF) (@Tx))))))) (And.intro (And.intro (And.intro (And.intro (And.intro (@TU) (@ACI)) (And.intro (@Um) (And.intro (@Xv) (@ABg)))) (And.intro (And.intro (@ACT) (And.intro (@T9) (@Qh))) (And.intro (@Un) (And.intro (@Qo) (@ACC))))) (And.intro (And.intro (And.intro (@ABs) (@SC)) (And.intro (@Qk) (And.intro (@SF) (@Qa)))) (And.intro (And.intro (@Sg) (And.intro (@Qb) (@Tt))) (And.intro (@Qq) (And.intro (@UB) (@Qf)))))) (And.intro (And.intro (And.intro (And.intro (@AAv) (@ACs)) (And.intro (@ACi) (And.intro (@UV) (@Qm)))) (And.intro (And.intro (@Uc) (And.intro (@Qt) (@SH))) (And.intro (@Qr) (And.intro (@ACv) (@ABw))))) (And.intro (And.intro (And.intro (@Ul) (And.intro (@Qd) (@Ue))) (And.intro (@Qs) (And.intro (@TR) (@Qu)))) (And.intro (And.intro (@TN) (And.intro (@Qy) (@AKJ))) (And.intro (@AKP) (And.intro (@AKa) (@AKD)))))))))
def vm:=And.intro vmC (And.intro fxE eE)
end Go.Proofs.YtooeobhihpkicaaGreatDoor
