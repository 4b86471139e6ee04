import Derived.Test.YtooeobhihpkicaaGreatDoorChecked
import Derived.Test.YtooeobhihpkicaaGreatDoorVM2
import Derived.Test.YtooeobhihpkicaaGreatDoorTy
import Derived.KernelRfl
set_option linter.unusedVariables false
namespace Go.Proofs.YtooeobhihpkicaaGreatDoor
open Go.VM
noncomputable def vE:Env:=⟨Tryz.prog,vT⟩
theorem Ak:vE.P.follows .mixedOrders=true:=by kernel_rfl
theorem AAp:callable vE.P 1=false:=by kernel_rfl
theorem AID:H9 vE.P 4=0:=by kernel_rfl
theorem ABH:callable vE.P 8=true:=by kernel_rfl
theorem AFJ:Cz vE.P 9=true:=by kernel_rfl
theorem AI5:H9 vE.P 3=0:=by kernel_rfl
theorem AAb:callable vE.P 9=true:=by kernel_rfl
theorem ADF: ∀n,Gp vE.P 26 n=some [.int .i64 0,.str [],.slice 1 [] true,.slice 4 [] true]:=by intros;kernel_rfl
theorem AEg:Ec vE.P 26=some 4:=by kernel_rfl
theorem AE0:H9 vE.P 27=0:=by kernel_rfl
theorem ACT:Cc vE.P 26=true:=by kernel_rfl
theorem AEc:EW vE.P 26=true:=by kernel_rfl
theorem WX:callable vE.P 10=true:=by kernel_rfl
theorem XT:callable vE.P 11=true:=by kernel_rfl
theorem AIo:H9 vE.P 0=0:=by kernel_rfl
theorem Xf:callable vE.P 12=true:=by kernel_rfl
theorem XI:EL vE.P 26 0=some (0,1,false):=by kernel_rfl
theorem AGC:Cc vE.P 3=true:=by kernel_rfl
theorem AGi:EW vE.P 3=false:=by kernel_rfl
theorem AJF:Ec vE.P 3=some 1:=by kernel_rfl
theorem ZW:EL vE.P 26 2=some (2,1,false):=by kernel_rfl
theorem ADz:Cc vE.P 23=true:=by kernel_rfl
theorem ACB:EW vE.P 23=false:=by kernel_rfl
theorem AGh:Ec vE.P 23=some 1:=by kernel_rfl
theorem WW:FW vE.P 23=true:=by kernel_rfl
theorem Wh:EL vE.P 26 3=some (3,1,false):=by kernel_rfl
theorem AEP:Cc vE.P 24=true:=by kernel_rfl
theorem ACW:EW vE.P 24=false:=by kernel_rfl
theorem AFj:Ec vE.P 24=some 1:=by kernel_rfl
theorem Y5:FW vE.P 24=true:=by kernel_rfl
theorem AHF:Cc vE.P 5=true:=by kernel_rfl
theorem AKa:JC vE.P 3=some .i64:=by kernel_rfl
theorem AGy:Cz vE.P 3=false:=by kernel_rfl
theorem AB4:FQ vE.P 23=some 1:=by kernel_rfl
theorem AFG:H9 vE.P 23=1:=by kernel_rfl
theorem AIg:N9 vE.P 23=some (1,16):=by kernel_rfl
theorem AJD:JC vE.P 23=none:=by kernel_rfl
theorem AET:FQ vE.P 24=some 4:=by kernel_rfl
theorem AHQ:H9 vE.P 24=4:=by kernel_rfl
theorem AHS:N9 vE.P 24=some (4,72):=by kernel_rfl
theorem AHv:JC vE.P 24=none:=by kernel_rfl
theorem ADt:MO vE.P 4=true:=by kernel_rfl
theorem XM:callable vE.P 13=true:=by kernel_rfl
theorem YK:callable vE.P 14=true:=by kernel_rfl
theorem Wj:callable vE.P 15=true:=by kernel_rfl
theorem YB:callable vE.P 17=true:=by kernel_rfl
theorem ZV:callable vE.P 18=true:=by kernel_rfl
theorem Wu:callable vE.P 16=true:=by kernel_rfl
theorem AHY:H9 vE.P 9=0:=by kernel_rfl
theorem AE9:Ie vE.P 26=some (.agg [.int .i64 0,.str [],.slice 1 [] true,.slice 4 [] true]):=by kernel_rfl
theorem AG7:(Iu vE.P 26).isSome=true:=by kernel_rfl
theorem AGK:Ie vE.P 40=some (.agg [.str [],.int .i64 0,.int .i64 0,.int .i64 0,.int .i64 0]):=by kernel_rfl
theorem AG9:(Iu vE.P 40).isSome=true:=by kernel_rfl
theorem XX:Bf vE.P 40 0=9:=by kernel_rfl
theorem UK:DR vE.P 40 0=some (0,1):=by kernel_rfl
theorem Xo:callable vE.P 20=true:=by kernel_rfl
theorem Zh:callable vE.P 19=true:=by kernel_rfl
theorem ACe: ∀n,Gp vE.P 43 n=some [.int .i64 0,.str [],.int .i64 0]:=by intros;kernel_rfl
theorem AGt:Ec vE.P 43=some 3:=by kernel_rfl
theorem Yk:EL vE.P 40 3=some (3,1,false):=by kernel_rfl
theorem ACo:Cc vE.P 27=true:=by kernel_rfl
theorem ADs:EW vE.P 27=false:=by kernel_rfl
theorem AF2:Ec vE.P 27=some 1:=by kernel_rfl
theorem XR:EL vE.P 43 0=some (0,1,false):=by kernel_rfl
theorem Wl:EL vE.P 43 2=some (2,1,false):=by kernel_rfl
theorem Zc:callable vE.P 21=true:=by kernel_rfl
theorem XP:EL vE.P 40 4=some (4,1,false):=by kernel_rfl
theorem AC8: ∀n,Gp vE.P 51 n=some [.nself n 51 2,.buf 5 [] true]:=by intros;kernel_rfl
theorem YX:callable vE.P 22=true:=by kernel_rfl
theorem XA:EL vE.P 51 0=some (0,2,true):=by kernel_rfl
theorem YC:callable vE.P 23=true:=by kernel_rfl
theorem ZJ:callable vE.P 24=true:=by kernel_rfl
theorem XC:EL vE.P 26 1=some (1,1,false):=by kernel_rfl
theorem AFV:Cc vE.P 9=true:=by kernel_rfl
theorem AGu:EW vE.P 9=false:=by kernel_rfl
theorem AHz:Ec vE.P 9=some 1:=by kernel_rfl
theorem Zd:callable vE.P 25=true:=by kernel_rfl
theorem YU:callable vE.P 26=true:=by kernel_rfl
theorem Y0:callable vE.P 27=true:=by kernel_rfl
theorem Xj:callable vE.P 29=true:=by kernel_rfl
theorem ZH:callable vE.P 28=true:=by kernel_rfl
theorem ADh: ∀n,Gp vE.P 60 n=some [.int .i64 0]:=by intros;kernel_rfl
theorem Xe:callable vE.P 30=true:=by kernel_rfl
theorem ZL:callable vE.P 31=true:=by kernel_rfl
theorem Zl:callable vE.P 32=true:=by kernel_rfl
theorem YZ:callable vE.P 33=true:=by kernel_rfl
theorem ADe:Cc vE.P 43=true:=by kernel_rfl
theorem ACJ:EW vE.P 43=true:=by kernel_rfl
theorem YA:callable vE.P 34=true:=by kernel_rfl
theorem XV:EL vE.P 43 1=some (1,1,false):=by kernel_rfl
theorem ZI:Bf vE.P 26 0=3:=by kernel_rfl
theorem WA:DR vE.P 26 0=some (0,1):=by kernel_rfl
theorem Y2:Bf vE.P 26 1=9:=by kernel_rfl
theorem UG:DR vE.P 26 1=some (1,1):=by kernel_rfl
theorem XN:callable vE.P 35=true:=by kernel_rfl
theorem Xy:EL vE.P 40 2=some (2,1,false):=by kernel_rfl
theorem Ze:callable vE.P 36=true:=by kernel_rfl
theorem Zi:callable vE.P 37=true:=by kernel_rfl
theorem XL:callable vE.P 38=true:=by kernel_rfl
theorem AE1:Ie vE.P 43=some (.agg [.int .i64 0,.str [],.int .i64 0]):=by kernel_rfl
theorem AGG:(Iu vE.P 43).isSome=true:=by kernel_rfl
theorem Yr:EL vE.P 40 0=some (0,1,false):=by kernel_rfl
theorem Yn:EL vE.P 40 1=some (1,1,false):=by kernel_rfl
theorem Yh:callable vE.P 39=true:=by kernel_rfl
theorem Zq:callable vE.P 40=true:=by kernel_rfl
theorem XJ:callable vE.P 41=true:=by kernel_rfl
theorem Wq:callable vE.P 42=true:=by kernel_rfl
theorem Xi:EL vE.P 49 1=some (1,1,false):=by kernel_rfl
theorem AC6:Cc vE.P 47=true:=by kernel_rfl
theorem AB5:EW vE.P 47=false:=by kernel_rfl
theorem AHA:Ec vE.P 47=some 1:=by kernel_rfl
theorem Yv:FW vE.P 47=true:=by kernel_rfl
theorem AHK:ptrTo vE.P 75 5=true:=by kernel_rfl
theorem Wp:callable vE.P 43=true:=by kernel_rfl
theorem AFp:H9 vE.P 47=1:=by kernel_rfl
theorem AI3:N9 vE.P 47=some (1,1):=by kernel_rfl
theorem XW:Bf vE.P 47 0=5:=by kernel_rfl
theorem AIO:H9 vE.P 5=0:=by kernel_rfl
theorem AHh:JC vE.P 47=none:=by kernel_rfl
theorem AKQ:JC vE.P 9=none:=by kernel_rfl
theorem Y8:QT vE.P 47 5=true:=by kernel_rfl
theorem AKD:u8T vE.P 47=true:=by kernel_rfl
theorem ZU:Bf vE.P 24 0=26:=by kernel_rfl
theorem Wt:callable vE.P 44=true:=by kernel_rfl
theorem Yz:Bf vE.P 23 0=9:=by kernel_rfl
theorem XG:EL vE.P 60 0=some (0,1,false):=by kernel_rfl
theorem XB:callable vE.P 45=true:=by kernel_rfl
theorem Xh:callable vE.P 46=true:=by kernel_rfl
theorem XO:callable vE.P 47=true:=by kernel_rfl
theorem Yq:callable vE.P 48=true:=by kernel_rfl
theorem Zj:callable vE.P 49=true:=by kernel_rfl
theorem Zp:FW vE.P 79=true:=by kernel_rfl
theorem ACG:FQ vE.P 79=some 1:=by kernel_rfl
theorem Wx:callable vE.P 50=true:=by kernel_rfl
theorem YQ:callable vE.P 51=true:=by kernel_rfl
theorem ZA:callable vE.P 53=true:=by kernel_rfl
theorem X6:callable vE.P 52=true:=by kernel_rfl
theorem AIq:JC vE.P 84=some .u64:=by kernel_rfl
theorem AEC:Cz vE.P 84=false:=by kernel_rfl
theorem ZY:callable vE.P 54=true:=by kernel_rfl
theorem X8:callable vE.P 55=true:=by kernel_rfl
theorem XK:Bf vE.P 43 0=3:=by kernel_rfl
theorem UH:DR vE.P 43 0=some (0,1):=by kernel_rfl
theorem WR:Bf vE.P 43 2=3:=by kernel_rfl
theorem Uj:DR vE.P 43 2=some (2,1):=by kernel_rfl
theorem Wo:callable vE.P 56=true:=by kernel_rfl
theorem WU:Bf vE.P 43 1=9:=by kernel_rfl
theorem V5:DR vE.P 43 1=some (1,1):=by kernel_rfl
theorem YF:callable vE.P 57=true:=by kernel_rfl
theorem Yu:callable vE.P 58=true:=by kernel_rfl
theorem Yf:callable vE.P 59=true:=by kernel_rfl
theorem AFP:H9 vE.P 70=0:=by kernel_rfl
theorem ZK:callable vE.P 60=true:=by kernel_rfl
theorem WL:callable vE.P 61=true:=by kernel_rfl
theorem YR:callable vE.P 62=true:=by kernel_rfl
theorem Xd:callable vE.P 63=true:=by kernel_rfl
theorem Yy:callable vE.P 64=true:=by kernel_rfl
theorem AHJ:H9 vE.P 79=1:=by kernel_rfl
theorem AFE:ZO vE.P 79=some (8,.int .i64 0):=by kernel_rfl
theorem ZG:callable vE.P 65=true:=by kernel_rfl
theorem ZF:callable vE.P 68=true:=by kernel_rfl
theorem AGr:H9 vE.P 84=0:=by kernel_rfl
theorem ACM:Cc vE.P 84=true:=by kernel_rfl
theorem AKw:JC vE.P 5=some .u8:=by kernel_rfl
theorem AFZ:Cz vE.P 5=false:=by kernel_rfl
theorem Xv:callable vE.P 69=true:=by kernel_rfl
theorem Yt:callable vE.P 70=true:=by kernel_rfl
theorem Zn:EL vE.P 49 0=some (0,1,false):=by kernel_rfl
theorem ACt:Cc vE.P 46=true:=by kernel_rfl
theorem ACC:EW vE.P 46=false:=by kernel_rfl
theorem AEw:Ec vE.P 46=some 1:=by kernel_rfl
theorem AFA:H9 vE.P 46=0:=by kernel_rfl
theorem AC1:LH vE.P 46=true:=by kernel_rfl
theorem AD4:Cz vE.P 94=false:=by kernel_rfl
theorem QC:Kj vE.P 46 94 48 2=true:=by kernel_rfl
theorem QX:Kj vE.P 46 94 49 2=true:=by kernel_rfl
theorem Rp:Kj vE.P 46 94 50 2=true:=by kernel_rfl
theorem Re:Kj vE.P 46 94 51 2=true:=by kernel_rfl
theorem Xq:callable vE.P 71=false:=by kernel_rfl
theorem ADW:Cc vE.P 94=true:=by kernel_rfl
theorem ADd:Cz vE.P 46=false:=by kernel_rfl
theorem RJ:Kj vE.P 94 46 48 2=true:=by kernel_rfl
theorem Qj:Kj vE.P 94 46 49 2=true:=by kernel_rfl
theorem QS:Kj vE.P 94 46 50 2=true:=by kernel_rfl
theorem Rm:Kj vE.P 94 46 51 2=true:=by kernel_rfl
theorem XQ:callable vE.P 72=true:=by kernel_rfl
theorem AC3:Ie vE.P 100=some (.agg [.str [],.int .i64 0]):=by kernel_rfl
theorem AEX:(Iu vE.P 100).isSome=true:=by kernel_rfl
theorem Um:Bf vE.P 100 0=9:=by kernel_rfl
theorem SS:DR vE.P 100 0=some (0,1):=by kernel_rfl
theorem We:callable vE.P 73=true:=by kernel_rfl
theorem Yl:callable vE.P 75=true:=by kernel_rfl
theorem Y6:callable vE.P 74=true:=by kernel_rfl
theorem YM:callable vE.P 76=true:=by kernel_rfl
theorem ZB:callable vE.P 77=true:=by kernel_rfl
theorem ZR:callable vE.P 78=true:=by kernel_rfl
theorem Wz:callable vE.P 79=true:=by kernel_rfl
theorem Xx:callable vE.P 80=true:=by kernel_rfl
theorem AIY:JC vE.P 97=some .u64:=by kernel_rfl
theorem AEV:Cz vE.P 97=false:=by kernel_rfl
theorem Xt:callable vE.P 82=true:=by kernel_rfl
theorem Ya:callable vE.P 81=true:=by kernel_rfl
theorem ZN:callable vE.P 67=true:=by kernel_rfl
theorem W9:callable vE.P 83=true:=by kernel_rfl
theorem Yo:callable vE.P 84=true:=by kernel_rfl
theorem ZT:callable vE.P 85=true:=by kernel_rfl
theorem YY:callable vE.P 86=true:=by kernel_rfl
theorem Yb:callable vE.P 87=true:=by kernel_rfl
theorem WE:EL vE.P 100 1=some (1,1,false):=by kernel_rfl
theorem Yp:callable vE.P 88=true:=by kernel_rfl
theorem Xk:callable vE.P 89=true:=by kernel_rfl
theorem Yc:callable vE.P 91=true:=by kernel_rfl
theorem VN:EL vE.P 100 0=some (0,1,false):=by kernel_rfl
theorem Zf:callable vE.P 92=true:=by kernel_rfl
theorem AEH:Cz vE.P 47=false:=by kernel_rfl
theorem ACF:FQ vE.P 47=some 1:=by kernel_rfl
theorem AGo:EW vE.P 5=false:=by kernel_rfl
theorem AHq:Ec vE.P 5=some 1:=by kernel_rfl
theorem Yw:callable vE.P 93=true:=by kernel_rfl
theorem Wm:callable vE.P 94=true:=by kernel_rfl
theorem AAi: ∀n,Gp vE.P 116 n=some (List.map AVal.bool (UA 256)):=by intros;kernel_rfl
theorem AC2:Ec vE.P 116=some 256:=by kernel_rfl
theorem YI:callable vE.P 95=true:=by kernel_rfl
theorem Xb:callable vE.P 96=true:=by kernel_rfl
theorem WS:callable vE.P 97=true:=by kernel_rfl
theorem XZ:callable vE.P 98=true:=by kernel_rfl
theorem YD:callable vE.P 99=true:=by kernel_rfl
theorem Uv:callable vE.P 100=true:=by kernel_rfl
theorem VS:callable vE.P 101=true:=by kernel_rfl
theorem AAq: ∀n,Gp vE.P 124 n=some [.int .u8 0,.int .u8 0,.int .u8 0,.int .u8 0,.int .u8 0,.int .u8 0,.int .u8 0,.int .u8 0,.int .u8 0,.int .u8 0,.int .u8 0,.int .u8 0,.int .u8 0,.int .u8 0,.int .u8 0,.int .u8 0,.int .u8 0,.int .u8 0,.int .u8 0,.int .u8 0]:=by intros;kernel_rfl
theorem AAe:Ht vE.P 124=some (20,1,false):=by kernel_rfl
theorem Z4:FQ vE.P 124=none:=by kernel_rfl
theorem VC:callable vE.P 102=true:=by kernel_rfl
theorem Uo:callable vE.P 103=true:=by kernel_rfl
theorem UM:callable vE.P 104=true:=by kernel_rfl
theorem V9:callable vE.P 105=true:=by kernel_rfl
theorem WB:callable vE.P 106=true:=by kernel_rfl
theorem AD9:H9 vE.P 126=0:=by kernel_rfl
theorem UL:callable vE.P 107=true:=by kernel_rfl
theorem VJ:callable vE.P 108=true:=by kernel_rfl
theorem WG:callable vE.P 109=true:=by kernel_rfl
theorem UE:callable vE.P 110=true:=by kernel_rfl
theorem AD8:Cc vE.P 97=true:=by kernel_rfl
theorem AGx:JC vE.P 133=some .u32:=by kernel_rfl
theorem ABJ:Cz vE.P 133=false:=by kernel_rfl
theorem VH:callable vE.P 111=true:=by kernel_rfl
theorem Tv:callable vE.P 112=true:=by kernel_rfl
theorem Us:callable vE.P 113=true:=by kernel_rfl
theorem Vn:callable vE.P 114=true:=by kernel_rfl
theorem VI:callable vE.P 115=false:=by kernel_rfl
theorem Vm:callable vE.P 116=true:=by kernel_rfl
theorem AA2:Cc vE.P 116=true:=by kernel_rfl
theorem Zu:EW vE.P 116=true:=by kernel_rfl
theorem Zw:Ht vE.P 116=some (256,1,false):=by kernel_rfl
theorem AHo:Ec vE.P 4=some 1:=by kernel_rfl
theorem Tz:callable vE.P 117=true:=by kernel_rfl
theorem U8:callable vE.P 118=true:=by kernel_rfl
theorem WF:callable vE.P 119=true:=by kernel_rfl
theorem AJA:JC vE.P 21=some .i32:=by kernel_rfl
theorem ADB:Cz vE.P 21=false:=by kernel_rfl
theorem AG0:H9 vE.P 21=0:=by kernel_rfl
theorem VQ:callable vE.P 120=true:=by kernel_rfl
theorem Vh:callable vE.P 121=true:=by kernel_rfl
theorem Ui:callable vE.P 122=true:=by kernel_rfl
theorem Z5:Cc vE.P 142=true:=by kernel_rfl
theorem ABC:EW vE.P 142=true:=by kernel_rfl
theorem ACV:Ec vE.P 142=some 12:=by kernel_rfl
theorem AAj:Ht vE.P 142=some (4,3,true):=by kernel_rfl
theorem AAn: ∀n,Gp vE.P 141 n=some [.int .u8 0,.int .u8 0,.int .i64 0]:=by intros;kernel_rfl
theorem ADC:Ec vE.P 141=some 3:=by kernel_rfl
theorem UW:EL vE.P 141 1=some (1,1,false):=by kernel_rfl
theorem Tw:EL vE.P 141 0=some (0,1,false):=by kernel_rfl
theorem VO:EL vE.P 141 2=some (2,1,false):=by kernel_rfl
theorem U5:callable vE.P 123=true:=by kernel_rfl
theorem Tt:callable vE.P 124=true:=by kernel_rfl
theorem AF1:JC vE.P 143=some .u64:=by kernel_rfl
theorem AAa:Cz vE.P 143=false:=by kernel_rfl
theorem AAZ: ∀n,Gp vE.P 143 n=some [.int .u64 0]:=by intros;kernel_rfl
theorem ADU:Ec vE.P 143=some 1:=by kernel_rfl
theorem Ua:callable vE.P 125=true:=by kernel_rfl
theorem VZ:callable vE.P 126=true:=by kernel_rfl
theorem AFm:H9 vE.P 97=0:=by kernel_rfl
theorem AFa: ∀n,Gp vE.P 3 n=some [.int .i64 0]:=by intros;kernel_rfl
theorem Ur:callable vE.P 127=true:=by kernel_rfl
theorem Uy:callable vE.P 128=true:=by kernel_rfl
theorem ACz:H9 vE.P 133=0:=by kernel_rfl
theorem AA1:Cc vE.P 133=true:=by kernel_rfl
theorem VD:callable vE.P 129=true:=by kernel_rfl
theorem Ud:callable vE.P 130=false:=by kernel_rfl
theorem Ul:callable vE.P 131=true:=by kernel_rfl
theorem VB:callable vE.P 132=true:=by kernel_rfl
theorem AE2:Cc vE.P 4=true:=by kernel_rfl
theorem AGB:EW vE.P 4=false:=by kernel_rfl
theorem UD:callable vE.P 133=true:=by kernel_rfl
theorem Ub:callable vE.P 134=true:=by kernel_rfl
theorem Uc:callable vE.P 135=true:=by kernel_rfl
theorem Ut:callable vE.P 136=true:=by kernel_rfl
theorem ABS:Cc vE.P 143=true:=by kernel_rfl
theorem ABU:EW vE.P 143=false:=by kernel_rfl
theorem ACO:H9 vE.P 143=0:=by kernel_rfl
theorem Uu:callable vE.P 137=true:=by kernel_rfl
theorem Vx:callable vE.P 138=true:=by kernel_rfl
theorem Vw:callable vE.P 139=true:=by kernel_rfl
theorem AAY:Ht vE.P 158=some (256,1,false):=by kernel_rfl
theorem ABF:Ht vE.P 161=some (16,2,true):=by kernel_rfl
theorem AAR:Cc vE.P 160=true:=by kernel_rfl
theorem Zt:EW vE.P 160=true:=by kernel_rfl
theorem ACm:Ec vE.P 160=some 2:=by kernel_rfl
theorem AA0: ∀n,Gp vE.P 160 n=some [.int .u8 0,.int .u8 0]:=by intros;kernel_rfl
theorem UI:EL vE.P 160 0=some (0,1,false):=by kernel_rfl
theorem T9:EL vE.P 160 1=some (1,1,false):=by kernel_rfl
theorem ADf:Cc vE.P 21=true:=by kernel_rfl
theorem UU:callable vE.P 140=true:=by kernel_rfl
theorem Zk:callable vE.P 90=true:=by kernel_rfl
theorem ACR:Ie vE.P 160=some (.agg [.int .u8 0,.int .u8 0]):=by kernel_rfl
theorem ADO:(Iu vE.P 160).isSome=true:=by kernel_rfl
theorem U4:Bf vE.P 160 0=5:=by kernel_rfl
theorem Sb:DR vE.P 160 0=some (0,1):=by kernel_rfl
theorem UZ:Bf vE.P 160 1=5:=by kernel_rfl
theorem Rx:DR vE.P 160 1=some (1,1):=by kernel_rfl
theorem AEW:Ie vE.P 161=some (.agg [.int .u8 0,.int .u8 0,.int .u8 0,.int .u8 0,.int .u8 0,.int .u8 0,.int .u8 0,.int .u8 0,.int .u8 0,.int .u8 0,.int .u8 0,.int .u8 0,.int .u8 0,.int .u8 0,.int .u8 0,.int .u8 0,.int .u8 0,.int .u8 0,.int .u8 0,.int .u8 0,.int .u8 0,.int .u8 0,.int .u8 0,.int .u8 0,.int .u8 0,.int .u8 0,.int .u8 0,.int .u8 0,.int .u8 0,.int .u8 0,.int .u8 0,.int .u8 0]):=by kernel_rfl
theorem AEZ:(Iu vE.P 161).isSome=true:=by kernel_rfl
theorem Vj:Bf vE.P 161 0=160:=by kernel_rfl
theorem SV:DR vE.P 161 0=some (0,2):=by kernel_rfl
theorem Vg:Bf vE.P 161 1=160:=by kernel_rfl
theorem SH:DR vE.P 161 1=some (2,2):=by kernel_rfl
theorem U0:Bf vE.P 161 2=160:=by kernel_rfl
theorem SL:DR vE.P 161 2=some (4,2):=by kernel_rfl
theorem Ug:Bf vE.P 161 3=160:=by kernel_rfl
theorem SY:DR vE.P 161 3=some (6,2):=by kernel_rfl
theorem VP:Bf vE.P 161 4=160:=by kernel_rfl
theorem SG:DR vE.P 161 4=some (8,2):=by kernel_rfl
theorem AB6:Ec vE.P 161=some 32:=by kernel_rfl
theorem ACI:Ie vE.P 141=some (.agg [.int .u8 0,.int .u8 0,.int .i64 0]):=by kernel_rfl
theorem ADb:(Iu vE.P 141).isSome=true:=by kernel_rfl
theorem Vv:Bf vE.P 141 0=5:=by kernel_rfl
theorem Rz:DR vE.P 141 0=some (0,1):=by kernel_rfl
theorem Ue:Bf vE.P 141 1=5:=by kernel_rfl
theorem R8:DR vE.P 141 1=some (1,1):=by kernel_rfl
theorem U1:Bf vE.P 141 2=3:=by kernel_rfl
theorem Sc:DR vE.P 141 2=some (2,1):=by kernel_rfl
theorem ACh:Ie vE.P 142=some (.agg [.int .u8 0,.int .u8 0,.int .i64 0,.int .u8 0,.int .u8 0,.int .i64 0,.int .u8 0,.int .u8 0,.int .i64 0,.int .u8 0,.int .u8 0,.int .i64 0]):=by kernel_rfl
theorem ACu:(Iu vE.P 142).isSome=true:=by kernel_rfl
theorem VV:Bf vE.P 142 0=141:=by kernel_rfl
theorem Sg:DR vE.P 142 0=some (0,3):=by kernel_rfl
theorem Va:Bf vE.P 142 1=141:=by kernel_rfl
theorem R4:DR vE.P 142 1=some (3,3):=by kernel_rfl
theorem VF:Bf vE.P 142 2=141:=by kernel_rfl
theorem SK:DR vE.P 142 2=some (6,3):=by kernel_rfl
theorem Ve:Bf vE.P 142 3=141:=by kernel_rfl
theorem R5:DR vE.P 142 3=some (9,3):=by kernel_rfl
theorem ALy: ∀af t,rd vE af t (.global 0)=.cptr I5:=by intros;rfl
theorem AMG:stripL I5=I5:=by simp[I5,stripL,AVal.strip]
theorem ALw:List.take 12 I5=I5:=by rfl
theorem AMD: ∀st,Ku vE 142 (.cptr I5) st=some (.agg I5):=by intros;kernel_rfl
theorem Lc{n:Int}{x:Utf8textForm}{k:IntKind} (h:idx Dn n=some x):L6 vE 142 (.agg I5) (.int k n)=some (.agg [.int .u8 x.mark,.int .u8 x.mask,.int .i64 x.least]):=by
  unfold idx at h
  split at h
  · rename_i hn
    obtain⟨j,rfl⟩: ∃j:Nat,n=j:=⟨n.toNat,by omega⟩
    rw[Int.toNat_natCast]at h
    rcases j with _|j
    · cases h;kernel_rfl
    rcases j with _|j
    · cases h;kernel_rfl
    rcases j with _|j
    · cases h;kernel_rfl
    rcases j with _|j
    · cases h;kernel_rfl
    simp[Dn]at h
  · cases h
theorem AFT:(vE.P.funcs[71]?).isSome=true:=by kernel_rfl
theorem ALF{x:AVal}{st:St}{Q:AVal→St→Prop} (h:Gl (Q x.strip st)):ABy vE 71 [x] st Q:=by
  refine⟨(vE.P.funcs[71]?).get AFT,Extern.AbiNoEscape.same,x,(Option.some_get AFT).symm,by kernel_rfl,by kernel_rfl,by kernel_rfl,by kernel_rfl,fun Γ vs w hr=>?_,?_⟩
  · cases hr with|cons h1 t=>cases t;exact⟨_,Go.Lib.run_noEscape w _,h1⟩
  · have:=h.go;simpa[AVal.strip]using this
theorem ABn:(vE.P.funcs[115]?).isSome=true:=by kernel_rfl
theorem AHn{l:List UInt8}{c:Int}{st:St}{Q:AVal→St→Prop} (h:Gl (Q (.int .i64 (Go.Lib.indexByte l (IM c))) st)):ABy vE 115 [.str l,.int .u8 c] st Q:=by
  refine⟨(vE.P.funcs[115]?).get ABn,Extern.BytealgIndexByte.indexByte,.int .i64 (Go.Lib.indexByte l (IM c)),(Option.some_get ABn).symm,by kernel_rfl,by kernel_rfl,by kernel_rfl,by kernel_rfl,fun Γ vs w hr=>?_,?_⟩
  · cases hr with|cons h1 t=>cases t with|cons h2 t=>cases t;cases h1;cases h2;exact⟨_,Go.Lib.run_indexByteString _ _ w,.int _ _⟩
  · have:=h.go;simpa[AVal.strip]using this
set_option linter.defProp false
def fxE:=And.intro (And.intro (And.intro (And.intro (And.intro (And.intro (And.intro (And.intro (@AAp) (@AID)) (And.intro (@ABH) (And.intro (@AFJ) (@AI5)))) (And.intro (And.intro (@AAb) (And.intro (@ADF) (@AEg))) (And.intro (@AE0) (And.intro (@ACT) (@AEc))))) (And.intro (And.intro (And.intro (@WX) (@XT)) (And.intro (@AIo) (And.intro (@Xf) (@XI)))) (And.intro (And.intro (@AGC) (And.intro (@AGi) (@AJF))) (And.intro (@ZW) (And.intro (@ADz) (@ACB)))))) (And.intro (And.intro (And.intro (And.intro (@AGh) (@WW)) (And.intro (@Wh) (And.intro (@AEP) (@ACW)))) (And.intro (And.intro (@AFj) (And.intro (@Y5) (@AHF))) (And.intro (@AKa) (And.intro (@AGy) (@AB4))))) (And.intro (And.intro (And.intro (@AFG) (@AIg)) (And.intro (@AJD) (And.intro (@AET) (@AHQ)))) (And.intro (And.intro (@AHS) (And.intro (@AHv) (@ADt))) (And.intro (@XM) (And.intro (@YK) (@Wj))))))) (And.intro (And.intro (And.intro (And.intro (And.intro (@YB) (@ZV)) (And.intro (@Wu) (And.intro (@AHY) (@AE9)))) (And.intro (And.intro (@AG7) (And.intro (@AGK) (@AG9))) (And.intro (@XX) (And.intro (@UK) (@Xo))))) (And.intro (And.intro (And.intro (@Zh) (@ACe)) (And.intro (@AGt) (And.intro (@Yk) (@ACo)))) (And.intro (And.intro (@ADs) (And.intro (@AF2) (@XR))) (And.intro (@Wl) (And.intro (@Zc) (@XP)))))) (And.intro (And.intro (And.intro (And.intro (@AC8) (@YX)) (And.intro (@XA) (And.intro (@YC) (@ZJ)))) (And.intro (And.intro (@XC) (And.intro (@AFV) (@AGu))) (And.intro (@AHz) (And.intro (@Zd) (@YU))))) (And.intro (And.intro (And.intro (@Y0) (@Xj)) (And.intro (@ZH) (And.intro (@ADh) (@Xe)))) (And.intro (And.intro (@ZL) (And.intro (@Zl) (@YZ))) (And.intro (@ADe) (And.intro (@ACJ) (@YA)))))))) (And.intro (And.intro (And.intro (And.intro (And.intro (And.intro (@XV) (@ZI)) (And.intro (@WA) (And.intro (@Y2) (@UG)))) (And.intro (And.intro (@XN) (And.intro (@Xy) (@Ze))) (And.intro (@Zi) (And.intro (@XL) (@AE1))))) (And.intro (And.intro (And.intro (@AGG) (@Yr)) (And.intro (@Yn) (And.intro (@Yh) (@Zq)))) (And.intro (And.intro (@XJ) (And.intro (@Wq) (@Xi))) (And.intro (@AC6) (And.intro (@AB5) (@AHA)))))) (And.intro (And.intro (And.intro (And.intro (@Yv) (@AHK)) (And.intro (@Wp) (And.intro (@AFp) (@AI3)))) (And.intro (And.intro (@XW) (And.intro (@AIO) (@AHh))) (And.intro (@AKQ) (And.intro (@Y8) (@AKD))))) (And.intro (And.intro (And.intro (@ZU) (@Wt)) (And.intro (@Yz) (And.intro (@XG) (@XB)))) (And.intro (And.intro (@Xh) (And.intro (@XO) (@Yq))) (And.intro (@Zj) (And.intro (@Zp) (@ACG))))))) (And.intro (And.intro (And.intro (And.intro (And.intro (@Wx) (@YQ)) (And.intro (@ZA) (And.intro (@X6) (@AIq)))) (And.intro (And.intro (@AEC) (And.intro (@ZY) (@X8))) (And.intro (@XK) (And.intro (@UH) (@WR))))) (And.intro (And.intro (And.intro (@Uj) (@Wo)) (And.intro (@WU) (And.intro (@V5) (@YF)))) (And.intro (And.intro (@Yu) (And.intro (@Yf) (@AFP))) (And.intro (@ZK) (And.intro (@WL) (@YR)))))) (And.intro (And.intro (And.intro (And.intro (@Xd) (@Yy)) (And.intro (@AHJ) (And.intro (@AFE) (@ZG)))) (And.intro (And.intro (@ZF) (And.intro (@AGr) (@ACM))) (And.intro (@AKw) (And.intro (@AFZ) (@Xv))))) (And.intro (And.intro (And.intro (@Yt) (And.intro (@Zn) (@ACt))) (And.intro (@ACC) (And.intro (@AEw) (@AFA)))) (And.intro (And.intro (@AC1) (And.intro (@AD4) (@QC))) (And.intro (@QX) (And.intro (@Rp) (@Re))))))))) (And.intro (And.intro (And.intro (And.intro (And.intro (And.intro (And.intro (@Xq) (@ADW)) (And.intro (@ADd) (And.intro (@RJ) (@Qj)))) (And.intro (And.intro (@QS) (And.intro (@Rm) (@XQ))) (And.intro (@AC3) (And.intro (@AEX) (@Um))))) (And.intro (And.intro (And.intro (@SS) (@We)) (And.intro (@Yl) (And.intro (@Y6) (@YM)))) (And.intro (And.intro (@ZB) (And.intro (@ZR) (@Wz))) (And.intro (@Xx) (And.intro (@AIY) (@AEV)))))) (And.intro (And.intro (And.intro (And.intro (@Xt) (@Ya)) (And.intro (@ZN) (And.intro (@W9) (@Yo)))) (And.intro (And.intro (@ZT) (And.intro (@YY) (@Yb))) (And.intro (@WE) (And.intro (@Yp) (@Xk))))) (And.intro (And.intro (And.intro (@Yc) (@VN)) (And.intro (@Zf) (And.intro (@AEH) (@ACF)))) (And.intro (And.intro (@AGo) (And.intro (@AHq) (@Yw))) (And.intro (@Wm) (And.intro (@AAi) (@AC2))))))) (And.intro (And.intro (And.intro (And.intro (And.intro (@YI) (@Xb)) (And.intro (@WS) (And.intro (@XZ) (@YD)))) (And.intro (And.intro (@Uv) (And.intro (@VS) (@AAq))) (And.intro (@AAe) (And.intro (@Z4) (@VC))))) (And.intro (And.intro (And.intro (@Uo) (@UM)) (And.intro (@V9) (And.intro (@WB) (@AD9)))) (And.intro (And.intro (@UL) (And.intro (@VJ) (@WG))) (And.intro (@UE) (And.intro (@AD8) (@AGx)))))) (And.intro (And.intro (And.intro (And.intro (@ABJ) (@VH)) (And.intro (@Tv) (And.intro (@Us) (@Vn)))) (And.intro (And.intro (@VI) (And.intro (@Vm) (@AA2))) (And.intro (@Zu) (And.intro (@Zw) (@AHo))))) (And.intro (And.intro (And.intro (@Tz) (@U8)) (And.intro (@WF) (And.intro (@AJA) (@ADB)))) (And.intro (And.intro (@AG0) (And.intro (@VQ) (@Vh))) (And.intro (@Ui) (And.intro (@Z5) (@ABC)))))))) (And.intro (And.intro (And.intro (And.intro (And.intro (And.intro (@ACV) (@AAj)) (And.intro (@AAn) (And.intro (@ADC) (@UW)))) (And.intro (And.intro (@Tw) (And.intro (@VO) (@U5))) (And.intro (@Tt) (And.intro (@AF1) (@AAa))))) (And.intro (And.intro (And.intro (@AAZ) (@ADU)) (And.intro (@Ua) (And.intro (@VZ) (@AFm)))) (And.intro (And.intro (@AFa) (And.intro (@Ur) (@Uy))) (And.intro (@ACz) (And.intro (@AA1) (@VD)))))) (And.intro (And.intro (And.intro (And.intro (@Ud) (@Ul)) (And.intro (@VB) (And.intro (@AE2) (@AGB)))) (And.intro (And.intro (@UD) (And.intro (@Ub) (@Uc))) (And.intro (@Ut) (And.intro (@ABS) (@ABU))))) (And.intro (And.intro (And.intro (@ACO) (@Uu)) (And.intro (@Vx) (And.intro (@Vw) (@AAY)))) (And.intro (And.intro (@ABF) (And.intro (@AAR) (@Zt))) (And.intro (@ACm) (And.intro (@AA0) (@UI))))))) (And.intro (And.intro (And.intro (And.intro (And.intro (@T9) (@ADf)) (And.intro (@UU) (And.intro (@Zk) (@ACR)))) (And.intro (And.intro (@ADO) (And.intro (@U4) (@Sb))) (And.intro (@UZ) (And.intro (@Rx) (@AEW))))) (And.intro (And.intro (And.intro (@AEZ) (@Vj)) (And.intro (@SV) (And.intro (@Vg) (@SH)))) (And.intro (And.intro (@U0) (And.intro (@SL) (@Ug))) (And.intro (@SY) (And.intro (@VP) (@SG)))))) (And.intro (And.intro (And.intro (And.intro (@AB6) (@ACI)) (And.intro (@ADb) (And.intro (@Vv) (@Rz)))) (And.intro (And.intro (@Ue) (And.intro (@R8) (@U1))) (And.intro (@Sc) (And.intro (@ACh) (@ACu))))) (And.intro (And.intro (And.intro (@VV) (And.intro (@Sg) (@Va))) (And.intro (@R4) (And.intro (@VF) (@SK)))) (And.intro (And.intro (@Ve) (And.intro (@R5) (@ALy))) (And.intro (@AMG) (And.intro (@ALw) (@AMD)))))))))
def vm:=And.intro vmC (And.intro fxE eE)
end Go.Proofs.YtooeobhihpkicaaGreatDoor
