import Derived.Test.YtooeobhihpkicaaGreatDoorChecked
import Derived.Test.YtooeobhihpkicaaGreatDoorVM2
import Derived.Test.YtooeobhihpkicaaGreatDoorTy
import Derived.KernelRfl
set_option linter.unusedVariables false
namespace Go.Proofs.YtooeobhihpkicaaGreatDoor
open Go.VM
noncomputable def vE:Env:=⟨Tryz.prog,vT⟩
theorem Av:vE.P.follows .mixedOrders=true:=by kernel_rfl
theorem ABQ:callable vE.P 1=false:=by kernel_rfl
theorem AJN:H8 vE.P 4=0:=by kernel_rfl
theorem ABW:callable vE.P 8=true:=by kernel_rfl
theorem AGP:DJ vE.P 9=true:=by kernel_rfl
theorem AIU:H8 vE.P 3=0:=by kernel_rfl
theorem ABA:callable vE.P 9=true:=by kernel_rfl
theorem AEa: ∀n,Gu vE.P 26 n=some [.int .i64 0,.str [],.slice 1 [] true,.slice 4 [] true]:=by intros;kernel_rfl
theorem AFj:EY vE.P 26=some 4:=by kernel_rfl
theorem AHu:H8 vE.P 27=0:=by kernel_rfl
theorem AD5:Cg vE.P 26=true:=by kernel_rfl
theorem ADn:EW vE.P 26=true:=by kernel_rfl
theorem XT:callable vE.P 10=true:=by kernel_rfl
theorem Wo:callable vE.P 11=true:=by kernel_rfl
theorem AH2:H8 vE.P 0=0:=by kernel_rfl
theorem X4:callable vE.P 12=true:=by kernel_rfl
theorem XK:EI vE.P 26 0=some (0,1,false):=by kernel_rfl
theorem AFu:Cg vE.P 3=true:=by kernel_rfl
theorem AGL:EW vE.P 3=false:=by kernel_rfl
theorem AJR:EY vE.P 3=some 1:=by kernel_rfl
theorem ZJ:EI vE.P 26 2=some (2,1,false):=by kernel_rfl
theorem ADK:Cg vE.P 23=true:=by kernel_rfl
theorem AEx:EW vE.P 23=false:=by kernel_rfl
theorem AFo:EY vE.P 23=some 1:=by kernel_rfl
theorem ZP:FQ vE.P 23=true:=by kernel_rfl
theorem YR:EI vE.P 26 3=some (3,1,false):=by kernel_rfl
theorem AC7:Cg vE.P 24=true:=by kernel_rfl
theorem AER:EW vE.P 24=false:=by kernel_rfl
theorem AFF:EY vE.P 24=some 1:=by kernel_rfl
theorem Xq:FQ vE.P 24=true:=by kernel_rfl
theorem AHJ:Cg vE.P 5=true:=by kernel_rfl
theorem AKy:JC vE.P 3=some .i64:=by kernel_rfl
theorem AGJ:DJ vE.P 3=false:=by kernel_rfl
theorem ADT:FO vE.P 23=some 1:=by kernel_rfl
theorem AHP:H8 vE.P 23=1:=by kernel_rfl
theorem AJI:Nj vE.P 23=some (1,16):=by kernel_rfl
theorem AJJ:JC vE.P 23=none:=by kernel_rfl
theorem ACP:FO vE.P 24=some 4:=by kernel_rfl
theorem AGp:H8 vE.P 24=4:=by kernel_rfl
theorem AHv:Nj vE.P 24=some (4,72):=by kernel_rfl
theorem AIM:JC vE.P 24=none:=by kernel_rfl
theorem ADk:Mc vE.P 4=true:=by kernel_rfl
theorem YU:callable vE.P 13=true:=by kernel_rfl
theorem Xl:callable vE.P 14=true:=by kernel_rfl
theorem Z9:callable vE.P 15=true:=by kernel_rfl
theorem ZV:callable vE.P 17=true:=by kernel_rfl
theorem XV:callable vE.P 18=true:=by kernel_rfl
theorem XR:callable vE.P 16=true:=by kernel_rfl
theorem AI5:H8 vE.P 9=0:=by kernel_rfl
theorem AE8:Im vE.P 26=some (.agg [.int .i64 0,.str [],.slice 1 [] true,.slice 4 [] true]):=by kernel_rfl
theorem AFR:(I6 vE.P 26).isSome=true:=by kernel_rfl
theorem AGT:Im vE.P 40=some (.agg [.str [],.int .i64 0,.int .i64 0,.int .i64 0,.int .i64 0]):=by kernel_rfl
theorem AGN:(I6 vE.P 40).isSome=true:=by kernel_rfl
theorem Y2:Bh vE.P 40 0=9:=by kernel_rfl
theorem VI:DZ vE.P 40 0=some (0,1):=by kernel_rfl
theorem XX:callable vE.P 20=true:=by kernel_rfl
theorem Xi:callable vE.P 19=true:=by kernel_rfl
theorem ACa: ∀n,Gu vE.P 43 n=some [.int .i64 0,.str [],.int .i64 0]:=by intros;kernel_rfl
theorem AHr:EY vE.P 43=some 3:=by kernel_rfl
theorem Zl:EI vE.P 40 3=some (3,1,false):=by kernel_rfl
theorem AC0:Cg vE.P 27=true:=by kernel_rfl
theorem ADq:EW vE.P 27=false:=by kernel_rfl
theorem AHF:EY vE.P 27=some 1:=by kernel_rfl
theorem Zn:EI vE.P 43 0=some (0,1,false):=by kernel_rfl
theorem XM:EI vE.P 43 2=some (2,1,false):=by kernel_rfl
theorem X5:callable vE.P 21=true:=by kernel_rfl
theorem XH:EI vE.P 40 4=some (4,1,false):=by kernel_rfl
theorem AD6: ∀n,Gu vE.P 51 n=some [.nself n 51 2,.buf 5 [] true]:=by intros;kernel_rfl
theorem Yg:callable vE.P 22=true:=by kernel_rfl
theorem Wi:EI vE.P 51 0=some (0,2,true):=by kernel_rfl
theorem Wj:callable vE.P 23=true:=by kernel_rfl
theorem W9:callable vE.P 24=true:=by kernel_rfl
theorem ZG:EI vE.P 26 1=some (1,1,false):=by kernel_rfl
theorem AFg:Cg vE.P 9=true:=by kernel_rfl
theorem AFT:EW vE.P 9=false:=by kernel_rfl
theorem AIV:EY vE.P 9=some 1:=by kernel_rfl
theorem YI:callable vE.P 25=true:=by kernel_rfl
theorem WU:callable vE.P 26=true:=by kernel_rfl
theorem WX:callable vE.P 27=true:=by kernel_rfl
theorem YX:callable vE.P 29=true:=by kernel_rfl
theorem YB:callable vE.P 28=true:=by kernel_rfl
theorem ADE: ∀n,Gu vE.P 60 n=some [.int .i64 0]:=by intros;kernel_rfl
theorem Xc:callable vE.P 30=true:=by kernel_rfl
theorem Wl:callable vE.P 31=true:=by kernel_rfl
theorem XN:callable vE.P 32=true:=by kernel_rfl
theorem Yk:callable vE.P 33=true:=by kernel_rfl
theorem AEd:Cg vE.P 43=true:=by kernel_rfl
theorem AEq:EW vE.P 43=true:=by kernel_rfl
theorem Xf:callable vE.P 34=true:=by kernel_rfl
theorem AAF:EI vE.P 43 1=some (1,1,false):=by kernel_rfl
theorem Y0:Bh vE.P 26 0=3:=by kernel_rfl
theorem Vp:DZ vE.P 26 0=some (0,1):=by kernel_rfl
theorem Yz:Bh vE.P 26 1=9:=by kernel_rfl
theorem VO:DZ vE.P 26 1=some (1,1):=by kernel_rfl
theorem Z0:callable vE.P 35=true:=by kernel_rfl
theorem Xu:EI vE.P 40 2=some (2,1,false):=by kernel_rfl
theorem ZF:callable vE.P 36=true:=by kernel_rfl
theorem ZA:callable vE.P 37=true:=by kernel_rfl
theorem Xa:callable vE.P 38=true:=by kernel_rfl
theorem AG9:Im vE.P 43=some (.agg [.int .i64 0,.str [],.int .i64 0]):=by kernel_rfl
theorem AHA:(I6 vE.P 43).isSome=true:=by kernel_rfl
theorem Ze:EI vE.P 40 0=some (0,1,false):=by kernel_rfl
theorem XE:EI vE.P 40 1=some (1,1,false):=by kernel_rfl
theorem Zz:callable vE.P 39=true:=by kernel_rfl
theorem Y3:callable vE.P 40=true:=by kernel_rfl
theorem Zu:callable vE.P 41=true:=by kernel_rfl
theorem ZW:callable vE.P 42=true:=by kernel_rfl
theorem Yj:EI vE.P 49 1=some (1,1,false):=by kernel_rfl
theorem ACt:Cg vE.P 47=true:=by kernel_rfl
theorem AEM:EW vE.P 47=false:=by kernel_rfl
theorem AHD:EY vE.P 47=some 1:=by kernel_rfl
theorem X7:FQ vE.P 47=true:=by kernel_rfl
theorem AF0:ptrTo vE.P 75 5=true:=by kernel_rfl
theorem YA:callable vE.P 43=true:=by kernel_rfl
theorem AG2:H8 vE.P 47=1:=by kernel_rfl
theorem AIi:Nj vE.P 47=some (1,1):=by kernel_rfl
theorem WZ:Bh vE.P 47 0=5:=by kernel_rfl
theorem AIQ:H8 vE.P 5=0:=by kernel_rfl
theorem AIG:JC vE.P 47=none:=by kernel_rfl
theorem ALg:JC vE.P 9=none:=by kernel_rfl
theorem ZI:RA vE.P 47 5=true:=by kernel_rfl
theorem ALA:u8T vE.P 47=true:=by kernel_rfl
theorem Zb:Bh vE.P 24 0=26:=by kernel_rfl
theorem Yq:callable vE.P 44=true:=by kernel_rfl
theorem XF:Bh vE.P 23 0=9:=by kernel_rfl
theorem Yv:EI vE.P 60 0=some (0,1,false):=by kernel_rfl
theorem Y7:callable vE.P 45=true:=by kernel_rfl
theorem ZQ:callable vE.P 46=true:=by kernel_rfl
theorem ZB:callable vE.P 47=true:=by kernel_rfl
theorem YO:callable vE.P 48=true:=by kernel_rfl
theorem YC:callable vE.P 49=true:=by kernel_rfl
theorem AAA:FQ vE.P 79=true:=by kernel_rfl
theorem AEo:FO vE.P 79=some 1:=by kernel_rfl
theorem ZE:callable vE.P 50=true:=by kernel_rfl
theorem XC:callable vE.P 51=true:=by kernel_rfl
theorem Yn:callable vE.P 53=true:=by kernel_rfl
theorem AAC:callable vE.P 52=true:=by kernel_rfl
theorem AI3:JC vE.P 84=some .u64:=by kernel_rfl
theorem AEv:DJ vE.P 84=false:=by kernel_rfl
theorem Yx:callable vE.P 54=true:=by kernel_rfl
theorem AAB:callable vE.P 55=true:=by kernel_rfl
theorem XB:Bh vE.P 43 0=3:=by kernel_rfl
theorem Vw:DZ vE.P 43 0=some (0,1):=by kernel_rfl
theorem Xw:Bh vE.P 43 2=3:=by kernel_rfl
theorem Uo:DZ vE.P 43 2=some (2,1):=by kernel_rfl
theorem AAE:callable vE.P 56=true:=by kernel_rfl
theorem ZR:Bh vE.P 43 1=9:=by kernel_rfl
theorem Vi:DZ vE.P 43 1=some (1,1):=by kernel_rfl
theorem Wh:callable vE.P 57=true:=by kernel_rfl
theorem ZO:callable vE.P 58=true:=by kernel_rfl
theorem Wp:callable vE.P 59=true:=by kernel_rfl
theorem AFI:H8 vE.P 70=0:=by kernel_rfl
theorem Xe:callable vE.P 60=true:=by kernel_rfl
theorem Wu:callable vE.P 61=true:=by kernel_rfl
theorem WY:callable vE.P 62=true:=by kernel_rfl
theorem Y6:callable vE.P 63=true:=by kernel_rfl
theorem Zo:callable vE.P 64=true:=by kernel_rfl
theorem AHY:H8 vE.P 79=1:=by kernel_rfl
theorem AHa:WT vE.P 79=some (8,.int .i64 0):=by kernel_rfl
theorem Xv:callable vE.P 65=true:=by kernel_rfl
theorem Ws:callable vE.P 68=true:=by kernel_rfl
theorem AGA:H8 vE.P 84=0:=by kernel_rfl
theorem AD2:Cg vE.P 84=true:=by kernel_rfl
theorem ALn:JC vE.P 5=some .u8:=by kernel_rfl
theorem AHE:DJ vE.P 5=false:=by kernel_rfl
theorem Wt:callable vE.P 69=true:=by kernel_rfl
theorem Yp:callable vE.P 70=true:=by kernel_rfl
theorem Zh:EI vE.P 49 0=some (0,1,false):=by kernel_rfl
theorem ADG:Cg vE.P 46=true:=by kernel_rfl
theorem ACQ:EW vE.P 46=false:=by kernel_rfl
theorem AFV:EY vE.P 46=some 1:=by kernel_rfl
theorem AE4:H8 vE.P 46=0:=by kernel_rfl
theorem ACu:LG vE.P 46=true:=by kernel_rfl
theorem ACh:DJ vE.P 94=false:=by kernel_rfl
theorem QJ:Kg vE.P 46 94 48 2=true:=by kernel_rfl
theorem RL:Kg vE.P 46 94 49 2=true:=by kernel_rfl
theorem Qy:Kg vE.P 46 94 50 2=true:=by kernel_rfl
theorem Rl:Kg vE.P 46 94 51 2=true:=by kernel_rfl
theorem Xp:callable vE.P 71=false:=by kernel_rfl
theorem ADp:Cg vE.P 94=true:=by kernel_rfl
theorem AEc:DJ vE.P 46=false:=by kernel_rfl
theorem Qj:Kg vE.P 94 46 48 2=true:=by kernel_rfl
theorem QK:Kg vE.P 94 46 49 2=true:=by kernel_rfl
theorem Rn:Kg vE.P 94 46 50 2=true:=by kernel_rfl
theorem Qk:Kg vE.P 94 46 51 2=true:=by kernel_rfl
theorem Zv:callable vE.P 72=true:=by kernel_rfl
theorem ACc:Im vE.P 100=some (.agg [.str [],.int .i64 0]):=by kernel_rfl
theorem AEN:(I6 vE.P 100).isSome=true:=by kernel_rfl
theorem Uk:Bh vE.P 100 0=9:=by kernel_rfl
theorem R5:DZ vE.P 100 0=some (0,1):=by kernel_rfl
theorem YY:callable vE.P 73=true:=by kernel_rfl
theorem Yh:callable vE.P 75=true:=by kernel_rfl
theorem ZK:callable vE.P 74=true:=by kernel_rfl
theorem Ww:callable vE.P 76=true:=by kernel_rfl
theorem ZZ:callable vE.P 77=true:=by kernel_rfl
theorem ZN:callable vE.P 78=true:=by kernel_rfl
theorem Yd:callable vE.P 79=true:=by kernel_rfl
theorem Xt:callable vE.P 80=true:=by kernel_rfl
theorem AHw:JC vE.P 97=some .u64:=by kernel_rfl
theorem ACe:DJ vE.P 97=false:=by kernel_rfl
theorem Yo:callable vE.P 82=true:=by kernel_rfl
theorem XU:callable vE.P 81=true:=by kernel_rfl
theorem Zi:callable vE.P 67=true:=by kernel_rfl
theorem XW:callable vE.P 83=true:=by kernel_rfl
theorem X0:callable vE.P 84=true:=by kernel_rfl
theorem Ym:callable vE.P 85=true:=by kernel_rfl
theorem Yw:callable vE.P 86=true:=by kernel_rfl
theorem Xk:callable vE.P 87=true:=by kernel_rfl
theorem WI:EI vE.P 100 1=some (1,1,false):=by kernel_rfl
theorem YP:callable vE.P 88=true:=by kernel_rfl
theorem XY:callable vE.P 89=true:=by kernel_rfl
theorem ZU:callable vE.P 91=true:=by kernel_rfl
theorem VR:EI vE.P 100 0=some (0,1,false):=by kernel_rfl
theorem Yf:callable vE.P 92=true:=by kernel_rfl
theorem ADN:DJ vE.P 47=false:=by kernel_rfl
theorem ADd:FO vE.P 47=some 1:=by kernel_rfl
theorem AHK:EW vE.P 5=false:=by kernel_rfl
theorem AJv:EY vE.P 5=some 1:=by kernel_rfl
theorem Yc:callable vE.P 93=true:=by kernel_rfl
theorem Xm:callable vE.P 94=true:=by kernel_rfl
theorem AAo: ∀n,Gu vE.P 116 n=some (List.map AVal.bool (Us 256)):=by intros;kernel_rfl
theorem ACj:EY vE.P 116=some 256:=by kernel_rfl
theorem Wm:callable vE.P 95=true:=by kernel_rfl
theorem ZH:callable vE.P 96=true:=by kernel_rfl
theorem Yi:callable vE.P 97=true:=by kernel_rfl
theorem YQ:callable vE.P 98=true:=by kernel_rfl
theorem Xg:callable vE.P 99=true:=by kernel_rfl
theorem Vz:callable vE.P 100=true:=by kernel_rfl
theorem U9:callable vE.P 101=true:=by kernel_rfl
theorem AAw: ∀n,Gu vE.P 124 n=some [.int .u8 0,.int .u8 0,.int .u8 0,.int .u8 0,.int .u8 0,.int .u8 0,.int .u8 0,.int .u8 0,.int .u8 0,.int .u8 0,.int .u8 0,.int .u8 0,.int .u8 0,.int .u8 0,.int .u8 0,.int .u8 0,.int .u8 0,.int .u8 0,.int .u8 0,.int .u8 0]:=by intros;kernel_rfl
theorem AAN:Hz vE.P 124=some (20,1,false):=by kernel_rfl
theorem AA1:FO vE.P 124=none:=by kernel_rfl
theorem Vj:callable vE.P 102=true:=by kernel_rfl
theorem Vu:callable vE.P 103=true:=by kernel_rfl
theorem Uz:callable vE.P 104=true:=by kernel_rfl
theorem Vo:callable vE.P 105=true:=by kernel_rfl
theorem Vm:callable vE.P 106=true:=by kernel_rfl
theorem ADY:H8 vE.P 126=0:=by kernel_rfl
theorem Vx:callable vE.P 107=true:=by kernel_rfl
theorem Vk:callable vE.P 108=true:=by kernel_rfl
theorem UE:callable vE.P 109=true:=by kernel_rfl
theorem Vl:callable vE.P 110=true:=by kernel_rfl
theorem ADS:Cg vE.P 97=true:=by kernel_rfl
theorem AHL:JC vE.P 133=some .u32:=by kernel_rfl
theorem AA7:DJ vE.P 133=false:=by kernel_rfl
theorem U0:callable vE.P 111=true:=by kernel_rfl
theorem Uq:callable vE.P 112=true:=by kernel_rfl
theorem VE:callable vE.P 113=true:=by kernel_rfl
theorem U5:callable vE.P 114=true:=by kernel_rfl
theorem VX:callable vE.P 115=false:=by kernel_rfl
theorem V9:callable vE.P 116=true:=by kernel_rfl
theorem ABi:Cg vE.P 116=true:=by kernel_rfl
theorem ABd:EW vE.P 116=true:=by kernel_rfl
theorem AA4:Hz vE.P 116=some (256,1,false):=by kernel_rfl
theorem AIc:EY vE.P 4=some 1:=by kernel_rfl
theorem VJ:callable vE.P 117=true:=by kernel_rfl
theorem VU:callable vE.P 118=true:=by kernel_rfl
theorem U2:callable vE.P 119=true:=by kernel_rfl
theorem AJq:JC vE.P 21=some .i32:=by kernel_rfl
theorem ADm:DJ vE.P 21=false:=by kernel_rfl
theorem AFe:H8 vE.P 21=0:=by kernel_rfl
theorem Uj:callable vE.P 120=true:=by kernel_rfl
theorem V3:callable vE.P 121=true:=by kernel_rfl
theorem V5:callable vE.P 122=true:=by kernel_rfl
theorem AAY:Cg vE.P 142=true:=by kernel_rfl
theorem AAg:EW vE.P 142=true:=by kernel_rfl
theorem AEz:EY vE.P 142=some 12:=by kernel_rfl
theorem AAQ:Hz vE.P 142=some (4,3,true):=by kernel_rfl
theorem AAx: ∀n,Gu vE.P 141 n=some [.int .u8 0,.int .u8 0,.int .i64 0]:=by intros;kernel_rfl
theorem ADo:EY vE.P 141=some 3:=by kernel_rfl
theorem WN:EI vE.P 141 1=some (1,1,false):=by kernel_rfl
theorem Vr:EI vE.P 141 0=some (0,1,false):=by kernel_rfl
theorem UG:EI vE.P 141 2=some (2,1,false):=by kernel_rfl
theorem VZ:callable vE.P 123=true:=by kernel_rfl
theorem Vb:callable vE.P 124=true:=by kernel_rfl
theorem AHb:JC vE.P 143=some .u64:=by kernel_rfl
theorem AA2:DJ vE.P 143=false:=by kernel_rfl
theorem AAq: ∀n,Gu vE.P 143 n=some [.int .u64 0]:=by intros;kernel_rfl
theorem AEi:EY vE.P 143=some 1:=by kernel_rfl
theorem Vs:callable vE.P 125=true:=by kernel_rfl
theorem U1:callable vE.P 126=true:=by kernel_rfl
theorem AGC:H8 vE.P 97=0:=by kernel_rfl
theorem AHZ: ∀n,Gu vE.P 3 n=some [.int .i64 0]:=by intros;kernel_rfl
theorem Vq:callable vE.P 127=true:=by kernel_rfl
theorem V8:callable vE.P 128=true:=by kernel_rfl
theorem AEn:H8 vE.P 133=0:=by kernel_rfl
theorem AAu:Cg vE.P 133=true:=by kernel_rfl
theorem UI:callable vE.P 129=true:=by kernel_rfl
theorem WH:callable vE.P 130=false:=by kernel_rfl
theorem Vf:callable vE.P 131=true:=by kernel_rfl
theorem VY:callable vE.P 132=true:=by kernel_rfl
theorem AHX:Cg vE.P 4=true:=by kernel_rfl
theorem AFt:EW vE.P 4=false:=by kernel_rfl
theorem Ug:callable vE.P 133=true:=by kernel_rfl
theorem VB:callable vE.P 134=true:=by kernel_rfl
theorem WS:callable vE.P 135=true:=by kernel_rfl
theorem Uv:callable vE.P 136=true:=by kernel_rfl
theorem AAP:Cg vE.P 143=true:=by kernel_rfl
theorem AAU:EW vE.P 143=false:=by kernel_rfl
theorem AEX:H8 vE.P 143=0:=by kernel_rfl
theorem Uu:callable vE.P 137=true:=by kernel_rfl
theorem WC:callable vE.P 138=true:=by kernel_rfl
theorem Vy:callable vE.P 139=true:=by kernel_rfl
theorem ABY:Hz vE.P 158=some (256,1,false):=by kernel_rfl
theorem ABe:Hz vE.P 161=some (16,2,true):=by kernel_rfl
theorem ABU:Cg vE.P 160=true:=by kernel_rfl
theorem AAX:EW vE.P 160=true:=by kernel_rfl
theorem ADi:EY vE.P 160=some 2:=by kernel_rfl
theorem AAh: ∀n,Gu vE.P 160 n=some [.int .u8 0,.int .u8 0]:=by intros;kernel_rfl
theorem WE:EI vE.P 160 0=some (0,1,false):=by kernel_rfl
theorem U7:EI vE.P 160 1=some (1,1,false):=by kernel_rfl
theorem ADu:Cg vE.P 21=true:=by kernel_rfl
theorem WO:callable vE.P 140=true:=by kernel_rfl
theorem ZM:callable vE.P 90=true:=by kernel_rfl
theorem ADL:Im vE.P 160=some (.agg [.int .u8 0,.int .u8 0]):=by kernel_rfl
theorem AC2:(I6 vE.P 160).isSome=true:=by kernel_rfl
theorem Vv:Bh vE.P 160 0=5:=by kernel_rfl
theorem Sc:DZ vE.P 160 0=some (0,1):=by kernel_rfl
theorem UQ:Bh vE.P 160 1=5:=by kernel_rfl
theorem R8:DZ vE.P 160 1=some (1,1):=by kernel_rfl
theorem AEt:Im vE.P 161=some (.agg [.int .u8 0,.int .u8 0,.int .u8 0,.int .u8 0,.int .u8 0,.int .u8 0,.int .u8 0,.int .u8 0,.int .u8 0,.int .u8 0,.int .u8 0,.int .u8 0,.int .u8 0,.int .u8 0,.int .u8 0,.int .u8 0,.int .u8 0,.int .u8 0,.int .u8 0,.int .u8 0,.int .u8 0,.int .u8 0,.int .u8 0,.int .u8 0,.int .u8 0,.int .u8 0,.int .u8 0,.int .u8 0,.int .u8 0,.int .u8 0,.int .u8 0,.int .u8 0]):=by kernel_rfl
theorem ADl:(I6 vE.P 161).isSome=true:=by kernel_rfl
theorem Vt:Bh vE.P 161 0=160:=by kernel_rfl
theorem SN:DZ vE.P 161 0=some (0,2):=by kernel_rfl
theorem Ux:Bh vE.P 161 1=160:=by kernel_rfl
theorem Sj:DZ vE.P 161 1=some (2,2):=by kernel_rfl
theorem WP:Bh vE.P 161 2=160:=by kernel_rfl
theorem Sl:DZ vE.P 161 2=some (4,2):=by kernel_rfl
theorem V6:Bh vE.P 161 3=160:=by kernel_rfl
theorem SC:DZ vE.P 161 3=some (6,2):=by kernel_rfl
theorem VQ:Bh vE.P 161 4=160:=by kernel_rfl
theorem R6:DZ vE.P 161 4=some (8,2):=by kernel_rfl
theorem AD1:EY vE.P 161=some 32:=by kernel_rfl
theorem ADH:Im vE.P 141=some (.agg [.int .u8 0,.int .u8 0,.int .i64 0]):=by kernel_rfl
theorem ADb:(I6 vE.P 141).isSome=true:=by kernel_rfl
theorem WR:Bh vE.P 141 0=5:=by kernel_rfl
theorem SI:DZ vE.P 141 0=some (0,1):=by kernel_rfl
theorem Ue:Bh vE.P 141 1=5:=by kernel_rfl
theorem Sr:DZ vE.P 141 1=some (1,1):=by kernel_rfl
theorem VT:Bh vE.P 141 2=3:=by kernel_rfl
theorem SL:DZ vE.P 141 2=some (2,1):=by kernel_rfl
theorem AEk:Im vE.P 142=some (.agg [.int .u8 0,.int .u8 0,.int .i64 0,.int .u8 0,.int .u8 0,.int .i64 0,.int .u8 0,.int .u8 0,.int .i64 0,.int .u8 0,.int .u8 0,.int .i64 0]):=by kernel_rfl
theorem ACR:(I6 vE.P 142).isSome=true:=by kernel_rfl
theorem VD:Bh vE.P 142 0=141:=by kernel_rfl
theorem SY:DZ vE.P 142 0=some (0,3):=by kernel_rfl
theorem Va:Bh vE.P 142 1=141:=by kernel_rfl
theorem Sb:DZ vE.P 142 1=some (3,3):=by kernel_rfl
theorem UB:Bh vE.P 142 2=141:=by kernel_rfl
theorem SF:DZ vE.P 142 2=some (6,3):=by kernel_rfl
theorem Vn:Bh vE.P 142 3=141:=by kernel_rfl
theorem SQ:DZ vE.P 142 3=some (9,3):=by kernel_rfl
theorem AMM: ∀af t,rd vE af t (.global 0)=.cptr I8:=by intros;rfl
theorem AMf:stripL I8=I8:=by simp[I8,stripL,AVal.strip]
theorem AMi:List.take 12 I8=I8:=by rfl
theorem AMD: ∀st,Ka vE 142 (.cptr I8) st=some (.agg I8):=by intros;kernel_rfl
theorem Lc{n:Int}{x:Utf8textForm}{k:IntKind} (h:idx Dv n=some x):Lj vE 142 (.agg I8) (.int k n)=some (.agg [.int .u8 x.mark,.int .u8 x.mask,.int .i64 x.least]):=by
  unfold idx at h
  split at h
  · rename_i hn
    obtain⟨j,rfl⟩: ∃j:Nat,n=j:=⟨n.toNat,by omega⟩
    rw[Int.toNat_natCast]at h
    rcases j with _|j
    · cases h;kernel_rfl
    rcases j with _|j
    · cases h;kernel_rfl
    rcases j with _|j
    · cases h;kernel_rfl
    rcases j with _|j
    · cases h;kernel_rfl
    simp[Dv]at h
  · cases h
theorem AFS:(vE.P.funcs[71]?).isSome=true:=by kernel_rfl
theorem ALm{x:AVal}{st:St}{Q:AVal→St→Prop} (h:Gl (Q x.strip st)):AB5 vE 71 [x] st Q:=by
  refine⟨(vE.P.funcs[71]?).get AFS,Extern.AbiNoEscape.same,x,(Option.some_get AFS).symm,by kernel_rfl,by kernel_rfl,by kernel_rfl,by kernel_rfl,fun Γ vs w hr=>?_,?_⟩
  · cases hr with|cons h1 t=>cases t;exact⟨_,Go.Lib.run_noEscape w _,h1⟩
  · have:=h.go;simpa[AVal.strip]using this
theorem ACD:(vE.P.funcs[115]?).isSome=true:=by kernel_rfl
theorem AIX{l:List UInt8}{c:Int}{st:St}{Q:AVal→St→Prop} (h:Gl (Q (.int .i64 (Go.Lib.indexByte l (IR c))) st)):AB5 vE 115 [.str l,.int .u8 c] st Q:=by
  refine⟨(vE.P.funcs[115]?).get ACD,Extern.BytealgIndexByte.indexByte,.int .i64 (Go.Lib.indexByte l (IR c)),(Option.some_get ACD).symm,by kernel_rfl,by kernel_rfl,by kernel_rfl,by kernel_rfl,fun Γ vs w hr=>?_,?_⟩
  · cases hr with|cons h1 t=>cases t with|cons h2 t=>cases t;cases h1;cases h2;exact⟨_,Go.Lib.run_indexByteString _ _ w,.int _ _⟩
  · have:=h.go;simpa[AVal.strip]using this
set_option linter.defProp false
def fxE:=And.intro (And.intro (And.intro (And.intro (And.intro (And.intro (And.intro (And.intro (@ABQ) (@AJN)) (And.intro (@ABW) (And.intro (@AGP) (@AIU)))) (And.intro (And.intro (@ABA) (And.intro (@AEa) (@AFj))) (And.intro (@AHu) (And.intro (@AD5) (@ADn))))) (And.intro (And.intro (And.intro (@XT) (@Wo)) (And.intro (@AH2) (And.intro (@X4) (@XK)))) (And.intro (And.intro (@AFu) (And.intro (@AGL) (@AJR))) (And.intro (@ZJ) (And.intro (@ADK) (@AEx)))))) (And.intro (And.intro (And.intro (And.intro (@AFo) (@ZP)) (And.intro (@YR) (And.intro (@AC7) (@AER)))) (And.intro (And.intro (@AFF) (And.intro (@Xq) (@AHJ))) (And.intro (@AKy) (And.intro (@AGJ) (@ADT))))) (And.intro (And.intro (And.intro (@AHP) (@AJI)) (And.intro (@AJJ) (And.intro (@ACP) (@AGp)))) (And.intro (And.intro (@AHv) (And.intro (@AIM) (@ADk))) (And.intro (@YU) (And.intro (@Xl) (@Z9))))))) (And.intro (And.intro (And.intro (And.intro (And.intro (@ZV) (@XV)) (And.intro (@XR) (And.intro (@AI5) (@AE8)))) (And.intro (And.intro (@AFR) (And.intro (@AGT) (@AGN))) (And.intro (@Y2) (And.intro (@VI) (@XX))))) (And.intro (And.intro (And.intro (@Xi) (@ACa)) (And.intro (@AHr) (And.intro (@Zl) (@AC0)))) (And.intro (And.intro (@ADq) (And.intro (@AHF) (@Zn))) (And.intro (@XM) (And.intro (@X5) (@XH)))))) (And.intro (And.intro (And.intro (And.intro (@AD6) (@Yg)) (And.intro (@Wi) (And.intro (@Wj) (@W9)))) (And.intro (And.intro (@ZG) (And.intro (@AFg) (@AFT))) (And.intro (@AIV) (And.intro (@YI) (@WU))))) (And.intro (And.intro (And.intro (@WX) (@YX)) (And.intro (@YB) (And.intro (@ADE) (@Xc)))) (And.intro (And.intro (@Wl) (And.intro (@XN) (@Yk))) (And.intro (@AEd) (And.intro (@AEq) (@Xf)))))))) (And.intro (And.intro (And.intro (And.intro (And.intro (And.intro (@AAF) (@Y0)) (And.intro (@Vp) (And.intro (@Yz) (@VO)))) (And.intro (And.intro (@Z0) (And.intro (@Xu) (@ZF))) (And.intro (@ZA) (And.intro (@Xa) (@AG9))))) (And.intro (And.intro (And.intro (@AHA) (@Ze)) (And.intro (@XE) (And.intro (@Zz) (@Y3)))) (And.intro (And.intro (@Zu) (And.intro (@ZW) (@Yj))) (And.intro (@ACt) (And.intro (@AEM) (@AHD)))))) (And.intro (And.intro (And.intro (And.intro (@X7) (@AF0)) (And.intro (@YA) (And.intro (@AG2) (@AIi)))) (And.intro (And.intro (@WZ) (And.intro (@AIQ) (@AIG))) (And.intro (@ALg) (And.intro (@ZI) (@ALA))))) (And.intro (And.intro (And.intro (@Zb) (@Yq)) (And.intro (@XF) (And.intro (@Yv) (@Y7)))) (And.intro (And.intro (@ZQ) (And.intro (@ZB) (@YO))) (And.intro (@YC) (And.intro (@AAA) (@AEo))))))) (And.intro (And.intro (And.intro (And.intro (And.intro (@ZE) (@XC)) (And.intro (@Yn) (And.intro (@AAC) (@AI3)))) (And.intro (And.intro (@AEv) (And.intro (@Yx) (@AAB))) (And.intro (@XB) (And.intro (@Vw) (@Xw))))) (And.intro (And.intro (And.intro (@Uo) (@AAE)) (And.intro (@ZR) (And.intro (@Vi) (@Wh)))) (And.intro (And.intro (@ZO) (And.intro (@Wp) (@AFI))) (And.intro (@Xe) (And.intro (@Wu) (@WY)))))) (And.intro (And.intro (And.intro (And.intro (@Y6) (@Zo)) (And.intro (@AHY) (And.intro (@AHa) (@Xv)))) (And.intro (And.intro (@Ws) (And.intro (@AGA) (@AD2))) (And.intro (@ALn) (And.intro (@AHE) (@Wt))))) (And.intro (And.intro (And.intro (@Yp) (And.intro (@Zh) (@ADG))) (And.intro (@ACQ) (And.intro (@AFV) (@AE4)))) (And.intro (And.intro (@ACu) (And.intro (@ACh) (@QJ))) (And.intro (@RL) (And.intro (@Qy) (@Rl))))))))) (And.intro (And.intro (And.intro (And.intro (And.intro (And.intro (And.intro (@Xp) (@ADp)) (And.intro (@AEc) (And.intro (@Qj) (@QK)))) (And.intro (And.intro (@Rn) (And.intro (@Qk) (@Zv))) (And.intro (@ACc) (And.intro (@AEN) (@Uk))))) (And.intro (And.intro (And.intro (@R5) (@YY)) (And.intro (@Yh) (And.intro (@ZK) (@Ww)))) (And.intro (And.intro (@ZZ) (And.intro (@ZN) (@Yd))) (And.intro (@Xt) (And.intro (@AHw) (@ACe)))))) (And.intro (And.intro (And.intro (And.intro (@Yo) (@XU)) (And.intro (@Zi) (And.intro (@XW) (@X0)))) (And.intro (And.intro (@Ym) (And.intro (@Yw) (@Xk))) (And.intro (@WI) (And.intro (@YP) (@XY))))) (And.intro (And.intro (And.intro (@ZU) (@VR)) (And.intro (@Yf) (And.intro (@ADN) (@ADd)))) (And.intro (And.intro (@AHK) (And.intro (@AJv) (@Yc))) (And.intro (@Xm) (And.intro (@AAo) (@ACj))))))) (And.intro (And.intro (And.intro (And.intro (And.intro (@Wm) (@ZH)) (And.intro (@Yi) (And.intro (@YQ) (@Xg)))) (And.intro (And.intro (@Vz) (And.intro (@U9) (@AAw))) (And.intro (@AAN) (And.intro (@AA1) (@Vj))))) (And.intro (And.intro (And.intro (@Vu) (@Uz)) (And.intro (@Vo) (And.intro (@Vm) (@ADY)))) (And.intro (And.intro (@Vx) (And.intro (@Vk) (@UE))) (And.intro (@Vl) (And.intro (@ADS) (@AHL)))))) (And.intro (And.intro (And.intro (And.intro (@AA7) (@U0)) (And.intro (@Uq) (And.intro (@VE) (@U5)))) (And.intro (And.intro (@VX) (And.intro (@V9) (@ABi))) (And.intro (@ABd) (And.intro (@AA4) (@AIc))))) (And.intro (And.intro (And.intro (@VJ) (@VU)) (And.intro (@U2) (And.intro (@AJq) (@ADm)))) (And.intro (And.intro (@AFe) (And.intro (@Uj) (@V3))) (And.intro (@V5) (And.intro (@AAY) (@AAg)))))))) (And.intro (And.intro (And.intro (And.intro (And.intro (And.intro (@AEz) (@AAQ)) (And.intro (@AAx) (And.intro (@ADo) (@WN)))) (And.intro (And.intro (@Vr) (And.intro (@UG) (@VZ))) (And.intro (@Vb) (And.intro (@AHb) (@AA2))))) (And.intro (And.intro (And.intro (@AAq) (@AEi)) (And.intro (@Vs) (And.intro (@U1) (@AGC)))) (And.intro (And.intro (@AHZ) (And.intro (@Vq) (@V8))) (And.intro (@AEn) (And.intro (@AAu) (@UI)))))) (And.intro (And.intro (And.intro (And.intro (@WH) (@Vf)) (And.intro (@VY) (And.intro (@AHX) (@AFt)))) (And.intro (And.intro (@Ug) (And.intro (@VB) (@WS))) (And.intro (@Uv) (And.intro (@AAP) (@AAU))))) (And.intro (And.intro (And.intro (@AEX) (@Uu)) (And.intro (@WC) (And.intro (@Vy) (@ABY)))) (And.intro (And.intro (@ABe) (And.intro (@ABU) (@AAX))) (And.intro (@ADi) (And.intro (@AAh) (@WE))))))) (And.intro (And.intro (And.intro (And.intro (And.intro (@U7) (@ADu)) (And.intro (@WO) (And.intro (@ZM) (@ADL)))) (And.intro (And.intro (@AC2) (And.intro (@Vv) (@Sc))) (And.intro (@UQ) (And.intro (@R8) (@AEt))))) (And.intro (And.intro (And.intro (@ADl) (@Vt)) (And.intro (@SN) (And.intro (@Ux) (@Sj)))) (And.intro (And.intro (@WP) (And.intro (@Sl) (@V6))) (And.intro (@SC) (And.intro (@VQ) (@R6)))))) (And.intro (And.intro (And.intro (And.intro (@AD1) (@ADH)) (And.intro (@ADb) (And.intro (@WR) (@SI)))) (And.intro (And.intro (@Ue) (And.intro (@Sr) (@VT))) (And.intro (@SL) (And.intro (@AEk) (@ACR))))) (And.intro (And.intro (And.intro (@VD) (And.intro (@SY) (@Va))) (And.intro (@Sb) (And.intro (@UB) (@SF)))) (And.intro (And.intro (@Vn) (And.intro (@SQ) (@AMM))) (And.intro (@AMf) (And.intro (@AMi) (@AMD)))))))))
def vm:=And.intro vmC (And.intro fxE eE)
end Go.Proofs.YtooeobhihpkicaaGreatDoor
