import Derived.Test.YtooeobhihpkicaaGreatDoorChecked
import Derived.Test.YtooeobhihpkicaaGreatDoorVM2
import Derived.Test.YtooeobhihpkicaaGreatDoorTy
import Derived.KernelRfl
set_option linter.unusedVariables false
namespace Go.Proofs.YtooeobhihpkicaaGreatDoor
open Go.VM
noncomputable def vE:Env:=⟨Tryz.prog,vT⟩
theorem Af:vE.P.follows .mixedOrders=true:=by kernel_rfl
theorem AAZ:callable vE.P 1=false:=by kernel_rfl
theorem AIg:IU vE.P 4=0:=by kernel_rfl
theorem AAS:callable vE.P 8=true:=by kernel_rfl
theorem AE2:Cy vE.P 9=true:=by kernel_rfl
theorem AIe:IU vE.P 3=0:=by kernel_rfl
theorem AAQ:callable vE.P 9=true:=by kernel_rfl
theorem AD1: ∀n,G9 vE.P 26 n=some [.int .i64 0,.str [],.slice 1 [] true,.slice 4 [] true]:=by intros;kernel_rfl
theorem AEm:Ed vE.P 26=some 4:=by kernel_rfl
theorem AGi:IU vE.P 27=0:=by kernel_rfl
theorem AB5:Cf vE.P 26=true:=by kernel_rfl
theorem AC1:Ea vE.P 26=true:=by kernel_rfl
theorem XC:callable vE.P 10=true:=by kernel_rfl
theorem YO:callable vE.P 11=true:=by kernel_rfl
theorem AIz:IU vE.P 0=0:=by kernel_rfl
theorem ZR:callable vE.P 12=true:=by kernel_rfl
theorem ZM:EP vE.P 26 0=some (0,1,false):=by kernel_rfl
theorem AFc:Cf vE.P 3=true:=by kernel_rfl
theorem AGJ:Ea vE.P 3=false:=by kernel_rfl
theorem AIF:Ed vE.P 3=some 1:=by kernel_rfl
theorem Za:EP vE.P 26 2=some (2,1,false):=by kernel_rfl
theorem ADR:Cf vE.P 23=true:=by kernel_rfl
theorem ADN:Ea vE.P 23=false:=by kernel_rfl
theorem AEG:Ed vE.P 23=some 1:=by kernel_rfl
theorem Yz:Fq vE.P 23=true:=by kernel_rfl
theorem Xi:EP vE.P 26 3=some (3,1,false):=by kernel_rfl
theorem ACA:Cf vE.P 24=true:=by kernel_rfl
theorem ADh:Ea vE.P 24=false:=by kernel_rfl
theorem AEE:Ed vE.P 24=some 1:=by kernel_rfl
theorem Xt:Fq vE.P 24=true:=by kernel_rfl
theorem AFq:Cf vE.P 5=true:=by kernel_rfl
theorem AKe:JN vE.P 3=some .i64:=by kernel_rfl
theorem AGe:Cy vE.P 3=false:=by kernel_rfl
theorem ADZ:FW vE.P 23=some 1:=by kernel_rfl
theorem AGQ:IU vE.P 23=1:=by kernel_rfl
theorem AHs:Ng vE.P 23=some (1,16):=by kernel_rfl
theorem AIm:JN vE.P 23=none:=by kernel_rfl
theorem ADJ:FW vE.P 24=some 4:=by kernel_rfl
theorem AE9:IU vE.P 24=4:=by kernel_rfl
theorem AIQ:Ng vE.P 24=some (4,72):=by kernel_rfl
theorem AHz:JN vE.P 24=none:=by kernel_rfl
theorem AD8:MW vE.P 4=true:=by kernel_rfl
theorem Yn:callable vE.P 13=true:=by kernel_rfl
theorem Yr:callable vE.P 14=true:=by kernel_rfl
theorem Wt:callable vE.P 15=true:=by kernel_rfl
theorem WL:callable vE.P 17=true:=by kernel_rfl
theorem ZQ:callable vE.P 18=true:=by kernel_rfl
theorem Yt:callable vE.P 16=true:=by kernel_rfl
theorem AHo:IU vE.P 9=0:=by kernel_rfl
theorem AFn:Iq vE.P 26=some (.agg [.int .i64 0,.str [],.slice 1 [] true,.slice 4 [] true]):=by kernel_rfl
theorem AFE:(I1 vE.P 26).isSome=true:=by kernel_rfl
theorem AFK:Iq vE.P 40=some (.agg [.str [],.int .i64 0,.int .i64 0,.int .i64 0,.int .i64 0]):=by kernel_rfl
theorem AEv:(I1 vE.P 40).isSome=true:=by kernel_rfl
theorem YR:Bd vE.P 40 0=9:=by kernel_rfl
theorem Vr:DK vE.P 40 0=some (0,1):=by kernel_rfl
theorem YX:callable vE.P 20=true:=by kernel_rfl
theorem YB:callable vE.P 19=true:=by kernel_rfl
theorem ABq: ∀n,G9 vE.P 43 n=some [.int .i64 0,.str [],.int .i64 0]:=by intros;kernel_rfl
theorem AFR:Ed vE.P 43=some 3:=by kernel_rfl
theorem Xm:EP vE.P 40 3=some (3,1,false):=by kernel_rfl
theorem AD9:Cf vE.P 27=true:=by kernel_rfl
theorem ACs:Ea vE.P 27=false:=by kernel_rfl
theorem AFw:Ed vE.P 27=some 1:=by kernel_rfl
theorem Yv:EP vE.P 43 0=some (0,1,false):=by kernel_rfl
theorem Y7:EP vE.P 43 2=some (2,1,false):=by kernel_rfl
theorem Xp:callable vE.P 21=true:=by kernel_rfl
theorem YU:EP vE.P 40 4=some (4,1,false):=by kernel_rfl
theorem ADu: ∀n,G9 vE.P 51 n=some [.nself n 51 2,.buf 5 [] true]:=by intros;kernel_rfl
theorem WK:callable vE.P 22=true:=by kernel_rfl
theorem ZF:EP vE.P 51 0=some (0,2,true):=by kernel_rfl
theorem ZT:callable vE.P 23=true:=by kernel_rfl
theorem Ya:callable vE.P 24=true:=by kernel_rfl
theorem XB:EP vE.P 26 1=some (1,1,false):=by kernel_rfl
theorem AGc:Cf vE.P 9=true:=by kernel_rfl
theorem AEo:Ea vE.P 9=false:=by kernel_rfl
theorem AHI:Ed vE.P 9=some 1:=by kernel_rfl
theorem YP:callable vE.P 25=true:=by kernel_rfl
theorem XI:callable vE.P 26=true:=by kernel_rfl
theorem XE:callable vE.P 27=true:=by kernel_rfl
theorem Y8:callable vE.P 29=true:=by kernel_rfl
theorem We:callable vE.P 28=true:=by kernel_rfl
theorem ADf: ∀n,G9 vE.P 60 n=some [.int .i64 0]:=by intros;kernel_rfl
theorem WJ:callable vE.P 30=true:=by kernel_rfl
theorem ZL:callable vE.P 31=true:=by kernel_rfl
theorem Xu:callable vE.P 32=true:=by kernel_rfl
theorem Xy:callable vE.P 33=true:=by kernel_rfl
theorem ACu:Cf vE.P 43=true:=by kernel_rfl
theorem ADQ:Ea vE.P 43=true:=by kernel_rfl
theorem Xo:callable vE.P 34=true:=by kernel_rfl
theorem Xf:EP vE.P 43 1=some (1,1,false):=by kernel_rfl
theorem ZZ:Bd vE.P 26 0=3:=by kernel_rfl
theorem Vy:DK vE.P 26 0=some (0,1):=by kernel_rfl
theorem Yw:Bd vE.P 26 1=9:=by kernel_rfl
theorem Vu:DK vE.P 26 1=some (1,1):=by kernel_rfl
theorem X8:callable vE.P 35=true:=by kernel_rfl
theorem YM:EP vE.P 40 2=some (2,1,false):=by kernel_rfl
theorem YS:callable vE.P 36=true:=by kernel_rfl
theorem Wi:callable vE.P 37=true:=by kernel_rfl
theorem Ws:callable vE.P 38=true:=by kernel_rfl
theorem AGl:Iq vE.P 43=some (.agg [.int .i64 0,.str [],.int .i64 0]):=by kernel_rfl
theorem AFl:(I1 vE.P 43).isSome=true:=by kernel_rfl
theorem ZU:EP vE.P 40 0=some (0,1,false):=by kernel_rfl
theorem Xw:EP vE.P 40 1=some (1,1,false):=by kernel_rfl
theorem YN:callable vE.P 39=true:=by kernel_rfl
theorem X5:callable vE.P 40=true:=by kernel_rfl
theorem Xz:callable vE.P 41=true:=by kernel_rfl
theorem Zg:callable vE.P 42=true:=by kernel_rfl
theorem XK:EP vE.P 49 1=some (1,1,false):=by kernel_rfl
theorem ADr:Cf vE.P 47=true:=by kernel_rfl
theorem AC8:Ea vE.P 47=false:=by kernel_rfl
theorem AFL:Ed vE.P 47=some 1:=by kernel_rfl
theorem ZP:Fq vE.P 47=true:=by kernel_rfl
theorem AFh:ptrTo vE.P 75 5=true:=by kernel_rfl
theorem X9:callable vE.P 43=true:=by kernel_rfl
theorem AEw:IU vE.P 47=1:=by kernel_rfl
theorem AG7:Ng vE.P 47=some (1,1):=by kernel_rfl
theorem XH:Bd vE.P 47 0=5:=by kernel_rfl
theorem AHT:IU vE.P 5=0:=by kernel_rfl
theorem AHg:JN vE.P 47=none:=by kernel_rfl
theorem AJ6:JN vE.P 9=none:=by kernel_rfl
theorem Yh:RA vE.P 47 5=true:=by kernel_rfl
theorem AJr:u8T vE.P 47=true:=by kernel_rfl
theorem Y9:Bd vE.P 24 0=26:=by kernel_rfl
theorem XY:callable vE.P 44=true:=by kernel_rfl
theorem WE:Bd vE.P 23 0=9:=by kernel_rfl
theorem Wo:EP vE.P 60 0=some (0,1,false):=by kernel_rfl
theorem WV:callable vE.P 45=true:=by kernel_rfl
theorem XO:callable vE.P 46=true:=by kernel_rfl
theorem X6:callable vE.P 47=true:=by kernel_rfl
theorem Yx:callable vE.P 48=true:=by kernel_rfl
theorem WF:callable vE.P 49=true:=by kernel_rfl
theorem Y5:Fq vE.P 79=true:=by kernel_rfl
theorem ACZ:FW vE.P 79=some 1:=by kernel_rfl
theorem YG:callable vE.P 50=true:=by kernel_rfl
theorem WT:callable vE.P 51=true:=by kernel_rfl
theorem WN:callable vE.P 53=true:=by kernel_rfl
theorem WZ:callable vE.P 52=true:=by kernel_rfl
theorem AHt:JN vE.P 84=some .u64:=by kernel_rfl
theorem ABv:Cy vE.P 84=false:=by kernel_rfl
theorem Zd:callable vE.P 54=true:=by kernel_rfl
theorem YQ:callable vE.P 55=true:=by kernel_rfl
theorem YL:Bd vE.P 43 0=3:=by kernel_rfl
theorem Vk:DK vE.P 43 0=some (0,1):=by kernel_rfl
theorem X0:Bd vE.P 43 2=3:=by kernel_rfl
theorem Ty:DK vE.P 43 2=some (2,1):=by kernel_rfl
theorem YC:callable vE.P 56=true:=by kernel_rfl
theorem Xb:Bd vE.P 43 1=9:=by kernel_rfl
theorem Ug:DK vE.P 43 1=some (1,1):=by kernel_rfl
theorem ZY:callable vE.P 57=true:=by kernel_rfl
theorem Ye:callable vE.P 58=true:=by kernel_rfl
theorem Yy:callable vE.P 59=true:=by kernel_rfl
theorem AE6:IU vE.P 70=0:=by kernel_rfl
theorem YE:callable vE.P 60=true:=by kernel_rfl
theorem Wm:callable vE.P 61=true:=by kernel_rfl
theorem WW:callable vE.P 62=true:=by kernel_rfl
theorem YT:callable vE.P 63=true:=by kernel_rfl
theorem Zb:callable vE.P 64=true:=by kernel_rfl
theorem AGH:IU vE.P 79=1:=by kernel_rfl
theorem AFO:ZH vE.P 79=some (8,.int .i64 0):=by kernel_rfl
theorem X4:callable vE.P 65=true:=by kernel_rfl
theorem WX:callable vE.P 68=true:=by kernel_rfl
theorem AFb:IU vE.P 84=0:=by kernel_rfl
theorem AB6:Cf vE.P 84=true:=by kernel_rfl
theorem AJn:JN vE.P 5=some .u8:=by kernel_rfl
theorem AFx:Cy vE.P 5=false:=by kernel_rfl
theorem Yl:callable vE.P 69=true:=by kernel_rfl
theorem WM:callable vE.P 70=true:=by kernel_rfl
theorem WR:EP vE.P 49 0=some (0,1,false):=by kernel_rfl
theorem ADA:Cf vE.P 46=true:=by kernel_rfl
theorem AD0:Ea vE.P 46=false:=by kernel_rfl
theorem AGF:Ed vE.P 46=some 1:=by kernel_rfl
theorem AEh:IU vE.P 46=0:=by kernel_rfl
theorem ADx:K5 vE.P 46=true:=by kernel_rfl
theorem AD2:Cy vE.P 94=false:=by kernel_rfl
theorem RS:Ki vE.P 46 94 48 2=true:=by kernel_rfl
theorem Ro:Ki vE.P 46 94 49 2=true:=by kernel_rfl
theorem RJ:Ki vE.P 46 94 50 2=true:=by kernel_rfl
theorem Qn:Ki vE.P 46 94 51 2=true:=by kernel_rfl
theorem Ze:callable vE.P 71=false:=by kernel_rfl
theorem ADU:Cf vE.P 94=true:=by kernel_rfl
theorem AD3:Cy vE.P 46=false:=by kernel_rfl
theorem Rp:Ki vE.P 94 46 48 2=true:=by kernel_rfl
theorem QD:Ki vE.P 94 46 49 2=true:=by kernel_rfl
theorem QF:Ki vE.P 94 46 50 2=true:=by kernel_rfl
theorem RD:Ki vE.P 94 46 51 2=true:=by kernel_rfl
theorem Zh:callable vE.P 72=true:=by kernel_rfl
theorem ADm:Iq vE.P 100=some (.agg [.str [],.int .i64 0]):=by kernel_rfl
theorem ACU:(I1 vE.P 100).isSome=true:=by kernel_rfl
theorem Vx:Bd vE.P 100 0=9:=by kernel_rfl
theorem SG:DK vE.P 100 0=some (0,1):=by kernel_rfl
theorem Yc:callable vE.P 73=true:=by kernel_rfl
theorem ZJ:callable vE.P 75=true:=by kernel_rfl
theorem Xj:callable vE.P 74=true:=by kernel_rfl
theorem Wq:callable vE.P 76=true:=by kernel_rfl
theorem YJ:callable vE.P 77=true:=by kernel_rfl
theorem X7:callable vE.P 78=true:=by kernel_rfl
theorem Wh:callable vE.P 79=true:=by kernel_rfl
theorem XD:callable vE.P 80=true:=by kernel_rfl
theorem AHR:JN vE.P 97=some .u64:=by kernel_rfl
theorem ACf:Cy vE.P 97=false:=by kernel_rfl
theorem YZ:callable vE.P 82=true:=by kernel_rfl
theorem XJ:callable vE.P 81=true:=by kernel_rfl
theorem ZW:callable vE.P 67=true:=by kernel_rfl
theorem Yb:callable vE.P 83=true:=by kernel_rfl
theorem Yp:callable vE.P 84=true:=by kernel_rfl
theorem Xk:callable vE.P 85=true:=by kernel_rfl
theorem Yk:callable vE.P 86=true:=by kernel_rfl
theorem XM:callable vE.P 87=true:=by kernel_rfl
theorem VV:EP vE.P 100 1=some (1,1,false):=by kernel_rfl
theorem ZV:callable vE.P 88=true:=by kernel_rfl
theorem WO:callable vE.P 89=true:=by kernel_rfl
theorem ZC:callable vE.P 91=true:=by kernel_rfl
theorem Vt:EP vE.P 100 0=some (0,1,false):=by kernel_rfl
theorem Zc:callable vE.P 92=true:=by kernel_rfl
theorem ACS:Cy vE.P 47=false:=by kernel_rfl
theorem ACQ:FW vE.P 47=some 1:=by kernel_rfl
theorem AEi:Ea vE.P 5=false:=by kernel_rfl
theorem AIp:Ed vE.P 5=some 1:=by kernel_rfl
theorem XA:callable vE.P 93=true:=by kernel_rfl
theorem YI:callable vE.P 94=true:=by kernel_rfl
theorem Zm: ∀n,G9 vE.P 116 n=some (List.map AVal.bool (Uw 256)):=by intros;kernel_rfl
theorem ACX:Ed vE.P 116=some 256:=by kernel_rfl
theorem Y2:callable vE.P 95=true:=by kernel_rfl
theorem YF:callable vE.P 96=true:=by kernel_rfl
theorem Xa:callable vE.P 97=true:=by kernel_rfl
theorem YY:callable vE.P 98=true:=by kernel_rfl
theorem WS:callable vE.P 99=true:=by kernel_rfl
theorem Vq:callable vE.P 100=true:=by kernel_rfl
theorem VK:callable vE.P 101=true:=by kernel_rfl
theorem AAm: ∀n,G9 vE.P 124 n=some [.int .u8 0,.int .u8 0,.int .u8 0,.int .u8 0,.int .u8 0,.int .u8 0,.int .u8 0,.int .u8 0,.int .u8 0,.int .u8 0,.int .u8 0,.int .u8 0,.int .u8 0,.int .u8 0,.int .u8 0,.int .u8 0,.int .u8 0,.int .u8 0,.int .u8 0,.int .u8 0]:=by intros;kernel_rfl
theorem AA2:II vE.P 124=some (20,1,false):=by kernel_rfl
theorem AAe:FW vE.P 124=none:=by kernel_rfl
theorem UB:callable vE.P 102=true:=by kernel_rfl
theorem Us:callable vE.P 103=true:=by kernel_rfl
theorem Ur:callable vE.P 104=true:=by kernel_rfl
theorem VN:callable vE.P 105=true:=by kernel_rfl
theorem Vb:callable vE.P 106=true:=by kernel_rfl
theorem ACV:IU vE.P 126=0:=by kernel_rfl
theorem Ul:callable vE.P 107=true:=by kernel_rfl
theorem VO:callable vE.P 108=true:=by kernel_rfl
theorem T9:callable vE.P 109=true:=by kernel_rfl
theorem Tv:callable vE.P 110=true:=by kernel_rfl
theorem ABm:Cf vE.P 97=true:=by kernel_rfl
theorem AFu:JN vE.P 133=some .u32:=by kernel_rfl
theorem Zl:Cy vE.P 133=false:=by kernel_rfl
theorem Uu:callable vE.P 111=true:=by kernel_rfl
theorem UJ:callable vE.P 112=true:=by kernel_rfl
theorem VT:callable vE.P 113=true:=by kernel_rfl
theorem UC:callable vE.P 114=true:=by kernel_rfl
theorem UO:callable vE.P 115=false:=by kernel_rfl
theorem Uo:callable vE.P 116=true:=by kernel_rfl
theorem AA3:Cf vE.P 116=true:=by kernel_rfl
theorem Zw:Ea vE.P 116=true:=by kernel_rfl
theorem AAk:II vE.P 116=some (256,1,false):=by kernel_rfl
theorem AIS:Ed vE.P 4=some 1:=by kernel_rfl
theorem V6:callable vE.P 117=true:=by kernel_rfl
theorem VX:callable vE.P 118=true:=by kernel_rfl
theorem VI:callable vE.P 119=true:=by kernel_rfl
theorem AHE:JN vE.P 21=some .i32:=by kernel_rfl
theorem ACc:Cy vE.P 21=false:=by kernel_rfl
theorem AEp:IU vE.P 21=0:=by kernel_rfl
theorem UZ:callable vE.P 120=true:=by kernel_rfl
theorem Vi:callable vE.P 121=true:=by kernel_rfl
theorem WA:callable vE.P 122=true:=by kernel_rfl
theorem AA5:Cf vE.P 142=true:=by kernel_rfl
theorem Zp:Ea vE.P 142=true:=by kernel_rfl
theorem ACg:Ed vE.P 142=some 12:=by kernel_rfl
theorem ABB:II vE.P 142=some (4,3,true):=by kernel_rfl
theorem AAM: ∀n,G9 vE.P 141 n=some [.int .u8 0,.int .u8 0,.int .i64 0]:=by intros;kernel_rfl
theorem ADa:Ed vE.P 141=some 3:=by kernel_rfl
theorem VP:EP vE.P 141 1=some (1,1,false):=by kernel_rfl
theorem Vn:EP vE.P 141 0=some (0,1,false):=by kernel_rfl
theorem V9:EP vE.P 141 2=some (2,1,false):=by kernel_rfl
theorem VD:callable vE.P 123=true:=by kernel_rfl
theorem Vv:callable vE.P 124=true:=by kernel_rfl
theorem AGV:JN vE.P 143=some .u64:=by kernel_rfl
theorem AAG:Cy vE.P 143=false:=by kernel_rfl
theorem AAT: ∀n,G9 vE.P 143 n=some [.int .u64 0]:=by intros;kernel_rfl
theorem ADT:Ed vE.P 143=some 1:=by kernel_rfl
theorem Uf:callable vE.P 125=true:=by kernel_rfl
theorem UH:callable vE.P 126=true:=by kernel_rfl
theorem AEy:IU vE.P 97=0:=by kernel_rfl
theorem AEf: ∀n,G9 vE.P 3 n=some [.int .i64 0]:=by intros;kernel_rfl
theorem Vo:callable vE.P 127=true:=by kernel_rfl
theorem VS:callable vE.P 128=true:=by kernel_rfl
theorem ADy:IU vE.P 133=0:=by kernel_rfl
theorem AA8:Cf vE.P 133=true:=by kernel_rfl
theorem UF:callable vE.P 129=true:=by kernel_rfl
theorem Ux:callable vE.P 130=false:=by kernel_rfl
theorem Uq:callable vE.P 131=true:=by kernel_rfl
theorem V3:callable vE.P 132=true:=by kernel_rfl
theorem AE7:Cf vE.P 4=true:=by kernel_rfl
theorem AFS:Ea vE.P 4=false:=by kernel_rfl
theorem Uk:callable vE.P 133=true:=by kernel_rfl
theorem Ue:callable vE.P 134=true:=by kernel_rfl
theorem VB:callable vE.P 135=true:=by kernel_rfl
theorem Tu:callable vE.P 136=true:=by kernel_rfl
theorem AAX:Cf vE.P 143=true:=by kernel_rfl
theorem Zo:Ea vE.P 143=false:=by kernel_rfl
theorem AC5:IU vE.P 143=0:=by kernel_rfl
theorem U1:callable vE.P 137=true:=by kernel_rfl
theorem Vp:callable vE.P 138=true:=by kernel_rfl
theorem VA:callable vE.P 139=true:=by kernel_rfl
theorem AAB:II vE.P 158=some (256,1,false):=by kernel_rfl
theorem AAs:II vE.P 161=some (16,2,true):=by kernel_rfl
theorem AAF:Cf vE.P 160=true:=by kernel_rfl
theorem Z6:Ea vE.P 160=true:=by kernel_rfl
theorem ABs:Ed vE.P 160=some 2:=by kernel_rfl
theorem AA7: ∀n,G9 vE.P 160 n=some [.int .u8 0,.int .u8 0]:=by intros;kernel_rfl
theorem VJ:EP vE.P 160 0=some (0,1,false):=by kernel_rfl
theorem VL:EP vE.P 160 1=some (1,1,false):=by kernel_rfl
theorem ADe:Cf vE.P 21=true:=by kernel_rfl
theorem U8:callable vE.P 140=true:=by kernel_rfl
theorem YV:callable vE.P 90=true:=by kernel_rfl
theorem ACM:Iq vE.P 160=some (.agg [.int .u8 0,.int .u8 0]):=by kernel_rfl
theorem ACq:(I1 vE.P 160).isSome=true:=by kernel_rfl
theorem Vj:Bd vE.P 160 0=5:=by kernel_rfl
theorem Sa:DK vE.P 160 0=some (0,1):=by kernel_rfl
theorem UV:Bd vE.P 160 1=5:=by kernel_rfl
theorem R4:DK vE.P 160 1=some (1,1):=by kernel_rfl
theorem ADj:Iq vE.P 161=some (.agg [.int .u8 0,.int .u8 0,.int .u8 0,.int .u8 0,.int .u8 0,.int .u8 0,.int .u8 0,.int .u8 0,.int .u8 0,.int .u8 0,.int .u8 0,.int .u8 0,.int .u8 0,.int .u8 0,.int .u8 0,.int .u8 0,.int .u8 0,.int .u8 0,.int .u8 0,.int .u8 0,.int .u8 0,.int .u8 0,.int .u8 0,.int .u8 0,.int .u8 0,.int .u8 0,.int .u8 0,.int .u8 0,.int .u8 0,.int .u8 0,.int .u8 0,.int .u8 0]):=by kernel_rfl
theorem ACv:(I1 vE.P 161).isSome=true:=by kernel_rfl
theorem V8:Bd vE.P 161 0=160:=by kernel_rfl
theorem Ru:DK vE.P 161 0=some (0,2):=by kernel_rfl
theorem Tt:Bd vE.P 161 1=160:=by kernel_rfl
theorem SL:DK vE.P 161 1=some (2,2):=by kernel_rfl
theorem Va:Bd vE.P 161 2=160:=by kernel_rfl
theorem SV:DK vE.P 161 2=some (4,2):=by kernel_rfl
theorem Vf:Bd vE.P 161 3=160:=by kernel_rfl
theorem SE:DK vE.P 161 3=some (6,2):=by kernel_rfl
theorem Ut:Bd vE.P 161 4=160:=by kernel_rfl
theorem SB:DK vE.P 161 4=some (8,2):=by kernel_rfl
theorem AC7:Ed vE.P 161=some 32:=by kernel_rfl
theorem ADX:Iq vE.P 141=some (.agg [.int .u8 0,.int .u8 0,.int .i64 0]):=by kernel_rfl
theorem ACG:(I1 vE.P 141).isSome=true:=by kernel_rfl
theorem VU:Bd vE.P 141 0=5:=by kernel_rfl
theorem Rt:DK vE.P 141 0=some (0,1):=by kernel_rfl
theorem UE:Bd vE.P 141 1=5:=by kernel_rfl
theorem Rz:DK vE.P 141 1=some (1,1):=by kernel_rfl
theorem UI:Bd vE.P 141 2=3:=by kernel_rfl
theorem Rx:DK vE.P 141 2=some (2,1):=by kernel_rfl
theorem ACP:Iq vE.P 142=some (.agg [.int .u8 0,.int .u8 0,.int .i64 0,.int .u8 0,.int .u8 0,.int .i64 0,.int .u8 0,.int .u8 0,.int .i64 0,.int .u8 0,.int .u8 0,.int .i64 0]):=by kernel_rfl
theorem ACF:(I1 vE.P 142).isSome=true:=by kernel_rfl
theorem WC:Bd vE.P 142 0=141:=by kernel_rfl
theorem SX:DK vE.P 142 0=some (0,3):=by kernel_rfl
theorem VY:Bd vE.P 142 1=141:=by kernel_rfl
theorem Ry:DK vE.P 142 1=some (3,3):=by kernel_rfl
theorem U2:Bd vE.P 142 2=141:=by kernel_rfl
theorem Sg:DK vE.P 142 2=some (6,3):=by kernel_rfl
theorem Ud:Bd vE.P 142 3=141:=by kernel_rfl
theorem Sb:DK vE.P 142 3=some (9,3):=by kernel_rfl
theorem ALH: ∀af t,rd vE af t (.global 0)=.cptr JE:=by intros;rfl
theorem AKz:stripL JE=JE:=by simp[JE,stripL,AVal.strip]
theorem ALD:List.take 12 JE=JE:=by rfl
theorem AK4: ∀st,Kb vE 142 (.cptr JE) st=some (.agg JE):=by intros;kernel_rfl
theorem Le{n:Int}{x:Utf8textForm}{k:IntKind} (h:idx Dn n=some x):MV vE 142 (.agg JE) (.int k n)=some (.agg [.int .u8 x.mark,.int .u8 x.mask,.int .i64 x.least]):=by
  unfold idx at h
  split at h
  · rename_i hn
    obtain⟨j,rfl⟩: ∃j:Nat,n=j:=⟨n.toNat,by omega⟩
    rw[Int.toNat_natCast]at h
    rcases j with _|j
    · cases h;kernel_rfl
    rcases j with _|j
    · cases h;kernel_rfl
    rcases j with _|j
    · cases h;kernel_rfl
    rcases j with _|j
    · cases h;kernel_rfl
    simp[Dn]at h
  · cases h
theorem AET:(vE.P.funcs[71]?).isSome=true:=by kernel_rfl
theorem AJp{x:AVal}{st:St}{Q:AVal→St→Prop} (h:Gl (Q x.strip st)):ABi vE 71 [x] st Q:=by
  refine⟨(vE.P.funcs[71]?).get AET,Extern.AbiNoEscape.same,x,(Option.some_get AET).symm,by kernel_rfl,by kernel_rfl,by kernel_rfl,by kernel_rfl,fun Γ vs w hr=>?_,?_⟩
  · cases hr with|cons h1 t=>cases t;exact⟨_,Go.Lib.run_noEscape w _,h1⟩
  · have:=h.go;simpa[AVal.strip]using this
theorem ABX:(vE.P.funcs[115]?).isSome=true:=by kernel_rfl
theorem AHd{l:List UInt8}{c:Int}{st:St}{Q:AVal→St→Prop} (h:Gl (Q (.int .i64 (Go.Lib.indexByte l (Fz c))) st)):ABi vE 115 [.str l,.int .u8 c] st Q:=by
  refine⟨(vE.P.funcs[115]?).get ABX,Extern.BytealgIndexByte.indexByte,.int .i64 (Go.Lib.indexByte l (Fz c)),(Option.some_get ABX).symm,by kernel_rfl,by kernel_rfl,by kernel_rfl,by kernel_rfl,fun Γ vs w hr=>?_,?_⟩
  · cases hr with|cons h1 t=>cases t with|cons h2 t=>cases t;cases h1;cases h2;exact⟨_,Go.Lib.run_indexByteString _ _ w,.int _ _⟩
  · have:=h.go;simpa[AVal.strip]using this
set_option linter.defProp false
def fxE:=And.intro (And.intro (And.intro (And.intro (And.intro (And.intro (And.intro (And.intro (@AAZ) (@AIg)) (And.intro (@AAS) (And.intro (@AE2) (@AIe)))) (And.intro (And.intro (@AAQ) (And.intro (@AD1) (@AEm))) (And.intro (@AGi) (And.intro (@AB5) (@AC1))))) (And.intro (And.intro (And.intro (@XC) (@YO)) (And.intro (@AIz) (And.intro (@ZR) (@ZM)))) (And.intro (And.intro (@AFc) (And.intro (@AGJ) (@AIF))) (And.intro (@Za) (And.intro (@ADR) (@ADN)))))) (And.intro (And.intro (And.intro (And.intro (@AEG) (@Yz)) (And.intro (@Xi) (And.intro (@ACA) (@ADh)))) (And.intro (And.intro (@AEE) (And.intro (@Xt) (@AFq))) (And.intro (@AKe) (And.intro (@AGe) (@ADZ))))) (And.intro (And.intro (And.intro (@AGQ) (@AHs)) (And.intro (@AIm) (And.intro (@ADJ) (@AE9)))) (And.intro (And.intro (@AIQ) (And.intro (@AHz) (@AD8))) (And.intro (@Yn) (And.intro (@Yr) (@Wt))))))) (And.intro (And.intro (And.intro (And.intro (And.intro (@WL) (@ZQ)) (And.intro (@Yt) (And.intro (@AHo) (@AFn)))) (And.intro (And.intro (@AFE) (And.intro (@AFK) (@AEv))) (And.intro (@YR) (And.intro (@Vr) (@YX))))) (And.intro (And.intro (And.intro (@YB) (@ABq)) (And.intro (@AFR) (And.intro (@Xm) (@AD9)))) (And.intro (And.intro (@ACs) (And.intro (@AFw) (@Yv))) (And.intro (@Y7) (And.intro (@Xp) (@YU)))))) (And.intro (And.intro (And.intro (And.intro (@ADu) (@WK)) (And.intro (@ZF) (And.intro (@ZT) (@Ya)))) (And.intro (And.intro (@XB) (And.intro (@AGc) (@AEo))) (And.intro (@AHI) (And.intro (@YP) (@XI))))) (And.intro (And.intro (And.intro (@XE) (@Y8)) (And.intro (@We) (And.intro (@ADf) (@WJ)))) (And.intro (And.intro (@ZL) (And.intro (@Xu) (@Xy))) (And.intro (@ACu) (And.intro (@ADQ) (@Xo)))))))) (And.intro (And.intro (And.intro (And.intro (And.intro (And.intro (@Xf) (@ZZ)) (And.intro (@Vy) (And.intro (@Yw) (@Vu)))) (And.intro (And.intro (@X8) (And.intro (@YM) (@YS))) (And.intro (@Wi) (And.intro (@Ws) (@AGl))))) (And.intro (And.intro (And.intro (@AFl) (@ZU)) (And.intro (@Xw) (And.intro (@YN) (@X5)))) (And.intro (And.intro (@Xz) (And.intro (@Zg) (@XK))) (And.intro (@ADr) (And.intro (@AC8) (@AFL)))))) (And.intro (And.intro (And.intro (And.intro (@ZP) (@AFh)) (And.intro (@X9) (And.intro (@AEw) (@AG7)))) (And.intro (And.intro (@XH) (And.intro (@AHT) (@AHg))) (And.intro (@AJ6) (And.intro (@Yh) (@AJr))))) (And.intro (And.intro (And.intro (@Y9) (@XY)) (And.intro (@WE) (And.intro (@Wo) (@WV)))) (And.intro (And.intro (@XO) (And.intro (@X6) (@Yx))) (And.intro (@WF) (And.intro (@Y5) (@ACZ))))))) (And.intro (And.intro (And.intro (And.intro (And.intro (@YG) (@WT)) (And.intro (@WN) (And.intro (@WZ) (@AHt)))) (And.intro (And.intro (@ABv) (And.intro (@Zd) (@YQ))) (And.intro (@YL) (And.intro (@Vk) (@X0))))) (And.intro (And.intro (And.intro (@Ty) (@YC)) (And.intro (@Xb) (And.intro (@Ug) (@ZY)))) (And.intro (And.intro (@Ye) (And.intro (@Yy) (@AE6))) (And.intro (@YE) (And.intro (@Wm) (@WW)))))) (And.intro (And.intro (And.intro (And.intro (@YT) (@Zb)) (And.intro (@AGH) (And.intro (@AFO) (@X4)))) (And.intro (And.intro (@WX) (And.intro (@AFb) (@AB6))) (And.intro (@AJn) (And.intro (@AFx) (@Yl))))) (And.intro (And.intro (And.intro (@WM) (And.intro (@WR) (@ADA))) (And.intro (@AD0) (And.intro (@AGF) (@AEh)))) (And.intro (And.intro (@ADx) (And.intro (@AD2) (@RS))) (And.intro (@Ro) (And.intro (@RJ) (@Qn))))))))) (And.intro (And.intro (And.intro (And.intro (And.intro (And.intro (And.intro (@Ze) (@ADU)) (And.intro (@AD3) (And.intro (@Rp) (@QD)))) (And.intro (And.intro (@QF) (And.intro (@RD) (@Zh))) (And.intro (@ADm) (And.intro (@ACU) (@Vx))))) (And.intro (And.intro (And.intro (@SG) (@Yc)) (And.intro (@ZJ) (And.intro (@Xj) (@Wq)))) (And.intro (And.intro (@YJ) (And.intro (@X7) (@Wh))) (And.intro (@XD) (And.intro (@AHR) (@ACf)))))) (And.intro (And.intro (And.intro (And.intro (@YZ) (@XJ)) (And.intro (@ZW) (And.intro (@Yb) (@Yp)))) (And.intro (And.intro (@Xk) (And.intro (@Yk) (@XM))) (And.intro (@VV) (And.intro (@ZV) (@WO))))) (And.intro (And.intro (And.intro (@ZC) (@Vt)) (And.intro (@Zc) (And.intro (@ACS) (@ACQ)))) (And.intro (And.intro (@AEi) (And.intro (@AIp) (@XA))) (And.intro (@YI) (And.intro (@Zm) (@ACX))))))) (And.intro (And.intro (And.intro (And.intro (And.intro (@Y2) (@YF)) (And.intro (@Xa) (And.intro (@YY) (@WS)))) (And.intro (And.intro (@Vq) (And.intro (@VK) (@AAm))) (And.intro (@AA2) (And.intro (@AAe) (@UB))))) (And.intro (And.intro (And.intro (@Us) (@Ur)) (And.intro (@VN) (And.intro (@Vb) (@ACV)))) (And.intro (And.intro (@Ul) (And.intro (@VO) (@T9))) (And.intro (@Tv) (And.intro (@ABm) (@AFu)))))) (And.intro (And.intro (And.intro (And.intro (@Zl) (@Uu)) (And.intro (@UJ) (And.intro (@VT) (@UC)))) (And.intro (And.intro (@UO) (And.intro (@Uo) (@AA3))) (And.intro (@Zw) (And.intro (@AAk) (@AIS))))) (And.intro (And.intro (And.intro (@V6) (@VX)) (And.intro (@VI) (And.intro (@AHE) (@ACc)))) (And.intro (And.intro (@AEp) (And.intro (@UZ) (@Vi))) (And.intro (@WA) (And.intro (@AA5) (@Zp)))))))) (And.intro (And.intro (And.intro (And.intro (And.intro (And.intro (@ACg) (@ABB)) (And.intro (@AAM) (And.intro (@ADa) (@VP)))) (And.intro (And.intro (@Vn) (And.intro (@V9) (@VD))) (And.intro (@Vv) (And.intro (@AGV) (@AAG))))) (And.intro (And.intro (And.intro (@AAT) (@ADT)) (And.intro (@Uf) (And.intro (@UH) (@AEy)))) (And.intro (And.intro (@AEf) (And.intro (@Vo) (@VS))) (And.intro (@ADy) (And.intro (@AA8) (@UF)))))) (And.intro (And.intro (And.intro (And.intro (@Ux) (@Uq)) (And.intro (@V3) (And.intro (@AE7) (@AFS)))) (And.intro (And.intro (@Uk) (And.intro (@Ue) (@VB))) (And.intro (@Tu) (And.intro (@AAX) (@Zo))))) (And.intro (And.intro (And.intro (@AC5) (@U1)) (And.intro (@Vp) (And.intro (@VA) (@AAB)))) (And.intro (And.intro (@AAs) (And.intro (@AAF) (@Z6))) (And.intro (@ABs) (And.intro (@AA7) (@VJ))))))) (And.intro (And.intro (And.intro (And.intro (And.intro (@VL) (@ADe)) (And.intro (@U8) (And.intro (@YV) (@ACM)))) (And.intro (And.intro (@ACq) (And.intro (@Vj) (@Sa))) (And.intro (@UV) (And.intro (@R4) (@ADj))))) (And.intro (And.intro (And.intro (@ACv) (@V8)) (And.intro (@Ru) (And.intro (@Tt) (@SL)))) (And.intro (And.intro (@Va) (And.intro (@SV) (@Vf))) (And.intro (@SE) (And.intro (@Ut) (@SB)))))) (And.intro (And.intro (And.intro (And.intro (@AC7) (@ADX)) (And.intro (@ACG) (And.intro (@VU) (@Rt)))) (And.intro (And.intro (@UE) (And.intro (@Rz) (@UI))) (And.intro (@Rx) (And.intro (@ACP) (@ACF))))) (And.intro (And.intro (And.intro (@WC) (And.intro (@SX) (@VY))) (And.intro (@Ry) (And.intro (@U2) (@Sg)))) (And.intro (And.intro (@Ud) (And.intro (@Sb) (@ALH))) (And.intro (@AKz) (And.intro (@ALD) (@AK4)))))))))
def vm:=And.intro vmC (And.intro fxE eE)
end Go.Proofs.YtooeobhihpkicaaGreatDoor
