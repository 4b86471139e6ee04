import Derived.Test.YtjgdhjpafjpjgaaGreatDoorChecked
import Derived.Test.YtjgdhjpafjpjgaaGreatDoorVM2
import Derived.Test.YtjgdhjpafjpjgaaGreatDoorTy
import Derived.KernelRfl
set_option linter.unusedVariables false
namespace Go.Proofs.YtjgdhjpafjpjgaaGreatDoor
open Go.VM
noncomputable def vE:Env:=⟨Tryz.prog,vT⟩
theorem Ar:vE.P.follows .mixedOrders=true:=by kernel_rfl
theorem ABE:callable vE.P 1=false:=by kernel_rfl
theorem AIr:Ee vE.P 4=0:=by kernel_rfl
theorem AAQ:callable vE.P 7=true:=by kernel_rfl
theorem AEd:Ah vE.P 23=true:=by kernel_rfl
theorem ACy:BP vE.P 23=true:=by kernel_rfl
theorem AFX:BX vE.P 23=some 4:=by kernel_rfl
theorem AAu:callable vE.P 8=true:=by kernel_rfl
theorem ABd:callable vE.P 9=true:=by kernel_rfl
theorem AKB:Gx vE.P 28=some (4,48):=by kernel_rfl
theorem V8:AR vE.P 28 0=23:=by kernel_rfl
theorem YQ:BZ vE.P 28=true:=by kernel_rfl
theorem AKA:Ee vE.P 3=0:=by kernel_rfl
theorem AEa:Bb vE.P 28=some 4:=by kernel_rfl
theorem ADZ: ∀n,CG vE.P 23 n=some [.int .i64 0,.str [],.str [],.int .i64 0]:=by intros;kernel_rfl
theorem XK:callable vE.P 10=true:=by kernel_rfl
theorem AEs: ∀n,CG vE.P 30 n=some [.str [],.int .i64 0,.str [],.str [],.str [],.bool false,.bool false]:=by intros;kernel_rfl
theorem AHD:BX vE.P 30=some 7:=by kernel_rfl
theorem ZO:callable vE.P 11=true:=by kernel_rfl
theorem YE:callable vE.P 12=true:=by kernel_rfl
theorem Zr:callable vE.P 13=true:=by kernel_rfl
theorem XF:callable vE.P 14=true:=by kernel_rfl
theorem Yi:callable vE.P 15=true:=by kernel_rfl
theorem ACM:Ah vE.P 30=true:=by kernel_rfl
theorem AET:BP vE.P 30=true:=by kernel_rfl
theorem ABF:vE.P.eqGuardType vE.P.depth 30=false:=by kernel_rfl
theorem AKw: ∀(a0 b0:List UInt8) (a1 b1:Int) (a2 b2:List UInt8) (a3 b3:List UInt8) (a4 b4:List UInt8) (a5 b5:Bool) (a6 b6:Bool),eqA vE.P 10000 30 (.agg [.str a0,.int .i64 a1,.str a2,.str a3,.str a4,.bool a5,.bool a6]) (.agg [.str b0,.int .i64 b1,.str b2,.str b3,.str b4,.bool b5,.bool b6])=some (a0==b0&&(a1==b1&&(a2==b2&&(a3==b3&&(a4==b4&&(a5==b5&&(a6==b6&&true))))))):=by intros;kernel_rfl
theorem Wq:callable vE.P 16=true:=by kernel_rfl
theorem AG2:Bc vE.P 9=true:=by kernel_rfl
theorem Yr:callable vE.P 18=true:=by kernel_rfl
theorem WR:callable vE.P 19=true:=by kernel_rfl
theorem YC:callable vE.P 17=true:=by kernel_rfl
theorem ZP:AY vE.P 42 2=some (3,1,false):=by kernel_rfl
theorem AFn:Ah vE.P 9=true:=by kernel_rfl
theorem AF1:BP vE.P 9=false:=by kernel_rfl
theorem AIz:BX vE.P 9=some 1:=by kernel_rfl
theorem Wl:AY vE.P 42 1=some (2,1,false):=by kernel_rfl
theorem Xw:AY vE.P 42 3=some (4,1,false):=by kernel_rfl
theorem WH:AY vE.P 42 0=some (0,2,true):=by kernel_rfl
theorem Vv:AY vE.P 40 1=some (1,1,false):=by kernel_rfl
theorem Wi:AY vE.P 40 0=some (0,1,false):=by kernel_rfl
theorem WN:callable vE.P 20=true:=by kernel_rfl
theorem AEQ: ∀n,CG vE.P 46 n=some [.int .i64 0,.str [],.slice 1 [] true,.slice 4 [] true]:=by intros;kernel_rfl
theorem AHO:BX vE.P 46=some 4:=by kernel_rfl
theorem AIU:Ee vE.P 9=0:=by kernel_rfl
theorem AJD:Ee vE.P 0=0:=by kernel_rfl
theorem AHb:Df vE.P 40=some (.agg [.str [],.str []]):=by kernel_rfl
theorem AFq:(DL vE.P 40).isSome=true:=by kernel_rfl
theorem Xd:AR vE.P 40 0=9:=by kernel_rfl
theorem Uc:Af vE.P 40 0=some (0,1):=by kernel_rfl
theorem V9:AR vE.P 40 1=9:=by kernel_rfl
theorem SH:Af vE.P 40 1=some (1,1):=by kernel_rfl
theorem Zk:AY vE.P 42 5=some (6,1,false):=by kernel_rfl
theorem AFW:Ah vE.P 4=true:=by kernel_rfl
theorem AGD:BP vE.P 4=false:=by kernel_rfl
theorem AI4:BX vE.P 4=some 1:=by kernel_rfl
theorem AHP:Df vE.P 42=some (.agg [.str [],.str [],.str [],.str [],.str [],.bool false,.bool false]):=by kernel_rfl
theorem AH7:(DL vE.P 42).isSome=true:=by kernel_rfl
theorem Xt:AR vE.P 42 0=40:=by kernel_rfl
theorem Tw:Af vE.P 42 0=some (0,2):=by kernel_rfl
theorem Vx:AR vE.P 42 2=9:=by kernel_rfl
theorem Vj:Af vE.P 42 2=some (3,1):=by kernel_rfl
theorem WP:AR vE.P 42 4=4:=by kernel_rfl
theorem Ud:Af vE.P 42 4=some (5,1):=by kernel_rfl
theorem Xy:AR vE.P 42 3=9:=by kernel_rfl
theorem P5:Af vE.P 42 3=some (4,1):=by kernel_rfl
theorem Zp:AR vE.P 42 5=4:=by kernel_rfl
theorem Vq:Af vE.P 42 5=some (6,1):=by kernel_rfl
theorem AE0: ∀n,CG vE.P 42 n=some [.str [],.str [],.str [],.str [],.str [],.bool false,.bool false]:=by intros;kernel_rfl
theorem AGz:BX vE.P 42=some 7:=by kernel_rfl
theorem ADl:Ah vE.P 46=true:=by kernel_rfl
theorem ADf:BP vE.P 46=true:=by kernel_rfl
theorem AEW:Ah vE.P 42=true:=by kernel_rfl
theorem AE9:BP vE.P 42=true:=by kernel_rfl
theorem XV:callable vE.P 21=true:=by kernel_rfl
theorem Yk:callable vE.P 22=true:=by kernel_rfl
theorem ADT:Ah vE.P 55=true:=by kernel_rfl
theorem AEw:BP vE.P 55=true:=by kernel_rfl
theorem AFU:BX vE.P 55=some 4:=by kernel_rfl
theorem Yf:callable vE.P 23=true:=by kernel_rfl
theorem Xc:callable vE.P 25=true:=by kernel_rfl
theorem XQ:callable vE.P 26=true:=by kernel_rfl
theorem Zl:callable vE.P 24=true:=by kernel_rfl
theorem Zh:callable vE.P 27=true:=by kernel_rfl
theorem AH4:Df vE.P 23=some (.agg [.int .i64 0,.str [],.str [],.int .i64 0]):=by kernel_rfl
theorem AFN:(DL vE.P 23).isSome=true:=by kernel_rfl
theorem AHh:Ee vE.P 31=0:=by kernel_rfl
theorem Xn:callable vE.P 28=true:=by kernel_rfl
theorem X5:AY vE.P 23 1=some (1,1,false):=by kernel_rfl
theorem Yy:AY vE.P 23 2=some (2,1,false):=by kernel_rfl
theorem ZA:callable vE.P 31=true:=by kernel_rfl
theorem XN:callable vE.P 30=true:=by kernel_rfl
theorem YW:callable vE.P 29=true:=by kernel_rfl
theorem ZU:callable vE.P 32=true:=by kernel_rfl
theorem AGU:Df vE.P 30=some (.agg [.str [],.int .i64 0,.str [],.str [],.str [],.bool false,.bool false]):=by kernel_rfl
theorem AGh:(DL vE.P 30).isSome=true:=by kernel_rfl
theorem ZK:callable vE.P 33=true:=by kernel_rfl
theorem XJ:AY vE.P 30 3=some (3,1,false):=by kernel_rfl
theorem WC:AY vE.P 30 5=some (5,1,false):=by kernel_rfl
theorem Wp:callable vE.P 34=true:=by kernel_rfl
theorem XP:callable vE.P 35=true:=by kernel_rfl
theorem Zb:callable vE.P 36=true:=by kernel_rfl
theorem Zx:BZ vE.P 36=true:=by kernel_rfl
theorem ADJ:Bb vE.P 36=some 2:=by kernel_rfl
theorem AD3:Ah vE.P 70=true:=by kernel_rfl
theorem AEr:BP vE.P 70=true:=by kernel_rfl
theorem AHI:BX vE.P 70=some 2:=by kernel_rfl
theorem AAD:vE.P.eqGuardType vE.P.depth 70=false:=by kernel_rfl
theorem AKn: ∀(a0 b0:List UInt8) (a1 b1:List UInt8),eqA vE.P 10000 70 (.agg [.str a0,.str a1]) (.agg [.str b0,.str b1])=some (a0==b0&&(a1==b1&&true)):=by intros;kernel_rfl
theorem AGa:Ee vE.P 36=2:=by kernel_rfl
theorem AC6: ∀n,CG vE.P 36 n=some [.slice 2 [] true]:=by intros;kernel_rfl
theorem Yg:callable vE.P 37=true:=by kernel_rfl
theorem X8:callable vE.P 38=true:=by kernel_rfl
theorem ZG:callable vE.P 39=true:=by kernel_rfl
theorem AE4:Ah vE.P 36=true:=by kernel_rfl
theorem ACk:BP vE.P 36=false:=by kernel_rfl
theorem AHR:BX vE.P 36=some 1:=by kernel_rfl
theorem AHi:Df vE.P 70=some (.agg [.str [],.str []]):=by kernel_rfl
theorem AGs:(DL vE.P 70).isSome=true:=by kernel_rfl
theorem Yx:AR vE.P 70 0=9:=by kernel_rfl
theorem RL:Af vE.P 70 0=some (0,1):=by kernel_rfl
theorem Y6:AR vE.P 70 1=9:=by kernel_rfl
theorem QW:Af vE.P 70 1=some (1,1):=by kernel_rfl
theorem AI8:Gx vE.P 36=some (2,32):=by kernel_rfl
theorem Vy:AR vE.P 36 0=70:=by kernel_rfl
theorem AIa:FM vE.P 36=none:=by kernel_rfl
theorem AIy:Ee vE.P 5=0:=by kernel_rfl
theorem Yq:callable vE.P 40=true:=by kernel_rfl
theorem WL:BZ vE.P 43=true:=by kernel_rfl
theorem AEz:Bb vE.P 43=some 1:=by kernel_rfl
theorem ZY:callable vE.P 41=true:=by kernel_rfl
theorem Xj:callable vE.P 43=true:=by kernel_rfl
theorem Wj:callable vE.P 42=true:=by kernel_rfl
theorem AGG:Df vE.P 46=some (.agg [.int .i64 0,.str [],.slice 1 [] true,.slice 4 [] true]):=by kernel_rfl
theorem AHS:(DL vE.P 46).isSome=true:=by kernel_rfl
theorem AHz:Df vE.P 82=some (.agg [.str [],.int .i64 0,.int .i64 0,.int .i64 0,.int .i64 0]):=by kernel_rfl
theorem AFm:(DL vE.P 82).isSome=true:=by kernel_rfl
theorem XH:AR vE.P 82 0=9:=by kernel_rfl
theorem Qb:Af vE.P 82 0=some (0,1):=by kernel_rfl
theorem ZM:callable vE.P 45=true:=by kernel_rfl
theorem YB:callable vE.P 44=true:=by kernel_rfl
theorem AE1: ∀n,CG vE.P 85 n=some [.int .i64 0,.str [],.int .i64 0]:=by intros;kernel_rfl
theorem AFl:BX vE.P 85=some 3:=by kernel_rfl
theorem Wz:AY vE.P 82 3=some (3,1,false):=by kernel_rfl
theorem ACx:Ah vE.P 31=true:=by kernel_rfl
theorem ACK:BP vE.P 31=false:=by kernel_rfl
theorem AHE:BX vE.P 31=some 1:=by kernel_rfl
theorem ZV:AY vE.P 85 0=some (0,1,false):=by kernel_rfl
theorem AG8:Ah vE.P 3=true:=by kernel_rfl
theorem AG5:BP vE.P 3=false:=by kernel_rfl
theorem AJk:BX vE.P 3=some 1:=by kernel_rfl
theorem XO:AY vE.P 85 2=some (2,1,false):=by kernel_rfl
theorem Xg:callable vE.P 46=true:=by kernel_rfl
theorem XY:AY vE.P 82 4=some (4,1,false):=by kernel_rfl
theorem Xm:callable vE.P 47=true:=by kernel_rfl
theorem AEI: ∀n,CG vE.P 91 n=some [.str [],.slice 1 [] true,.slice 1 [] true,.slice 3 [] true,.slice 3 [] true]:=by intros;kernel_rfl
theorem AF2:BX vE.P 91=some 5:=by kernel_rfl
theorem Y4:callable vE.P 48=true:=by kernel_rfl
theorem WU:callable vE.P 49=true:=by kernel_rfl
theorem AEX:Ah vE.P 91=true:=by kernel_rfl
theorem ACs:BP vE.P 91=true:=by kernel_rfl
theorem AC4:Ah vE.P 40=true:=by kernel_rfl
theorem ADO:BP vE.P 40=true:=by kernel_rfl
theorem AHY:BX vE.P 40=some 2:=by kernel_rfl
theorem WV:callable vE.P 51=true:=by kernel_rfl
theorem Ya:callable vE.P 50=true:=by kernel_rfl
theorem Yc:callable vE.P 52=true:=by kernel_rfl
theorem Zn:callable vE.P 53=true:=by kernel_rfl
theorem ZC:AY vE.P 30 6=some (6,1,false):=by kernel_rfl
theorem Y3:AY vE.P 30 4=some (4,1,false):=by kernel_rfl
theorem ZW:callable vE.P 54=true:=by kernel_rfl
theorem Zj:callable vE.P 56=true:=by kernel_rfl
theorem Wv:callable vE.P 55=true:=by kernel_rfl
theorem YM:AY vE.P 91 4=some (4,1,false):=by kernel_rfl
theorem AE6:Ah vE.P 89=true:=by kernel_rfl
theorem AEH:BP vE.P 89=false:=by kernel_rfl
theorem AHN:BX vE.P 89=some 1:=by kernel_rfl
theorem Y2:BZ vE.P 89=true:=by kernel_rfl
theorem AEC:Bb vE.P 89=some 3:=by kernel_rfl
theorem ABk:Ah vE.P 103=true:=by kernel_rfl
theorem AAM:BP vE.P 103=true:=by kernel_rfl
theorem ACr:BX vE.P 103=some 3:=by kernel_rfl
theorem ABT: ∀n,CG vE.P 103 n=some [.str [],.slice 1 [] true,.slice 1 [] true]:=by intros;kernel_rfl
theorem UM:AY vE.P 103 0=some (0,1,false):=by kernel_rfl
theorem V3:callable vE.P 57=true:=by kernel_rfl
theorem Zd:callable vE.P 58=true:=by kernel_rfl
theorem Yz:AY vE.P 55 0=some (0,1,false):=by kernel_rfl
theorem YP:AY vE.P 55 1=some (1,1,false):=by kernel_rfl
theorem ADw:Ah vE.P 43=true:=by kernel_rfl
theorem ADu:BP vE.P 43=false:=by kernel_rfl
theorem AGt:BX vE.P 43=some 1:=by kernel_rfl
theorem XC:AY vE.P 55 3=some (3,1,false):=by kernel_rfl
theorem AEi:Ah vE.P 53=true:=by kernel_rfl
theorem ACn:BP vE.P 53=false:=by kernel_rfl
theorem AFM:BX vE.P 53=some 1:=by kernel_rfl
theorem WF:BZ vE.P 53=true:=by kernel_rfl
theorem Yu:AY vE.P 55 2=some (2,1,false):=by kernel_rfl
theorem ACF:Ah vE.P 52=true:=by kernel_rfl
theorem ADB:BP vE.P 52=false:=by kernel_rfl
theorem AF7:BX vE.P 52=some 1:=by kernel_rfl
theorem Xi:BZ vE.P 52=true:=by kernel_rfl
theorem ACp:Bb vE.P 53=some 6:=by kernel_rfl
theorem ABf:Ah vE.P 106=true:=by kernel_rfl
theorem AAL:BP vE.P 106=true:=by kernel_rfl
theorem ACf:BX vE.P 106=some 6:=by kernel_rfl
theorem ABp: ∀n,CG vE.P 106 n=some [.str [],.str [],.str [],.str [],.slice 3 [] true,.slice 3 [] true]:=by intros;kernel_rfl
theorem Sc:AY vE.P 106 0=some (0,1,false):=by kernel_rfl
theorem QA:AY vE.P 106 1=some (1,1,false):=by kernel_rfl
theorem Uf:AY vE.P 106 2=some (2,1,false):=by kernel_rfl
theorem Qg:AY vE.P 106 3=some (3,1,false):=by kernel_rfl
theorem Q0:AY vE.P 106 4=some (4,1,false):=by kernel_rfl
theorem UO:AY vE.P 106 5=some (5,1,false):=by kernel_rfl
theorem AAw:vE.P.eqGuardType vE.P.depth 23=false:=by kernel_rfl
theorem AMI: ∀(a0 b0:Int) (a1 b1:List UInt8) (a2 b2:List UInt8) (a3 b3:Int),eqA vE.P 10000 23 (.agg [.int .i64 a0,.str a1,.str a2,.int .i64 a3]) (.agg [.int .i64 b0,.str b1,.str b2,.int .i64 b3])=some (a0==b0&&(a1==b1&&(a2==b2&&(a3==b3&&true)))):=by intros;kernel_rfl
theorem AF9:Ee vE.P 28=4:=by kernel_rfl
theorem AGK:Ee vE.P 43=1:=by kernel_rfl
theorem ZR:callable vE.P 59=true:=by kernel_rfl
theorem AIN:Gx vE.P 43=some (1,16):=by kernel_rfl
theorem YG:AR vE.P 43 0=9:=by kernel_rfl
theorem AKY:FM vE.P 43=none:=by kernel_rfl
theorem AF4:Gx vE.P 172=some (1,24):=by kernel_rfl
theorem QG:AR vE.P 172 0=43:=by kernel_rfl
theorem XG:callable vE.P 60=true:=by kernel_rfl
theorem Xp:callable vE.P 61=true:=by kernel_rfl
theorem WS:callable vE.P 62=true:=by kernel_rfl
theorem Xa:AR vE.P 23 0=3:=by kernel_rfl
theorem TN:Af vE.P 23 0=some (0,1):=by kernel_rfl
theorem Xh:AR vE.P 23 1=9:=by kernel_rfl
theorem Rl:Af vE.P 23 1=some (1,1):=by kernel_rfl
theorem YF:AR vE.P 23 2=9:=by kernel_rfl
theorem R7:Af vE.P 23 2=some (2,1):=by kernel_rfl
theorem YV:callable vE.P 64=true:=by kernel_rfl
theorem XB:callable vE.P 63=true:=by kernel_rfl
theorem YZ:callable vE.P 65=true:=by kernel_rfl
theorem Yn:callable vE.P 66=true:=by kernel_rfl
theorem WO:callable vE.P 67=true:=by kernel_rfl
theorem AA7: ∀n,CG vE.P 116 n=some [.str [],.str []]:=by intros;kernel_rfl
theorem ADo:BX vE.P 116=some 2:=by kernel_rfl
theorem Z6:Ah vE.P 116=true:=by kernel_rfl
theorem AAO:BP vE.P 116=true:=by kernel_rfl
theorem Zm:callable vE.P 68=true:=by kernel_rfl
theorem Vn:AY vE.P 116 1=some (1,1,false):=by kernel_rfl
theorem ZF:callable vE.P 69=true:=by kernel_rfl
theorem AAo: ∀n,CG vE.P 121 n=some [.str [],.str []]:=by intros;kernel_rfl
theorem AD0:BX vE.P 121=some 2:=by kernel_rfl
theorem ABX:Ah vE.P 121=true:=by kernel_rfl
theorem AA9:BP vE.P 121=true:=by kernel_rfl
theorem X4:callable vE.P 70=true:=by kernel_rfl
theorem QV:AY vE.P 121 1=some (1,1,false):=by kernel_rfl
theorem Ww:callable vE.P 71=true:=by kernel_rfl
theorem XX:callable vE.P 72=true:=by kernel_rfl
theorem YI:callable vE.P 73=true:=by kernel_rfl
theorem Y9:callable vE.P 74=true:=by kernel_rfl
theorem Xq:callable vE.P 75=true:=by kernel_rfl
theorem AGo:Ee vE.P 65=0:=by kernel_rfl
theorem ZJ:BZ vE.P 24=true:=by kernel_rfl
theorem AEe:Bb vE.P 24=some 1:=by kernel_rfl
theorem AEF:Df vE.P 128=some (.agg [.slice 1 [] true]):=by kernel_rfl
theorem AEE:(DL vE.P 128).isSome=true:=by kernel_rfl
theorem Vg:AR vE.P 128 0=24:=by kernel_rfl
theorem Ob:Af vE.P 128 0=some (0,1):=by kernel_rfl
theorem WW:callable vE.P 76=true:=by kernel_rfl
theorem XW:AY vE.P 23 3=some (3,1,false):=by kernel_rfl
theorem YD:AR vE.P 30 0=9:=by kernel_rfl
theorem Qq:Af vE.P 30 0=some (0,1):=by kernel_rfl
theorem XD:AR vE.P 30 1=3:=by kernel_rfl
theorem QN:Af vE.P 30 1=some (1,1):=by kernel_rfl
theorem ZL:AR vE.P 30 2=9:=by kernel_rfl
theorem S9:Af vE.P 30 2=some (2,1):=by kernel_rfl
theorem ABr: ∀n,CG vE.P 129 n=some [.slice 1 [] true]:=by intros;kernel_rfl
theorem Xb:callable vE.P 77=true:=by kernel_rfl
theorem Y1:callable vE.P 78=true:=by kernel_rfl
theorem AAr:Ah vE.P 129=true:=by kernel_rfl
theorem Z0:BP vE.P 129=false:=by kernel_rfl
theorem ADh:BX vE.P 129=some 1:=by kernel_rfl
theorem AGN:Gx vE.P 129=some (1,1):=by kernel_rfl
theorem Qo:AR vE.P 129 0=5:=by kernel_rfl
theorem AHj:FM vE.P 129=none:=by kernel_rfl
theorem Yh:callable vE.P 79=true:=by kernel_rfl
theorem AIM:u8T vE.P 129=true:=by kernel_rfl
theorem XA:callable vE.P 81=true:=by kernel_rfl
theorem WE:callable vE.P 80=true:=by kernel_rfl
theorem ZX:callable vE.P 82=true:=by kernel_rfl
theorem Zq:callable vE.P 83=true:=by kernel_rfl
theorem Wx:callable vE.P 84=true:=by kernel_rfl
theorem Za:callable vE.P 85=true:=by kernel_rfl
theorem X7:callable vE.P 86=true:=by kernel_rfl
theorem AFx:Ee vE.P 72=0:=by kernel_rfl
theorem Yv:callable vE.P 88=true:=by kernel_rfl
theorem AE2:Ee vE.P 129=1:=by kernel_rfl
theorem WJ:callable vE.P 89=true:=by kernel_rfl
theorem AFS:Ee vE.P 24=1:=by kernel_rfl
theorem V6:callable vE.P 90=true:=by kernel_rfl
theorem AJy:Gx vE.P 24=some (1,1):=by kernel_rfl
theorem We:AR vE.P 24 0=5:=by kernel_rfl
theorem AKZ:FM vE.P 24=none:=by kernel_rfl
theorem ACR:Ah vE.P 24=true:=by kernel_rfl
theorem ALE:u8T vE.P 24=true:=by kernel_rfl
theorem ADj:Ah vE.P 85=true:=by kernel_rfl
theorem ACN:BP vE.P 85=true:=by kernel_rfl
theorem YT:callable vE.P 91=true:=by kernel_rfl
theorem YH:AY vE.P 85 1=some (1,1,false):=by kernel_rfl
theorem Wm:AR vE.P 46 0=3:=by kernel_rfl
theorem P8:Af vE.P 46 0=some (0,1):=by kernel_rfl
theorem V5:AR vE.P 46 1=9:=by kernel_rfl
theorem UZ:Af vE.P 46 1=some (1,1):=by kernel_rfl
theorem V4:callable vE.P 92=true:=by kernel_rfl
theorem WT:AY vE.P 82 2=some (2,1,false):=by kernel_rfl
theorem Ws:callable vE.P 93=true:=by kernel_rfl
theorem Vz:callable vE.P 94=true:=by kernel_rfl
theorem V7:callable vE.P 95=true:=by kernel_rfl
theorem AGE:Df vE.P 85=some (.agg [.int .i64 0,.str [],.int .i64 0]):=by kernel_rfl
theorem AIC:(DL vE.P 85).isSome=true:=by kernel_rfl
theorem Zu:AY vE.P 82 0=some (0,1,false):=by kernel_rfl
theorem Xf:AY vE.P 82 1=some (1,1,false):=by kernel_rfl
theorem WZ:callable vE.P 96=true:=by kernel_rfl
theorem YL:AY vE.P 46 0=some (0,1,false):=by kernel_rfl
theorem AFt:Df vE.P 91=some (.agg [.str [],.slice 1 [] true,.slice 1 [] true,.slice 3 [] true,.slice 3 [] true]):=by kernel_rfl
theorem AIB:(DL vE.P 91).isSome=true:=by kernel_rfl
theorem ABh: ∀n,CG vE.P 143 n=some [.str [],.str [],.int .i64 0]:=by intros;kernel_rfl
theorem Zg:callable vE.P 98=true:=by kernel_rfl
theorem WX:callable vE.P 97=true:=by kernel_rfl
theorem AD4: ∀n,CG vE.P 40 n=some [.str [],.str []]:=by intros;kernel_rfl
theorem Ub:AY vE.P 143 1=some (2,1,false):=by kernel_rfl
theorem QK:AY vE.P 143 0=some (0,2,true):=by kernel_rfl
theorem Y7:AY vE.P 91 0=some (0,1,false):=by kernel_rfl
theorem UC:callable vE.P 100=true:=by kernel_rfl
theorem ZZ:callable vE.P 99=true:=by kernel_rfl
theorem XI:AY vE.P 91 1=some (1,1,false):=by kernel_rfl
theorem Sz:callable vE.P 101=true:=by kernel_rfl
theorem U4:callable vE.P 102=true:=by kernel_rfl
theorem YN:AY vE.P 91 2=some (2,1,false):=by kernel_rfl
theorem YO:BZ vE.P 44=true:=by kernel_rfl
theorem AFE:Bb vE.P 44=some 4:=by kernel_rfl
theorem Ti:callable vE.P 103=true:=by kernel_rfl
theorem AEL:Df vE.P 154=some (.agg [.str [],.str [],.str []]):=by kernel_rfl
theorem AC5:(DL vE.P 154).isSome=true:=by kernel_rfl
theorem Qu:AR vE.P 154 0=9:=by kernel_rfl
theorem PN:Af vE.P 154 0=some (0,1):=by kernel_rfl
theorem ABD: ∀n,CG vE.P 154 n=some [.str [],.str [],.str []]:=by intros;kernel_rfl
theorem ADE:BX vE.P 154=some 3:=by kernel_rfl
theorem RU:AY vE.P 154 1=some (1,1,false):=by kernel_rfl
theorem UJ:AY vE.P 154 2=some (2,1,false):=by kernel_rfl
theorem XE:AY vE.P 91 3=some (3,1,false):=by kernel_rfl
theorem AEU:Ah vE.P 88=true:=by kernel_rfl
theorem AEZ:BP vE.P 88=false:=by kernel_rfl
theorem AGc:BX vE.P 88=some 1:=by kernel_rfl
theorem AAi:Ah vE.P 154=true:=by kernel_rfl
theorem ABa:BP vE.P 154=true:=by kernel_rfl
theorem AJe:Gx vE.P 88=some (3,48):=by kernel_rfl
theorem Zv:AR vE.P 88 0=154:=by kernel_rfl
theorem AKP:FM vE.P 88=none:=by kernel_rfl
theorem Vp:callable vE.P 104=true:=by kernel_rfl
theorem AJh:Gx vE.P 89=some (3,64):=by kernel_rfl
theorem Zw:AR vE.P 89 0=103:=by kernel_rfl
theorem AJc:FM vE.P 89=none:=by kernel_rfl
theorem YK:AY vE.P 42 4=some (5,1,false):=by kernel_rfl
theorem ACb: ∀n,CG vE.P 70 n=some [.str [],.str []]:=by intros;kernel_rfl
theorem Xe:AY vE.P 70 0=some (0,1,false):=by kernel_rfl
theorem Xu:AY vE.P 70 1=some (1,1,false):=by kernel_rfl
theorem RI:AY vE.P 103 2=some (2,1,false):=by kernel_rfl
theorem P6:callable vE.P 105=true:=by kernel_rfl
theorem AAg: ∀n,CG vE.P 157 n=some [.str [],.str [],.str [],.str [],.str [],.bool false,.bool false,.bool false,.bool false]:=by intros;kernel_rfl
theorem AEB:BX vE.P 157=some 9:=by kernel_rfl
theorem VI:AY vE.P 157 5=some (5,1,false):=by kernel_rfl
theorem U9:AY vE.P 157 0=some (0,1,false):=by kernel_rfl
theorem QB:callable vE.P 106=true:=by kernel_rfl
theorem U5:AY vE.P 157 6=some (6,1,false):=by kernel_rfl
theorem TY:AY vE.P 157 1=some (1,1,false):=by kernel_rfl
theorem Sv:callable vE.P 107=true:=by kernel_rfl
theorem VT:callable vE.P 108=true:=by kernel_rfl
theorem AAU: ∀n,CG vE.P 112 n=some [.str [],.int .i64 0]:=by intros;kernel_rfl
theorem ACi:BX vE.P 112=some 2:=by kernel_rfl
theorem Te:AY vE.P 112 0=some (0,1,false):=by kernel_rfl
theorem Tg:AY vE.P 112 1=some (1,1,false):=by kernel_rfl
theorem SS:AY vE.P 157 7=some (7,1,false):=by kernel_rfl
theorem TH:AY vE.P 157 8=some (8,1,false):=by kernel_rfl
theorem Zy:AR vE.P 30 5=4:=by kernel_rfl
theorem VC:Af vE.P 30 5=some (5,1):=by kernel_rfl
theorem YY:AR vE.P 30 6=4:=by kernel_rfl
theorem Pw:Af vE.P 30 6=some (6,1):=by kernel_rfl
theorem Ra:AY vE.P 157 2=some (2,1,false):=by kernel_rfl
theorem Re:callable vE.P 109=true:=by kernel_rfl
theorem Xk:AY vE.P 30 2=some (2,1,false):=by kernel_rfl
theorem Sq:AY vE.P 157 3=some (3,1,false):=by kernel_rfl
theorem Pz:AY vE.P 157 4=some (4,1,false):=by kernel_rfl
theorem Uy:callable vE.P 110=true:=by kernel_rfl
theorem Rk:callable vE.P 111=true:=by kernel_rfl
theorem AAW:Ah vE.P 157=true:=by kernel_rfl
theorem AAb:BP vE.P 157=true:=by kernel_rfl
theorem Pv:callable vE.P 112=true:=by kernel_rfl
theorem Vd:callable vE.P 113=true:=by kernel_rfl
theorem AEG:Df vE.P 169=some (.agg [.str [],.str [],.int .i64 0]):=by kernel_rfl
theorem ADM:(DL vE.P 169).isSome=true:=by kernel_rfl
theorem Q6:callable vE.P 115=true:=by kernel_rfl
theorem TE:callable vE.P 114=true:=by kernel_rfl
theorem Sm:AY vE.P 169 0=some (0,2,true):=by kernel_rfl
theorem UU:callable vE.P 116=true:=by kernel_rfl
theorem Xv:AR vE.P 91 0=9:=by kernel_rfl
theorem VF:Af vE.P 91 0=some (0,1):=by kernel_rfl
theorem WQ:AR vE.P 91 1=43:=by kernel_rfl
theorem TA:Af vE.P 91 1=some (1,1):=by kernel_rfl
theorem VU:callable vE.P 117=true:=by kernel_rfl
theorem Tm:callable vE.P 118=true:=by kernel_rfl
theorem Vb:callable vE.P 119=true:=by kernel_rfl
theorem Qr:AY vE.P 169 1=some (2,1,false):=by kernel_rfl
theorem QS:callable vE.P 120=true:=by kernel_rfl
theorem Ps:callable vE.P 121=true:=by kernel_rfl
theorem AHB:Ee vE.P 53=6:=by kernel_rfl
theorem AH6:Ee vE.P 52=3:=by kernel_rfl
theorem AJZ:Gx vE.P 52=some (3,40):=by kernel_rfl
theorem AIg:FM vE.P 52=none:=by kernel_rfl
theorem AKK:Gx vE.P 53=some (6,112):=by kernel_rfl
theorem Xr:AR vE.P 53 0=106:=by kernel_rfl
theorem AJd:FM vE.P 53=none:=by kernel_rfl
theorem Pp:BZ vE.P 172=true:=by kernel_rfl
theorem Z7:Bb vE.P 172=some 1:=by kernel_rfl
theorem UN:callable vE.P 122=true:=by kernel_rfl
theorem QX:callable vE.P 123=true:=by kernel_rfl
theorem AJu:FM vE.P 28=none:=by kernel_rfl
theorem ACz:Ah vE.P 28=true:=by kernel_rfl
theorem TC:callable vE.P 124=true:=by kernel_rfl
theorem ABS:Ah vE.P 112=true:=by kernel_rfl
theorem AAR:BP vE.P 112=true:=by kernel_rfl
theorem ZE:AY vE.P 30 0=some (0,1,false):=by kernel_rfl
theorem WA:AY vE.P 30 1=some (1,1,false):=by kernel_rfl
theorem ADW:Df vE.P 112=some (.agg [.str [],.int .i64 0]):=by kernel_rfl
theorem ACW:(DL vE.P 112).isSome=true:=by kernel_rfl
theorem Qv:AR vE.P 112 0=9:=by kernel_rfl
theorem O0:Af vE.P 112 0=some (0,1):=by kernel_rfl
theorem RZ:AR vE.P 112 1=3:=by kernel_rfl
theorem PL:Af vE.P 112 1=some (1,1):=by kernel_rfl
theorem AE7:Bc vE.P 24=false:=by kernel_rfl
theorem AGw:Ah vE.P 5=true:=by kernel_rfl
theorem AGT:BP vE.P 5=false:=by kernel_rfl
theorem AJB:BX vE.P 5=some 1:=by kernel_rfl
theorem ACS:Df vE.P 116=some (.agg [.str [],.str []]):=by kernel_rfl
theorem AFG:(DL vE.P 116).isSome=true:=by kernel_rfl
theorem TM:callable vE.P 125=true:=by kernel_rfl
theorem SL:callable vE.P 126=true:=by kernel_rfl
theorem Sg:callable vE.P 127=true:=by kernel_rfl
theorem Un:AR vE.P 116 0=9:=by kernel_rfl
theorem O3:Af vE.P 116 0=some (0,1):=by kernel_rfl
theorem UI:AR vE.P 116 1=9:=by kernel_rfl
theorem Ot:Af vE.P 116 1=some (1,1):=by kernel_rfl
theorem Vf:AY vE.P 116 0=some (0,1,false):=by kernel_rfl
theorem ADm:Df vE.P 121=some (.agg [.str [],.str []]):=by kernel_rfl
theorem ADX:(DL vE.P 121).isSome=true:=by kernel_rfl
theorem Sd:callable vE.P 128=true:=by kernel_rfl
theorem Sy:callable vE.P 129=true:=by kernel_rfl
theorem UB:AR vE.P 121 0=9:=by kernel_rfl
theorem O9:Af vE.P 121 0=some (0,1):=by kernel_rfl
theorem Ug:AR vE.P 121 1=9:=by kernel_rfl
theorem Ox:Af vE.P 121 1=some (1,1):=by kernel_rfl
theorem UT:AY vE.P 121 0=some (0,1,false):=by kernel_rfl
theorem ZT:AR vE.P 23 3=3:=by kernel_rfl
theorem QT:Af vE.P 23 3=some (3,1):=by kernel_rfl
theorem VV:callable vE.P 130=true:=by kernel_rfl
theorem VS:callable vE.P 131=true:=by kernel_rfl
theorem SA:AY vE.P 128 0=some (0,1,false):=by kernel_rfl
theorem ADn:BP vE.P 24=false:=by kernel_rfl
theorem AHx:BX vE.P 24=some 1:=by kernel_rfl
theorem AKq:FM vE.P 3=some .i64:=by kernel_rfl
theorem AHM:Bc vE.P 3=false:=by kernel_rfl
theorem Q3:callable vE.P 132=true:=by kernel_rfl
theorem Uu:callable vE.P 133=true:=by kernel_rfl
theorem Ve:callable vE.P 134=true:=by kernel_rfl
theorem AHm:FM vE.P 180=some .u64:=by kernel_rfl
theorem ABe:Bc vE.P 180=false:=by kernel_rfl
theorem UA:callable vE.P 135=true:=by kernel_rfl
theorem UD:callable vE.P 136=true:=by kernel_rfl
theorem QO:callable vE.P 137=true:=by kernel_rfl
theorem RF:callable vE.P 138=true:=by kernel_rfl
theorem Ut:callable vE.P 139=true:=by kernel_rfl
theorem Sa:callable vE.P 140=true:=by kernel_rfl
theorem RA:callable vE.P 141=true:=by kernel_rfl
theorem SB:callable vE.P 142=true:=by kernel_rfl
theorem Qd:callable vE.P 143=true:=by kernel_rfl
theorem QI:callable vE.P 145=true:=by kernel_rfl
theorem QY:callable vE.P 144=true:=by kernel_rfl
theorem QD:callable vE.P 146=true:=by kernel_rfl
theorem XZ:AY vE.P 46 3=some (3,1,false):=by kernel_rfl
theorem ACP:Ah vE.P 44=true:=by kernel_rfl
theorem AD1:BP vE.P 44=false:=by kernel_rfl
theorem AH5:BX vE.P 44=some 1:=by kernel_rfl
theorem AIn:Gx vE.P 44=some (4,72):=by kernel_rfl
theorem WY:AR vE.P 44 0=46:=by kernel_rfl
theorem AJ9:FM vE.P 44=none:=by kernel_rfl
theorem RJ:callable vE.P 147=true:=by kernel_rfl
theorem Wo:AY vE.P 46 2=some (2,1,false):=by kernel_rfl
theorem SX:callable vE.P 148=true:=by kernel_rfl
theorem XR:AR vE.P 85 0=3:=by kernel_rfl
theorem Um:Af vE.P 85 0=some (0,1):=by kernel_rfl
theorem XM:AR vE.P 85 2=3:=by kernel_rfl
theorem Sl:Af vE.P 85 2=some (2,1):=by kernel_rfl
theorem Vs:AR vE.P 85 1=9:=by kernel_rfl
theorem TW:Af vE.P 85 1=some (1,1):=by kernel_rfl
theorem R6:callable vE.P 149=true:=by kernel_rfl
theorem Ql:callable vE.P 150=true:=by kernel_rfl
theorem Vl:callable vE.P 151=true:=by kernel_rfl
theorem Qy:callable vE.P 152=true:=by kernel_rfl
theorem P7:callable vE.P 153=true:=by kernel_rfl
theorem Sk:callable vE.P 154=true:=by kernel_rfl
theorem Ye:AY vE.P 46 1=some (1,1,false):=by kernel_rfl
theorem AGx:Ee vE.P 44=4:=by kernel_rfl
theorem RS:callable vE.P 155=true:=by kernel_rfl
theorem QU:callable vE.P 156=true:=by kernel_rfl
theorem U7:callable vE.P 157=true:=by kernel_rfl
theorem AEO:Df vE.P 103=some (.agg [.str [],.slice 1 [] true,.slice 1 [] true]):=by kernel_rfl
theorem ADe:(DL vE.P 103).isSome=true:=by kernel_rfl
theorem RV:AR vE.P 103 0=9:=by kernel_rfl
theorem PI:Af vE.P 103 0=some (0,1):=by kernel_rfl
theorem Ur:AY vE.P 103 1=some (1,1,false):=by kernel_rfl
theorem AC3:Df vE.P 157=some (.agg [.str [],.str [],.str [],.str [],.str [],.bool false,.bool false,.bool false,.bool false]):=by kernel_rfl
theorem AEp:(DL vE.P 157).isSome=true:=by kernel_rfl
theorem Qj:callable vE.P 158=true:=by kernel_rfl
theorem Ul:callable vE.P 159=true:=by kernel_rfl
theorem Tv:callable vE.P 160=true:=by kernel_rfl
theorem UE:callable vE.P 161=true:=by kernel_rfl
theorem SK:callable vE.P 162=true:=by kernel_rfl
theorem TB:callable vE.P 163=true:=by kernel_rfl
theorem AG0:Kv vE.P 24=some (1,.int .u8 0):=by kernel_rfl
theorem Ty:callable vE.P 164=true:=by kernel_rfl
theorem RY:callable vE.P 165=true:=by kernel_rfl
theorem Uv:callable vE.P 166=true:=by kernel_rfl
theorem ALk:FM vE.P 9=none:=by kernel_rfl
theorem ZN:OW vE.P 24 5=true:=by kernel_rfl
theorem U6:callable vE.P 167=true:=by kernel_rfl
theorem AAq: ∀n,CG vE.P 196 n=some [.nself n 196 2,.buf 5 [] true]:=by intros;kernel_rfl
theorem Sw:callable vE.P 170=true:=by kernel_rfl
theorem UF:callable vE.P 171=true:=by kernel_rfl
theorem VL:callable vE.P 172=true:=by kernel_rfl
theorem Rm:callable vE.P 173=true:=by kernel_rfl
theorem Vh:callable vE.P 174=true:=by kernel_rfl
theorem UV:callable vE.P 175=true:=by kernel_rfl
theorem T9:callable vE.P 176=true:=by kernel_rfl
theorem Ro:callable vE.P 177=true:=by kernel_rfl
theorem RN:callable vE.P 178=true:=by kernel_rfl
theorem RG:callable vE.P 179=true:=by kernel_rfl
theorem Wt:AR vE.P 30 3=9:=by kernel_rfl
theorem Vm:Af vE.P 30 3=some (3,1):=by kernel_rfl
theorem Yt:AR vE.P 30 4=9:=by kernel_rfl
theorem Qk:Af vE.P 30 4=some (4,1):=by kernel_rfl
theorem RO:callable vE.P 180=true:=by kernel_rfl
theorem Td:callable vE.P 181=true:=by kernel_rfl
theorem Rf:callable vE.P 182=true:=by kernel_rfl
theorem TU:callable vE.P 183=true:=by kernel_rfl
theorem AGe:(Ou vE.P 204).isSome=true:=by kernel_rfl
theorem AHa:(Ou vE.P 204).bind (Df vE.P)=some .nilFn:=by kernel_rfl
theorem AFI:Ee vE.P 203=0:=by kernel_rfl
theorem ACd:Nf vE.P 203=true:=by kernel_rfl
theorem VP:callable vE.P 184=true:=by kernel_rfl
theorem ACv:Ee vE.P 180=0:=by kernel_rfl
theorem Sb:callable vE.P 185=true:=by kernel_rfl
theorem VD:callable vE.P 186=true:=by kernel_rfl
theorem Vi:callable vE.P 187=true:=by kernel_rfl
theorem Uk:callable vE.P 188=true:=by kernel_rfl
theorem Vo:callable vE.P 189=true:=by kernel_rfl
theorem RD:callable vE.P 190=true:=by kernel_rfl
theorem U2:callable vE.P 191=true:=by kernel_rfl
theorem R8:callable vE.P 192=true:=by kernel_rfl
theorem Uj:callable vE.P 193=false:=by kernel_rfl
theorem ABZ: ∀n,CG vE.P 214 n=some [.int .u8 0,.int .u8 0,.int .u8 0,.int .u8 0,.int .u8 0,.int .u8 0,.int .u8 0,.int .u8 0,.int .u8 0,.int .u8 0,.int .u8 0,.int .u8 0,.int .u8 0,.int .u8 0,.int .u8 0,.int .u8 0,.int .u8 0,.int .u8 0,.int .u8 0,.int .u8 0]:=by intros;kernel_rfl
theorem AAE:Ah vE.P 180=true:=by kernel_rfl
theorem AL6:FM vE.P 5=some .u8:=by kernel_rfl
theorem AGy:Bc vE.P 5=false:=by kernel_rfl
theorem Z9:F6 vE.P 214=some (20,1,false):=by kernel_rfl
theorem AAN:Bb vE.P 214=none:=by kernel_rfl
theorem VK:callable vE.P 194=false:=by kernel_rfl
theorem Va:callable vE.P 195=true:=by kernel_rfl
theorem Qi:callable vE.P 196=true:=by kernel_rfl
theorem Rn:callable vE.P 197=true:=by kernel_rfl
theorem Q5:callable vE.P 198=true:=by kernel_rfl
theorem SE:callable vE.P 199=true:=by kernel_rfl
theorem Rx:callable vE.P 200=true:=by kernel_rfl
theorem Rz:callable vE.P 201=true:=by kernel_rfl
theorem Qs:callable vE.P 202=true:=by kernel_rfl
theorem QR:callable vE.P 203=true:=by kernel_rfl
theorem AJJ:FM vE.P 21=some .i32:=by kernel_rfl
theorem AEn:Bc vE.P 21=false:=by kernel_rfl
theorem AFT:Ee vE.P 21=0:=by kernel_rfl
theorem RH:callable vE.P 204=true:=by kernel_rfl
theorem TD:callable vE.P 205=true:=by kernel_rfl
theorem SQ:callable vE.P 206=true:=by kernel_rfl
theorem AAI: ∀n,CG vE.P 222 n=some (List.map AVal.bool (AEk 256)):=by intros;kernel_rfl
theorem AE5:BX vE.P 222=some 256:=by kernel_rfl
theorem QC:callable vE.P 207=true:=by kernel_rfl
theorem U0:callable vE.P 208=true:=by kernel_rfl
theorem RB:callable vE.P 209=true:=by kernel_rfl
theorem R3:callable vE.P 210=true:=by kernel_rfl
theorem Pt:callable vE.P 211=true:=by kernel_rfl
theorem TI:callable vE.P 212=true:=by kernel_rfl
theorem VO:callable vE.P 213=true:=by kernel_rfl
theorem RX:callable vE.P 169=true:=by kernel_rfl
theorem ADd:Ee vE.P 198=0:=by kernel_rfl
theorem Q9:callable vE.P 214=true:=by kernel_rfl
theorem Ru:AY vE.P 196 1=some (1,1,false):=by kernel_rfl
theorem AEP:ptrTo vE.P 225 5=true:=by kernel_rfl
theorem Tx:callable vE.P 215=true:=by kernel_rfl
theorem Tt:callable vE.P 216=true:=by kernel_rfl
theorem Qw:callable vE.P 217=true:=by kernel_rfl
theorem TP:callable vE.P 218=true:=by kernel_rfl
theorem Tz:callable vE.P 219=true:=by kernel_rfl
theorem VZ:callable vE.P 220=true:=by kernel_rfl
theorem AC0:Ee vE.P 204=0:=by kernel_rfl
theorem Us:callable vE.P 225=true:=by kernel_rfl
theorem SI:callable vE.P 226=true:=by kernel_rfl
theorem Rb:callable vE.P 227=true:=by kernel_rfl
theorem Pq:callable vE.P 228=true:=by kernel_rfl
theorem AEJ:Ee vE.P 228=0:=by kernel_rfl
theorem AHU:FM vE.P 228=some .u32:=by kernel_rfl
theorem ABH:Bc vE.P 228=false:=by kernel_rfl
theorem Tk:callable vE.P 229=true:=by kernel_rfl
theorem Su:callable vE.P 230=true:=by kernel_rfl
theorem TF:callable vE.P 231=true:=by kernel_rfl
theorem TJ:callable vE.P 232=true:=by kernel_rfl
theorem ACQ:Ah vE.P 21=true:=by kernel_rfl
theorem Uq:callable vE.P 233=true:=by kernel_rfl
theorem ABY:Ah vE.P 222=true:=by kernel_rfl
theorem AAA:BP vE.P 222=true:=by kernel_rfl
theorem AAh:F6 vE.P 222=some (256,1,false):=by kernel_rfl
theorem TK:callable vE.P 234=true:=by kernel_rfl
theorem Rs:callable vE.P 235=true:=by kernel_rfl
theorem Ri:callable vE.P 236=true:=by kernel_rfl
theorem Qf:callable vE.P 237=true:=by kernel_rfl
theorem Tc:AY vE.P 196 0=some (0,1,false):=by kernel_rfl
theorem Z5:Ah vE.P 194=true:=by kernel_rfl
theorem ABC:BP vE.P 194=false:=by kernel_rfl
theorem AEl:BX vE.P 194=some 1:=by kernel_rfl
theorem ACE:Ee vE.P 194=0:=by kernel_rfl
theorem AAJ:JX vE.P 194=true:=by kernel_rfl
theorem AAK:Bc vE.P 238=false:=by kernel_rfl
theorem Lh:Lg vE.P 194 238 195 2=true:=by kernel_rfl
theorem LW:Lg vE.P 194 238 196 2=true:=by kernel_rfl
theorem SF:callable vE.P 238=false:=by kernel_rfl
theorem AAa:Ah vE.P 238=true:=by kernel_rfl
theorem ABs:Bc vE.P 194=false:=by kernel_rfl
theorem L8:Lg vE.P 238 194 195 2=true:=by kernel_rfl
theorem L6:Lg vE.P 238 194 196 2=true:=by kernel_rfl
theorem Sr:callable vE.P 239=true:=by kernel_rfl
theorem TQ:callable vE.P 240=true:=by kernel_rfl
theorem Qn:callable vE.P 241=true:=by kernel_rfl
theorem Qh:callable vE.P 242=true:=by kernel_rfl
theorem Ry:callable vE.P 243=true:=by kernel_rfl
theorem VG:callable vE.P 244=true:=by kernel_rfl
theorem Ue:callable vE.P 245=true:=by kernel_rfl
theorem UW:callable vE.P 246=true:=by kernel_rfl
theorem Tu:callable vE.P 247=true:=by kernel_rfl
theorem SG:callable vE.P 248=true:=by kernel_rfl
theorem Uh:callable vE.P 249=true:=by kernel_rfl
theorem Qa:callable vE.P 250=true:=by kernel_rfl
theorem Uo:callable vE.P 251=true:=by kernel_rfl
theorem UL:callable vE.P 252=true:=by kernel_rfl
theorem TR:callable vE.P 253=true:=by kernel_rfl
theorem Q7:callable vE.P 254=true:=by kernel_rfl
theorem Ui:callable vE.P 255=true:=by kernel_rfl
theorem Rt:callable vE.P 256=true:=by kernel_rfl
theorem Si:callable vE.P 257=true:=by kernel_rfl
theorem UY:callable vE.P 258=true:=by kernel_rfl
theorem Uw:callable vE.P 259=true:=by kernel_rfl
theorem Tf:callable vE.P 260=false:=by kernel_rfl
theorem Vr:callable vE.P 261=true:=by kernel_rfl
theorem Rv:callable vE.P 262=true:=by kernel_rfl
theorem UK:callable vE.P 263=true:=by kernel_rfl
theorem AH9:Kv vE.P 43=some (16,.str []):=by kernel_rfl
theorem Ux:callable vE.P 264=true:=by kernel_rfl
theorem TV:callable vE.P 265=true:=by kernel_rfl
theorem ABP: ∀n,CG vE.P 251 n=some [.int .i64 0]:=by intros;kernel_rfl
theorem Rw:callable vE.P 266=true:=by kernel_rfl
theorem Rq:AY vE.P 251 0=some (0,1,false):=by kernel_rfl
theorem VQ:callable vE.P 269=false:=by kernel_rfl
theorem ABn:F6 vE.P 254=some (256,1,false):=by kernel_rfl
theorem AA1:F6 vE.P 257=some (16,2,true):=by kernel_rfl
theorem ABj:Ah vE.P 256=true:=by kernel_rfl
theorem ABm:BP vE.P 256=true:=by kernel_rfl
theorem ADY:BX vE.P 256=some 2:=by kernel_rfl
theorem AAC: ∀n,CG vE.P 256 n=some [.int .u8 0,.int .u8 0]:=by intros;kernel_rfl
theorem R9:AY vE.P 256 0=some (0,1,false):=by kernel_rfl
theorem Uz:AY vE.P 256 1=some (1,1,false):=by kernel_rfl
theorem ADS:Df vE.P 256=some (.agg [.int .u8 0,.int .u8 0]):=by kernel_rfl
theorem ADK:(DL vE.P 256).isSome=true:=by kernel_rfl
theorem P9:AR vE.P 256 0=5:=by kernel_rfl
theorem Oj:Af vE.P 256 0=some (0,1):=by kernel_rfl
theorem UX:AR vE.P 256 1=5:=by kernel_rfl
theorem Om:Af vE.P 256 1=some (1,1):=by kernel_rfl
theorem ACU:Df vE.P 257=some (.agg [.int .u8 0,.int .u8 0,.int .u8 0,.int .u8 0,.int .u8 0,.int .u8 0,.int .u8 0,.int .u8 0,.int .u8 0,.int .u8 0,.int .u8 0,.int .u8 0,.int .u8 0,.int .u8 0,.int .u8 0,.int .u8 0,.int .u8 0,.int .u8 0,.int .u8 0,.int .u8 0,.int .u8 0,.int .u8 0,.int .u8 0,.int .u8 0,.int .u8 0,.int .u8 0,.int .u8 0,.int .u8 0,.int .u8 0,.int .u8 0,.int .u8 0,.int .u8 0]):=by kernel_rfl
theorem ADy:(DL vE.P 257).isSome=true:=by kernel_rfl
theorem QM:AR vE.P 257 0=256:=by kernel_rfl
theorem Ol:Af vE.P 257 0=some (0,2):=by kernel_rfl
theorem Rj:AR vE.P 257 1=256:=by kernel_rfl
theorem Oh:Af vE.P 257 1=some (2,2):=by kernel_rfl
theorem SV:AR vE.P 257 2=256:=by kernel_rfl
theorem Oo:Af vE.P 257 2=some (4,2):=by kernel_rfl
theorem VA:AR vE.P 257 3=256:=by kernel_rfl
theorem PK:Af vE.P 257 3=some (6,2):=by kernel_rfl
theorem Qe:AR vE.P 257 4=256:=by kernel_rfl
theorem Og:Af vE.P 257 4=some (8,2):=by kernel_rfl
theorem ADC:BX vE.P 257=some 32:=by kernel_rfl
theorem AB6:(vE.P.funcs[193]?).isSome=true:=by kernel_rfl
theorem AJz{l:List UInt8}{c:Int}{st:St}{Q:AVal→St→Prop} (h:Gl (Q (.int .i64 (Go.Lib.indexByte l (FQ c))) st)):Ph vE 193 [.str l,.int .u8 c] st Q:=by
  refine .inl ⟨(vE.P.funcs[193]?).get AB6,Extern.BytealgIndexByte.indexByte,.int .i64 (Go.Lib.indexByte l (FQ c)),(Option.some_get AB6).symm,by kernel_rfl,by kernel_rfl,by kernel_rfl,by kernel_rfl,fun Γ vs w hr=>?_,?_⟩
  · cases hr with|cons h1 t=>cases t with|cons h2 t=>cases t;cases h1;cases h2;exact⟨_,Go.Lib.run_indexByteString _ _ w,.int _ _⟩
  · have:=h.go;simpa[AVal.strip]using this
theorem ACA:(vE.P.funcs[238]?).isSome=true:=by kernel_rfl
theorem ABv{x:AVal}{st:St}{Q:AVal→St→Prop} (h:Gl (Q x.strip st)):Ph vE 238 [x] st Q:=by
  refine .inl ⟨(vE.P.funcs[238]?).get ACA,Extern.AbiNoEscape.same,x,(Option.some_get ACA).symm,by kernel_rfl,by kernel_rfl,by kernel_rfl,by kernel_rfl,fun Γ vs w hr=>?_,?_⟩
  · cases hr with|cons h1 t=>cases t;exact⟨_,Go.Lib.run_noEscape w _,h1⟩
  · have:=h.go;simpa[AVal.strip]using this
theorem ACB:(vE.P.funcs[260]?).isSome=true:=by kernel_rfl
theorem AJO{l:List UInt8}{c:Int}{st:St}{Q:AVal→St→Prop} (h:Gl (Q (.int .i64 ((Go.Lib.countByte l (FQ c):Nat):Int)) st)):Ph vE 260 [.str l,.int .u8 c] st Q:=by
  refine .inl ⟨(vE.P.funcs[260]?).get ACB,Extern.BytealgCount.count,.int .i64 ((Go.Lib.countByte l (FQ c):Nat):Int),(Option.some_get ACB).symm,by kernel_rfl,by kernel_rfl,by kernel_rfl,by kernel_rfl,fun Γ vs w hr=>?_,?_⟩
  · cases hr with|cons h1 t=>cases t with|cons h2 t=>cases t;cases h1;cases h2;exact⟨_,Go.Lib.run_countString _ _ w,.int _ _⟩
  · have:=h.go;simpa[AVal.strip]using this
theorem ABu:(vE.P.funcs[269]?).isSome=true:=by kernel_rfl
theorem AKV{k:Nat}{st:St}{Q:AVal→St→Prop} (h1:1≤k) (h2:k≤140737488355328) (h:Gl (Q (.trow 5 st.next k) {m:=(st.next,[.any])::st.m,next:=st.next+1})):Ph vE 269 [.int .i64 k] st Q:=.inr ⟨(vE.P.funcs[269]?).get ABu, #[3],24,5,k,(Option.some_get ABu).symm,by kernel_rfl,by kernel_rfl,by kernel_rfl,by kernel_rfl,by kernel_rfl,h1,h2,rfl,h.go⟩
set_option linter.defProp false
def fxE:=And.intro (And.intro (And.intro (And.intro (And.intro (And.intro (And.intro (And.intro (And.intro (@ABE) (@AIr)) (And.intro (@AAQ) (And.intro (@AEd) (@ACy)))) (And.intro (And.intro (@AFX) (@AAu)) (And.intro (@ABd) (And.intro (@AKB) (@V8))))) (And.intro (And.intro (And.intro (@YQ) (@AKA)) (And.intro (@AEa) (And.intro (@ADZ) (@XK)))) (And.intro (And.intro (@AEs) (And.intro (@AHD) (@ZO))) (And.intro (@YE) (And.intro (@Zr) (@XF)))))) (And.intro (And.intro (And.intro (And.intro (@Yi) (@ACM)) (And.intro (@AET) (And.intro (@ABF) (@AKw)))) (And.intro (And.intro (@Wq) (And.intro (@AG2) (@Yr))) (And.intro (@WR) (And.intro (@YC) (@ZP))))) (And.intro (And.intro (And.intro (@AFn) (@AF1)) (And.intro (@AIz) (And.intro (@Wl) (@Xw)))) (And.intro (And.intro (@WH) (And.intro (@Vv) (@Wi))) (And.intro (@WN) (And.intro (@AEQ) (@AHO))))))) (And.intro (And.intro (And.intro (And.intro (And.intro (@AIU) (@AJD)) (And.intro (@AHb) (And.intro (@AFq) (@Xd)))) (And.intro (And.intro (@Uc) (And.intro (@V9) (@SH))) (And.intro (@Zk) (And.intro (@AFW) (@AGD))))) (And.intro (And.intro (And.intro (@AI4) (@AHP)) (And.intro (@AH7) (And.intro (@Xt) (@Tw)))) (And.intro (And.intro (@Vx) (And.intro (@Vj) (@WP))) (And.intro (@Ud) (And.intro (@Xy) (@P5)))))) (And.intro (And.intro (And.intro (And.intro (@Zp) (@Vq)) (And.intro (@AE0) (And.intro (@AGz) (@ADl)))) (And.intro (And.intro (@ADf) (And.intro (@AEW) (@AE9))) (And.intro (@XV) (And.intro (@Yk) (@ADT))))) (And.intro (And.intro (And.intro (@AEw) (@AFU)) (And.intro (@Yf) (And.intro (@Xc) (@XQ)))) (And.intro (And.intro (@Zl) (And.intro (@Zh) (@AH4))) (And.intro (@AFN) (And.intro (@AHh) (@Xn)))))))) (And.intro (And.intro (And.intro (And.intro (And.intro (And.intro (@X5) (@Yy)) (And.intro (@ZA) (And.intro (@XN) (@YW)))) (And.intro (And.intro (@ZU) (@AGU)) (And.intro (@AGh) (And.intro (@ZK) (@XJ))))) (And.intro (And.intro (And.intro (@WC) (@Wp)) (And.intro (@XP) (And.intro (@Zb) (@Zx)))) (And.intro (And.intro (@ADJ) (And.intro (@AD3) (@AEr))) (And.intro (@AHI) (And.intro (@AAD) (@AKn)))))) (And.intro (And.intro (And.intro (And.intro (@AGa) (@AC6)) (And.intro (@Yg) (And.intro (@X8) (@ZG)))) (And.intro (And.intro (@AE4) (And.intro (@ACk) (@AHR))) (And.intro (@AHi) (And.intro (@AGs) (@Yx))))) (And.intro (And.intro (And.intro (@RL) (@Y6)) (And.intro (@QW) (And.intro (@AI8) (@Vy)))) (And.intro (And.intro (@AIa) (And.intro (@AIy) (@Yq))) (And.intro (@WL) (And.intro (@AEz) (@ZY))))))) (And.intro (And.intro (And.intro (And.intro (And.intro (@Xj) (@Wj)) (And.intro (@AGG) (And.intro (@AHS) (@AHz)))) (And.intro (And.intro (@AFm) (And.intro (@XH) (@Qb))) (And.intro (@ZM) (And.intro (@YB) (@AE1))))) (And.intro (And.intro (And.intro (@AFl) (@Wz)) (And.intro (@ACx) (And.intro (@ACK) (@AHE)))) (And.intro (And.intro (@ZV) (And.intro (@AG8) (@AG5))) (And.intro (@AJk) (And.intro (@XO) (@Xg)))))) (And.intro (And.intro (And.intro (And.intro (@XY) (@Xm)) (And.intro (@AEI) (And.intro (@AF2) (@Y4)))) (And.intro (And.intro (@WU) (And.intro (@AEX) (@ACs))) (And.intro (@AC4) (And.intro (@ADO) (@AHY))))) (And.intro (And.intro (And.intro (@WV) (@Ya)) (And.intro (@Yc) (And.intro (@Zn) (@ZC)))) (And.intro (And.intro (@Y3) (And.intro (@ZW) (@Zj))) (And.intro (@Wv) (And.intro (@YM) (@AE6))))))))) (And.intro (And.intro (And.intro (And.intro (And.intro (And.intro (And.intro (@AEH) (@AHN)) (And.intro (@Y2) (And.intro (@AEC) (@ABk)))) (And.intro (And.intro (@AAM) (@ACr)) (And.intro (@ABT) (And.intro (@UM) (@V3))))) (And.intro (And.intro (And.intro (@Zd) (@Yz)) (And.intro (@YP) (And.intro (@ADw) (@ADu)))) (And.intro (And.intro (@AGt) (And.intro (@XC) (@AEi))) (And.intro (@ACn) (And.intro (@AFM) (@WF)))))) (And.intro (And.intro (And.intro (And.intro (@Yu) (@ACF)) (And.intro (@ADB) (And.intro (@AF7) (@Xi)))) (And.intro (And.intro (@ACp) (And.intro (@ABf) (@AAL))) (And.intro (@ACf) (And.intro (@ABp) (@Sc))))) (And.intro (And.intro (And.intro (@QA) (@Uf)) (And.intro (@Qg) (And.intro (@Q0) (@UO)))) (And.intro (And.intro (@AAw) (And.intro (@AMI) (@AF9))) (And.intro (@AGK) (And.intro (@ZR) (@AIN))))))) (And.intro (And.intro (And.intro (And.intro (And.intro (@YG) (@AKY)) (And.intro (@AF4) (And.intro (@QG) (@XG)))) (And.intro (And.intro (@Xp) (And.intro (@WS) (@Xa))) (And.intro (@TN) (And.intro (@Xh) (@Rl))))) (And.intro (And.intro (And.intro (@YF) (@R7)) (And.intro (@YV) (And.intro (@XB) (@YZ)))) (And.intro (And.intro (@Yn) (And.intro (@WO) (@AA7))) (And.intro (@ADo) (And.intro (@Z6) (@AAO)))))) (And.intro (And.intro (And.intro (And.intro (@Zm) (@Vn)) (And.intro (@ZF) (And.intro (@AAo) (@AD0)))) (And.intro (And.intro (@ABX) (And.intro (@AA9) (@X4))) (And.intro (@QV) (And.intro (@Ww) (@XX))))) (And.intro (And.intro (And.intro (@YI) (@Y9)) (And.intro (@Xq) (And.intro (@AGo) (@ZJ)))) (And.intro (And.intro (@AEe) (And.intro (@AEF) (@AEE))) (And.intro (@Vg) (And.intro (@Ob) (@WW)))))))) (And.intro (And.intro (And.intro (And.intro (And.intro (And.intro (@XW) (@YD)) (And.intro (@Qq) (And.intro (@XD) (@QN)))) (And.intro (And.intro (@ZL) (@S9)) (And.intro (@ABr) (And.intro (@Xb) (@Y1))))) (And.intro (And.intro (And.intro (@AAr) (@Z0)) (And.intro (@ADh) (And.intro (@AGN) (@Qo)))) (And.intro (And.intro (@AHj) (And.intro (@Yh) (@AIM))) (And.intro (@XA) (And.intro (@WE) (@ZX)))))) (And.intro (And.intro (And.intro (And.intro (@Zq) (@Wx)) (And.intro (@Za) (And.intro (@X7) (@AFx)))) (And.intro (And.intro (@Yv) (And.intro (@AE2) (@WJ))) (And.intro (@AFS) (And.intro (@V6) (@AJy))))) (And.intro (And.intro (And.intro (@We) (@AKZ)) (And.intro (@ACR) (And.intro (@ALE) (@ADj)))) (And.intro (And.intro (@ACN) (And.intro (@YT) (@YH))) (And.intro (@Wm) (And.intro (@P8) (@V5))))))) (And.intro (And.intro (And.intro (And.intro (And.intro (@UZ) (@V4)) (And.intro (@WT) (And.intro (@Ws) (@Vz)))) (And.intro (And.intro (@V7) (And.intro (@AGE) (@AIC))) (And.intro (@Zu) (And.intro (@Xf) (@WZ))))) (And.intro (And.intro (And.intro (@YL) (@AFt)) (And.intro (@AIB) (And.intro (@ABh) (@Zg)))) (And.intro (And.intro (@WX) (And.intro (@AD4) (@Ub))) (And.intro (@QK) (And.intro (@Y7) (@UC)))))) (And.intro (And.intro (And.intro (And.intro (@ZZ) (@XI)) (And.intro (@Sz) (And.intro (@U4) (@YN)))) (And.intro (And.intro (@YO) (And.intro (@AFE) (@Ti))) (And.intro (@AEL) (And.intro (@AC5) (@Qu))))) (And.intro (And.intro (And.intro (@PN) (@ABD)) (And.intro (@ADE) (And.intro (@RU) (@UJ)))) (And.intro (And.intro (@XE) (And.intro (@AEU) (@AEZ))) (And.intro (@AGc) (And.intro (@AAi) (@ABa)))))))))) (And.intro (And.intro (And.intro (And.intro (And.intro (And.intro (And.intro (And.intro (@AJe) (@Zv)) (And.intro (@AKP) (And.intro (@Vp) (@AJh)))) (And.intro (And.intro (@Zw) (@AJc)) (And.intro (@YK) (And.intro (@ACb) (@Xe))))) (And.intro (And.intro (And.intro (@Xu) (@RI)) (And.intro (@P6) (And.intro (@AAg) (@AEB)))) (And.intro (And.intro (@VI) (And.intro (@U9) (@QB))) (And.intro (@U5) (And.intro (@TY) (@Sv)))))) (And.intro (And.intro (And.intro (And.intro (@VT) (@AAU)) (And.intro (@ACi) (And.intro (@Te) (@Tg)))) (And.intro (And.intro (@SS) (And.intro (@TH) (@Zy))) (And.intro (@VC) (And.intro (@YY) (@Pw))))) (And.intro (And.intro (And.intro (@Ra) (@Re)) (And.intro (@Xk) (And.intro (@Sq) (@Pz)))) (And.intro (And.intro (@Uy) (And.intro (@Rk) (@AAW))) (And.intro (@AAb) (And.intro (@Pv) (@Vd))))))) (And.intro (And.intro (And.intro (And.intro (And.intro (@AEG) (@ADM)) (And.intro (@Q6) (And.intro (@TE) (@Sm)))) (And.intro (And.intro (@UU) (And.intro (@Xv) (@VF))) (And.intro (@WQ) (And.intro (@TA) (@VU))))) (And.intro (And.intro (And.intro (@Tm) (@Vb)) (And.intro (@Qr) (And.intro (@QS) (@Ps)))) (And.intro (And.intro (@AHB) (And.intro (@AH6) (@AJZ))) (And.intro (@AIg) (And.intro (@AKK) (@Xr)))))) (And.intro (And.intro (And.intro (And.intro (@AJd) (@Pp)) (And.intro (@Z7) (And.intro (@UN) (@QX)))) (And.intro (And.intro (@AJu) (And.intro (@ACz) (@TC))) (And.intro (@ABS) (And.intro (@AAR) (@ZE))))) (And.intro (And.intro (And.intro (@WA) (@ADW)) (And.intro (@ACW) (And.intro (@Qv) (@O0)))) (And.intro (And.intro (@RZ) (And.intro (@PL) (@AE7))) (And.intro (@AGw) (And.intro (@AGT) (@AJB)))))))) (And.intro (And.intro (And.intro (And.intro (And.intro (And.intro (@ACS) (@AFG)) (And.intro (@TM) (And.intro (@SL) (@Sg)))) (And.intro (And.intro (@Un) (@O3)) (And.intro (@UI) (And.intro (@Ot) (@Vf))))) (And.intro (And.intro (And.intro (@ADm) (@ADX)) (And.intro (@Sd) (And.intro (@Sy) (@UB)))) (And.intro (And.intro (@O9) (And.intro (@Ug) (@Ox))) (And.intro (@UT) (And.intro (@ZT) (@QT)))))) (And.intro (And.intro (And.intro (And.intro (@VV) (@VS)) (And.intro (@SA) (And.intro (@ADn) (@AHx)))) (And.intro (And.intro (@AKq) (And.intro (@AHM) (@Q3))) (And.intro (@Uu) (And.intro (@Ve) (@AHm))))) (And.intro (And.intro (And.intro (@ABe) (@UA)) (And.intro (@UD) (And.intro (@QO) (@RF)))) (And.intro (And.intro (@Ut) (And.intro (@Sa) (@RA))) (And.intro (@SB) (And.intro (@Qd) (@QI))))))) (And.intro (And.intro (And.intro (And.intro (And.intro (@QY) (@QD)) (And.intro (@XZ) (And.intro (@ACP) (@AD1)))) (And.intro (And.intro (@AH5) (And.intro (@AIn) (@WY))) (And.intro (@AJ9) (And.intro (@RJ) (@Wo))))) (And.intro (And.intro (And.intro (@SX) (@XR)) (And.intro (@Um) (And.intro (@XM) (@Sl)))) (And.intro (And.intro (@Vs) (And.intro (@TW) (@R6))) (And.intro (@Ql) (And.intro (@Vl) (@Qy)))))) (And.intro (And.intro (And.intro (And.intro (@P7) (@Sk)) (And.intro (@Ye) (And.intro (@AGx) (@RS)))) (And.intro (And.intro (@QU) (And.intro (@U7) (@AEO))) (And.intro (@ADe) (And.intro (@RV) (@PI))))) (And.intro (And.intro (And.intro (@Ur) (@AC3)) (And.intro (@AEp) (And.intro (@Qj) (@Ul)))) (And.intro (And.intro (@Tv) (And.intro (@UE) (@SK))) (And.intro (@TB) (And.intro (@AG0) (@Ty))))))))) (And.intro (And.intro (And.intro (And.intro (And.intro (And.intro (And.intro (@RY) (@Uv)) (And.intro (@ALk) (And.intro (@ZN) (@U6)))) (And.intro (And.intro (@AAq) (@Sw)) (And.intro (@UF) (And.intro (@VL) (@Rm))))) (And.intro (And.intro (And.intro (@Vh) (@UV)) (And.intro (@T9) (And.intro (@Ro) (@RN)))) (And.intro (And.intro (@RG) (And.intro (@Wt) (@Vm))) (And.intro (@Yt) (And.intro (@Qk) (@RO)))))) (And.intro (And.intro (And.intro (And.intro (@Td) (@Rf)) (And.intro (@TU) (And.intro (@AGe) (@AHa)))) (And.intro (And.intro (@AFI) (And.intro (@ACd) (@VP))) (And.intro (@ACv) (And.intro (@Sb) (@VD))))) (And.intro (And.intro (And.intro (@Vi) (@Uk)) (And.intro (@Vo) (And.intro (@RD) (@U2)))) (And.intro (And.intro (@R8) (And.intro (@Uj) (@ABZ))) (And.intro (@AAE) (And.intro (@AL6) (@AGy))))))) (And.intro (And.intro (And.intro (And.intro (And.intro (@Z9) (@AAN)) (And.intro (@VK) (And.intro (@Va) (@Qi)))) (And.intro (And.intro (@Rn) (And.intro (@Q5) (@SE))) (And.intro (@Rx) (And.intro (@Rz) (@Qs))))) (And.intro (And.intro (And.intro (@QR) (@AJJ)) (And.intro (@AEn) (And.intro (@AFT) (@RH)))) (And.intro (And.intro (@TD) (And.intro (@SQ) (@AAI))) (And.intro (@AE5) (And.intro (@QC) (@U0)))))) (And.intro (And.intro (And.intro (And.intro (@RB) (@R3)) (And.intro (@Pt) (And.intro (@TI) (@VO)))) (And.intro (And.intro (@RX) (And.intro (@ADd) (@Q9))) (And.intro (@Ru) (And.intro (@AEP) (@Tx))))) (And.intro (And.intro (And.intro (@Tt) (@Qw)) (And.intro (@TP) (And.intro (@Tz) (@VZ)))) (And.intro (And.intro (@AC0) (And.intro (@Us) (@SI))) (And.intro (@Rb) (And.intro (@Pq) (@AEJ)))))))) (And.intro (And.intro (And.intro (And.intro (And.intro (And.intro (@AHU) (@ABH)) (And.intro (@Tk) (And.intro (@Su) (@TF)))) (And.intro (And.intro (@TJ) (And.intro (@ACQ) (@Uq))) (And.intro (@ABY) (And.intro (@AAA) (@AAh))))) (And.intro (And.intro (And.intro (@TK) (@Rs)) (And.intro (@Ri) (And.intro (@Qf) (@Tc)))) (And.intro (And.intro (@Z5) (And.intro (@ABC) (@AEl))) (And.intro (@ACE) (And.intro (@AAJ) (@AAK)))))) (And.intro (And.intro (And.intro (And.intro (@Lh) (@LW)) (And.intro (@SF) (And.intro (@AAa) (@ABs)))) (And.intro (And.intro (@L8) (And.intro (@L6) (@Sr))) (And.intro (@TQ) (And.intro (@Qn) (@Qh))))) (And.intro (And.intro (And.intro (@Ry) (@VG)) (And.intro (@Ue) (And.intro (@UW) (@Tu)))) (And.intro (And.intro (@SG) (And.intro (@Uh) (@Qa))) (And.intro (@Uo) (And.intro (@UL) (@TR))))))) (And.intro (And.intro (And.intro (And.intro (And.intro (@Q7) (@Ui)) (And.intro (@Rt) (And.intro (@Si) (@UY)))) (And.intro (And.intro (@Uw) (And.intro (@Tf) (@Vr))) (And.intro (@Rv) (And.intro (@UK) (@AH9))))) (And.intro (And.intro (And.intro (@Ux) (@TV)) (And.intro (@ABP) (And.intro (@Rw) (@Rq)))) (And.intro (And.intro (@VQ) (And.intro (@ABn) (@AA1))) (And.intro (@ABj) (And.intro (@ABm) (@ADY)))))) (And.intro (And.intro (And.intro (And.intro (@AAC) (@R9)) (And.intro (@Uz) (And.intro (@ADS) (@ADK)))) (And.intro (And.intro (@P9) (And.intro (@Oj) (@UX))) (And.intro (@Om) (And.intro (@ACU) (@ADy))))) (And.intro (And.intro (And.intro (@QM) (@Ol)) (And.intro (@Rj) (And.intro (@Oh) (@SV)))) (And.intro (And.intro (@Oo) (And.intro (@VA) (@PK))) (And.intro (@Qe) (And.intro (@Og) (@ADC))))))))))
def vm:=And.intro vmC (And.intro fxE eE)
end Go.Proofs.YtjgdhjpafjpjgaaGreatDoor
