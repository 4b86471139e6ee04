import Derived.Test.YtjgdhjpafjpjgaaGreatDoorChecked
import Derived.Test.YtjgdhjpafjpjgaaGreatDoorVM2
import Derived.Test.YtjgdhjpafjpjgaaGreatDoorTy
import Derived.KernelRfl
set_option linter.unusedVariables false
namespace Go.Proofs.YtjgdhjpafjpjgaaGreatDoor
open Go.VM
noncomputable def vE:Env:=⟨Tryz.prog,vT⟩
theorem A8:vE.P.follows .mixedOrders=true:=by kernel_rfl
theorem AFP:callable vE.P 1=false:=by kernel_rfl
theorem APv:F9 vE.P 4=0:=by kernel_rfl
theorem AFY:callable vE.P 7=true:=by kernel_rfl
theorem AKa:Av vE.P 23=true:=by kernel_rfl
theorem AIQ:Bd vE.P 23=true:=by kernel_rfl
theorem AOi:CL vE.P 23=some 4:=by kernel_rfl
theorem AGP:callable vE.P 8=true:=by kernel_rfl
theorem AGD:callable vE.P 9=true:=by kernel_rfl
theorem APJ:J2 vE.P 28=some (4,48):=by kernel_rfl
theorem ACo:Aa vE.P 28 0=23:=by kernel_rfl
theorem ADU:CO vE.P 28=true:=by kernel_rfl
theorem APT:F9 vE.P 3=0:=by kernel_rfl
theorem AKB:CX vE.P 28=some 4:=by kernel_rfl
theorem AJn: ∀n,DJ vE.P 23 n=some [.int .i64 0,.str [],.str [],.int .i64 0]:=by intros;kernel_rfl
theorem ABa:callable vE.P 10=true:=by kernel_rfl
theorem AJ4: ∀n,DJ vE.P 30 n=some [.str [],.int .i64 0,.str [],.str [],.str [],.bool false,.bool false]:=by intros;kernel_rfl
theorem AM9:CL vE.P 30=some 7:=by kernel_rfl
theorem ADc:callable vE.P 11=true:=by kernel_rfl
theorem AEW:callable vE.P 12=true:=by kernel_rfl
theorem AD6:callable vE.P 13=true:=by kernel_rfl
theorem ACI:callable vE.P 14=true:=by kernel_rfl
theorem ADe:callable vE.P 15=true:=by kernel_rfl
theorem AKS:Av vE.P 30=true:=by kernel_rfl
theorem AKb:Bd vE.P 30=true:=by kernel_rfl
theorem AG4:vE.P.eqGuardType vE.P.depth 30=false:=by kernel_rfl
theorem ATA: ∀(a0 b0:List UInt8) (a1 b1:Int) (a2 b2:List UInt8) (a3 b3:List UInt8) (a4 b4:List UInt8) (a5 b5:Bool) (a6 b6:Bool),eqA vE.P 10000 30 (.agg [.str a0,.int .i64 a1,.str a2,.str a3,.str a4,.bool a5,.bool a6]) (.agg [.str b0,.int .i64 b1,.str b2,.str b3,.str b4,.bool b5,.bool b6])=some (a0==b0&&(a1==b1&&(a2==b2&&(a3==b3&&(a4==b4&&(a5==b5&&(a6==b6&&true))))))):=by intros;kernel_rfl
theorem ACO:callable vE.P 16=true:=by kernel_rfl
theorem ALf:CW vE.P 9=true:=by kernel_rfl
theorem ABA:callable vE.P 18=true:=by kernel_rfl
theorem ABB:callable vE.P 19=true:=by kernel_rfl
theorem ADN:callable vE.P 17=true:=by kernel_rfl
theorem AE3:Ag vE.P 42 2=some (3,1,false):=by kernel_rfl
theorem AOj:Av vE.P 9=true:=by kernel_rfl
theorem ANR:Bd vE.P 9=false:=by kernel_rfl
theorem APs:CL vE.P 9=some 1:=by kernel_rfl
theorem ACK:Ag vE.P 42 1=some (2,1,false):=by kernel_rfl
theorem ACS:Ag vE.P 42 3=some (4,1,false):=by kernel_rfl
theorem ADJ:Ag vE.P 42 0=some (0,2,true):=by kernel_rfl
theorem AC6:Ag vE.P 40 1=some (1,1,false):=by kernel_rfl
theorem AEP:Ag vE.P 40 0=some (0,1,false):=by kernel_rfl
theorem ABE:callable vE.P 20=true:=by kernel_rfl
theorem AH9: ∀n,DJ vE.P 46 n=some [.int .i64 0,.str [],.slice 1 [] true,.slice 4 [] true]:=by intros;kernel_rfl
theorem AMR:CL vE.P 46=some 4:=by kernel_rfl
theorem APE:F9 vE.P 9=0:=by kernel_rfl
theorem ARD:F9 vE.P 0=0:=by kernel_rfl
theorem AMo:El vE.P 40=some (.agg [.str [],.str []]):=by kernel_rfl
theorem AOW:(EZ vE.P 40).isSome=true:=by kernel_rfl
theorem ABx:Aa vE.P 40 0=9:=by kernel_rfl
theorem AAc:Ar vE.P 40 0=some (0,1):=by kernel_rfl
theorem ACT:Aa vE.P 40 1=9:=by kernel_rfl
theorem ZY:Ar vE.P 40 1=some (1,1):=by kernel_rfl
theorem ACz:Ag vE.P 42 5=some (6,1,false):=by kernel_rfl
theorem ANG:Av vE.P 4=true:=by kernel_rfl
theorem AOb:Bd vE.P 4=false:=by kernel_rfl
theorem APr:CL vE.P 4=some 1:=by kernel_rfl
theorem ALp:El vE.P 42=some (.agg [.str [],.str [],.str [],.str [],.str [],.bool false,.bool false]):=by kernel_rfl
theorem AOm:(EZ vE.P 42).isSome=true:=by kernel_rfl
theorem ADx:Aa vE.P 42 0=40:=by kernel_rfl
theorem WJ:Ar vE.P 42 0=some (0,2):=by kernel_rfl
theorem ABj:Aa vE.P 42 2=9:=by kernel_rfl
theorem Vn:Ar vE.P 42 2=some (3,1):=by kernel_rfl
theorem ADI:Aa vE.P 42 4=4:=by kernel_rfl
theorem AAz:Ar vE.P 42 4=some (5,1):=by kernel_rfl
theorem AFD:Aa vE.P 42 3=9:=by kernel_rfl
theorem AAO:Ar vE.P 42 3=some (4,1):=by kernel_rfl
theorem ABH:Aa vE.P 42 5=4:=by kernel_rfl
theorem YB:Ar vE.P 42 5=some (6,1):=by kernel_rfl
theorem AKs: ∀n,DJ vE.P 42 n=some [.str [],.str [],.str [],.str [],.str [],.bool false,.bool false]:=by intros;kernel_rfl
theorem AMD:CL vE.P 42=some 7:=by kernel_rfl
theorem AJR:Av vE.P 46=true:=by kernel_rfl
theorem AJj:Bd vE.P 46=true:=by kernel_rfl
theorem AK9:Av vE.P 42=true:=by kernel_rfl
theorem AJ8:Bd vE.P 42=true:=by kernel_rfl
theorem ABZ:callable vE.P 21=true:=by kernel_rfl
theorem ABN:callable vE.P 22=true:=by kernel_rfl
theorem AKx:Av vE.P 55=true:=by kernel_rfl
theorem AK0:Bd vE.P 55=true:=by kernel_rfl
theorem AL8:CL vE.P 55=some 4:=by kernel_rfl
theorem AEo:callable vE.P 23=true:=by kernel_rfl
theorem ADw:callable vE.P 25=true:=by kernel_rfl
theorem ACr:callable vE.P 26=true:=by kernel_rfl
theorem ABv:callable vE.P 24=true:=by kernel_rfl
theorem ADg:callable vE.P 27=true:=by kernel_rfl
theorem ANK:El vE.P 23=some (.agg [.int .i64 0,.str [],.str [],.int .i64 0]):=by kernel_rfl
theorem ALS:(EZ vE.P 23).isSome=true:=by kernel_rfl
theorem AL4:F9 vE.P 31=0:=by kernel_rfl
theorem AE0:callable vE.P 28=true:=by kernel_rfl
theorem ADo:Ag vE.P 23 1=some (1,1,false):=by kernel_rfl
theorem ADt:Ag vE.P 23 2=some (2,1,false):=by kernel_rfl
theorem AEQ:callable vE.P 31=true:=by kernel_rfl
theorem ABb:callable vE.P 30=true:=by kernel_rfl
theorem ADF:callable vE.P 29=true:=by kernel_rfl
theorem ACb:callable vE.P 32=true:=by kernel_rfl
theorem ALk:El vE.P 30=some (.agg [.str [],.int .i64 0,.str [],.str [],.str [],.bool false,.bool false]):=by kernel_rfl
theorem AN1:(EZ vE.P 30).isSome=true:=by kernel_rfl
theorem AEi:callable vE.P 33=true:=by kernel_rfl
theorem AEO:Ag vE.P 30 3=some (3,1,false):=by kernel_rfl
theorem ABp:Ag vE.P 30 5=some (5,1,false):=by kernel_rfl
theorem ABd:callable vE.P 34=true:=by kernel_rfl
theorem ADZ:callable vE.P 35=true:=by kernel_rfl
theorem AFB:callable vE.P 36=true:=by kernel_rfl
theorem ACF:CO vE.P 36=true:=by kernel_rfl
theorem AKj:CX vE.P 36=some 2:=by kernel_rfl
theorem AIX:Av vE.P 70=true:=by kernel_rfl
theorem AKG:Bd vE.P 70=true:=by kernel_rfl
theorem AMC:CL vE.P 70=some 2:=by kernel_rfl
theorem AGg:vE.P.eqGuardType vE.P.depth 70=false:=by kernel_rfl
theorem ASY: ∀(a0 b0:List UInt8) (a1 b1:List UInt8),eqA vE.P 10000 70 (.agg [.str a0,.str a1]) (.agg [.str b0,.str b1])=some (a0==b0&&(a1==b1&&true)):=by intros;kernel_rfl
theorem ALy:F9 vE.P 36=2:=by kernel_rfl
theorem AI8: ∀n,DJ vE.P 36 n=some [.slice 2 [] true]:=by intros;kernel_rfl
theorem ACE:callable vE.P 37=true:=by kernel_rfl
theorem ADb:callable vE.P 38=true:=by kernel_rfl
theorem ABi:callable vE.P 39=true:=by kernel_rfl
theorem ALD:Av vE.P 36=true:=by kernel_rfl
theorem AKN:Bd vE.P 36=false:=by kernel_rfl
theorem AM6:CL vE.P 36=some 1:=by kernel_rfl
theorem ANV:El vE.P 70=some (.agg [.str [],.str []]):=by kernel_rfl
theorem AMn:(EZ vE.P 70).isSome=true:=by kernel_rfl
theorem AEZ:Aa vE.P 70 0=9:=by kernel_rfl
theorem WB:Ar vE.P 70 0=some (0,1):=by kernel_rfl
theorem ACi:Aa vE.P 70 1=9:=by kernel_rfl
theorem YF:Ar vE.P 70 1=some (1,1):=by kernel_rfl
theorem ARB:J2 vE.P 36=some (2,32):=by kernel_rfl
theorem ABM:Aa vE.P 36 0=70:=by kernel_rfl
theorem AQ3:He vE.P 36=none:=by kernel_rfl
theorem APw:F9 vE.P 5=0:=by kernel_rfl
theorem ACW:callable vE.P 40=true:=by kernel_rfl
theorem AD2:CO vE.P 43=true:=by kernel_rfl
theorem AJ5:CX vE.P 43=some 1:=by kernel_rfl
theorem ACh:callable vE.P 41=true:=by kernel_rfl
theorem ACC:callable vE.P 43=true:=by kernel_rfl
theorem ACt:callable vE.P 42=true:=by kernel_rfl
theorem ANx:El vE.P 46=some (.agg [.int .i64 0,.str [],.slice 1 [] true,.slice 4 [] true]):=by kernel_rfl
theorem ANL:(EZ vE.P 46).isSome=true:=by kernel_rfl
theorem AMw:El vE.P 82=some (.agg [.str [],.int .i64 0,.int .i64 0,.int .i64 0,.int .i64 0]):=by kernel_rfl
theorem ANv:(EZ vE.P 82).isSome=true:=by kernel_rfl
theorem ADE:Aa vE.P 82 0=9:=by kernel_rfl
theorem AAt:Ar vE.P 82 0=some (0,1):=by kernel_rfl
theorem ABV:callable vE.P 45=true:=by kernel_rfl
theorem ACP:callable vE.P 44=true:=by kernel_rfl
theorem AKX: ∀n,DJ vE.P 85 n=some [.int .i64 0,.str [],.int .i64 0]:=by intros;kernel_rfl
theorem AMh:CL vE.P 85=some 3:=by kernel_rfl
theorem ADh:Ag vE.P 82 3=some (3,1,false):=by kernel_rfl
theorem AK4:Av vE.P 31=true:=by kernel_rfl
theorem AIA:Bd vE.P 31=false:=by kernel_rfl
theorem ANQ:CL vE.P 31=some 1:=by kernel_rfl
theorem AEE:Ag vE.P 85 0=some (0,1,false):=by kernel_rfl
theorem ANe:Av vE.P 3=true:=by kernel_rfl
theorem ALs:Bd vE.P 3=false:=by kernel_rfl
theorem APZ:CL vE.P 3=some 1:=by kernel_rfl
theorem ACe:Ag vE.P 85 2=some (2,1,false):=by kernel_rfl
theorem AC7:callable vE.P 46=true:=by kernel_rfl
theorem ABh:Ag vE.P 82 4=some (4,1,false):=by kernel_rfl
theorem ACJ:callable vE.P 47=true:=by kernel_rfl
theorem AIP: ∀n,DJ vE.P 91 n=some [.str [],.slice 1 [] true,.slice 1 [] true,.slice 3 [] true,.slice 3 [] true]:=by intros;kernel_rfl
theorem AN0:CL vE.P 91=some 5:=by kernel_rfl
theorem ADO:callable vE.P 48=true:=by kernel_rfl
theorem AB1:callable vE.P 49=true:=by kernel_rfl
theorem AKV:Av vE.P 91=true:=by kernel_rfl
theorem AIT:Bd vE.P 91=true:=by kernel_rfl
theorem AJk:Av vE.P 40=true:=by kernel_rfl
theorem AKP:Bd vE.P 40=true:=by kernel_rfl
theorem ANm:CL vE.P 40=some 2:=by kernel_rfl
theorem ADd:callable vE.P 51=true:=by kernel_rfl
theorem ADM:callable vE.P 50=true:=by kernel_rfl
theorem ACg:callable vE.P 52=true:=by kernel_rfl
theorem ACN:callable vE.P 53=true:=by kernel_rfl
theorem AEd:Ag vE.P 30 6=some (6,1,false):=by kernel_rfl
theorem AFE:Ag vE.P 30 4=some (4,1,false):=by kernel_rfl
theorem ABr:callable vE.P 54=true:=by kernel_rfl
theorem ABJ:callable vE.P 56=true:=by kernel_rfl
theorem ABq:callable vE.P 55=true:=by kernel_rfl
theorem ACY:Ag vE.P 91 4=some (4,1,false):=by kernel_rfl
theorem AIj:Av vE.P 89=true:=by kernel_rfl
theorem AJp:Bd vE.P 89=false:=by kernel_rfl
theorem AN3:CL vE.P 89=some 1:=by kernel_rfl
theorem ADG:CO vE.P 89=true:=by kernel_rfl
theorem AJP:CX vE.P 89=some 3:=by kernel_rfl
theorem AGj:Av vE.P 103=true:=by kernel_rfl
theorem AG6:Bd vE.P 103=true:=by kernel_rfl
theorem AH8:CL vE.P 103=some 3:=by kernel_rfl
theorem AG8: ∀n,DJ vE.P 103 n=some [.str [],.slice 1 [] true,.slice 1 [] true]:=by intros;kernel_rfl
theorem Vg:Ag vE.P 103 0=some (0,1,false):=by kernel_rfl
theorem ABe:callable vE.P 57=true:=by kernel_rfl
theorem AEN:callable vE.P 58=true:=by kernel_rfl
theorem ABF:Ag vE.P 55 0=some (0,1,false):=by kernel_rfl
theorem AD4:Ag vE.P 55 1=some (1,1,false):=by kernel_rfl
theorem AI4:Av vE.P 43=true:=by kernel_rfl
theorem AIg:Bd vE.P 43=false:=by kernel_rfl
theorem AOI:CL vE.P 43=some 1:=by kernel_rfl
theorem ACc:Ag vE.P 55 3=some (3,1,false):=by kernel_rfl
theorem AKh:Av vE.P 53=true:=by kernel_rfl
theorem AH4:Bd vE.P 53=false:=by kernel_rfl
theorem AOC:CL vE.P 53=some 1:=by kernel_rfl
theorem ABf:CO vE.P 53=true:=by kernel_rfl
theorem AB5:Ag vE.P 55 2=some (2,1,false):=by kernel_rfl
theorem AIq:Av vE.P 52=true:=by kernel_rfl
theorem AIr:Bd vE.P 52=false:=by kernel_rfl
theorem ALe:CL vE.P 52=some 1:=by kernel_rfl
theorem AC4:CO vE.P 52=true:=by kernel_rfl
theorem AKU:CX vE.P 53=some 6:=by kernel_rfl
theorem AGc:Av vE.P 106=true:=by kernel_rfl
theorem AGh:Bd vE.P 106=true:=by kernel_rfl
theorem AIW:CL vE.P 106=some 6:=by kernel_rfl
theorem AFh: ∀n,DJ vE.P 106 n=some [.str [],.str [],.str [],.str [],.slice 3 [] true,.slice 3 [] true]:=by intros;kernel_rfl
theorem Xh:Ag vE.P 106 0=some (0,1,false):=by kernel_rfl
theorem YE:Ag vE.P 106 1=some (1,1,false):=by kernel_rfl
theorem AAU:Ag vE.P 106 2=some (2,1,false):=by kernel_rfl
theorem Vs:Ag vE.P 106 3=some (3,1,false):=by kernel_rfl
theorem WQ:Ag vE.P 106 4=some (4,1,false):=by kernel_rfl
theorem AAE:Ag vE.P 106 5=some (5,1,false):=by kernel_rfl
theorem AFx:vE.P.eqGuardType vE.P.depth 23=false:=by kernel_rfl
theorem ATY: ∀(a0 b0:Int) (a1 b1:List UInt8) (a2 b2:List UInt8) (a3 b3:Int),eqA vE.P 10000 23 (.agg [.int .i64 a0,.str a1,.str a2,.int .i64 a3]) (.agg [.int .i64 b0,.str b1,.str b2,.int .i64 b3])=some (a0==b0&&(a1==b1&&(a2==b2&&(a3==b3&&true)))):=by intros;kernel_rfl
theorem ANd:F9 vE.P 28=4:=by kernel_rfl
theorem ALW:F9 vE.P 43=1:=by kernel_rfl
theorem AB3:callable vE.P 59=true:=by kernel_rfl
theorem APM:J2 vE.P 43=some (1,16):=by kernel_rfl
theorem ABs:Aa vE.P 43 0=9:=by kernel_rfl
theorem AO4:He vE.P 43=none:=by kernel_rfl
theorem AOa:J2 vE.P 172=some (1,24):=by kernel_rfl
theorem Vm:Aa vE.P 172 0=43:=by kernel_rfl
theorem AEm:callable vE.P 60=true:=by kernel_rfl
theorem ACB:callable vE.P 61=true:=by kernel_rfl
theorem AC2:callable vE.P 62=true:=by kernel_rfl
theorem AB9:Aa vE.P 23 0=3:=by kernel_rfl
theorem AAT:Ar vE.P 23 0=some (0,1):=by kernel_rfl
theorem ADy:Aa vE.P 23 1=9:=by kernel_rfl
theorem WR:Ar vE.P 23 1=some (1,1):=by kernel_rfl
theorem ABY:Aa vE.P 23 2=9:=by kernel_rfl
theorem AAa:Ar vE.P 23 2=some (2,1):=by kernel_rfl
theorem AEg:callable vE.P 64=true:=by kernel_rfl
theorem ABU:callable vE.P 63=true:=by kernel_rfl
theorem AEG:callable vE.P 65=true:=by kernel_rfl
theorem AEU:callable vE.P 66=true:=by kernel_rfl
theorem AC5:callable vE.P 67=true:=by kernel_rfl
theorem AF9: ∀n,DJ vE.P 116 n=some [.str [],.str []]:=by intros;kernel_rfl
theorem AKe:CL vE.P 116=some 2:=by kernel_rfl
theorem AGR:Av vE.P 116=true:=by kernel_rfl
theorem AHC:Bd vE.P 116=true:=by kernel_rfl
theorem AC3:callable vE.P 68=true:=by kernel_rfl
theorem AA2:Ag vE.P 116 1=some (1,1,false):=by kernel_rfl
theorem AEb:callable vE.P 69=true:=by kernel_rfl
theorem AFX: ∀n,DJ vE.P 121 n=some [.str [],.str []]:=by intros;kernel_rfl
theorem AJY:CL vE.P 121=some 2:=by kernel_rfl
theorem AGK:Av vE.P 121=true:=by kernel_rfl
theorem AGw:Bd vE.P 121=true:=by kernel_rfl
theorem ADq:callable vE.P 70=true:=by kernel_rfl
theorem Vh:Ag vE.P 121 1=some (1,1,false):=by kernel_rfl
theorem AFA:callable vE.P 71=true:=by kernel_rfl
theorem ACu:callable vE.P 72=true:=by kernel_rfl
theorem AEp:callable vE.P 73=true:=by kernel_rfl
theorem AEq:callable vE.P 74=true:=by kernel_rfl
theorem ABC:callable vE.P 75=true:=by kernel_rfl
theorem AOA:F9 vE.P 65=0:=by kernel_rfl
theorem AEk:CO vE.P 24=true:=by kernel_rfl
theorem AKL:CX vE.P 24=some 1:=by kernel_rfl
theorem AI5:El vE.P 128=some (.agg [.slice 1 [] true]):=by kernel_rfl
theorem AJX:(EZ vE.P 128).isSome=true:=by kernel_rfl
theorem V4:Aa vE.P 128 0=24:=by kernel_rfl
theorem Uc:Ar vE.P 128 0=some (0,1):=by kernel_rfl
theorem AFF:callable vE.P 76=true:=by kernel_rfl
theorem ABg:Ag vE.P 23 3=some (3,1,false):=by kernel_rfl
theorem AEA:Aa vE.P 30 0=9:=by kernel_rfl
theorem ZJ:Ar vE.P 30 0=some (0,1):=by kernel_rfl
theorem ADC:Aa vE.P 30 1=3:=by kernel_rfl
theorem X0:Ar vE.P 30 1=some (1,1):=by kernel_rfl
theorem ACD:Aa vE.P 30 2=9:=by kernel_rfl
theorem VX:Ar vE.P 30 2=some (2,1):=by kernel_rfl
theorem AFL: ∀n,DJ vE.P 129 n=some [.slice 1 [] true]:=by intros;kernel_rfl
theorem AEC:callable vE.P 77=true:=by kernel_rfl
theorem AB2:callable vE.P 78=true:=by kernel_rfl
theorem AGE:Av vE.P 129=true:=by kernel_rfl
theorem AGe:Bd vE.P 129=false:=by kernel_rfl
theorem AIn:CL vE.P 129=some 1:=by kernel_rfl
theorem AOw:J2 vE.P 129=some (1,1):=by kernel_rfl
theorem Zc:Aa vE.P 129 0=5:=by kernel_rfl
theorem AMj:He vE.P 129=none:=by kernel_rfl
theorem ABR:callable vE.P 79=true:=by kernel_rfl
theorem AQN:u8T vE.P 129=true:=by kernel_rfl
theorem AA8:callable vE.P 81=true:=by kernel_rfl
theorem ACA:callable vE.P 80=true:=by kernel_rfl
theorem ABk:callable vE.P 82=true:=by kernel_rfl
theorem AE1:callable vE.P 83=true:=by kernel_rfl
theorem ABS:callable vE.P 84=true:=by kernel_rfl
theorem AD5:callable vE.P 85=true:=by kernel_rfl
theorem ACR:callable vE.P 86=true:=by kernel_rfl
theorem ANP:F9 vE.P 72=0:=by kernel_rfl
theorem ABO:callable vE.P 88=true:=by kernel_rfl
theorem AKF:F9 vE.P 129=1:=by kernel_rfl
theorem ACa:callable vE.P 89=true:=by kernel_rfl
theorem AOH:F9 vE.P 24=1:=by kernel_rfl
theorem AA7:callable vE.P 90=true:=by kernel_rfl
theorem AP1:J2 vE.P 24=some (1,1):=by kernel_rfl
theorem ABD:Aa vE.P 24 0=5:=by kernel_rfl
theorem AQP:He vE.P 24=none:=by kernel_rfl
theorem AJV:Av vE.P 24=true:=by kernel_rfl
theorem ASp:u8T vE.P 24=true:=by kernel_rfl
theorem AIO:Av vE.P 85=true:=by kernel_rfl
theorem AJg:Bd vE.P 85=true:=by kernel_rfl
theorem ABT:callable vE.P 91=true:=by kernel_rfl
theorem AC1:Ag vE.P 85 1=some (1,1,false):=by kernel_rfl
theorem AE5:Aa vE.P 46 0=3:=by kernel_rfl
theorem AAs:Ar vE.P 46 0=some (0,1):=by kernel_rfl
theorem ACd:Aa vE.P 46 1=9:=by kernel_rfl
theorem YS:Ar vE.P 46 1=some (1,1):=by kernel_rfl
theorem AEv:callable vE.P 92=true:=by kernel_rfl
theorem AB6:Ag vE.P 82 2=some (2,1,false):=by kernel_rfl
theorem ACm:callable vE.P 93=true:=by kernel_rfl
theorem ADS:callable vE.P 94=true:=by kernel_rfl
theorem ACf:callable vE.P 95=true:=by kernel_rfl
theorem AOV:El vE.P 85=some (.agg [.int .i64 0,.str [],.int .i64 0]):=by kernel_rfl
theorem AOD:(EZ vE.P 85).isSome=true:=by kernel_rfl
theorem AE2:Ag vE.P 82 0=some (0,1,false):=by kernel_rfl
theorem AED:Ag vE.P 82 1=some (1,1,false):=by kernel_rfl
theorem AEJ:callable vE.P 96=true:=by kernel_rfl
theorem ADY:Ag vE.P 46 0=some (0,1,false):=by kernel_rfl
theorem ANr:El vE.P 91=some (.agg [.str [],.slice 1 [] true,.slice 1 [] true,.slice 3 [] true,.slice 3 [] true]):=by kernel_rfl
theorem AMP:(EZ vE.P 91).isSome=true:=by kernel_rfl
theorem AFU: ∀n,DJ vE.P 143 n=some [.str [],.str [],.int .i64 0]:=by intros;kernel_rfl
theorem ADi:callable vE.P 98=true:=by kernel_rfl
theorem ADV:callable vE.P 97=true:=by kernel_rfl
theorem AIE: ∀n,DJ vE.P 40 n=some [.str [],.str []]:=by intros;kernel_rfl
theorem X6:Ag vE.P 143 1=some (2,1,false):=by kernel_rfl
theorem ZF:Ag vE.P 143 0=some (0,2,true):=by kernel_rfl
theorem ACZ:Ag vE.P 91 0=some (0,1,false):=by kernel_rfl
theorem AAA:callable vE.P 100=true:=by kernel_rfl
theorem ADk:callable vE.P 99=true:=by kernel_rfl
theorem AEn:Ag vE.P 91 1=some (1,1,false):=by kernel_rfl
theorem Yg:callable vE.P 101=true:=by kernel_rfl
theorem XP:callable vE.P 102=true:=by kernel_rfl
theorem ABw:Ag vE.P 91 2=some (2,1,false):=by kernel_rfl
theorem AEc:CO vE.P 44=true:=by kernel_rfl
theorem AIM:CX vE.P 44=some 4:=by kernel_rfl
theorem Y9:callable vE.P 103=true:=by kernel_rfl
theorem AII:El vE.P 154=some (.agg [.str [],.str [],.str []]):=by kernel_rfl
theorem AJu:(EZ vE.P 154).isSome=true:=by kernel_rfl
theorem Yl:Aa vE.P 154 0=9:=by kernel_rfl
theorem Ua:Ar vE.P 154 0=some (0,1):=by kernel_rfl
theorem AFQ: ∀n,DJ vE.P 154 n=some [.str [],.str [],.str []]:=by intros;kernel_rfl
theorem AKE:CL vE.P 154=some 3:=by kernel_rfl
theorem YM:Ag vE.P 154 1=some (1,1,false):=by kernel_rfl
theorem YL:Ag vE.P 154 2=some (2,1,false):=by kernel_rfl
theorem ABW:Ag vE.P 91 3=some (3,1,false):=by kernel_rfl
theorem AIw:Av vE.P 88=true:=by kernel_rfl
theorem AIi:Bd vE.P 88=false:=by kernel_rfl
theorem AOB:CL vE.P 88=some 1:=by kernel_rfl
theorem AFv:Av vE.P 154=true:=by kernel_rfl
theorem AGk:Bd vE.P 154=true:=by kernel_rfl
theorem AP7:J2 vE.P 88=some (3,48):=by kernel_rfl
theorem AC9:Aa vE.P 88 0=154:=by kernel_rfl
theorem ARc:He vE.P 88=none:=by kernel_rfl
theorem XL:callable vE.P 104=true:=by kernel_rfl
theorem ARQ:J2 vE.P 89=some (3,64):=by kernel_rfl
theorem AEx:Aa vE.P 89 0=103:=by kernel_rfl
theorem AQ4:He vE.P 89=none:=by kernel_rfl
theorem ACk:Ag vE.P 42 4=some (5,1,false):=by kernel_rfl
theorem AKi: ∀n,DJ vE.P 70 n=some [.str [],.str []]:=by intros;kernel_rfl
theorem ADj:Ag vE.P 70 0=some (0,1,false):=by kernel_rfl
theorem ADW:Ag vE.P 70 1=some (1,1,false):=by kernel_rfl
theorem WU:Ag vE.P 103 2=some (2,1,false):=by kernel_rfl
theorem Vt:callable vE.P 105=true:=by kernel_rfl
theorem AG3: ∀n,DJ vE.P 157 n=some [.str [],.str [],.str [],.str [],.str [],.bool false,.bool false,.bool false,.bool false]:=by intros;kernel_rfl
theorem AKI:CL vE.P 157=some 9:=by kernel_rfl
theorem Vp:Ag vE.P 157 5=some (5,1,false):=by kernel_rfl
theorem Xe:Ag vE.P 157 0=some (0,1,false):=by kernel_rfl
theorem YX:callable vE.P 106=true:=by kernel_rfl
theorem Wl:Ag vE.P 157 6=some (6,1,false):=by kernel_rfl
theorem YW:Ag vE.P 157 1=some (1,1,false):=by kernel_rfl
theorem WO:callable vE.P 107=true:=by kernel_rfl
theorem YC:callable vE.P 108=true:=by kernel_rfl
theorem AGC: ∀n,DJ vE.P 112 n=some [.str [],.int .i64 0]:=by intros;kernel_rfl
theorem AIS:CL vE.P 112=some 2:=by kernel_rfl
theorem Zh:Ag vE.P 112 0=some (0,1,false):=by kernel_rfl
theorem ZV:Ag vE.P 112 1=some (1,1,false):=by kernel_rfl
theorem Xl:Ag vE.P 157 7=some (7,1,false):=by kernel_rfl
theorem Z7:Ag vE.P 157 8=some (8,1,false):=by kernel_rfl
theorem ABP:Aa vE.P 30 5=4:=by kernel_rfl
theorem AAV:Ar vE.P 30 5=some (5,1):=by kernel_rfl
theorem AD0:Aa vE.P 30 6=4:=by kernel_rfl
theorem ZC:Ar vE.P 30 6=some (6,1):=by kernel_rfl
theorem XO:Ag vE.P 157 2=some (2,1,false):=by kernel_rfl
theorem XJ:callable vE.P 109=true:=by kernel_rfl
theorem ABX:Ag vE.P 30 2=some (2,1,false):=by kernel_rfl
theorem X3:Ag vE.P 157 3=some (3,1,false):=by kernel_rfl
theorem XA:Ag vE.P 157 4=some (4,1,false):=by kernel_rfl
theorem XT:callable vE.P 110=true:=by kernel_rfl
theorem Yu:callable vE.P 111=true:=by kernel_rfl
theorem AGI:Av vE.P 157=true:=by kernel_rfl
theorem AHO:Bd vE.P 157=true:=by kernel_rfl
theorem Vk:callable vE.P 112=true:=by kernel_rfl
theorem XN:callable vE.P 113=true:=by kernel_rfl
theorem AJw:El vE.P 169=some (.agg [.str [],.str [],.int .i64 0]):=by kernel_rfl
theorem AKn:(EZ vE.P 169).isSome=true:=by kernel_rfl
theorem ZA:callable vE.P 115=true:=by kernel_rfl
theorem AA0:callable vE.P 114=true:=by kernel_rfl
theorem YP:Ag vE.P 169 0=some (0,2,true):=by kernel_rfl
theorem Ya:callable vE.P 116=true:=by kernel_rfl
theorem ADl:Aa vE.P 91 0=9:=by kernel_rfl
theorem YR:Ar vE.P 91 0=some (0,1):=by kernel_rfl
theorem AFC:Aa vE.P 91 1=43:=by kernel_rfl
theorem Vx:Ar vE.P 91 1=some (1,1):=by kernel_rfl
theorem X7:callable vE.P 117=true:=by kernel_rfl
theorem Xt:callable vE.P 118=true:=by kernel_rfl
theorem Va:callable vE.P 119=true:=by kernel_rfl
theorem Xk:Ag vE.P 169 1=some (2,1,false):=by kernel_rfl
theorem AAb:callable vE.P 120=true:=by kernel_rfl
theorem Xw:callable vE.P 121=true:=by kernel_rfl
theorem ALV:F9 vE.P 53=6:=by kernel_rfl
theorem ALQ:F9 vE.P 52=3:=by kernel_rfl
theorem AQJ:J2 vE.P 52=some (3,40):=by kernel_rfl
theorem AQF:He vE.P 52=none:=by kernel_rfl
theorem APo:J2 vE.P 53=some (6,112):=by kernel_rfl
theorem ABt:Aa vE.P 53 0=106:=by kernel_rfl
theorem ARb:He vE.P 53=none:=by kernel_rfl
theorem AAr:CO vE.P 172=true:=by kernel_rfl
theorem AHB:CX vE.P 172=some 1:=by kernel_rfl
theorem Yc:callable vE.P 122=true:=by kernel_rfl
theorem ZT:callable vE.P 123=true:=by kernel_rfl
theorem APp:He vE.P 28=none:=by kernel_rfl
theorem AJT:Av vE.P 28=true:=by kernel_rfl
theorem ZI:callable vE.P 124=true:=by kernel_rfl
theorem AGp:Av vE.P 112=true:=by kernel_rfl
theorem AHF:Bd vE.P 112=true:=by kernel_rfl
theorem AD3:Ag vE.P 30 0=some (0,1,false):=by kernel_rfl
theorem AFH:Ag vE.P 30 1=some (1,1,false):=by kernel_rfl
theorem AKR:El vE.P 112=some (.agg [.str [],.int .i64 0]):=by kernel_rfl
theorem AIa:(EZ vE.P 112).isSome=true:=by kernel_rfl
theorem Zq:Aa vE.P 112 0=9:=by kernel_rfl
theorem Ub:Ar vE.P 112 0=some (0,1):=by kernel_rfl
theorem AAq:Aa vE.P 112 1=3:=by kernel_rfl
theorem UG:Ar vE.P 112 1=some (1,1):=by kernel_rfl
theorem ALF:CW vE.P 24=false:=by kernel_rfl
theorem ALO:Av vE.P 5=true:=by kernel_rfl
theorem ALj:Bd vE.P 5=false:=by kernel_rfl
theorem APu:CL vE.P 5=some 1:=by kernel_rfl
theorem AI7:El vE.P 116=some (.agg [.str [],.str []]):=by kernel_rfl
theorem AKd:(EZ vE.P 116).isSome=true:=by kernel_rfl
theorem Xj:callable vE.P 125=true:=by kernel_rfl
theorem Zp:callable vE.P 126=true:=by kernel_rfl
theorem Xi:callable vE.P 127=true:=by kernel_rfl
theorem AA6:Aa vE.P 116 0=9:=by kernel_rfl
theorem UB:Ar vE.P 116 0=some (0,1):=by kernel_rfl
theorem ZK:Aa vE.P 116 1=9:=by kernel_rfl
theorem Ty:Ar vE.P 116 1=some (1,1):=by kernel_rfl
theorem WT:Ag vE.P 116 0=some (0,1,false):=by kernel_rfl
theorem AK7:El vE.P 121=some (.agg [.str [],.str []]):=by kernel_rfl
theorem AJL:(EZ vE.P 121).isSome=true:=by kernel_rfl
theorem Y0:callable vE.P 128=true:=by kernel_rfl
theorem XE:callable vE.P 129=true:=by kernel_rfl
theorem ZW:Aa vE.P 121 0=9:=by kernel_rfl
theorem UJ:Ar vE.P 121 0=some (0,1):=by kernel_rfl
theorem Xx:Aa vE.P 121 1=9:=by kernel_rfl
theorem UI:Ar vE.P 121 1=some (1,1):=by kernel_rfl
theorem Z6:Ag vE.P 121 0=some (0,1,false):=by kernel_rfl
theorem ADa:Aa vE.P 23 3=3:=by kernel_rfl
theorem Yx:Ar vE.P 23 3=some (3,1):=by kernel_rfl
theorem ZH:callable vE.P 130=true:=by kernel_rfl
theorem XU:callable vE.P 131=true:=by kernel_rfl
theorem Zy:Ag vE.P 128 0=some (0,1,false):=by kernel_rfl
theorem AJf:Bd vE.P 24=false:=by kernel_rfl
theorem AM3:CL vE.P 24=some 1:=by kernel_rfl
theorem ATW:He vE.P 3=some .i64:=by kernel_rfl
theorem AOx:CW vE.P 3=false:=by kernel_rfl
theorem AAW:callable vE.P 132=true:=by kernel_rfl
theorem YD:callable vE.P 133=true:=by kernel_rfl
theorem AAL:callable vE.P 134=true:=by kernel_rfl
theorem ANO:He vE.P 180=some .u64:=by kernel_rfl
theorem AGr:CW vE.P 180=false:=by kernel_rfl
theorem WI:callable vE.P 135=true:=by kernel_rfl
theorem Wv:callable vE.P 136=true:=by kernel_rfl
theorem Vd:callable vE.P 137=true:=by kernel_rfl
theorem AAe:callable vE.P 138=true:=by kernel_rfl
theorem AAp:callable vE.P 139=true:=by kernel_rfl
theorem XM:callable vE.P 140=true:=by kernel_rfl
theorem YK:callable vE.P 141=true:=by kernel_rfl
theorem AAd:callable vE.P 142=true:=by kernel_rfl
theorem YZ:callable vE.P 143=true:=by kernel_rfl
theorem Zw:callable vE.P 145=true:=by kernel_rfl
theorem VU:callable vE.P 144=true:=by kernel_rfl
theorem Vb:callable vE.P 146=true:=by kernel_rfl
theorem ACl:Ag vE.P 46 3=some (3,1,false):=by kernel_rfl
theorem AKJ:Av vE.P 44=true:=by kernel_rfl
theorem AIG:Bd vE.P 44=false:=by kernel_rfl
theorem AOX:CL vE.P 44=some 1:=by kernel_rfl
theorem AQa:J2 vE.P 44=some (4,72):=by kernel_rfl
theorem ABL:Aa vE.P 44 0=46:=by kernel_rfl
theorem AQU:He vE.P 44=none:=by kernel_rfl
theorem WW:callable vE.P 147=true:=by kernel_rfl
theorem AEM:Ag vE.P 46 2=some (2,1,false):=by kernel_rfl
theorem Vr:callable vE.P 148=true:=by kernel_rfl
theorem AEe:Aa vE.P 85 0=3:=by kernel_rfl
theorem Y2:Ar vE.P 85 0=some (0,1):=by kernel_rfl
theorem AC0:Aa vE.P 85 2=3:=by kernel_rfl
theorem Wq:Ar vE.P 85 2=some (2,1):=by kernel_rfl
theorem AEr:Aa vE.P 85 1=9:=by kernel_rfl
theorem WS:Ar vE.P 85 1=some (1,1):=by kernel_rfl
theorem AAC:callable vE.P 149=true:=by kernel_rfl
theorem XK:callable vE.P 150=true:=by kernel_rfl
theorem Xz:callable vE.P 151=true:=by kernel_rfl
theorem WF:callable vE.P 152=true:=by kernel_rfl
theorem VV:callable vE.P 153=true:=by kernel_rfl
theorem Xq:callable vE.P 154=true:=by kernel_rfl
theorem ABm:Ag vE.P 46 1=some (1,1,false):=by kernel_rfl
theorem AMH:F9 vE.P 44=4:=by kernel_rfl
theorem AAi:callable vE.P 155=true:=by kernel_rfl
theorem V9:callable vE.P 156=true:=by kernel_rfl
theorem WN:callable vE.P 157=true:=by kernel_rfl
theorem AIZ:El vE.P 103=some (.agg [.str [],.slice 1 [] true,.slice 1 [] true]):=by kernel_rfl
theorem AJz:(EZ vE.P 103).isSome=true:=by kernel_rfl
theorem Wy:Aa vE.P 103 0=9:=by kernel_rfl
theorem UM:Ar vE.P 103 0=some (0,1):=by kernel_rfl
theorem Ym:Ag vE.P 103 1=some (1,1,false):=by kernel_rfl
theorem AIH:El vE.P 157=some (.agg [.str [],.str [],.str [],.str [],.str [],.bool false,.bool false,.bool false,.bool false]):=by kernel_rfl
theorem AKC:(EZ vE.P 157).isSome=true:=by kernel_rfl
theorem ZL:callable vE.P 158=true:=by kernel_rfl
theorem Xm:callable vE.P 159=true:=by kernel_rfl
theorem WY:callable vE.P 160=true:=by kernel_rfl
theorem Y3:callable vE.P 161=true:=by kernel_rfl
theorem XQ:callable vE.P 162=true:=by kernel_rfl
theorem XD:callable vE.P 163=true:=by kernel_rfl
theorem AMQ:Oc vE.P 24=some (1,.int .u8 0):=by kernel_rfl
theorem WK:callable vE.P 164=true:=by kernel_rfl
theorem Wo:callable vE.P 165=true:=by kernel_rfl
theorem Ve:callable vE.P 166=true:=by kernel_rfl
theorem ASz:He vE.P 9=none:=by kernel_rfl
theorem ADR:TC vE.P 24 5=true:=by kernel_rfl
theorem Vu:callable vE.P 167=true:=by kernel_rfl
theorem AGu: ∀n,DJ vE.P 196 n=some [.nself n 196 2,.buf 5 [] true]:=by intros;kernel_rfl
theorem Xd:callable vE.P 170=true:=by kernel_rfl
theorem XC:callable vE.P 171=true:=by kernel_rfl
theorem AAH:callable vE.P 172=true:=by kernel_rfl
theorem ZZ:callable vE.P 173=true:=by kernel_rfl
theorem ZE:callable vE.P 174=true:=by kernel_rfl
theorem Xr:callable vE.P 175=true:=by kernel_rfl
theorem AAZ:callable vE.P 176=true:=by kernel_rfl
theorem XR:callable vE.P 177=true:=by kernel_rfl
theorem Zn:callable vE.P 178=true:=by kernel_rfl
theorem ZO:callable vE.P 179=true:=by kernel_rfl
theorem ADX:Aa vE.P 30 3=9:=by kernel_rfl
theorem AAX:Ar vE.P 30 3=some (3,1):=by kernel_rfl
theorem AEL:Aa vE.P 30 4=9:=by kernel_rfl
theorem AAQ:Ar vE.P 30 4=some (4,1):=by kernel_rfl
theorem AAy:callable vE.P 180=true:=by kernel_rfl
theorem Yk:callable vE.P 181=true:=by kernel_rfl
theorem AAh:callable vE.P 182=true:=by kernel_rfl
theorem Yd:callable vE.P 183=true:=by kernel_rfl
theorem AL3:(UK vE.P 204).isSome=true:=by kernel_rfl
theorem AOL:(UK vE.P 204).bind (El vE.P)=some .nilFn:=by kernel_rfl
theorem AI0:F9 vE.P 203=0:=by kernel_rfl
theorem AIC:TK vE.P 203=true:=by kernel_rfl
theorem Wm:callable vE.P 184=true:=by kernel_rfl
theorem AK3:F9 vE.P 180=0:=by kernel_rfl
theorem ZM:callable vE.P 185=true:=by kernel_rfl
theorem XY:callable vE.P 186=true:=by kernel_rfl
theorem Wx:callable vE.P 187=true:=by kernel_rfl
theorem AA4:callable vE.P 188=true:=by kernel_rfl
theorem Xv:callable vE.P 189=true:=by kernel_rfl
theorem Xf:callable vE.P 190=true:=by kernel_rfl
theorem Xb:callable vE.P 191=true:=by kernel_rfl
theorem Zu:callable vE.P 192=true:=by kernel_rfl
theorem Zb:callable vE.P 193=false:=by kernel_rfl
theorem AGH: ∀n,DJ vE.P 214 n=some [.int .u8 0,.int .u8 0,.int .u8 0,.int .u8 0,.int .u8 0,.int .u8 0,.int .u8 0,.int .u8 0,.int .u8 0,.int .u8 0,.int .u8 0,.int .u8 0,.int .u8 0,.int .u8 0,.int .u8 0,.int .u8 0,.int .u8 0,.int .u8 0,.int .u8 0,.int .u8 0]:=by intros;kernel_rfl
theorem AFs:Av vE.P 180=true:=by kernel_rfl
theorem AR9:He vE.P 5=some .u8:=by kernel_rfl
theorem AMa:CW vE.P 5=false:=by kernel_rfl
theorem AHQ:Iu vE.P 214=some (20,1,false):=by kernel_rfl
theorem AG7:CX vE.P 214=none:=by kernel_rfl
theorem Y8:callable vE.P 194=false:=by kernel_rfl
theorem WX:callable vE.P 195=true:=by kernel_rfl
theorem WG:callable vE.P 196=true:=by kernel_rfl
theorem AAP:callable vE.P 197=true:=by kernel_rfl
theorem Za:callable vE.P 198=true:=by kernel_rfl
theorem AAl:callable vE.P 199=true:=by kernel_rfl
theorem Wu:callable vE.P 200=true:=by kernel_rfl
theorem Vv:callable vE.P 201=true:=by kernel_rfl
theorem X5:callable vE.P 202=true:=by kernel_rfl
theorem YQ:callable vE.P 203=true:=by kernel_rfl
theorem AQr:He vE.P 21=some .i32:=by kernel_rfl
theorem AJZ:CW vE.P 21=false:=by kernel_rfl
theorem AMv:F9 vE.P 21=0:=by kernel_rfl
theorem Zm:callable vE.P 204=true:=by kernel_rfl
theorem Yy:callable vE.P 205=true:=by kernel_rfl
theorem Zl:callable vE.P 206=true:=by kernel_rfl
theorem AFe: ∀n,DJ vE.P 222 n=some (List.map AVal.bool (AEh 256)):=by intros;kernel_rfl
theorem ALJ:CL vE.P 222=some 256:=by kernel_rfl
theorem Zg:callable vE.P 207=true:=by kernel_rfl
theorem VZ:callable vE.P 208=true:=by kernel_rfl
theorem ZP:callable vE.P 209=true:=by kernel_rfl
theorem XX:callable vE.P 210=true:=by kernel_rfl
theorem Yw:callable vE.P 211=true:=by kernel_rfl
theorem W9:callable vE.P 212=true:=by kernel_rfl
theorem Zk:callable vE.P 213=true:=by kernel_rfl
theorem AAx:callable vE.P 169=true:=by kernel_rfl
theorem AH6:F9 vE.P 198=0:=by kernel_rfl
theorem AAY:callable vE.P 214=true:=by kernel_rfl
theorem YH:Ag vE.P 196 1=some (1,1,false):=by kernel_rfl
theorem AIe:ptrTo vE.P 225 5=true:=by kernel_rfl
theorem Vj:callable vE.P 215=true:=by kernel_rfl
theorem AAn:callable vE.P 216=true:=by kernel_rfl
theorem Zf:callable vE.P 217=true:=by kernel_rfl
theorem Vl:callable vE.P 218=true:=by kernel_rfl
theorem Y7:callable vE.P 219=true:=by kernel_rfl
theorem Vw:callable vE.P 220=true:=by kernel_rfl
theorem AJm:F9 vE.P 204=0:=by kernel_rfl
theorem AAm:callable vE.P 225=true:=by kernel_rfl
theorem V3:callable vE.P 226=true:=by kernel_rfl
theorem X9:callable vE.P 227=true:=by kernel_rfl
theorem Yo:callable vE.P 228=true:=by kernel_rfl
theorem AIp:F9 vE.P 228=0:=by kernel_rfl
theorem AMN:He vE.P 228=some .u32:=by kernel_rfl
theorem AFZ:CW vE.P 228=false:=by kernel_rfl
theorem Vz:callable vE.P 229=true:=by kernel_rfl
theorem X8:callable vE.P 230=true:=by kernel_rfl
theorem AAj:callable vE.P 231=true:=by kernel_rfl
theorem Wh:callable vE.P 232=true:=by kernel_rfl
theorem AJK:Av vE.P 21=true:=by kernel_rfl
theorem AAM:callable vE.P 233=true:=by kernel_rfl
theorem AF1:Av vE.P 222=true:=by kernel_rfl
theorem AGz:Bd vE.P 222=true:=by kernel_rfl
theorem AGJ:Iu vE.P 222=some (256,1,false):=by kernel_rfl
theorem Xy:callable vE.P 234=true:=by kernel_rfl
theorem ZB:callable vE.P 235=true:=by kernel_rfl
theorem Xu:callable vE.P 236=true:=by kernel_rfl
theorem AAD:callable vE.P 237=true:=by kernel_rfl
theorem Wt:Ag vE.P 196 0=some (0,1,false):=by kernel_rfl
theorem AG9:Av vE.P 194=true:=by kernel_rfl
theorem AGQ:Bd vE.P 194=false:=by kernel_rfl
theorem AJD:CL vE.P 194=some 1:=by kernel_rfl
theorem AK1:F9 vE.P 194=0:=by kernel_rfl
theorem AF3:MX vE.P 194=true:=by kernel_rfl
theorem AF8:CW vE.P 238=false:=by kernel_rfl
theorem Pj:PW vE.P 194 238 195 2=true:=by kernel_rfl
theorem QB:PW vE.P 194 238 196 2=true:=by kernel_rfl
theorem Zx:callable vE.P 238=false:=by kernel_rfl
theorem AFS:Av vE.P 238=true:=by kernel_rfl
theorem AFg:CW vE.P 194=false:=by kernel_rfl
theorem QI:PW vE.P 238 194 195 2=true:=by kernel_rfl
theorem QD:PW vE.P 238 194 196 2=true:=by kernel_rfl
theorem ZR:callable vE.P 239=true:=by kernel_rfl
theorem XW:callable vE.P 240=true:=by kernel_rfl
theorem YG:callable vE.P 241=true:=by kernel_rfl
theorem AAo:callable vE.P 242=true:=by kernel_rfl
theorem XF:callable vE.P 243=true:=by kernel_rfl
theorem AA1:callable vE.P 244=true:=by kernel_rfl
theorem Yn:callable vE.P 245=true:=by kernel_rfl
theorem AAI:callable vE.P 246=true:=by kernel_rfl
theorem AAN:callable vE.P 247=true:=by kernel_rfl
theorem AAB:callable vE.P 248=true:=by kernel_rfl
theorem Vf:callable vE.P 249=true:=by kernel_rfl
theorem ZU:callable vE.P 250=true:=by kernel_rfl
theorem Wi:callable vE.P 251=true:=by kernel_rfl
theorem YA:callable vE.P 252=true:=by kernel_rfl
theorem YV:callable vE.P 253=true:=by kernel_rfl
theorem AAu:callable vE.P 254=true:=by kernel_rfl
theorem WP:callable vE.P 255=true:=by kernel_rfl
theorem YY:callable vE.P 256=true:=by kernel_rfl
theorem XG:callable vE.P 257=true:=by kernel_rfl
theorem Wj:callable vE.P 258=true:=by kernel_rfl
theorem ZQ:callable vE.P 259=true:=by kernel_rfl
theorem AAK:callable vE.P 260=false:=by kernel_rfl
theorem WV:callable vE.P 261=true:=by kernel_rfl
theorem Yr:callable vE.P 262=true:=by kernel_rfl
theorem V8:callable vE.P 263=true:=by kernel_rfl
theorem ALo:Oc vE.P 43=some (16,.str []):=by kernel_rfl
theorem Xc:callable vE.P 264=true:=by kernel_rfl
theorem Y5:callable vE.P 265=true:=by kernel_rfl
theorem AGv: ∀n,DJ vE.P 251 n=some [.int .i64 0]:=by intros;kernel_rfl
theorem Wz:callable vE.P 266=true:=by kernel_rfl
theorem AAR:Ag vE.P 251 0=some (0,1,false):=by kernel_rfl
theorem V5:callable vE.P 269=false:=by kernel_rfl
theorem AFu:Iu vE.P 254=some (256,1,false):=by kernel_rfl
theorem AFb:Iu vE.P 257=some (16,2,true):=by kernel_rfl
theorem AGf:Av vE.P 256=true:=by kernel_rfl
theorem AGL:Bd vE.P 256=true:=by kernel_rfl
theorem AJB:CL vE.P 256=some 2:=by kernel_rfl
theorem AGO: ∀n,DJ vE.P 256 n=some [.int .u8 0,.int .u8 0]:=by intros;kernel_rfl
theorem AAG:Ag vE.P 256 0=some (0,1,false):=by kernel_rfl
theorem AA5:Ag vE.P 256 1=some (1,1,false):=by kernel_rfl
theorem AJb:El vE.P 256=some (.agg [.int .u8 0,.int .u8 0]):=by kernel_rfl
theorem AH1:(EZ vE.P 256).isSome=true:=by kernel_rfl
theorem Ye:Aa vE.P 256 0=5:=by kernel_rfl
theorem UH:Ar vE.P 256 0=some (0,1):=by kernel_rfl
theorem Zj:Aa vE.P 256 1=5:=by kernel_rfl
theorem T9:Ar vE.P 256 1=some (1,1):=by kernel_rfl
theorem AJl:El vE.P 257=some (.agg [.int .u8 0,.int .u8 0,.int .u8 0,.int .u8 0,.int .u8 0,.int .u8 0,.int .u8 0,.int .u8 0,.int .u8 0,.int .u8 0,.int .u8 0,.int .u8 0,.int .u8 0,.int .u8 0,.int .u8 0,.int .u8 0,.int .u8 0,.int .u8 0,.int .u8 0,.int .u8 0,.int .u8 0,.int .u8 0,.int .u8 0,.int .u8 0,.int .u8 0,.int .u8 0,.int .u8 0,.int .u8 0,.int .u8 0,.int .u8 0,.int .u8 0,.int .u8 0]):=by kernel_rfl
theorem AJC:(EZ vE.P 257).isSome=true:=by kernel_rfl
theorem AAw:Aa vE.P 257 0=256:=by kernel_rfl
theorem UN:Ar vE.P 257 0=some (0,2):=by kernel_rfl
theorem Zo:Aa vE.P 257 1=256:=by kernel_rfl
theorem UT:Ar vE.P 257 1=some (2,2):=by kernel_rfl
theorem Z0:Aa vE.P 257 2=256:=by kernel_rfl
theorem UX:Ar vE.P 257 2=some (4,2):=by kernel_rfl
theorem Yt:Aa vE.P 257 3=256:=by kernel_rfl
theorem UY:Ar vE.P 257 3=some (6,2):=by kernel_rfl
theorem YU:Aa vE.P 257 4=256:=by kernel_rfl
theorem UL:Ar vE.P 257 4=some (8,2):=by kernel_rfl
theorem AKA:CL vE.P 257=some 32:=by kernel_rfl
theorem AHZ:(vE.P.funcs[193]?).isSome=true:=by kernel_rfl
theorem AQf{l:List UInt8}{c:Int}{st:St}{Q:AVal→St→Prop} (h:Gl (Q (.int .i64 (Go.Lib.indexByte l (E9 c))) st)):Ux vE 193 [.str l,.int .u8 c] st Q:=by
  refine .inl ⟨(vE.P.funcs[193]?).get AHZ,Extern.BytealgIndexByte.indexByte,.int .i64 (Go.Lib.indexByte l (E9 c)),(Option.some_get AHZ).symm,by kernel_rfl,by kernel_rfl,by kernel_rfl,by kernel_rfl,fun Γ vs w hr=>?_,?_⟩
  · cases hr with|cons h1 t=>cases t with|cons h2 t=>cases t;cases h1;cases h2;exact⟨_,Go.Lib.run_indexByteString _ _ w,.int _ _⟩
  · have:=h.go;simpa[AVal.strip]using this
theorem AHi:(vE.P.funcs[238]?).isSome=true:=by kernel_rfl
theorem AHf{x:AVal}{st:St}{Q:AVal→St→Prop} (h:Gl (Q x.strip st)):Ux vE 238 [x] st Q:=by
  refine .inl ⟨(vE.P.funcs[238]?).get AHi,Extern.AbiNoEscape.same,x,(Option.some_get AHi).symm,by kernel_rfl,by kernel_rfl,by kernel_rfl,by kernel_rfl,fun Γ vs w hr=>?_,?_⟩
  · cases hr with|cons h1 t=>cases t;exact⟨_,Go.Lib.run_noEscape w _,h1⟩
  · have:=h.go;simpa[AVal.strip]using this
theorem AHm:(vE.P.funcs[260]?).isSome=true:=by kernel_rfl
theorem ARR{l:List UInt8}{c:Int}{st:St}{Q:AVal→St→Prop} (h:Gl (Q (.int .i64 ((Go.Lib.countByte l (E9 c):Nat):Int)) st)):Ux vE 260 [.str l,.int .u8 c] st Q:=by
  refine .inl ⟨(vE.P.funcs[260]?).get AHm,Extern.BytealgCount.count,.int .i64 ((Go.Lib.countByte l (E9 c):Nat):Int),(Option.some_get AHm).symm,by kernel_rfl,by kernel_rfl,by kernel_rfl,by kernel_rfl,fun Γ vs w hr=>?_,?_⟩
  · cases hr with|cons h1 t=>cases t with|cons h2 t=>cases t;cases h1;cases h2;exact⟨_,Go.Lib.run_countString _ _ w,.int _ _⟩
  · have:=h.go;simpa[AVal.strip]using this
theorem AHn:(vE.P.funcs[269]?).isSome=true:=by kernel_rfl
theorem APG{k:Nat}{st:St}{Q:AVal→St→Prop} (h1:1≤k) (h2:k≤140737488355328) (h:Gl (Q (.trow 5 st.next k) {m:=(st.next,[.any])::st.m,next:=st.next+1})):Ux vE 269 [.int .i64 k] st Q:=.inr ⟨(vE.P.funcs[269]?).get AHn, #[3],24,5,k,(Option.some_get AHn).symm,by kernel_rfl,by kernel_rfl,by kernel_rfl,by kernel_rfl,by kernel_rfl,h1,h2,rfl,h.go⟩
set_option linter.defProp false
def fxE:=And.intro (And.intro (And.intro (And.intro (And.intro (And.intro (And.intro (And.intro (And.intro (@AFP) (@APv)) (And.intro (@AFY) (And.intro (@AKa) (@AIQ)))) (And.intro (And.intro (@AOi) (@AGP)) (And.intro (@AGD) (And.intro (@APJ) (@ACo))))) (And.intro (And.intro (And.intro (@ADU) (@APT)) (And.intro (@AKB) (And.intro (@AJn) (@ABa)))) (And.intro (And.intro (@AJ4) (And.intro (@AM9) (@ADc))) (And.intro (@AEW) (And.intro (@AD6) (@ACI)))))) (And.intro (And.intro (And.intro (And.intro (@ADe) (@AKS)) (And.intro (@AKb) (And.intro (@AG4) (@ATA)))) (And.intro (And.intro (@ACO) (And.intro (@ALf) (@ABA))) (And.intro (@ABB) (And.intro (@ADN) (@AE3))))) (And.intro (And.intro (And.intro (@AOj) (@ANR)) (And.intro (@APs) (And.intro (@ACK) (@ACS)))) (And.intro (And.intro (@ADJ) (And.intro (@AC6) (@AEP))) (And.intro (@ABE) (And.intro (@AH9) (@AMR))))))) (And.intro (And.intro (And.intro (And.intro (And.intro (@APE) (@ARD)) (And.intro (@AMo) (And.intro (@AOW) (@ABx)))) (And.intro (And.intro (@AAc) (And.intro (@ACT) (@ZY))) (And.intro (@ACz) (And.intro (@ANG) (@AOb))))) (And.intro (And.intro (And.intro (@APr) (@ALp)) (And.intro (@AOm) (And.intro (@ADx) (@WJ)))) (And.intro (And.intro (@ABj) (And.intro (@Vn) (@ADI))) (And.intro (@AAz) (And.intro (@AFD) (@AAO)))))) (And.intro (And.intro (And.intro (And.intro (@ABH) (@YB)) (And.intro (@AKs) (And.intro (@AMD) (@AJR)))) (And.intro (And.intro (@AJj) (And.intro (@AK9) (@AJ8))) (And.intro (@ABZ) (And.intro (@ABN) (@AKx))))) (And.intro (And.intro (And.intro (@AK0) (@AL8)) (And.intro (@AEo) (And.intro (@ADw) (@ACr)))) (And.intro (And.intro (@ABv) (And.intro (@ADg) (@ANK))) (And.intro (@ALS) (And.intro (@AL4) (@AE0)))))))) (And.intro (And.intro (And.intro (And.intro (And.intro (And.intro (@ADo) (@ADt)) (And.intro (@AEQ) (And.intro (@ABb) (@ADF)))) (And.intro (And.intro (@ACb) (@ALk)) (And.intro (@AN1) (And.intro (@AEi) (@AEO))))) (And.intro (And.intro (And.intro (@ABp) (@ABd)) (And.intro (@ADZ) (And.intro (@AFB) (@ACF)))) (And.intro (And.intro (@AKj) (And.intro (@AIX) (@AKG))) (And.intro (@AMC) (And.intro (@AGg) (@ASY)))))) (And.intro (And.intro (And.intro (And.intro (@ALy) (@AI8)) (And.intro (@ACE) (And.intro (@ADb) (@ABi)))) (And.intro (And.intro (@ALD) (And.intro (@AKN) (@AM6))) (And.intro (@ANV) (And.intro (@AMn) (@AEZ))))) (And.intro (And.intro (And.intro (@WB) (@ACi)) (And.intro (@YF) (And.intro (@ARB) (@ABM)))) (And.intro (And.intro (@AQ3) (And.intro (@APw) (@ACW))) (And.intro (@AD2) (And.intro (@AJ5) (@ACh))))))) (And.intro (And.intro (And.intro (And.intro (And.intro (@ACC) (@ACt)) (And.intro (@ANx) (And.intro (@ANL) (@AMw)))) (And.intro (And.intro (@ANv) (And.intro (@ADE) (@AAt))) (And.intro (@ABV) (And.intro (@ACP) (@AKX))))) (And.intro (And.intro (And.intro (@AMh) (@ADh)) (And.intro (@AK4) (And.intro (@AIA) (@ANQ)))) (And.intro (And.intro (@AEE) (And.intro (@ANe) (@ALs))) (And.intro (@APZ) (And.intro (@ACe) (@AC7)))))) (And.intro (And.intro (And.intro (And.intro (@ABh) (@ACJ)) (And.intro (@AIP) (And.intro (@AN0) (@ADO)))) (And.intro (And.intro (@AB1) (And.intro (@AKV) (@AIT))) (And.intro (@AJk) (And.intro (@AKP) (@ANm))))) (And.intro (And.intro (And.intro (@ADd) (@ADM)) (And.intro (@ACg) (And.intro (@ACN) (@AEd)))) (And.intro (And.intro (@AFE) (And.intro (@ABr) (@ABJ))) (And.intro (@ABq) (And.intro (@ACY) (@AIj))))))))) (And.intro (And.intro (And.intro (And.intro (And.intro (And.intro (And.intro (@AJp) (@AN3)) (And.intro (@ADG) (And.intro (@AJP) (@AGj)))) (And.intro (And.intro (@AG6) (@AH8)) (And.intro (@AG8) (And.intro (@Vg) (@ABe))))) (And.intro (And.intro (And.intro (@AEN) (@ABF)) (And.intro (@AD4) (And.intro (@AI4) (@AIg)))) (And.intro (And.intro (@AOI) (And.intro (@ACc) (@AKh))) (And.intro (@AH4) (And.intro (@AOC) (@ABf)))))) (And.intro (And.intro (And.intro (And.intro (@AB5) (@AIq)) (And.intro (@AIr) (And.intro (@ALe) (@AC4)))) (And.intro (And.intro (@AKU) (And.intro (@AGc) (@AGh))) (And.intro (@AIW) (And.intro (@AFh) (@Xh))))) (And.intro (And.intro (And.intro (@YE) (@AAU)) (And.intro (@Vs) (And.intro (@WQ) (@AAE)))) (And.intro (And.intro (@AFx) (And.intro (@ATY) (@ANd))) (And.intro (@ALW) (And.intro (@AB3) (@APM))))))) (And.intro (And.intro (And.intro (And.intro (And.intro (@ABs) (@AO4)) (And.intro (@AOa) (And.intro (@Vm) (@AEm)))) (And.intro (And.intro (@ACB) (And.intro (@AC2) (@AB9))) (And.intro (@AAT) (And.intro (@ADy) (@WR))))) (And.intro (And.intro (And.intro (@ABY) (@AAa)) (And.intro (@AEg) (And.intro (@ABU) (@AEG)))) (And.intro (And.intro (@AEU) (And.intro (@AC5) (@AF9))) (And.intro (@AKe) (And.intro (@AGR) (@AHC)))))) (And.intro (And.intro (And.intro (And.intro (@AC3) (@AA2)) (And.intro (@AEb) (And.intro (@AFX) (@AJY)))) (And.intro (And.intro (@AGK) (And.intro (@AGw) (@ADq))) (And.intro (@Vh) (And.intro (@AFA) (@ACu))))) (And.intro (And.intro (And.intro (@AEp) (@AEq)) (And.intro (@ABC) (And.intro (@AOA) (@AEk)))) (And.intro (And.intro (@AKL) (And.intro (@AI5) (@AJX))) (And.intro (@V4) (And.intro (@Uc) (@AFF)))))))) (And.intro (And.intro (And.intro (And.intro (And.intro (And.intro (@ABg) (@AEA)) (And.intro (@ZJ) (And.intro (@ADC) (@X0)))) (And.intro (And.intro (@ACD) (@VX)) (And.intro (@AFL) (And.intro (@AEC) (@AB2))))) (And.intro (And.intro (And.intro (@AGE) (@AGe)) (And.intro (@AIn) (And.intro (@AOw) (@Zc)))) (And.intro (And.intro (@AMj) (And.intro (@ABR) (@AQN))) (And.intro (@AA8) (And.intro (@ACA) (@ABk)))))) (And.intro (And.intro (And.intro (And.intro (@AE1) (@ABS)) (And.intro (@AD5) (And.intro (@ACR) (@ANP)))) (And.intro (And.intro (@ABO) (And.intro (@AKF) (@ACa))) (And.intro (@AOH) (And.intro (@AA7) (@AP1))))) (And.intro (And.intro (And.intro (@ABD) (@AQP)) (And.intro (@AJV) (And.intro (@ASp) (@AIO)))) (And.intro (And.intro (@AJg) (And.intro (@ABT) (@AC1))) (And.intro (@AE5) (And.intro (@AAs) (@ACd))))))) (And.intro (And.intro (And.intro (And.intro (And.intro (@YS) (@AEv)) (And.intro (@AB6) (And.intro (@ACm) (@ADS)))) (And.intro (And.intro (@ACf) (And.intro (@AOV) (@AOD))) (And.intro (@AE2) (And.intro (@AED) (@AEJ))))) (And.intro (And.intro (And.intro (@ADY) (@ANr)) (And.intro (@AMP) (And.intro (@AFU) (@ADi)))) (And.intro (And.intro (@ADV) (And.intro (@AIE) (@X6))) (And.intro (@ZF) (And.intro (@ACZ) (@AAA)))))) (And.intro (And.intro (And.intro (And.intro (@ADk) (@AEn)) (And.intro (@Yg) (And.intro (@XP) (@ABw)))) (And.intro (And.intro (@AEc) (And.intro (@AIM) (@Y9))) (And.intro (@AII) (And.intro (@AJu) (@Yl))))) (And.intro (And.intro (And.intro (@Ua) (@AFQ)) (And.intro (@AKE) (And.intro (@YM) (@YL)))) (And.intro (And.intro (@ABW) (And.intro (@AIw) (@AIi))) (And.intro (@AOB) (And.intro (@AFv) (@AGk)))))))))) (And.intro (And.intro (And.intro (And.intro (And.intro (And.intro (And.intro (And.intro (@AP7) (@AC9)) (And.intro (@ARc) (And.intro (@XL) (@ARQ)))) (And.intro (And.intro (@AEx) (@AQ4)) (And.intro (@ACk) (And.intro (@AKi) (@ADj))))) (And.intro (And.intro (And.intro (@ADW) (@WU)) (And.intro (@Vt) (And.intro (@AG3) (@AKI)))) (And.intro (And.intro (@Vp) (And.intro (@Xe) (@YX))) (And.intro (@Wl) (And.intro (@YW) (@WO)))))) (And.intro (And.intro (And.intro (And.intro (@YC) (@AGC)) (And.intro (@AIS) (And.intro (@Zh) (@ZV)))) (And.intro (And.intro (@Xl) (And.intro (@Z7) (@ABP))) (And.intro (@AAV) (And.intro (@AD0) (@ZC))))) (And.intro (And.intro (And.intro (@XO) (@XJ)) (And.intro (@ABX) (And.intro (@X3) (@XA)))) (And.intro (And.intro (@XT) (And.intro (@Yu) (@AGI))) (And.intro (@AHO) (And.intro (@Vk) (@XN))))))) (And.intro (And.intro (And.intro (And.intro (And.intro (@AJw) (@AKn)) (And.intro (@ZA) (And.intro (@AA0) (@YP)))) (And.intro (And.intro (@Ya) (And.intro (@ADl) (@YR))) (And.intro (@AFC) (And.intro (@Vx) (@X7))))) (And.intro (And.intro (And.intro (@Xt) (@Va)) (And.intro (@Xk) (And.intro (@AAb) (@Xw)))) (And.intro (And.intro (@ALV) (And.intro (@ALQ) (@AQJ))) (And.intro (@AQF) (And.intro (@APo) (@ABt)))))) (And.intro (And.intro (And.intro (And.intro (@ARb) (@AAr)) (And.intro (@AHB) (And.intro (@Yc) (@ZT)))) (And.intro (And.intro (@APp) (And.intro (@AJT) (@ZI))) (And.intro (@AGp) (And.intro (@AHF) (@AD3))))) (And.intro (And.intro (And.intro (@AFH) (@AKR)) (And.intro (@AIa) (And.intro (@Zq) (@Ub)))) (And.intro (And.intro (@AAq) (And.intro (@UG) (@ALF))) (And.intro (@ALO) (And.intro (@ALj) (@APu)))))))) (And.intro (And.intro (And.intro (And.intro (And.intro (And.intro (@AI7) (@AKd)) (And.intro (@Xj) (And.intro (@Zp) (@Xi)))) (And.intro (And.intro (@AA6) (@UB)) (And.intro (@ZK) (And.intro (@Ty) (@WT))))) (And.intro (And.intro (And.intro (@AK7) (@AJL)) (And.intro (@Y0) (And.intro (@XE) (@ZW)))) (And.intro (And.intro (@UJ) (And.intro (@Xx) (@UI))) (And.intro (@Z6) (And.intro (@ADa) (@Yx)))))) (And.intro (And.intro (And.intro (And.intro (@ZH) (@XU)) (And.intro (@Zy) (And.intro (@AJf) (@AM3)))) (And.intro (And.intro (@ATW) (And.intro (@AOx) (@AAW))) (And.intro (@YD) (And.intro (@AAL) (@ANO))))) (And.intro (And.intro (And.intro (@AGr) (@WI)) (And.intro (@Wv) (And.intro (@Vd) (@AAe)))) (And.intro (And.intro (@AAp) (And.intro (@XM) (@YK))) (And.intro (@AAd) (And.intro (@YZ) (@Zw))))))) (And.intro (And.intro (And.intro (And.intro (And.intro (@VU) (@Vb)) (And.intro (@ACl) (And.intro (@AKJ) (@AIG)))) (And.intro (And.intro (@AOX) (And.intro (@AQa) (@ABL))) (And.intro (@AQU) (And.intro (@WW) (@AEM))))) (And.intro (And.intro (And.intro (@Vr) (@AEe)) (And.intro (@Y2) (And.intro (@AC0) (@Wq)))) (And.intro (And.intro (@AEr) (And.intro (@WS) (@AAC))) (And.intro (@XK) (And.intro (@Xz) (@WF)))))) (And.intro (And.intro (And.intro (And.intro (@VV) (@Xq)) (And.intro (@ABm) (And.intro (@AMH) (@AAi)))) (And.intro (And.intro (@V9) (And.intro (@WN) (@AIZ))) (And.intro (@AJz) (And.intro (@Wy) (@UM))))) (And.intro (And.intro (And.intro (@Ym) (@AIH)) (And.intro (@AKC) (And.intro (@ZL) (@Xm)))) (And.intro (And.intro (@WY) (And.intro (@Y3) (@XQ))) (And.intro (@XD) (And.intro (@AMQ) (@WK))))))))) (And.intro (And.intro (And.intro (And.intro (And.intro (And.intro (And.intro (@Wo) (@Ve)) (And.intro (@ASz) (And.intro (@ADR) (@Vu)))) (And.intro (And.intro (@AGu) (@Xd)) (And.intro (@XC) (And.intro (@AAH) (@ZZ))))) (And.intro (And.intro (And.intro (@ZE) (@Xr)) (And.intro (@AAZ) (And.intro (@XR) (@Zn)))) (And.intro (And.intro (@ZO) (And.intro (@ADX) (@AAX))) (And.intro (@AEL) (And.intro (@AAQ) (@AAy)))))) (And.intro (And.intro (And.intro (And.intro (@Yk) (@AAh)) (And.intro (@Yd) (And.intro (@AL3) (@AOL)))) (And.intro (And.intro (@AI0) (And.intro (@AIC) (@Wm))) (And.intro (@AK3) (And.intro (@ZM) (@XY))))) (And.intro (And.intro (And.intro (@Wx) (@AA4)) (And.intro (@Xv) (And.intro (@Xf) (@Xb)))) (And.intro (And.intro (@Zu) (And.intro (@Zb) (@AGH))) (And.intro (@AFs) (And.intro (@AR9) (@AMa))))))) (And.intro (And.intro (And.intro (And.intro (And.intro (@AHQ) (@AG7)) (And.intro (@Y8) (And.intro (@WX) (@WG)))) (And.intro (And.intro (@AAP) (And.intro (@Za) (@AAl))) (And.intro (@Wu) (And.intro (@Vv) (@X5))))) (And.intro (And.intro (And.intro (@YQ) (@AQr)) (And.intro (@AJZ) (And.intro (@AMv) (@Zm)))) (And.intro (And.intro (@Yy) (And.intro (@Zl) (@AFe))) (And.intro (@ALJ) (And.intro (@Zg) (@VZ)))))) (And.intro (And.intro (And.intro (And.intro (@ZP) (@XX)) (And.intro (@Yw) (And.intro (@W9) (@Zk)))) (And.intro (And.intro (@AAx) (And.intro (@AH6) (@AAY))) (And.intro (@YH) (And.intro (@AIe) (@Vj))))) (And.intro (And.intro (And.intro (@AAn) (@Zf)) (And.intro (@Vl) (And.intro (@Y7) (@Vw)))) (And.intro (And.intro (@AJm) (And.intro (@AAm) (@V3))) (And.intro (@X9) (And.intro (@Yo) (@AIp)))))))) (And.intro (And.intro (And.intro (And.intro (And.intro (And.intro (@AMN) (@AFZ)) (And.intro (@Vz) (And.intro (@X8) (@AAj)))) (And.intro (And.intro (@Wh) (And.intro (@AJK) (@AAM))) (And.intro (@AF1) (And.intro (@AGz) (@AGJ))))) (And.intro (And.intro (And.intro (@Xy) (@ZB)) (And.intro (@Xu) (And.intro (@AAD) (@Wt)))) (And.intro (And.intro (@AG9) (And.intro (@AGQ) (@AJD))) (And.intro (@AK1) (And.intro (@AF3) (@AF8)))))) (And.intro (And.intro (And.intro (And.intro (@Pj) (@QB)) (And.intro (@Zx) (And.intro (@AFS) (@AFg)))) (And.intro (And.intro (@QI) (And.intro (@QD) (@ZR))) (And.intro (@XW) (And.intro (@YG) (@AAo))))) (And.intro (And.intro (And.intro (@XF) (@AA1)) (And.intro (@Yn) (And.intro (@AAI) (@AAN)))) (And.intro (And.intro (@AAB) (And.intro (@Vf) (@ZU))) (And.intro (@Wi) (And.intro (@YA) (@YV))))))) (And.intro (And.intro (And.intro (And.intro (And.intro (@AAu) (@WP)) (And.intro (@YY) (And.intro (@XG) (@Wj)))) (And.intro (And.intro (@ZQ) (And.intro (@AAK) (@WV))) (And.intro (@Yr) (And.intro (@V8) (@ALo))))) (And.intro (And.intro (And.intro (@Xc) (@Y5)) (And.intro (@AGv) (And.intro (@Wz) (@AAR)))) (And.intro (And.intro (@V5) (And.intro (@AFu) (@AFb))) (And.intro (@AGf) (And.intro (@AGL) (@AJB)))))) (And.intro (And.intro (And.intro (And.intro (@AGO) (@AAG)) (And.intro (@AA5) (And.intro (@AJb) (@AH1)))) (And.intro (And.intro (@Ye) (And.intro (@UH) (@Zj))) (And.intro (@T9) (And.intro (@AJl) (@AJC))))) (And.intro (And.intro (And.intro (@AAw) (@UN)) (And.intro (@Zo) (And.intro (@UT) (@Z0)))) (And.intro (And.intro (@UX) (And.intro (@Yt) (@UY))) (And.intro (@YU) (And.intro (@UL) (@AKA))))))))))
def vm:=And.intro vmC (And.intro fxE eE)
end Go.Proofs.YtjgdhjpafjpjgaaGreatDoor
