import Derived.Test.YtcahkpfjpeomoaaGreatDoorChecked
import Derived.Test.YtcahkpfjpeomoaaGreatDoorTy
import Derived.KernelRfl
set_option linter.unusedVariables false
namespace Go.Proofs.YtcahkpfjpeomoaaGreatDoor
open Go.VM
noncomputable def vE:Env:=⟨Tryz.prog,vT⟩
theorem HY:vE.P.follows .mixedOrders=true:=by kernel_rfl
instance:MX vE:=⟨HY⟩
theorem ALT:callable vE.P 1=false:=by kernel_rfl
theorem AbV:Ga vE.P 4=0:=by kernel_rfl
theorem AMr:callable vE.P 4=true:=by kernel_rfl
theorem ANX:callable vE.P 5=true:=by kernel_rfl
theorem ASk: ∀n,CL vE.P 25 n=some [.int .i64 0,.str [],.str [],.int .i64 0]:=by intros;kernel_rfl
theorem AV9:BH vE.P 25=some 4:=by kernel_rfl
theorem AGb:AR vE.P 25 0=some (0,1,false):=by kernel_rfl
theorem AXs:Ab vE.P 3=true:=by kernel_rfl
theorem AWB:A8 vE.P 3=false:=by kernel_rfl
theorem Acp:BH vE.P 3=some 1:=by kernel_rfl
theorem AcY:Ga vE.P 3=0:=by kernel_rfl
theorem APk:Ab vE.P 25=true:=by kernel_rfl
theorem AQ2:A8 vE.P 25=true:=by kernel_rfl
theorem AK7:callable vE.P 6=true:=by kernel_rfl
theorem AQt: ∀n,CL vE.P 28 n=some [.str [],.int .i64 0,.str [],.str [],.str [],.bool false,.bool false]:=by intros;kernel_rfl
theorem AXZ:BH vE.P 28=some 7:=by kernel_rfl
theorem ANj:callable vE.P 7=true:=by kernel_rfl
theorem AMX:callable vE.P 8=true:=by kernel_rfl
theorem AHl:AR vE.P 25 1=some (1,1,false):=by kernel_rfl
theorem AXd:Ab vE.P 9=true:=by kernel_rfl
theorem AXV:A8 vE.P 9=false:=by kernel_rfl
theorem AaW:BH vE.P 9=some 1:=by kernel_rfl
theorem AbH:Ga vE.P 9=0:=by kernel_rfl
theorem ANp:callable vE.P 9=true:=by kernel_rfl
theorem AVR:Ga vE.P 35=2:=by kernel_rfl
theorem AaY:Ga vE.P 0=0:=by kernel_rfl
theorem AWJ:CR vE.P 28=some (.agg [.str [],.int .i64 0,.str [],.str [],.str [],.bool false,.bool false]):=by kernel_rfl
theorem AVL:(Cc vE.P 28).isSome=true:=by kernel_rfl
theorem AJl:AJ vE.P 28 0=9:=by kernel_rfl
theorem ADV:AU vE.P 28 0=some (0,1):=by kernel_rfl
theorem AGx:AJ vE.P 28 2=9:=by kernel_rfl
theorem AAm:AU vE.P 28 2=some (2,1):=by kernel_rfl
theorem AWc:CR vE.P 34=some (.agg [.str [],.str []]):=by kernel_rfl
theorem AVe:(Cc vE.P 34).isSome=true:=by kernel_rfl
theorem AH7:AJ vE.P 34 0=9:=by kernel_rfl
theorem AAc:AU vE.P 34 0=some (0,1):=by kernel_rfl
theorem AHB:AJ vE.P 34 1=9:=by kernel_rfl
theorem Zt:AU vE.P 34 1=some (1,1):=by kernel_rfl
theorem AaD:G5 vE.P 35=some (2,32):=by kernel_rfl
theorem AIA:AJ vE.P 35 0=34:=by kernel_rfl
theorem Aci:Ga vE.P 5=0:=by kernel_rfl
theorem AYI:Ab vE.P 5=true:=by kernel_rfl
theorem AfW:E5 vE.P 3=some .i64:=by kernel_rfl
theorem AV2:Ce vE.P 3=false:=by kernel_rfl
theorem AQS:Ab vE.P 28=true:=by kernel_rfl
theorem ARH:A8 vE.P 28=true:=by kernel_rfl
theorem Aa8:G5 vE.P 40=some (1,16):=by kernel_rfl
theorem AGW:AJ vE.P 40 0=9:=by kernel_rfl
theorem ASp:BP vE.P 40=some 1:=by kernel_rfl
theorem AGG:callable vE.P 10=true:=by kernel_rfl
theorem Aa1:G5 vE.P 41=some (7,80):=by kernel_rfl
theorem AJw:AJ vE.P 41 0=38:=by kernel_rfl
theorem AGE:callable vE.P 11=true:=by kernel_rfl
theorem AI3:AR vE.P 28 3=some (3,1,false):=by kernel_rfl
theorem AJ6:AR vE.P 28 5=some (5,1,false):=by kernel_rfl
theorem Aap:BH vE.P 4=some 1:=by kernel_rfl
theorem Acn:E5 vE.P 41=none:=by kernel_rfl
theorem AQI:Ab vE.P 41=true:=by kernel_rfl
theorem AHM:callable vE.P 12=true:=by kernel_rfl
theorem AXn:Ga vE.P 36=0:=by kernel_rfl
theorem AR0: ∀n,CL vE.P 48 n=some [.int .i64 0,.str [],.str [],.int .i64 0,.slice 4 [] true,.int .i64 0,.bool false,.int .u64 0,.slice 9 [] true]:=by intros;kernel_rfl
theorem AWG:BH vE.P 48=some 9:=by kernel_rfl
theorem AZH:Ga vE.P 29=0:=by kernel_rfl
theorem AIp:AR vE.P 48 2=some (5,1,false):=by kernel_rfl
theorem AI6:AR vE.P 48 1=some (4,1,false):=by kernel_rfl
theorem APu:Ab vE.P 43=true:=by kernel_rfl
theorem AR4:A8 vE.P 43=false:=by kernel_rfl
theorem AUV:BH vE.P 43=some 1:=by kernel_rfl
theorem AJg:BG vE.P 43=true:=by kernel_rfl
theorem ARZ:BP vE.P 43=some 4:=by kernel_rfl
theorem AJh:AR vE.P 48 4=some (8,1,false):=by kernel_rfl
theorem APo:Ab vE.P 46=true:=by kernel_rfl
theorem ARJ:A8 vE.P 46=false:=by kernel_rfl
theorem AUn:BH vE.P 46=some 1:=by kernel_rfl
theorem AHL:BG vE.P 46=true:=by kernel_rfl
theorem Aco:G5 vE.P 51=some (1,8):=by kernel_rfl
theorem AHw:AJ vE.P 51 0=3:=by kernel_rfl
theorem AQo:BP vE.P 51=some 1:=by kernel_rfl
theorem AIj:callable vE.P 14=true:=by kernel_rfl
theorem AG3:callable vE.P 13=true:=by kernel_rfl
theorem AVH:CR vE.P 25=some (.agg [.int .i64 0,.str [],.str [],.int .i64 0]):=by kernel_rfl
theorem AYU:(Cc vE.P 25).isSome=true:=by kernel_rfl
theorem AIa:callable vE.P 15=true:=by kernel_rfl
theorem AHs:callable vE.P 18=true:=by kernel_rfl
theorem AHF:callable vE.P 17=true:=by kernel_rfl
theorem AI2:callable vE.P 16=true:=by kernel_rfl
theorem AJI:callable vE.P 19=true:=by kernel_rfl
theorem AJO:callable vE.P 20=true:=by kernel_rfl
theorem AZA:Ce vE.P 9=true:=by kernel_rfl
theorem AXX:CR vE.P 63=some (.agg [.int .i64 0,.int .i64 0,.slice 2 [] true]):=by kernel_rfl
theorem AXm:(Cc vE.P 63).isSome=true:=by kernel_rfl
theorem AGc:AJ vE.P 63 0=3:=by kernel_rfl
theorem ACt:AU vE.P 63 0=some (0,1):=by kernel_rfl
theorem AG2:AJ vE.P 63 1=3:=by kernel_rfl
theorem ABB:AU vE.P 63 1=some (1,1):=by kernel_rfl
theorem AQX: ∀n,CL vE.P 63 n=some [.int .i64 0,.int .i64 0,.slice 2 [] true]:=by intros;kernel_rfl
theorem AXC:BH vE.P 63=some 3:=by kernel_rfl
theorem AG9:AR vE.P 63 2=some (2,1,false):=by kernel_rfl
theorem ARP:Ab vE.P 35=true:=by kernel_rfl
theorem AQr:A8 vE.P 35=false:=by kernel_rfl
theorem AX5:BH vE.P 35=some 1:=by kernel_rfl
theorem Aat:E5 vE.P 35=none:=by kernel_rfl
theorem AR9:Ab vE.P 63=true:=by kernel_rfl
theorem AQa:A8 vE.P 63=true:=by kernel_rfl
theorem AGH:callable vE.P 21=true:=by kernel_rfl
theorem AF0:callable vE.P 22=true:=by kernel_rfl
theorem AJD:callable vE.P 23=true:=by kernel_rfl
theorem AR6:Ab vE.P 38=true:=by kernel_rfl
theorem ASC:A8 vE.P 38=true:=by kernel_rfl
theorem AYc:BH vE.P 38=some 7:=by kernel_rfl
theorem ATL: ∀n,CL vE.P 38 n=some [.str [],.int .i64 0,.str [],.str [],.int .i64 0,.int .u64 0,.int .u64 0]:=by intros;kernel_rfl
theorem AGF:AR vE.P 28 0=some (0,1,false):=by kernel_rfl
theorem AHn:AR vE.P 28 1=some (1,1,false):=by kernel_rfl
theorem AHN:callable vE.P 24=true:=by kernel_rfl
theorem AYR:CR vE.P 38=some (.agg [.str [],.int .i64 0,.str [],.str [],.int .i64 0,.int .u64 0,.int .u64 0]):=by kernel_rfl
theorem AXv:(Cc vE.P 38).isSome=true:=by kernel_rfl
theorem AJE:AJ vE.P 38 0=9:=by kernel_rfl
theorem ADO:AU vE.P 38 0=some (0,1):=by kernel_rfl
theorem AHc:AJ vE.P 38 1=3:=by kernel_rfl
theorem ABN:AU vE.P 38 1=some (1,1):=by kernel_rfl
theorem AJx:AJ vE.P 38 2=9:=by kernel_rfl
theorem AAl:AU vE.P 38 2=some (2,1):=by kernel_rfl
theorem AJP:AJ vE.P 38 3=9:=by kernel_rfl
theorem AEg:AU vE.P 38 3=some (3,1):=by kernel_rfl
theorem ASP:Ab vE.P 48=true:=by kernel_rfl
theorem APL:A8 vE.P 48=true:=by kernel_rfl
theorem AJo:callable vE.P 25=true:=by kernel_rfl
theorem AXD:CR vE.P 48=some (.agg [.int .i64 0,.str [],.str [],.int .i64 0,.slice 4 [] true,.int .i64 0,.bool false,.int .u64 0,.slice 9 [] true]):=by kernel_rfl
theorem AWe:(Cc vE.P 48).isSome=true:=by kernel_rfl
theorem AH5:callable vE.P 26=true:=by kernel_rfl
theorem AIf:callable vE.P 27=true:=by kernel_rfl
theorem AHH:callable vE.P 28=true:=by kernel_rfl
theorem Ab3:G5 vE.P 71=some (1,8):=by kernel_rfl
theorem AGn:AJ vE.P 71 0=68:=by kernel_rfl
theorem AVa:CR vE.P 73=some (.agg [.slice 7 [] true,.int .u64 0,.int .i64 0,.str [],.str [],.int .i64 0,.slice 9 [] true]):=by kernel_rfl
theorem AXF:(Cc vE.P 73).isSome=true:=by kernel_rfl
theorem AHR:AJ vE.P 73 0=41:=by kernel_rfl
theorem ABn:AU vE.P 73 0=some (0,1):=by kernel_rfl
theorem AJ5:AJ vE.P 73 1=36:=by kernel_rfl
theorem ADR:AU vE.P 73 1=some (1,1):=by kernel_rfl
theorem AHx:AJ vE.P 73 2=25:=by kernel_rfl
theorem ACh:AU vE.P 73 2=some (2,4):=by kernel_rfl
theorem AGj:BG vE.P 71=true:=by kernel_rfl
theorem ASl:BP vE.P 71=some 1:=by kernel_rfl
theorem APi:Ab vE.P 68=true:=by kernel_rfl
theorem AR1:A8 vE.P 68=false:=by kernel_rfl
theorem AYs:BH vE.P 68=some 1:=by kernel_rfl
theorem AIJ:AR vE.P 73 3=some (6,1,false):=by kernel_rfl
theorem AJ3:AJ vE.P 48 4=46:=by kernel_rfl
theorem ACF:AU vE.P 48 4=some (8,1):=by kernel_rfl
theorem AIz:callable vE.P 29=true:=by kernel_rfl
theorem AKA:callable vE.P 30=true:=by kernel_rfl
theorem AJu:callable vE.P 31=true:=by kernel_rfl
theorem AJk:AJ vE.P 25 0=3:=by kernel_rfl
theorem AE9:AU vE.P 25 0=some (0,1):=by kernel_rfl
theorem AHh:AJ vE.P 25 1=9:=by kernel_rfl
theorem AAe:AU vE.P 25 1=some (1,1):=by kernel_rfl
theorem AJY:AJ vE.P 25 2=9:=by kernel_rfl
theorem ACM:AU vE.P 25 2=some (2,1):=by kernel_rfl
theorem AJ9:callable vE.P 33=true:=by kernel_rfl
theorem AKD:callable vE.P 32=true:=by kernel_rfl
theorem AG6:AR vE.P 28 6=some (6,1,false):=by kernel_rfl
theorem AVS:Ab vE.P 4=true:=by kernel_rfl
theorem AU8:A8 vE.P 4=false:=by kernel_rfl
theorem AJ1:AR vE.P 28 4=some (4,1,false):=by kernel_rfl
theorem AKB:callable vE.P 34=true:=by kernel_rfl
theorem AJz:callable vE.P 35=true:=by kernel_rfl
theorem AIY:callable vE.P 36=true:=by kernel_rfl
theorem APD: ∀n,CL vE.P 82 n=some [.str [],.str []]:=by intros;kernel_rfl
theorem AWT:BH vE.P 82=some 2:=by kernel_rfl
theorem ARd:Ab vE.P 82=true:=by kernel_rfl
theorem AQw:A8 vE.P 82=true:=by kernel_rfl
theorem AHe:callable vE.P 37=true:=by kernel_rfl
theorem AGA:AR vE.P 82 1=some (1,1,false):=by kernel_rfl
theorem AJ4:callable vE.P 38=true:=by kernel_rfl
theorem ARz: ∀n,CL vE.P 87 n=some [.str [],.str []]:=by intros;kernel_rfl
theorem AUY:BH vE.P 87=some 2:=by kernel_rfl
theorem ASq:Ab vE.P 87=true:=by kernel_rfl
theorem AP4:A8 vE.P 87=true:=by kernel_rfl
theorem AF8:callable vE.P 39=true:=by kernel_rfl
theorem AH8:AR vE.P 87 1=some (1,1,false):=by kernel_rfl
theorem AG4:callable vE.P 40=true:=by kernel_rfl
theorem AGk:callable vE.P 41=true:=by kernel_rfl
theorem AJr:callable vE.P 42=true:=by kernel_rfl
theorem AKF:callable vE.P 43=true:=by kernel_rfl
theorem AIS:callable vE.P 44=true:=by kernel_rfl
theorem AW9:Ga vE.P 58=0:=by kernel_rfl
theorem AI8:BG vE.P 22=true:=by kernel_rfl
theorem ASe:BP vE.P 22=some 1:=by kernel_rfl
theorem AVi:CR vE.P 94=some (.agg [.slice 1 [] true]):=by kernel_rfl
theorem AWM:(Cc vE.P 94).isSome=true:=by kernel_rfl
theorem AGO:AJ vE.P 94 0=22:=by kernel_rfl
theorem ACk:AU vE.P 94 0=some (0,1):=by kernel_rfl
theorem AI7:callable vE.P 45=true:=by kernel_rfl
theorem AI5:AR vE.P 25 2=some (2,1,false):=by kernel_rfl
theorem AJq:AR vE.P 25 3=some (3,1,false):=by kernel_rfl
theorem AIh:AJ vE.P 28 1=3:=by kernel_rfl
theorem AFM:AU vE.P 28 1=some (1,1):=by kernel_rfl
theorem AIP:callable vE.P 46=true:=by kernel_rfl
theorem AIL:callable vE.P 47=true:=by kernel_rfl
theorem AHX:callable vE.P 48=true:=by kernel_rfl
theorem AGZ:AR vE.P 63 0=some (0,1,false):=by kernel_rfl
theorem AH1:AR vE.P 63 1=some (1,1,false):=by kernel_rfl
theorem AGB:callable vE.P 49=true:=by kernel_rfl
theorem AJy:BG vE.P 35=true:=by kernel_rfl
theorem ATM:BP vE.P 35=some 2:=by kernel_rfl
theorem ASA:Ab vE.P 34=true:=by kernel_rfl
theorem AQk:A8 vE.P 34=true:=by kernel_rfl
theorem AUx:BH vE.P 34=some 2:=by kernel_rfl
theorem APM: ∀n,CL vE.P 34 n=some [.str [],.str []]:=by intros;kernel_rfl
theorem AHT:AR vE.P 34 0=some (0,1,false):=by kernel_rfl
theorem AJJ:AR vE.P 34 1=some (1,1,false):=by kernel_rfl
theorem AIt:callable vE.P 50=true:=by kernel_rfl
theorem AfF:E5 vE.P 5=some .u8:=by kernel_rfl
theorem AUU:Ce vE.P 5=false:=by kernel_rfl
theorem Aa3:G5 vE.P 22=some (1,1):=by kernel_rfl
theorem AH3:AJ vE.P 22 0=5:=by kernel_rfl
theorem AO7:Ab vE.P 22=true:=by kernel_rfl
theorem AeU:u8T vE.P 22=true:=by kernel_rfl
theorem AHo:AR vE.P 28 2=some (2,1,false):=by kernel_rfl
theorem AJ2:callable vE.P 51=true:=by kernel_rfl
theorem AKp:vE.P.eqGuardType vE.P.depth 25=false:=by kernel_rfl
theorem Afp: ∀(a0 b0:Int) (a1 b1:List UInt8) (a2 b2:List UInt8) (a3 b3:Int),eqA vE.P 10000 25 (.agg [.int .i64 a0,.str a1,.str a2,.int .i64 a3]) (.agg [.int .i64 b0,.str b1,.str b2,.int .i64 b3])=some (a0==b0&&(a1==b1&&(a2==b2&&(a3==b3&&true)))):=by intros;kernel_rfl
theorem AGg:AR vE.P 73 2=some (2,4,true):=by kernel_rfl
theorem AIU:callable vE.P 52=true:=by kernel_rfl
theorem AQd: ∀n,CL vE.P 99 n=some [.str [],.int .i64 0,.str [],.str [],.str [],.bool false,.bool false,.int .i64 0,.int .i64 0,.slice 2 [] true,.str [],.slice 9 [] true]:=by intros;kernel_rfl
theorem AYa:BH vE.P 99=some 12:=by kernel_rfl
theorem ATT:Ab vE.P 99=true:=by kernel_rfl
theorem ARw:A8 vE.P 99=true:=by kernel_rfl
theorem AGD:callable vE.P 53=true:=by kernel_rfl
theorem AGp:callable vE.P 54=true:=by kernel_rfl
theorem AGh:AR vE.P 99 1=some (7,3,true):=by kernel_rfl
theorem AJs:callable vE.P 55=true:=by kernel_rfl
theorem AJR:callable vE.P 56=true:=by kernel_rfl
theorem ANh: ∀n,CL vE.P 107 n=some [.str [],.slice 1 [] true,.slice 3 [] true,.slice 6 [] true]:=by intros;kernel_rfl
theorem AS2:BH vE.P 107=some 4:=by kernel_rfl
theorem AML:Ab vE.P 107=true:=by kernel_rfl
theorem ALW:A8 vE.P 107=true:=by kernel_rfl
theorem AKE:callable vE.P 57=true:=by kernel_rfl
theorem AHv:callable vE.P 58=true:=by kernel_rfl
theorem AIn:callable vE.P 59=true:=by kernel_rfl
theorem AIM:callable vE.P 60=true:=by kernel_rfl
theorem AIG:callable vE.P 61=true:=by kernel_rfl
theorem AJQ:callable vE.P 62=true:=by kernel_rfl
theorem AHY:AR vE.P 99 0=some (0,7,true):=by kernel_rfl
theorem AKH:callable vE.P 63=true:=by kernel_rfl
theorem AM8: ∀n,CL vE.P 119 n=some [.slice 1 [] true]:=by intros;kernel_rfl
theorem AJH:callable vE.P 64=true:=by kernel_rfl
theorem AKG:callable vE.P 65=true:=by kernel_rfl
theorem ANU:Ab vE.P 119=true:=by kernel_rfl
theorem ALZ:A8 vE.P 119=false:=by kernel_rfl
theorem ARc:BH vE.P 119=some 1:=by kernel_rfl
theorem AXM:G5 vE.P 119=some (1,1):=by kernel_rfl
theorem ZC:AJ vE.P 119 0=5:=by kernel_rfl
theorem AUk:E5 vE.P 119=none:=by kernel_rfl
theorem AGi:callable vE.P 66=true:=by kernel_rfl
theorem AbB:u8T vE.P 119=true:=by kernel_rfl
theorem AJN:callable vE.P 68=true:=by kernel_rfl
theorem AId:callable vE.P 67=true:=by kernel_rfl
theorem AHG:callable vE.P 69=true:=by kernel_rfl
theorem AI4:AR vE.P 77 1=some (1,1,false):=by kernel_rfl
theorem AHg:AR vE.P 77 0=some (0,1,false):=by kernel_rfl
theorem APf:Ab vE.P 77=true:=by kernel_rfl
theorem APg:A8 vE.P 77=true:=by kernel_rfl
theorem AWH:BH vE.P 77=some 2:=by kernel_rfl
theorem AQT: ∀n,CL vE.P 77 n=some [.str [],.int .i64 0]:=by intros;kernel_rfl
theorem AXx:CR vE.P 77=some (.agg [.str [],.int .i64 0]):=by kernel_rfl
theorem AY4:(Cc vE.P 77).isSome=true:=by kernel_rfl
theorem AJB:AJ vE.P 77 0=9:=by kernel_rfl
theorem AAX:AU vE.P 77 0=some (0,1):=by kernel_rfl
theorem AHa:AJ vE.P 77 1=3:=by kernel_rfl
theorem ZR:AU vE.P 77 1=some (1,1):=by kernel_rfl
theorem ARv:Ce vE.P 22=false:=by kernel_rfl
theorem AUp:A8 vE.P 5=false:=by kernel_rfl
theorem Ab1:BH vE.P 5=some 1:=by kernel_rfl
theorem AVq:CR vE.P 82=some (.agg [.str [],.str []]):=by kernel_rfl
theorem AV1:(Cc vE.P 82).isSome=true:=by kernel_rfl
theorem AHZ:callable vE.P 70=true:=by kernel_rfl
theorem AIO:callable vE.P 71=true:=by kernel_rfl
theorem AIg:callable vE.P 72=true:=by kernel_rfl
theorem AJC:AJ vE.P 82 0=9:=by kernel_rfl
theorem Yp:AU vE.P 82 0=some (0,1):=by kernel_rfl
theorem AJK:AJ vE.P 82 1=9:=by kernel_rfl
theorem Yl:AU vE.P 82 1=some (1,1):=by kernel_rfl
theorem AGY:AR vE.P 82 0=some (0,1,false):=by kernel_rfl
theorem AWw:CR vE.P 87=some (.agg [.str [],.str []]):=by kernel_rfl
theorem AX4:(Cc vE.P 87).isSome=true:=by kernel_rfl
theorem AGT:callable vE.P 73=true:=by kernel_rfl
theorem AIl:callable vE.P 74=true:=by kernel_rfl
theorem AIv:callable vE.P 75=true:=by kernel_rfl
theorem AIe:AJ vE.P 87 0=9:=by kernel_rfl
theorem AAw:AU vE.P 87 0=some (0,1):=by kernel_rfl
theorem AGz:AJ vE.P 87 1=9:=by kernel_rfl
theorem Y0:AU vE.P 87 1=some (1,1):=by kernel_rfl
theorem AHi:AR vE.P 87 0=some (0,1,false):=by kernel_rfl
theorem AHj:callable vE.P 76=true:=by kernel_rfl
theorem AJv:AJ vE.P 25 3=3:=by kernel_rfl
theorem ABa:AU vE.P 25 3=some (3,1):=by kernel_rfl
theorem AHt:callable vE.P 77=true:=by kernel_rfl
theorem ALt: ∀n,CL vE.P 129 n=some [.str [],.str []]:=by intros;kernel_rfl
theorem ATY:BH vE.P 129=some 2:=by kernel_rfl
theorem ALg:Ab vE.P 129=true:=by kernel_rfl
theorem ALU:A8 vE.P 129=true:=by kernel_rfl
theorem AKC:callable vE.P 78=true:=by kernel_rfl
theorem AG5:callable vE.P 79=true:=by kernel_rfl
theorem AIu:callable vE.P 80=true:=by kernel_rfl
theorem AGm:AR vE.P 94 0=some (0,1,false):=by kernel_rfl
theorem AQJ:A8 vE.P 22=false:=by kernel_rfl
theorem AV8:BH vE.P 22=some 1:=by kernel_rfl
theorem AH0:BG vE.P 40=true:=by kernel_rfl
theorem AIV:callable vE.P 81=true:=by kernel_rfl
theorem AJb:callable vE.P 82=true:=by kernel_rfl
theorem Abi:E5 vE.P 36=some .u64:=by kernel_rfl
theorem ARQ:Ce vE.P 36=false:=by kernel_rfl
theorem AIy:callable vE.P 83=true:=by kernel_rfl
theorem AGN:callable vE.P 84=true:=by kernel_rfl
theorem AHd:callable vE.P 85=true:=by kernel_rfl
theorem AJm:callable vE.P 86=true:=by kernel_rfl
theorem AZD:(Ol vE.P 140).isSome=true:=by kernel_rfl
theorem AYD:(Ol vE.P 140).bind (CR vE.P)=some .nilFn:=by kernel_rfl
theorem AQ9:Ga vE.P 139=0:=by kernel_rfl
theorem AS3:VY vE.P 139=true:=by kernel_rfl
theorem AHD:AR vE.P 73 0=some (0,1,false):=by kernel_rfl
theorem AQG:A8 vE.P 41=false:=by kernel_rfl
theorem AYG:BH vE.P 41=some 1:=by kernel_rfl
theorem AKJ:AR vE.P 73 1=some (1,1,false):=by kernel_rfl
theorem ARI:Ab vE.P 36=true:=by kernel_rfl
theorem APE:A8 vE.P 36=false:=by kernel_rfl
theorem AVf:BH vE.P 36=some 1:=by kernel_rfl
theorem AF9:callable vE.P 87=true:=by kernel_rfl
theorem AGy:AR vE.P 99 3=some (11,1,false):=by kernel_rfl
theorem AcN:G5 vE.P 46=some (9,96):=by kernel_rfl
theorem Ab4:E5 vE.P 46=none:=by kernel_rfl
theorem AJS:callable vE.P 88=true:=by kernel_rfl
theorem ABv:AR vE.P 107 0=some (0,1,false):=by kernel_rfl
theorem AAj:AR vE.P 107 1=some (1,1,false):=by kernel_rfl
theorem ASj:Ab vE.P 40=true:=by kernel_rfl
theorem APX:A8 vE.P 40=false:=by kernel_rfl
theorem AWQ:BH vE.P 40=some 1:=by kernel_rfl
theorem AGq:callable vE.P 90=true:=by kernel_rfl
theorem AIC:callable vE.P 91=true:=by kernel_rfl
theorem AHI:callable vE.P 92=true:=by kernel_rfl
theorem AGs:AJ vE.P 48 0=25:=by kernel_rfl
theorem Zj:AU vE.P 48 0=some (0,4):=by kernel_rfl
theorem AIE:AJ vE.P 48 1=43:=by kernel_rfl
theorem AB6:AU vE.P 48 1=some (4,1):=by kernel_rfl
theorem AGX:AJ vE.P 48 3=45:=by kernel_rfl
theorem Yq:AU vE.P 48 3=some (6,2):=by kernel_rfl
theorem AGS:callable vE.P 93=true:=by kernel_rfl
theorem AM9: ∀n,CL vE.P 148 n=some [.str [],.str [],.slice 2 [] true]:=by intros;kernel_rfl
theorem AQF:BH vE.P 148=some 3:=by kernel_rfl
theorem ALs:Ab vE.P 148=true:=by kernel_rfl
theorem ANE:A8 vE.P 148=true:=by kernel_rfl
theorem AJT:callable vE.P 94=true:=by kernel_rfl
theorem ARg:CR vE.P 107=some (.agg [.str [],.slice 1 [] true,.slice 3 [] true,.slice 6 [] true]):=by kernel_rfl
theorem APz:(Cc vE.P 107).isSome=true:=by kernel_rfl
theorem AG0:AR vE.P 99 2=some (10,1,false):=by kernel_rfl
theorem AHU:callable vE.P 95=true:=by kernel_rfl
theorem ANH: ∀n,CL vE.P 154 n=some [.int .i64 0,.str [],.slice 1 [] true,.slice 4 [] true]:=by intros;kernel_rfl
theorem APr:BH vE.P 154=some 4:=by kernel_rfl
theorem AK3:Ab vE.P 154=true:=by kernel_rfl
theorem ANZ:A8 vE.P 154=true:=by kernel_rfl
theorem AH2:callable vE.P 96=true:=by kernel_rfl
theorem AF5:callable vE.P 97=true:=by kernel_rfl
theorem Zo:BG vE.P 105=true:=by kernel_rfl
theorem ANL:BP vE.P 105=some 6:=by kernel_rfl
theorem ALf:Ab vE.P 160=true:=by kernel_rfl
theorem ALN:A8 vE.P 160=true:=by kernel_rfl
theorem ATO:BH vE.P 160=some 6:=by kernel_rfl
theorem ALS: ∀n,CL vE.P 160 n=some [.str [],.str [],.str [],.str [],.slice 3 [] true,.slice 3 [] true]:=by intros;kernel_rfl
theorem Ze:AR vE.P 160 3=some (3,1,false):=by kernel_rfl
theorem AJ8:callable vE.P 98=true:=by kernel_rfl
theorem AJa:callable vE.P 99=true:=by kernel_rfl
theorem ADE:callable vE.P 100=true:=by kernel_rfl
theorem AD5:callable vE.P 101=true:=by kernel_rfl
theorem ATA:Ga vE.P 114=3:=by kernel_rfl
theorem APj:CR vE.P 165=some (.agg [.str [],.int .i64 0]):=by kernel_rfl
theorem ARV:(Cc vE.P 165).isSome=true:=by kernel_rfl
theorem AFU:AJ vE.P 165 0=9:=by kernel_rfl
theorem Xb:AU vE.P 165 0=some (0,1):=by kernel_rfl
theorem YU:callable vE.P 102=true:=by kernel_rfl
theorem AEt:callable vE.P 103=true:=by kernel_rfl
theorem AA1:callable vE.P 104=true:=by kernel_rfl
theorem Zw:BG vE.P 114=true:=by kernel_rfl
theorem ACR:callable vE.P 105=true:=by kernel_rfl
theorem AMl: ∀n,CL vE.P 167 n=some [.str [],.slice 1 [] true,.slice 2 [] true]:=by intros;kernel_rfl
theorem ASM:BH vE.P 167=some 3:=by kernel_rfl
theorem AKy:Ab vE.P 167=true:=by kernel_rfl
theorem AK1:A8 vE.P 167=true:=by kernel_rfl
theorem AUj:G5 vE.P 114=some (3,64):=by kernel_rfl
theorem AFQ:AJ vE.P 114 0=167:=by kernel_rfl
theorem AUr:E5 vE.P 114=none:=by kernel_rfl
theorem AKt:Ab vE.P 114=true:=by kernel_rfl
theorem AL6:BP vE.P 114=some 3:=by kernel_rfl
theorem AEX:AR vE.P 167 1=some (1,1,false):=by kernel_rfl
theorem ABi:callable vE.P 106=true:=by kernel_rfl
theorem AAb:AR vE.P 167 0=some (0,1,false):=by kernel_rfl
theorem YQ:callable vE.P 107=true:=by kernel_rfl
theorem Yz:callable vE.P 108=true:=by kernel_rfl
theorem AMi: ∀n,CL vE.P 172 n=some [.str [],.str [],.str [],.str [],.str [],.bool false,.bool false,.bool false,.bool false]:=by intros;kernel_rfl
theorem APa:BH vE.P 172=some 9:=by kernel_rfl
theorem AMD:Ab vE.P 172=true:=by kernel_rfl
theorem AMT:A8 vE.P 172=true:=by kernel_rfl
theorem AB1:callable vE.P 109=true:=by kernel_rfl
theorem Zh:AR vE.P 172 0=some (0,1,false):=by kernel_rfl
theorem AFR:callable vE.P 110=true:=by kernel_rfl
theorem AEC:callable vE.P 111=true:=by kernel_rfl
theorem AEe:callable vE.P 112=true:=by kernel_rfl
theorem AEl:callable vE.P 113=true:=by kernel_rfl
theorem AEz:callable vE.P 114=true:=by kernel_rfl
theorem AVr:Ga vE.P 22=1:=by kernel_rfl
theorem AbR:E5 vE.P 22=none:=by kernel_rfl
theorem ADN:callable vE.P 115=true:=by kernel_rfl
theorem Ade:E5 vE.P 9=none:=by kernel_rfl
theorem AJV:Vf vE.P 22 5=true:=by kernel_rfl
theorem ABV:callable vE.P 116=true:=by kernel_rfl
theorem ADf:callable vE.P 117=true:=by kernel_rfl
theorem Zy:callable vE.P 118=true:=by kernel_rfl
theorem AAG:callable vE.P 119=true:=by kernel_rfl
theorem AFJ:callable vE.P 120=true:=by kernel_rfl
theorem ABO:AR vE.P 172 5=some (5,1,false):=by kernel_rfl
theorem Y5:AR vE.P 172 6=some (6,1,false):=by kernel_rfl
theorem ZO:AR vE.P 172 1=some (1,1,false):=by kernel_rfl
theorem AA8:callable vE.P 121=true:=by kernel_rfl
theorem Zb:AR vE.P 172 2=some (2,1,false):=by kernel_rfl
theorem AD6:AR vE.P 172 3=some (3,1,false):=by kernel_rfl
theorem Zl:AR vE.P 172 4=some (4,1,false):=by kernel_rfl
theorem AFc:callable vE.P 122=true:=by kernel_rfl
theorem Yd:AR vE.P 172 7=some (7,1,false):=by kernel_rfl
theorem ADr:AR vE.P 172 8=some (8,1,false):=by kernel_rfl
theorem AIK:AJ vE.P 28 3=9:=by kernel_rfl
theorem ADp:AU vE.P 28 3=some (3,1):=by kernel_rfl
theorem AHk:AJ vE.P 28 4=9:=by kernel_rfl
theorem AEQ:AU vE.P 28 4=some (4,1):=by kernel_rfl
theorem AHE:AJ vE.P 28 5=4:=by kernel_rfl
theorem ACU:AU vE.P 28 5=some (5,1):=by kernel_rfl
theorem AHu:AJ vE.P 28 6=4:=by kernel_rfl
theorem ABr:AU vE.P 28 6=some (6,1):=by kernel_rfl
theorem ATC:CR vE.P 129=some (.agg [.str [],.str []]):=by kernel_rfl
theorem ARy:(Cc vE.P 129).isSome=true:=by kernel_rfl
theorem AEp:callable vE.P 123=true:=by kernel_rfl
theorem Yh:callable vE.P 124=true:=by kernel_rfl
theorem ZX:callable vE.P 125=true:=by kernel_rfl
theorem ABg:callable vE.P 126=true:=by kernel_rfl
theorem AFF:AJ vE.P 129 0=9:=by kernel_rfl
theorem W9:AU vE.P 129 0=some (0,1):=by kernel_rfl
theorem ACX:AJ vE.P 129 1=9:=by kernel_rfl
theorem XZ:AU vE.P 129 1=some (1,1):=by kernel_rfl
theorem Z6:callable vE.P 127=true:=by kernel_rfl
theorem AAC:callable vE.P 128=true:=by kernel_rfl
theorem AET:callable vE.P 129=true:=by kernel_rfl
theorem ADC:AR vE.P 129 0=some (0,1,false):=by kernel_rfl
theorem ACj:AR vE.P 129 1=some (1,1,false):=by kernel_rfl
theorem ADo:callable vE.P 130=true:=by kernel_rfl
theorem ARB:Ga vE.P 140=0:=by kernel_rfl
theorem ADz:callable vE.P 131=true:=by kernel_rfl
theorem AC2:callable vE.P 132=true:=by kernel_rfl
theorem AAK:callable vE.P 133=true:=by kernel_rfl
theorem AFg:callable vE.P 134=true:=by kernel_rfl
theorem YN:callable vE.P 135=true:=by kernel_rfl
theorem AM0: ∀n,CL vE.P 192 n=some [.str [],.int .i64 0,.str [],.str [],.str [],.bool false,.bool false,.int .i64 0,.bool false,.int .i64 0,.str [],.int .i64 0,.str [],.str [],.str [],.bool false,.bool false,.int .i64 0,.int .i64 0,.slice 2 [] true,.str [],.slice 9 [] true,.slice 7 [] true]:=by intros;kernel_rfl
theorem AQp:BH vE.P 192=some 23:=by kernel_rfl
theorem Y4:AR vE.P 192 2=some (8,1,false):=by kernel_rfl
theorem ANt:Ab vE.P 192=true:=by kernel_rfl
theorem AM6:A8 vE.P 192=true:=by kernel_rfl
theorem AEn:callable vE.P 136=true:=by kernel_rfl
theorem AEx:AR vE.P 192 4=some (10,12,true):=by kernel_rfl
theorem AE5:AR vE.P 192 3=some (9,1,false):=by kernel_rfl
theorem AQ8:Ab vE.P 29=true:=by kernel_rfl
theorem ASQ:A8 vE.P 29=false:=by kernel_rfl
theorem AWL:BH vE.P 29=some 1:=by kernel_rfl
theorem AGR:callable vE.P 89=true:=by kernel_rfl
theorem Yt:callable vE.P 137=true:=by kernel_rfl
theorem AX3:Ga vE.P 43=4:=by kernel_rfl
theorem AYz:Ga vE.P 40=1:=by kernel_rfl
theorem AEm:AR vE.P 160 2=some (2,1,false):=by kernel_rfl
theorem Aaw:E5 vE.P 40=none:=by kernel_rfl
theorem AYS:G5 vE.P 250=some (1,24):=by kernel_rfl
theorem YT:AJ vE.P 250 0=40:=by kernel_rfl
theorem ADu:callable vE.P 138=true:=by kernel_rfl
theorem APx:Ab vE.P 45=true:=by kernel_rfl
theorem AQs:A8 vE.P 45=true:=by kernel_rfl
theorem AW7:BH vE.P 45=some 2:=by kernel_rfl
theorem ASO: ∀n,CL vE.P 45 n=some [.bool false,.int .u64 0]:=by intros;kernel_rfl
theorem AEk:callable vE.P 139=true:=by kernel_rfl
theorem ADJ:callable vE.P 140=true:=by kernel_rfl
theorem AAH:callable vE.P 141=true:=by kernel_rfl
theorem ACw:callable vE.P 142=true:=by kernel_rfl
theorem AVj:CR vE.P 45=some (.agg [.bool false,.int .u64 0]):=by kernel_rfl
theorem AVh:(Cc vE.P 45).isSome=true:=by kernel_rfl
theorem AGd:AJ vE.P 45 0=4:=by kernel_rfl
theorem AEF:AU vE.P 45 0=some (0,1):=by kernel_rfl
theorem AJW:AJ vE.P 45 1=36:=by kernel_rfl
theorem ZA:AU vE.P 45 1=some (1,1):=by kernel_rfl
theorem AMW: ∀n,CL vE.P 163 n=some [.nilp]:=by intros;kernel_rfl
theorem ATX:BH vE.P 163=some 1:=by kernel_rfl
theorem ACp:callable vE.P 143=true:=by kernel_rfl
theorem ALv:Ab vE.P 163=true:=by kernel_rfl
theorem ALz:A8 vE.P 163=false:=by kernel_rfl
theorem AFH:AR vE.P 148 0=some (0,1,false):=by kernel_rfl
theorem ADj:AR vE.P 148 1=some (1,1,false):=by kernel_rfl
theorem AFL:callable vE.P 145=true:=by kernel_rfl
theorem Z8:AR vE.P 148 2=some (2,1,false):=by kernel_rfl
theorem AO6:CR vE.P 148=some (.agg [.str [],.str [],.slice 2 [] true]):=by kernel_rfl
theorem AQU:(Cc vE.P 148).isSome=true:=by kernel_rfl
theorem AAr:callable vE.P 146=true:=by kernel_rfl
theorem ARN:CR vE.P 154=some (.agg [.int .i64 0,.str [],.slice 1 [] true,.slice 4 [] true]):=by kernel_rfl
theorem ARY:(Cc vE.P 154).isSome=true:=by kernel_rfl
theorem ANV: ∀n,CL vE.P 207 n=some [.slice 5 [] true,.int .i64 0,.int .i64 0,.int .i64 0,.str [],.slice 1 [] true,.slice 4 [] true]:=by intros;kernel_rfl
theorem ABz:callable vE.P 147=true:=by kernel_rfl
theorem ANm: ∀n,CL vE.P 209 n=some [.int .i64 0,.str [],.int .i64 0]:=by intros;kernel_rfl
theorem ASd:BH vE.P 209=some 3:=by kernel_rfl
theorem AK6:Ab vE.P 209=true:=by kernel_rfl
theorem ALO:A8 vE.P 209=true:=by kernel_rfl
theorem Yi:callable vE.P 148=true:=by kernel_rfl
theorem AA3:AR vE.P 209 2=some (2,1,false):=by kernel_rfl
theorem AAk:AR vE.P 209 0=some (0,1,false):=by kernel_rfl
theorem ADF:AR vE.P 207 3=some (3,4,true):=by kernel_rfl
theorem ADk:AR vE.P 154 0=some (0,1,false):=by kernel_rfl
theorem ANo: ∀n,CL vE.P 214 n=some [.int .i64 0]:=by intros;kernel_rfl
theorem AER:callable vE.P 149=true:=by kernel_rfl
theorem ADZ:callable vE.P 150=true:=by kernel_rfl
theorem ABx:AR vE.P 154 3=some (3,1,false):=by kernel_rfl
theorem ACx:BG vE.P 152=true:=by kernel_rfl
theorem VU:BP vE.P 152=some 4:=by kernel_rfl
theorem AEV:callable vE.P 151=true:=by kernel_rfl
theorem ABU:callable vE.P 152=true:=by kernel_rfl
theorem AFO:AR vE.P 107 2=some (2,1,false):=by kernel_rfl
theorem ASW:BH vE.P 104=some 1:=by kernel_rfl
theorem AEP:AR vE.P 107 3=some (3,1,false):=by kernel_rfl
theorem ANn:Ab vE.P 105=true:=by kernel_rfl
theorem AMR:A8 vE.P 105=false:=by kernel_rfl
theorem AQK:BH vE.P 105=some 1:=by kernel_rfl
theorem AEa:callable vE.P 153=true:=by kernel_rfl
theorem AVz:G5 vE.P 105=some (6,112):=by kernel_rfl
theorem YJ:AJ vE.P 105 0=160:=by kernel_rfl
theorem AXf:E5 vE.P 105=none:=by kernel_rfl
theorem AB5:AR vE.P 214 0=some (0,1,false):=by kernel_rfl
theorem APC:Ga vE.P 105=6:=by kernel_rfl
theorem AFX:AR vE.P 160 0=some (0,1,false):=by kernel_rfl
theorem ABK:AR vE.P 160 4=some (4,1,false):=by kernel_rfl
theorem ANW:Ab vE.P 104=true:=by kernel_rfl
theorem ANq:A8 vE.P 104=false:=by kernel_rfl
theorem ATR:Ga vE.P 104=3:=by kernel_rfl
theorem AVp:G5 vE.P 104=some (3,40):=by kernel_rfl
theorem AY0:E5 vE.P 104=none:=by kernel_rfl
theorem ADH:AR vE.P 160 5=some (5,1,false):=by kernel_rfl
theorem Zg:callable vE.P 154=true:=by kernel_rfl
theorem AM5: ∀n,RZ vE.P 222 n=some [.nself n 222 2,.nbuf 5]:=by intros;kernel_rfl
theorem AKh: ∀n,CL vE.P 222 n=some [.nself n 222 2,.buf 5 [] true]:=by intros;kernel_rfl
theorem AAQ:callable vE.P 155=true:=by kernel_rfl
theorem ACQ:callable vE.P 156=true:=by kernel_rfl
theorem Zc:callable vE.P 157=true:=by kernel_rfl
theorem AEo:callable vE.P 158=true:=by kernel_rfl
theorem AFV:callable vE.P 159=true:=by kernel_rfl
theorem AFb:callable vE.P 160=true:=by kernel_rfl
theorem AFZ:callable vE.P 161=true:=by kernel_rfl
theorem AFW:callable vE.P 162=true:=by kernel_rfl
theorem ABP:callable vE.P 163=true:=by kernel_rfl
theorem AEW:callable vE.P 164=true:=by kernel_rfl
theorem ABX:AR vE.P 165 1=some (1,1,false):=by kernel_rfl
theorem Zq:AR vE.P 165 0=some (0,1,false):=by kernel_rfl
theorem YR:callable vE.P 165=true:=by kernel_rfl
theorem ASz:CR vE.P 167=some (.agg [.str [],.slice 1 [] true,.slice 2 [] true]):=by kernel_rfl
theorem AR5:(Cc vE.P 167).isSome=true:=by kernel_rfl
theorem ADb:AJ vE.P 167 0=9:=by kernel_rfl
theorem XO:AU vE.P 167 0=some (0,1):=by kernel_rfl
theorem AFh:callable vE.P 166=true:=by kernel_rfl
theorem AFI:AR vE.P 167 2=some (2,1,false):=by kernel_rfl
theorem ZQ:callable vE.P 167=true:=by kernel_rfl
theorem AMV:vE.P.eqGuardType vE.P.depth 28=false:=by kernel_rfl
theorem Afr: ∀(a0 b0:List UInt8) (a1 b1:Int) (a2 b2:List UInt8) (a3 b3:List UInt8) (a4 b4:List UInt8) (a5 b5:Bool) (a6 b6:Bool),eqA vE.P 10000 28 (.agg [.str a0,.int .i64 a1,.str a2,.str a3,.str a4,.bool a5,.bool a6]) (.agg [.str b0,.int .i64 b1,.str b2,.str b3,.str b4,.bool b5,.bool b6])=some (a0==b0&&(a1==b1&&(a2==b2&&(a3==b3&&(a4==b4&&(a5==b5&&(a6==b6&&true))))))):=by intros;kernel_rfl
theorem ASB:CR vE.P 172=some (.agg [.str [],.str [],.str [],.str [],.str [],.bool false,.bool false,.bool false,.bool false]):=by kernel_rfl
theorem AQx:(Cc vE.P 172).isSome=true:=by kernel_rfl
theorem AAO:callable vE.P 168=true:=by kernel_rfl
theorem ZU:callable vE.P 169=true:=by kernel_rfl
theorem AFT:callable vE.P 170=true:=by kernel_rfl
theorem ZH:callable vE.P 171=true:=by kernel_rfl
theorem AB3:callable vE.P 172=true:=by kernel_rfl
theorem Yj:callable vE.P 173=true:=by kernel_rfl
theorem ACm:callable vE.P 174=true:=by kernel_rfl
theorem AAh:callable vE.P 175=false:=by kernel_rfl
theorem AM4: ∀n,CL vE.P 238 n=some [.int .u8 0,.int .u8 0,.int .u8 0,.int .u8 0,.int .u8 0,.int .u8 0,.int .u8 0,.int .u8 0,.int .u8 0,.int .u8 0,.int .u8 0,.int .u8 0,.int .u8 0,.int .u8 0,.int .u8 0,.int .u8 0,.int .u8 0,.int .u8 0,.int .u8 0,.int .u8 0]:=by intros;kernel_rfl
theorem ALu:Jo vE.P 238=some (20,1,false):=by kernel_rfl
theorem AMB:BP vE.P 238=none:=by kernel_rfl
theorem ACb:callable vE.P 176=true:=by kernel_rfl
theorem AAy:callable vE.P 177=true:=by kernel_rfl
theorem Y8:callable vE.P 178=true:=by kernel_rfl
theorem ABQ:callable vE.P 179=true:=by kernel_rfl
theorem Z9:callable vE.P 180=true:=by kernel_rfl
theorem AAs:callable vE.P 181=true:=by kernel_rfl
theorem AD1:callable vE.P 182=true:=by kernel_rfl
theorem Yn:callable vE.P 183=true:=by kernel_rfl
theorem AFD:callable vE.P 184=true:=by kernel_rfl
theorem AEA:callable vE.P 185=true:=by kernel_rfl
theorem AEu:callable vE.P 186=true:=by kernel_rfl
theorem ZP:callable vE.P 187=true:=by kernel_rfl
theorem YL:callable vE.P 188=true:=by kernel_rfl
theorem YY:callable vE.P 189=true:=by kernel_rfl
theorem ACg:callable vE.P 190=true:=by kernel_rfl
theorem AAU:callable vE.P 191=true:=by kernel_rfl
theorem ADB:callable vE.P 192=true:=by kernel_rfl
theorem ADP:callable vE.P 193=true:=by kernel_rfl
theorem ASY:CR vE.P 192=some (.agg [.str [],.int .i64 0,.str [],.str [],.str [],.bool false,.bool false,.int .i64 0,.bool false,.int .i64 0,.str [],.int .i64 0,.str [],.str [],.str [],.bool false,.bool false,.int .i64 0,.int .i64 0,.slice 2 [] true,.str [],.slice 9 [] true,.slice 7 [] true]):=by kernel_rfl
theorem APR:(Cc vE.P 192).isSome=true:=by kernel_rfl
theorem Y7:AJ vE.P 192 2=4:=by kernel_rfl
theorem WN:AU vE.P 192 2=some (8,1):=by kernel_rfl
theorem ACr:AJ vE.P 192 3=29:=by kernel_rfl
theorem XE:AU vE.P 192 3=some (9,1):=by kernel_rfl
theorem AUz:G5 vE.P 190=some (7,80):=by kernel_rfl
theorem AE0:AJ vE.P 190 0=28:=by kernel_rfl
theorem Zd:AJ vE.P 192 0=28:=by kernel_rfl
theorem Wh:AU vE.P 192 0=some (0,7):=by kernel_rfl
theorem AD2:AJ vE.P 192 5=190:=by kernel_rfl
theorem Ws:AU vE.P 192 5=some (22,1):=by kernel_rfl
theorem AAT:callable vE.P 194=true:=by kernel_rfl
theorem ABq:AR vE.P 192 0=some (0,7,true):=by kernel_rfl
theorem ABF:callable vE.P 195=true:=by kernel_rfl
theorem ASo:CR vE.P 247=some (.agg [.str [],.int .i64 0,.str [],.str [],.str [],.bool false,.bool false,.int .i64 0,.int .i64 0]):=by kernel_rfl
theorem ARO:(Cc vE.P 247).isSome=true:=by kernel_rfl
theorem ACK:AJ vE.P 247 0=28:=by kernel_rfl
theorem WV:AU vE.P 247 0=some (0,7):=by kernel_rfl
theorem ACY:AJ vE.P 247 1=3:=by kernel_rfl
theorem Wp:AU vE.P 247 1=some (7,1):=by kernel_rfl
theorem ACi:AJ vE.P 247 2=29:=by kernel_rfl
theorem XX:AU vE.P 247 2=some (8,1):=by kernel_rfl
theorem AHJ:AJ vE.P 46 0=247:=by kernel_rfl
theorem AXr:CR vE.P 99=some (.agg [.str [],.int .i64 0,.str [],.str [],.str [],.bool false,.bool false,.int .i64 0,.int .i64 0,.slice 2 [] true,.str [],.slice 9 [] true]):=by kernel_rfl
theorem AXL:(Cc vE.P 99).isSome=true:=by kernel_rfl
theorem AHr:AJ vE.P 99 3=46:=by kernel_rfl
theorem ADv:AU vE.P 99 3=some (11,1):=by kernel_rfl
theorem ABk:callable vE.P 196=true:=by kernel_rfl
theorem AEh:AR vE.P 192 5=some (22,1,false):=by kernel_rfl
theorem ANB:Ab vE.P 190=true:=by kernel_rfl
theorem ALQ:A8 vE.P 190=false:=by kernel_rfl
theorem AQC:BH vE.P 190=some 1:=by kernel_rfl
theorem AFG:AR vE.P 192 1=some (7,1,false):=by kernel_rfl
theorem Y2:callable vE.P 197=true:=by kernel_rfl
theorem AUi:E5 vE.P 190=none:=by kernel_rfl
theorem AB0:BG vE.P 250=true:=by kernel_rfl
theorem AMn:BP vE.P 250=some 1:=by kernel_rfl
theorem ABd:callable vE.P 198=true:=by kernel_rfl
theorem AcG:G5 vE.P 43=some (4,48):=by kernel_rfl
theorem AH9:AJ vE.P 43 0=25:=by kernel_rfl
theorem Abo:E5 vE.P 43=none:=by kernel_rfl
theorem AAY:callable vE.P 144=true:=by kernel_rfl
theorem AFC:callable vE.P 199=true:=by kernel_rfl
theorem AAN:callable vE.P 200=true:=by kernel_rfl
theorem ABf:callable vE.P 201=true:=by kernel_rfl
theorem AAd:callable vE.P 202=true:=by kernel_rfl
theorem ASI:CR vE.P 209=some (.agg [.int .i64 0,.str [],.int .i64 0]):=by kernel_rfl
theorem AQz:(Cc vE.P 209).isSome=true:=by kernel_rfl
theorem AQl:CR vE.P 254=some (.agg [.str [],.int .i64 0]):=by kernel_rfl
theorem ASh:(Cc vE.P 254).isSome=true:=by kernel_rfl
theorem ADM:AJ vE.P 254 0=9:=by kernel_rfl
theorem Wi:AU vE.P 254 0=some (0,1):=by kernel_rfl
theorem AAp:AJ vE.P 254 1=3:=by kernel_rfl
theorem Wo:AU vE.P 254 1=some (1,1):=by kernel_rfl
theorem YM:callable vE.P 203=true:=by kernel_rfl
theorem Z0:callable vE.P 204=true:=by kernel_rfl
theorem AD9:AR vE.P 254 1=some (1,1,false):=by kernel_rfl
theorem AAf:callable vE.P 205=true:=by kernel_rfl
theorem ZK:AJ vE.P 209 0=3:=by kernel_rfl
theorem XK:AU vE.P 209 0=some (0,1):=by kernel_rfl
theorem ADL:AJ vE.P 209 1=9:=by kernel_rfl
theorem WP:AU vE.P 209 1=some (1,1):=by kernel_rfl
theorem AEc:AJ vE.P 209 2=3:=by kernel_rfl
theorem WW:AU vE.P 209 2=some (2,1):=by kernel_rfl
theorem AAI:callable vE.P 206=true:=by kernel_rfl
theorem ADG:AR vE.P 209 1=some (1,1,false):=by kernel_rfl
theorem Zu:callable vE.P 207=true:=by kernel_rfl
theorem AEr:AR vE.P 207 1=some (1,1,false):=by kernel_rfl
theorem AED:callable vE.P 208=true:=by kernel_rfl
theorem Zx:callable vE.P 209=true:=by kernel_rfl
theorem ADx:callable vE.P 210=true:=by kernel_rfl
theorem Y9:callable vE.P 211=true:=by kernel_rfl
theorem ABZ:callable vE.P 212=true:=by kernel_rfl
theorem AES:AR vE.P 154 1=some (1,1,false):=by kernel_rfl
theorem ALC:Ab vE.P 152=true:=by kernel_rfl
theorem AKx:A8 vE.P 152=false:=by kernel_rfl
theorem AO9:BH vE.P 152=some 1:=by kernel_rfl
theorem AAt:AR vE.P 154 2=some (2,1,false):=by kernel_rfl
theorem AQ5:CR vE.P 266=some (.agg [.str [],.str [],.bool false]):=by kernel_rfl
theorem ATP:(Cc vE.P 266).isSome=true:=by kernel_rfl
theorem ADq:AJ vE.P 266 0=9:=by kernel_rfl
theorem XI:AU vE.P 266 0=some (0,1):=by kernel_rfl
theorem ALn: ∀n,CL vE.P 266 n=some [.str [],.str [],.bool false]:=by intros;kernel_rfl
theorem APe:BH vE.P 266=some 3:=by kernel_rfl
theorem AD3:AR vE.P 266 2=some (2,1,false):=by kernel_rfl
theorem AE7:AR vE.P 266 1=some (1,1,false):=by kernel_rfl
theorem ALj:Ab vE.P 266=true:=by kernel_rfl
theorem AM1:A8 vE.P 266=true:=by kernel_rfl
theorem ABH:AJ vE.P 104 0=266:=by kernel_rfl
theorem ADT:AR vE.P 160 1=some (1,1,false):=by kernel_rfl
theorem ABC:callable vE.P 213=true:=by kernel_rfl
theorem YV:callable vE.P 214=true:=by kernel_rfl
theorem ARs:Ga vE.P 224=0:=by kernel_rfl
theorem AEd:callable vE.P 216=true:=by kernel_rfl
theorem ACP:AR vE.P 222 1=some (1,1,false):=by kernel_rfl
theorem AO4:ptrTo vE.P 268 5=true:=by kernel_rfl
theorem AFS:callable vE.P 217=true:=by kernel_rfl
theorem ZT:callable vE.P 218=true:=by kernel_rfl
theorem Yf:callable vE.P 219=true:=by kernel_rfl
theorem AFA:callable vE.P 220=true:=by kernel_rfl
theorem AUP:Oy vE.P 22=some (1,.int .u8 0):=by kernel_rfl
theorem Ym:callable vE.P 221=true:=by kernel_rfl
theorem ABS:callable vE.P 222=true:=by kernel_rfl
theorem ZW:callable vE.P 223=true:=by kernel_rfl
theorem ACW:callable vE.P 224=true:=by kernel_rfl
theorem Yg:callable vE.P 225=true:=by kernel_rfl
theorem ABj:callable vE.P 226=true:=by kernel_rfl
theorem AC0:callable vE.P 227=true:=by kernel_rfl
theorem Abq:E5 vE.P 21=some .i32:=by kernel_rfl
theorem ATQ:Ce vE.P 21=false:=by kernel_rfl
theorem AY6:Ga vE.P 21=0:=by kernel_rfl
theorem ACV:callable vE.P 228=true:=by kernel_rfl
theorem AAn:callable vE.P 229=true:=by kernel_rfl
theorem Yw:callable vE.P 230=true:=by kernel_rfl
theorem AMg: ∀n,CL vE.P 273 n=some (List.map AVal.bool (AKn 256)):=by intros;kernel_rfl
theorem ARn:BH vE.P 273=some 256:=by kernel_rfl
theorem ABY:callable vE.P 231=true:=by kernel_rfl
theorem ACf:callable vE.P 232=true:=by kernel_rfl
theorem ZE:callable vE.P 233=false:=by kernel_rfl
theorem ABA:callable vE.P 234=true:=by kernel_rfl
theorem AFE:callable vE.P 235=true:=by kernel_rfl
theorem ACv:callable vE.P 236=true:=by kernel_rfl
theorem ACe:callable vE.P 215=true:=by kernel_rfl
theorem AE4:callable vE.P 237=true:=by kernel_rfl
theorem AAg:callable vE.P 238=true:=by kernel_rfl
theorem ABT:callable vE.P 239=true:=by kernel_rfl
theorem ACA:callable vE.P 240=true:=by kernel_rfl
theorem AB2:callable vE.P 241=true:=by kernel_rfl
theorem ZN:callable vE.P 242=true:=by kernel_rfl
theorem ADU:callable vE.P 243=true:=by kernel_rfl
theorem ACE:callable vE.P 244=true:=by kernel_rfl
theorem ABw:callable vE.P 245=true:=by kernel_rfl
theorem ACN:callable vE.P 246=true:=by kernel_rfl
theorem ABu:callable vE.P 247=true:=by kernel_rfl
theorem AEY:callable vE.P 248=true:=by kernel_rfl
theorem Zz:callable vE.P 249=true:=by kernel_rfl
theorem AJA:AJ vE.P 99 0=28:=by kernel_rfl
theorem AEv:AU vE.P 99 0=some (0,7):=by kernel_rfl
theorem AGa:AJ vE.P 99 1=63:=by kernel_rfl
theorem AC4:AU vE.P 99 1=some (7,3):=by kernel_rfl
theorem YH:callable vE.P 250=true:=by kernel_rfl
theorem AFK:callable vE.P 251=true:=by kernel_rfl
theorem AAu:callable vE.P 252=true:=by kernel_rfl
theorem YS:callable vE.P 253=true:=by kernel_rfl
theorem ADK:AR vE.P 254 0=some (0,1,false):=by kernel_rfl
theorem ADa:callable vE.P 254=true:=by kernel_rfl
theorem AEH:callable vE.P 255=true:=by kernel_rfl
theorem AAZ:AR vE.P 207 0=some (0,1,false):=by kernel_rfl
theorem Qf:Ab vE.P 205=true:=by kernel_rfl
theorem ALc:A8 vE.P 205=false:=by kernel_rfl
theorem AQm:BH vE.P 205=some 1:=by kernel_rfl
theorem Cy:BG vE.P 205=true:=by kernel_rfl
theorem ADY:callable vE.P 256=true:=by kernel_rfl
theorem Ye:AR vE.P 291 0=some (0,4,true):=by kernel_rfl
theorem ACq:callable vE.P 257=true:=by kernel_rfl
theorem ACo:callable vE.P 258=true:=by kernel_rfl
theorem Qz:BP vE.P 205=some 5:=by kernel_rfl
theorem Yy:callable vE.P 259=true:=by kernel_rfl
theorem AAE:AR vE.P 291 1=some (4,1,false):=by kernel_rfl
theorem ALh:Ab vE.P 289=true:=by kernel_rfl
theorem ALp:A8 vE.P 289=false:=by kernel_rfl
theorem APF:BH vE.P 289=some 1:=by kernel_rfl
theorem Y6:AJ vE.P 154 0=3:=by kernel_rfl
theorem Wt:AU vE.P 154 0=some (0,1):=by kernel_rfl
theorem AAP:AJ vE.P 154 1=9:=by kernel_rfl
theorem WO:AU vE.P 154 1=some (1,1):=by kernel_rfl
theorem AE3:callable vE.P 260=true:=by kernel_rfl
theorem AEq:AR vE.P 207 2=some (2,1,false):=by kernel_rfl
theorem AD7:callable vE.P 261=true:=by kernel_rfl
theorem AEJ:AR vE.P 222 0=some (0,1,false):=by kernel_rfl
theorem AKl:Ab vE.P 220=true:=by kernel_rfl
theorem AKs:A8 vE.P 220=false:=by kernel_rfl
theorem AO3:BH vE.P 220=some 1:=by kernel_rfl
theorem ATF:Ga vE.P 220=0:=by kernel_rfl
theorem ANT:Nv vE.P 220=true:=by kernel_rfl
theorem AMm:Ce vE.P 298=false:=by kernel_rfl
theorem Rs:SB vE.P 220 298 221 2=true:=by kernel_rfl
theorem Rq:SB vE.P 220 298 222 2=true:=by kernel_rfl
theorem AC6:callable vE.P 262=false:=by kernel_rfl
theorem ALx:Ab vE.P 298=true:=by kernel_rfl
theorem AKi:Ce vE.P 220=false:=by kernel_rfl
theorem Ry:SB vE.P 298 220 221 2=true:=by kernel_rfl
theorem SF:SB vE.P 298 220 222 2=true:=by kernel_rfl
theorem AAW:callable vE.P 263=true:=by kernel_rfl
theorem ADQ:callable vE.P 264=true:=by kernel_rfl
theorem AEB:callable vE.P 265=true:=by kernel_rfl
theorem ADg:callable vE.P 266=true:=by kernel_rfl
theorem Y3:callable vE.P 267=true:=by kernel_rfl
theorem AEO:callable vE.P 268=true:=by kernel_rfl
theorem AEs:callable vE.P 269=true:=by kernel_rfl
theorem ADX:callable vE.P 270=false:=by kernel_rfl
theorem AYb:G5 vE.P 301=some (2,16):=by kernel_rfl
theorem AL4:RG vE.P 301=some (.agg [.int .i64 0,.int .i64 0]):=by kernel_rfl
theorem AS7:Oy vE.P 301=none:=by kernel_rfl
theorem APb:CR vE.P 303=some (.agg [.int .i64 0,.int .i64 0]):=by kernel_rfl
theorem APH:(Cc vE.P 303).isSome=true:=by kernel_rfl
theorem ACc:AJ vE.P 303 0=3:=by kernel_rfl
theorem XY:AU vE.P 303 0=some (0,1):=by kernel_rfl
theorem AAR:AJ vE.P 303 1=3:=by kernel_rfl
theorem XF:AU vE.P 303 1=some (1,1):=by kernel_rfl
theorem AD0:AJ vE.P 301 0=303:=by kernel_rfl
theorem AWC:E5 vE.P 301=none:=by kernel_rfl
theorem AK4:Ab vE.P 301=true:=by kernel_rfl
theorem Ya:BG vE.P 301=true:=by kernel_rfl
theorem AYY:Oy vE.P 40=some (16,.str []):=by kernel_rfl
theorem ARh:RG vE.P 40=some (.str []):=by kernel_rfl
theorem AK2:BP vE.P 301=some 2:=by kernel_rfl
theorem ANz:Ab vE.P 303=true:=by kernel_rfl
theorem AMw:A8 vE.P 303=true:=by kernel_rfl
theorem ASc:BH vE.P 303=some 2:=by kernel_rfl
theorem AMv: ∀n,CL vE.P 303 n=some [.int .i64 0,.int .i64 0]:=by intros;kernel_rfl
theorem AEG:AR vE.P 303 0=some (0,1,false):=by kernel_rfl
theorem YO:AR vE.P 303 1=some (1,1,false):=by kernel_rfl
theorem AO2:Ab vE.P 21=true:=by kernel_rfl
theorem AA9:callable vE.P 271=true:=by kernel_rfl
theorem AMJ:Ab vE.P 273=true:=by kernel_rfl
theorem AMq:A8 vE.P 273=true:=by kernel_rfl
theorem AMF:Jo vE.P 273=some (256,1,false):=by kernel_rfl
theorem ABG:callable vE.P 272=true:=by kernel_rfl
theorem ARj:Ga vE.P 305=0:=by kernel_rfl
theorem AWk:E5 vE.P 305=some .u32:=by kernel_rfl
theorem AKk:Ce vE.P 305=false:=by kernel_rfl
theorem ASV:Ga vE.P 119=1:=by kernel_rfl
theorem ZF:callable vE.P 273=true:=by kernel_rfl
theorem AE8:callable vE.P 274=true:=by kernel_rfl
theorem ZI:callable vE.P 275=true:=by kernel_rfl
theorem AMM: ∀n,CL vE.P 310 n=some [.int .i64 0]:=by intros;kernel_rfl
theorem ADs:callable vE.P 277=true:=by kernel_rfl
theorem ABl:callable vE.P 276=true:=by kernel_rfl
theorem AEw:AR vE.P 310 0=some (0,1,false):=by kernel_rfl
theorem AFd:callable vE.P 278=true:=by kernel_rfl
theorem AP3:Ga vE.P 190=7:=by kernel_rfl
theorem Yv:BG vE.P 190=true:=by kernel_rfl
theorem AV4:Ga vE.P 46=9:=by kernel_rfl
theorem ATN:CR vE.P 313=some (.agg [.str [],.int .i64 0,.str [],.int .u64 0]):=by kernel_rfl
theorem AS1:(Cc vE.P 313).isSome=true:=by kernel_rfl
theorem AAD:AJ vE.P 313 0=77:=by kernel_rfl
theorem WT:AU vE.P 313 0=some (0,2):=by kernel_rfl
theorem ACH:AJ vE.P 313 1=9:=by kernel_rfl
theorem Wy:AU vE.P 313 1=some (2,1):=by kernel_rfl
theorem YX:AJ vE.P 313 2=36:=by kernel_rfl
theorem WM:AU vE.P 313 2=some (3,1):=by kernel_rfl
theorem ANa: ∀n,CL vE.P 313 n=some [.str [],.int .i64 0,.str [],.int .u64 0]:=by intros;kernel_rfl
theorem AQM:BH vE.P 313=some 4:=by kernel_rfl
theorem ALR:Ab vE.P 313=true:=by kernel_rfl
theorem AK9:A8 vE.P 313=true:=by kernel_rfl
theorem ABR:callable vE.P 280=true:=by kernel_rfl
theorem ZG:callable vE.P 279=true:=by kernel_rfl
theorem AQW:BP vE.P 41=some 7:=by kernel_rfl
theorem AHb:AR vE.P 38 4=some (4,1,false):=by kernel_rfl
theorem AII:AR vE.P 38 3=some (3,1,false):=by kernel_rfl
theorem APY:CR vE.P 318=some (.agg [.str [],.bool false]):=by kernel_rfl
theorem ASi:(Cc vE.P 318).isSome=true:=by kernel_rfl
theorem AAV:AJ vE.P 318 0=9:=by kernel_rfl
theorem Wj:AU vE.P 318 0=some (0,1):=by kernel_rfl
theorem ZL:callable vE.P 282=true:=by kernel_rfl
theorem AAx:callable vE.P 281=true:=by kernel_rfl
theorem YG:AR vE.P 318 1=some (1,1,false):=by kernel_rfl
theorem AAM:callable vE.P 283=true:=by kernel_rfl
theorem Zi:callable vE.P 284=true:=by kernel_rfl
theorem ABo:callable vE.P 285=true:=by kernel_rfl
theorem AAF:callable vE.P 286=true:=by kernel_rfl
theorem Yo:callable vE.P 287=true:=by kernel_rfl
theorem AAz:callable vE.P 288=true:=by kernel_rfl
theorem ADl:callable vE.P 289=true:=by kernel_rfl
theorem ADd:callable vE.P 290=true:=by kernel_rfl
theorem ADW:callable vE.P 291=true:=by kernel_rfl
theorem ACn:callable vE.P 292=true:=by kernel_rfl
theorem ABs:callable vE.P 293=true:=by kernel_rfl
theorem ARq:Ga vE.P 292=0:=by kernel_rfl
theorem APm:(Cc vE.P 291).isSome=true:=by kernel_rfl
theorem ABb:AJ vE.P 291 0=154:=by kernel_rfl
theorem XU:AU vE.P 291 0=some (0,4):=by kernel_rfl
theorem AEZ:AJ vE.P 291 1=289:=by kernel_rfl
theorem Xd:AU vE.P 291 1=some (4,1):=by kernel_rfl
theorem VW:G5 vE.P 205=some (5,80):=by kernel_rfl
theorem AFi:AJ vE.P 205 0=291:=by kernel_rfl
theorem Vu:E5 vE.P 205=none:=by kernel_rfl
theorem AUT:G5 vE.P 152=some (4,72):=by kernel_rfl
theorem ABD:AJ vE.P 152 0=154:=by kernel_rfl
theorem ASn:Ga vE.P 154=0:=by kernel_rfl
theorem AXJ:E5 vE.P 152=none:=by kernel_rfl
theorem AFf:callable vE.P 294=true:=by kernel_rfl
theorem ACZ:callable vE.P 295=true:=by kernel_rfl
theorem ADw:callable vE.P 296=true:=by kernel_rfl
theorem ACy:callable vE.P 297=true:=by kernel_rfl
theorem AAS:callable vE.P 298=true:=by kernel_rfl
theorem ACC:callable vE.P 299=true:=by kernel_rfl
theorem ADc:callable vE.P 300=true:=by kernel_rfl
theorem AC5:callable vE.P 301=true:=by kernel_rfl
theorem AIi:BG vE.P 41=true:=by kernel_rfl
theorem Yr:callable vE.P 302=true:=by kernel_rfl
theorem AAA:AR vE.P 313 0=some (0,2,true):=by kernel_rfl
theorem ALm:vE.P.eqGuardType vE.P.depth 77=false:=by kernel_rfl
theorem Ad0: ∀(a0 b0:List UInt8) (a1 b1:Int),eqA vE.P 10000 77 (.agg [.str a0,.int .i64 a1]) (.agg [.str b0,.int .i64 b1])=some (a0==b0&&(a1==b1&&true)):=by intros;kernel_rfl
theorem AF6:AR vE.P 38 2=some (2,1,false):=by kernel_rfl
theorem ABE:AR vE.P 313 1=some (2,1,false):=by kernel_rfl
theorem AIR:AR vE.P 38 5=some (5,1,false):=by kernel_rfl
theorem ABm:AR vE.P 313 2=some (3,1,false):=by kernel_rfl
theorem AGo:AR vE.P 38 6=some (6,1,false):=by kernel_rfl
theorem AEM:AR vE.P 318 0=some (0,1,false):=by kernel_rfl
theorem ABp:callable vE.P 303=true:=by kernel_rfl
theorem AQq:CR vE.P 331=some (.agg [.str [],.int .u64 0]):=by kernel_rfl
theorem ATW:(Cc vE.P 331).isSome=true:=by kernel_rfl
theorem Zm:AJ vE.P 331 0=9:=by kernel_rfl
theorem XB:AU vE.P 331 0=some (0,1):=by kernel_rfl
theorem AEI:callable vE.P 304=true:=by kernel_rfl
theorem YW:AR vE.P 331 1=some (1,1,false):=by kernel_rfl
theorem ADm:AR vE.P 331 0=some (0,1,false):=by kernel_rfl
theorem ABh:callable vE.P 305=true:=by kernel_rfl
theorem ACa:callable vE.P 306=true:=by kernel_rfl
theorem AL5:BP vE.P 190=some 7:=by kernel_rfl
theorem AFB:callable vE.P 307=true:=by kernel_rfl
theorem ADy:callable vE.P 308=true:=by kernel_rfl
theorem AB4:callable vE.P 309=true:=by kernel_rfl
theorem ADh:callable vE.P 310=true:=by kernel_rfl
theorem AEj:callable vE.P 311=true:=by kernel_rfl
theorem Yb:callable vE.P 312=true:=by kernel_rfl
theorem ACu:callable vE.P 313=true:=by kernel_rfl
theorem AB8:callable vE.P 314=true:=by kernel_rfl
theorem Yc:callable vE.P 315=true:=by kernel_rfl
theorem AA0:callable vE.P 316=true:=by kernel_rfl
theorem AEb:callable vE.P 317=true:=by kernel_rfl
theorem AE1:callable vE.P 318=true:=by kernel_rfl
theorem ABJ:callable vE.P 319=false:=by kernel_rfl
theorem AC8:callable vE.P 320=true:=by kernel_rfl
theorem AGt:AR vE.P 38 0=some (0,1,false):=by kernel_rfl
theorem AGI:AR vE.P 38 1=some (1,1,false):=by kernel_rfl
theorem ADt:callable vE.P 321=true:=by kernel_rfl
theorem ANK:Ab vE.P 346=true:=by kernel_rfl
theorem ANu:A8 vE.P 346=true:=by kernel_rfl
theorem AQA:BH vE.P 346=some 12:=by kernel_rfl
theorem AMQ:Jo vE.P 346=some (4,3,true):=by kernel_rfl
theorem ALk: ∀n,CL vE.P 345 n=some [.int .u8 0,.int .u8 0,.int .i64 0]:=by intros;kernel_rfl
theorem ASG:BH vE.P 345=some 3:=by kernel_rfl
theorem Zn:AR vE.P 345 1=some (1,1,false):=by kernel_rfl
theorem AAa:AR vE.P 345 0=some (0,1,false):=by kernel_rfl
theorem YZ:AR vE.P 345 2=some (2,1,false):=by kernel_rfl
theorem YK:callable vE.P 322=true:=by kernel_rfl
theorem Zr:callable vE.P 323=true:=by kernel_rfl
theorem AFP:callable vE.P 324=true:=by kernel_rfl
theorem ACJ:callable vE.P 325=true:=by kernel_rfl
theorem Yx:callable vE.P 326=true:=by kernel_rfl
theorem AMY:Jo vE.P 348=some (256,1,false):=by kernel_rfl
theorem ALy:Jo vE.P 351=some (16,2,true):=by kernel_rfl
theorem ALA:Ab vE.P 350=true:=by kernel_rfl
theorem ANb:A8 vE.P 350=true:=by kernel_rfl
theorem ATJ:BH vE.P 350=some 2:=by kernel_rfl
theorem AMo: ∀n,CL vE.P 350 n=some [.int .u8 0,.int .u8 0]:=by intros;kernel_rfl
theorem AA7:AR vE.P 350 0=some (0,1,false):=by kernel_rfl
theorem AEE:AR vE.P 350 1=some (1,1,false):=by kernel_rfl
theorem AQf:CR vE.P 350=some (.agg [.int .u8 0,.int .u8 0]):=by kernel_rfl
theorem AQn:(Cc vE.P 350).isSome=true:=by kernel_rfl
theorem AD4:AJ vE.P 350 0=5:=by kernel_rfl
theorem Xe:AU vE.P 350 0=some (0,1):=by kernel_rfl
theorem AB9:AJ vE.P 350 1=5:=by kernel_rfl
theorem WX:AU vE.P 350 1=some (1,1):=by kernel_rfl
theorem ARA:CR vE.P 351=some (.agg [.int .u8 0,.int .u8 0,.int .u8 0,.int .u8 0,.int .u8 0,.int .u8 0,.int .u8 0,.int .u8 0,.int .u8 0,.int .u8 0,.int .u8 0,.int .u8 0,.int .u8 0,.int .u8 0,.int .u8 0,.int .u8 0,.int .u8 0,.int .u8 0,.int .u8 0,.int .u8 0,.int .u8 0,.int .u8 0,.int .u8 0,.int .u8 0,.int .u8 0,.int .u8 0,.int .u8 0,.int .u8 0,.int .u8 0,.int .u8 0,.int .u8 0,.int .u8 0]):=by kernel_rfl
theorem AR8:(Cc vE.P 351).isSome=true:=by kernel_rfl
theorem ZZ:AJ vE.P 351 0=350:=by kernel_rfl
theorem Wv:AU vE.P 351 0=some (0,2):=by kernel_rfl
theorem ACs:AJ vE.P 351 1=350:=by kernel_rfl
theorem Wz:AU vE.P 351 1=some (2,2):=by kernel_rfl
theorem AEi:AJ vE.P 351 2=350:=by kernel_rfl
theorem XH:AU vE.P 351 2=some (4,2):=by kernel_rfl
theorem ABW:AJ vE.P 351 3=350:=by kernel_rfl
theorem XN:AU vE.P 351 3=some (6,2):=by kernel_rfl
theorem AEN:AJ vE.P 351 4=350:=by kernel_rfl
theorem WS:AU vE.P 351 4=some (8,2):=by kernel_rfl
theorem ASE:BH vE.P 351=some 32:=by kernel_rfl
theorem ARK:CR vE.P 345=some (.agg [.int .u8 0,.int .u8 0,.int .i64 0]):=by kernel_rfl
theorem ASH:(Cc vE.P 345).isSome=true:=by kernel_rfl
theorem ADi:AJ vE.P 345 0=5:=by kernel_rfl
theorem Wq:AU vE.P 345 0=some (0,1):=by kernel_rfl
theorem Zv:AJ vE.P 345 1=5:=by kernel_rfl
theorem WQ:AU vE.P 345 1=some (1,1):=by kernel_rfl
theorem AFa:AJ vE.P 345 2=3:=by kernel_rfl
theorem XW:AU vE.P 345 2=some (2,1):=by kernel_rfl
theorem API:CR vE.P 346=some (.agg [.int .u8 0,.int .u8 0,.int .i64 0,.int .u8 0,.int .u8 0,.int .i64 0,.int .u8 0,.int .u8 0,.int .i64 0,.int .u8 0,.int .u8 0,.int .i64 0]):=by kernel_rfl
theorem APy:(Cc vE.P 346).isSome=true:=by kernel_rfl
theorem Zf:AJ vE.P 346 0=345:=by kernel_rfl
theorem XQ:AU vE.P 346 0=some (0,3):=by kernel_rfl
theorem AAJ:AJ vE.P 346 1=345:=by kernel_rfl
theorem Wu:AU vE.P 346 1=some (3,3):=by kernel_rfl
theorem ACI:AJ vE.P 346 2=345:=by kernel_rfl
theorem XJ:AU vE.P 346 2=some (6,3):=by kernel_rfl
theorem YP:AJ vE.P 346 3=345:=by kernel_rfl
theorem XA:AU vE.P 346 3=some (9,3):=by kernel_rfl
theorem Ag6: ∀af t,rd vE af t (.global 1)=.cptr Jj:=by intros;rfl
theorem Agp:stripL Jj=Jj:=by simp[Jj,stripL,AVal.strip]
theorem AgV:List.take 12 Jj=Jj:=by rfl
theorem AgZ: ∀st,Nj vE 346 (.cptr Jj) st=some (.agg Jj):=by intros;kernel_rfl
theorem KX{n:Int}{x:Utf8textForm}{k:IntKind} (h:idx Dj n=some x):CV vE 346 (.cptr Jj) (.int k n)=some (.cptr ([.int .u8 x.mark,.int .u8 x.mask,.int .i64 x.least]++List.drop (n.toNat * 3+3) Jj)):=by
  unfold idx at h
  split at h
  · rename_i hn
    obtain⟨j,rfl⟩: ∃j:Nat,n=j:=⟨n.toNat,by omega⟩
    rw[Int.toNat_natCast]at h
    rcases j with _|j
    · cases h;kernel_rfl
    rcases j with _|j
    · cases h;kernel_rfl
    rcases j with _|j
    · cases h;kernel_rfl
    rcases j with _|j
    · cases h;kernel_rfl
    simp[Dj]at h
  · cases h
theorem Oi{n:Int}{x:Utf8textForm}{k:IntKind} (h:idx Dj n=some x):O5 vE 346 (.agg Jj) (.int k n)=some (.agg [.int .u8 x.mark,.int .u8 x.mask,.int .i64 x.least]):=by
  unfold idx at h
  split at h
  · rename_i hn
    obtain⟨j,rfl⟩: ∃j:Nat,n=j:=⟨n.toNat,by omega⟩
    rw[Int.toNat_natCast]at h
    rcases j with _|j
    · cases h;kernel_rfl
    rcases j with _|j
    · cases h;kernel_rfl
    rcases j with _|j
    · cases h;kernel_rfl
    rcases j with _|j
    · cases h;kernel_rfl
    simp[Dj]at h
  · cases h
theorem AOi:(vE.P.funcs[175]?).isSome=true:=by kernel_rfl
theorem Abp{l:List UInt8}{c:Int}{st:St}{Q:AVal→St→Prop} (h:Gl (Q (.int .i64 (Go.Lib.indexByte l (JK c))) st)):UL vE 175 [.str l,.int .u8 c] st Q:=by
  refine .inl ⟨(vE.P.funcs[175]?).get AOi,Extern.BytealgIndexByte.indexByte,.int .i64 (Go.Lib.indexByte l (JK c)),(Option.some_get AOi).symm,by kernel_rfl,by kernel_rfl,by kernel_rfl,by kernel_rfl,fun Γ vs w hr=>?_,?_⟩
  · cases hr with|cons h1 t=>cases t with|cons h2 t=>cases t;cases h1;cases h2;exact⟨_,Go.Lib.run_indexByteString _ _ w,.int _ _⟩
  · have:=h.go;simpa[AVal.strip]using this
instance{l:List UInt8}{c:Int}:XC vE 175 [.str l,.int .u8 c] (.int .i64 (Go.Lib.indexByte l (JK c))):=⟨fun h=>Abp h⟩
theorem AOa:(vE.P.funcs[262]?).isSome=true:=by kernel_rfl
theorem AOl{x:AVal}{st:St}{Q:AVal→St→Prop} (h:Gl (Q x.strip st)):UL vE 262 [x] st Q:=by
  refine .inl ⟨(vE.P.funcs[262]?).get AOa,Extern.AbiNoEscape.same,x,(Option.some_get AOa).symm,by kernel_rfl,by kernel_rfl,by kernel_rfl,by kernel_rfl,fun Γ vs w hr=>?_,?_⟩
  · cases hr with|cons h1 t=>cases t;exact⟨_,Go.Lib.run_noEscape w _,h1⟩
  · have:=h.go;simpa[AVal.strip]using this
instance{x:AVal}:XC vE 262 [x] x.strip:=⟨fun h=>AOl h⟩
theorem AOq:(vE.P.funcs[319]?).isSome=true:=by kernel_rfl
theorem Acj{l:List UInt8}{c:Int}{st:St}{Q:AVal→St→Prop} (h:Gl (Q (.int .i64 ((Go.Lib.countByte l (JK c):Nat):Int)) st)):UL vE 319 [.str l,.int .u8 c] st Q:=by
  refine .inl ⟨(vE.P.funcs[319]?).get AOq,Extern.BytealgCount.count,.int .i64 ((Go.Lib.countByte l (JK c):Nat):Int),(Option.some_get AOq).symm,by kernel_rfl,by kernel_rfl,by kernel_rfl,by kernel_rfl,fun Γ vs w hr=>?_,?_⟩
  · cases hr with|cons h1 t=>cases t with|cons h2 t=>cases t;cases h1;cases h2;exact⟨_,Go.Lib.run_countString _ _ w,.int _ _⟩
  · have:=h.go;simpa[AVal.strip]using this
instance{l:List UInt8}{c:Int}:XC vE 319 [.str l,.int .u8 c] (.int .i64 ((Go.Lib.countByte l (JK c):Nat):Int)):=⟨fun h=>Acj h⟩
theorem AOy:(vE.P.funcs[270]?).isSome=true:=by kernel_rfl
theorem AaO{k:Nat}{st:St}{Q:AVal→St→Prop} (h1:1≤k) (h2:k≤140737488355328) (h:Gl (Q (.trow 5 st.next k) {m:=(st.next,[.any])::st.m,next:=st.next+1})):UL vE 270 [.int .i64 k] st Q:=.inr ⟨(vE.P.funcs[270]?).get AOy, #[3],22,5,k,(Option.some_get AOy).symm,by kernel_rfl,by kernel_rfl,by kernel_rfl,by kernel_rfl,by kernel_rfl,h1,h2,rfl,h.go⟩
set_option linter.defProp false
def fxE:=And.intro (And.intro (And.intro (And.intro (And.intro (And.intro (And.intro (And.intro (And.intro (@ALT) (And.intro (@AbV) (@AMr))) (And.intro (And.intro (@ANX) (@ASk)) (And.intro (@AV9) (@AGb)))) (And.intro (And.intro (And.intro (@AXs) (@AWB)) (And.intro (@Acp) (@AcY))) (And.intro (And.intro (@APk) (@AQ2)) (And.intro (@AK7) (@AQt))))) (And.intro (And.intro (And.intro (And.intro (@AXZ) (@ANj)) (And.intro (@AMX) (@AHl))) (And.intro (And.intro (@AXd) (@AXV)) (And.intro (@AaW) (@AbH)))) (And.intro (And.intro (And.intro (@ANp) (@AVR)) (And.intro (@AaY) (@AWJ))) (And.intro (And.intro (@AVL) (@AJl)) (And.intro (@ADV) (@AGx)))))) (And.intro (And.intro (And.intro (And.intro (@AAm) (And.intro (@AWc) (@AVe))) (And.intro (And.intro (@AH7) (@AAc)) (And.intro (@AHB) (@Zt)))) (And.intro (And.intro (And.intro (@AaD) (@AIA)) (And.intro (@Aci) (@AYI))) (And.intro (And.intro (@AfW) (@AV2)) (And.intro (@AQS) (@ARH))))) (And.intro (And.intro (And.intro (And.intro (@Aa8) (@AGW)) (And.intro (@ASp) (@AGG))) (And.intro (And.intro (@Aa1) (@AJw)) (And.intro (@AGE) (@AI3)))) (And.intro (And.intro (And.intro (@AJ6) (@Aap)) (And.intro (@Acn) (@AQI))) (And.intro (And.intro (@AHM) (@AXn)) (And.intro (@AR0) (@AWG))))))) (And.intro (And.intro (And.intro (And.intro (And.intro (@AZH) (And.intro (@AIp) (@AI6))) (And.intro (And.intro (@APu) (@AR4)) (And.intro (@AUV) (@AJg)))) (And.intro (And.intro (And.intro (@ARZ) (@AJh)) (And.intro (@APo) (@ARJ))) (And.intro (And.intro (@AUn) (@AHL)) (And.intro (@Aco) (@AHw))))) (And.intro (And.intro (And.intro (And.intro (@AQo) (@AIj)) (And.intro (@AG3) (@AVH))) (And.intro (And.intro (@AYU) (@AIa)) (And.intro (@AHs) (@AHF)))) (And.intro (And.intro (And.intro (@AI2) (@AJI)) (And.intro (@AJO) (@AZA))) (And.intro (And.intro (@AXX) (@AXm)) (And.intro (@AGc) (@ACt)))))) (And.intro (And.intro (And.intro (And.intro (@AG2) (And.intro (@ABB) (@AQX))) (And.intro (And.intro (@AXC) (@AG9)) (And.intro (@ARP) (@AQr)))) (And.intro (And.intro (And.intro (@AX5) (@Aat)) (And.intro (@AR9) (@AQa))) (And.intro (And.intro (@AGH) (@AF0)) (And.intro (@AJD) (@AR6))))) (And.intro (And.intro (And.intro (And.intro (@ASC) (@AYc)) (And.intro (@ATL) (@AGF))) (And.intro (And.intro (@AHn) (@AHN)) (And.intro (@AYR) (@AXv)))) (And.intro (And.intro (And.intro (@AJE) (@ADO)) (And.intro (@AHc) (@ABN))) (And.intro (And.intro (@AJx) (@AAl)) (And.intro (@AJP) (@AEg)))))))) (And.intro (And.intro (And.intro (And.intro (And.intro (And.intro (@ASP) (And.intro (@APL) (@AJo))) (And.intro (And.intro (@AXD) (@AWe)) (And.intro (@AH5) (@AIf)))) (And.intro (And.intro (And.intro (@AHH) (@Ab3)) (And.intro (@AGn) (@AVa))) (And.intro (And.intro (@AXF) (@AHR)) (And.intro (@ABn) (@AJ5))))) (And.intro (And.intro (And.intro (And.intro (@ADR) (@AHx)) (And.intro (@ACh) (@AGj))) (And.intro (And.intro (@ASl) (@APi)) (And.intro (@AR1) (@AYs)))) (And.intro (And.intro (And.intro (@AIJ) (@AJ3)) (And.intro (@ACF) (@AIz))) (And.intro (And.intro (@AKA) (@AJu)) (And.intro (@AJk) (@AE9)))))) (And.intro (And.intro (And.intro (And.intro (@AHh) (And.intro (@AAe) (@AJY))) (And.intro (And.intro (@ACM) (@AJ9)) (And.intro (@AKD) (@AG6)))) (And.intro (And.intro (And.intro (@AVS) (@AU8)) (And.intro (@AJ1) (@AKB))) (And.intro (And.intro (@AJz) (@AIY)) (And.intro (@APD) (@AWT))))) (And.intro (And.intro (And.intro (And.intro (@ARd) (@AQw)) (And.intro (@AHe) (@AGA))) (And.intro (And.intro (@AJ4) (@ARz)) (And.intro (@AUY) (@ASq)))) (And.intro (And.intro (And.intro (@AP4) (@AF8)) (And.intro (@AH8) (@AG4))) (And.intro (And.intro (@AGk) (@AJr)) (And.intro (@AKF) (@AIS))))))) (And.intro (And.intro (And.intro (And.intro (And.intro (@AW9) (And.intro (@AI8) (@ASe))) (And.intro (And.intro (@AVi) (@AWM)) (And.intro (@AGO) (@ACk)))) (And.intro (And.intro (And.intro (@AI7) (@AI5)) (And.intro (@AJq) (@AIh))) (And.intro (And.intro (@AFM) (@AIP)) (And.intro (@AIL) (@AHX))))) (And.intro (And.intro (And.intro (And.intro (@AGZ) (@AH1)) (And.intro (@AGB) (@AJy))) (And.intro (And.intro (@ATM) (@ASA)) (And.intro (@AQk) (@AUx)))) (And.intro (And.intro (And.intro (@APM) (@AHT)) (And.intro (@AJJ) (@AIt))) (And.intro (And.intro (@AfF) (@AUU)) (And.intro (@Aa3) (@AH3)))))) (And.intro (And.intro (And.intro (And.intro (And.intro (@AO7) (@AeU)) (And.intro (@AHo) (@AJ2))) (And.intro (And.intro (@AKp) (@Afp)) (And.intro (@AGg) (@AIU)))) (And.intro (And.intro (And.intro (@AQd) (@AYa)) (And.intro (@ATT) (@ARw))) (And.intro (And.intro (@AGD) (@AGp)) (And.intro (@AGh) (@AJs))))) (And.intro (And.intro (And.intro (And.intro (@AJR) (@ANh)) (And.intro (@AS2) (@AML))) (And.intro (And.intro (@ALW) (@AKE)) (And.intro (@AHv) (@AIn)))) (And.intro (And.intro (And.intro (@AIM) (@AIG)) (And.intro (@AJQ) (@AHY))) (And.intro (And.intro (@AKH) (@AM8)) (And.intro (@AJH) (@AKG))))))))) (And.intro (And.intro (And.intro (And.intro (And.intro (And.intro (And.intro (@ANU) (And.intro (@ALZ) (@ARc))) (And.intro (And.intro (@AXM) (@ZC)) (And.intro (@AUk) (@AGi)))) (And.intro (And.intro (And.intro (@AbB) (@AJN)) (And.intro (@AId) (@AHG))) (And.intro (And.intro (@AI4) (@AHg)) (And.intro (@APf) (@APg))))) (And.intro (And.intro (And.intro (And.intro (@AWH) (@AQT)) (And.intro (@AXx) (@AY4))) (And.intro (And.intro (@AJB) (@AAX)) (And.intro (@AHa) (@ZR)))) (And.intro (And.intro (And.intro (@ARv) (@AUp)) (And.intro (@Ab1) (@AVq))) (And.intro (And.intro (@AV1) (@AHZ)) (And.intro (@AIO) (@AIg)))))) (And.intro (And.intro (And.intro (And.intro (@AJC) (And.intro (@Yp) (@AJK))) (And.intro (And.intro (@Yl) (@AGY)) (And.intro (@AWw) (@AX4)))) (And.intro (And.intro (And.intro (@AGT) (@AIl)) (And.intro (@AIv) (@AIe))) (And.intro (And.intro (@AAw) (@AGz)) (And.intro (@Y0) (@AHi))))) (And.intro (And.intro (And.intro (And.intro (@AHj) (@AJv)) (And.intro (@ABa) (@AHt))) (And.intro (And.intro (@ALt) (@ATY)) (And.intro (@ALg) (@ALU)))) (And.intro (And.intro (And.intro (@AKC) (@AG5)) (And.intro (@AIu) (@AGm))) (And.intro (And.intro (@AQJ) (@AV8)) (And.intro (@AH0) (@AIV))))))) (And.intro (And.intro (And.intro (And.intro (And.intro (@AJb) (And.intro (@Abi) (@ARQ))) (And.intro (And.intro (@AIy) (@AGN)) (And.intro (@AHd) (@AJm)))) (And.intro (And.intro (And.intro (@AZD) (@AYD)) (And.intro (@AQ9) (@AS3))) (And.intro (And.intro (@AHD) (@AQG)) (And.intro (@AYG) (@AKJ))))) (And.intro (And.intro (And.intro (And.intro (@ARI) (@APE)) (And.intro (@AVf) (@AF9))) (And.intro (And.intro (@AGy) (@AcN)) (And.intro (@Ab4) (@AJS)))) (And.intro (And.intro (And.intro (@ABv) (@AAj)) (And.intro (@ASj) (@APX))) (And.intro (And.intro (@AWQ) (@AGq)) (And.intro (@AIC) (@AHI)))))) (And.intro (And.intro (And.intro (And.intro (@AGs) (And.intro (@Zj) (@AIE))) (And.intro (And.intro (@AB6) (@AGX)) (And.intro (@Yq) (@AGS)))) (And.intro (And.intro (And.intro (@AM9) (@AQF)) (And.intro (@ALs) (@ANE))) (And.intro (And.intro (@AJT) (@ARg)) (And.intro (@APz) (@AG0))))) (And.intro (And.intro (And.intro (And.intro (@AHU) (@ANH)) (And.intro (@APr) (@AK3))) (And.intro (And.intro (@ANZ) (@AH2)) (And.intro (@AF5) (@Zo)))) (And.intro (And.intro (And.intro (@ANL) (@ALf)) (And.intro (@ALN) (@ATO))) (And.intro (And.intro (@ALS) (@Ze)) (And.intro (@AJ8) (@AJa)))))))) (And.intro (And.intro (And.intro (And.intro (And.intro (And.intro (@ADE) (And.intro (@AD5) (@ATA))) (And.intro (And.intro (@APj) (@ARV)) (And.intro (@AFU) (@Xb)))) (And.intro (And.intro (And.intro (@YU) (@AEt)) (And.intro (@AA1) (@Zw))) (And.intro (And.intro (@ACR) (@AMl)) (And.intro (@ASM) (@AKy))))) (And.intro (And.intro (And.intro (And.intro (@AK1) (@AUj)) (And.intro (@AFQ) (@AUr))) (And.intro (And.intro (@AKt) (@AL6)) (And.intro (@AEX) (@ABi)))) (And.intro (And.intro (And.intro (@AAb) (@YQ)) (And.intro (@Yz) (@AMi))) (And.intro (And.intro (@APa) (@AMD)) (And.intro (@AMT) (@AB1)))))) (And.intro (And.intro (And.intro (And.intro (@Zh) (And.intro (@AFR) (@AEC))) (And.intro (And.intro (@AEe) (@AEl)) (And.intro (@AEz) (@AVr)))) (And.intro (And.intro (And.intro (@AbR) (@ADN)) (And.intro (@Ade) (@AJV))) (And.intro (And.intro (@ABV) (@ADf)) (And.intro (@Zy) (@AAG))))) (And.intro (And.intro (And.intro (And.intro (@AFJ) (@ABO)) (And.intro (@Y5) (@ZO))) (And.intro (And.intro (@AA8) (@Zb)) (And.intro (@AD6) (@Zl)))) (And.intro (And.intro (And.intro (@AFc) (@Yd)) (And.intro (@ADr) (@AIK))) (And.intro (And.intro (@ADp) (@AHk)) (And.intro (@AEQ) (@AHE))))))) (And.intro (And.intro (And.intro (And.intro (And.intro (@ACU) (And.intro (@AHu) (@ABr))) (And.intro (And.intro (@ATC) (@ARy)) (And.intro (@AEp) (@Yh)))) (And.intro (And.intro (And.intro (@ZX) (@ABg)) (And.intro (@AFF) (@W9))) (And.intro (And.intro (@ACX) (@XZ)) (And.intro (@Z6) (@AAC))))) (And.intro (And.intro (And.intro (And.intro (@AET) (@ADC)) (And.intro (@ACj) (@ADo))) (And.intro (And.intro (@ARB) (@ADz)) (And.intro (@AC2) (@AAK)))) (And.intro (And.intro (And.intro (@AFg) (@YN)) (And.intro (@AM0) (@AQp))) (And.intro (And.intro (@Y4) (@ANt)) (And.intro (@AM6) (@AEn)))))) (And.intro (And.intro (And.intro (And.intro (And.intro (@AEx) (@AE5)) (And.intro (@AQ8) (@ASQ))) (And.intro (And.intro (@AWL) (@AGR)) (And.intro (@Yt) (@AX3)))) (And.intro (And.intro (And.intro (@AYz) (@AEm)) (And.intro (@Aaw) (@AYS))) (And.intro (And.intro (@YT) (@ADu)) (And.intro (@APx) (@AQs))))) (And.intro (And.intro (And.intro (And.intro (@AW7) (@ASO)) (And.intro (@AEk) (@ADJ))) (And.intro (And.intro (@AAH) (@ACw)) (And.intro (@AVj) (@AVh)))) (And.intro (And.intro (And.intro (@AGd) (@AEF)) (And.intro (@AJW) (@ZA))) (And.intro (And.intro (@AMW) (@ATX)) (And.intro (@ACp) (@ALv)))))))))) (And.intro (And.intro (And.intro (And.intro (And.intro (And.intro (And.intro (And.intro (@ALz) (And.intro (@AFH) (@ADj))) (And.intro (And.intro (@AFL) (@Z8)) (And.intro (@AO6) (@AQU)))) (And.intro (And.intro (And.intro (@AAr) (@ARN)) (And.intro (@ARY) (@ANV))) (And.intro (And.intro (@ABz) (@ANm)) (And.intro (@ASd) (@AK6))))) (And.intro (And.intro (And.intro (And.intro (@ALO) (@Yi)) (And.intro (@AA3) (@AAk))) (And.intro (And.intro (@ADF) (@ADk)) (And.intro (@ANo) (@AER)))) (And.intro (And.intro (And.intro (@ADZ) (@ABx)) (And.intro (@ACx) (@VU))) (And.intro (And.intro (@AEV) (@ABU)) (And.intro (@AFO) (@ASW)))))) (And.intro (And.intro (And.intro (And.intro (@AEP) (And.intro (@ANn) (@AMR))) (And.intro (And.intro (@AQK) (@AEa)) (And.intro (@AVz) (@YJ)))) (And.intro (And.intro (And.intro (@AXf) (@AB5)) (And.intro (@APC) (@AFX))) (And.intro (And.intro (@ABK) (@ANW)) (And.intro (@ANq) (@ATR))))) (And.intro (And.intro (And.intro (And.intro (@AVp) (@AY0)) (And.intro (@ADH) (@Zg))) (And.intro (And.intro (@AM5) (@AKh)) (And.intro (@AAQ) (@ACQ)))) (And.intro (And.intro (And.intro (@Zc) (@AEo)) (And.intro (@AFV) (@AFb))) (And.intro (And.intro (@AFZ) (@AFW)) (And.intro (@ABP) (@AEW))))))) (And.intro (And.intro (And.intro (And.intro (And.intro (@ABX) (And.intro (@Zq) (@YR))) (And.intro (And.intro (@ASz) (@AR5)) (And.intro (@ADb) (@XO)))) (And.intro (And.intro (And.intro (@AFh) (@AFI)) (And.intro (@ZQ) (@AMV))) (And.intro (And.intro (@Afr) (@ASB)) (And.intro (@AQx) (@AAO))))) (And.intro (And.intro (And.intro (And.intro (@ZU) (@AFT)) (And.intro (@ZH) (@AB3))) (And.intro (And.intro (@Yj) (@ACm)) (And.intro (@AAh) (@AM4)))) (And.intro (And.intro (And.intro (@ALu) (@AMB)) (And.intro (@ACb) (@AAy))) (And.intro (And.intro (@Y8) (@ABQ)) (And.intro (@Z9) (@AAs)))))) (And.intro (And.intro (And.intro (And.intro (@AD1) (And.intro (@Yn) (@AFD))) (And.intro (And.intro (@AEA) (@AEu)) (And.intro (@ZP) (@YL)))) (And.intro (And.intro (And.intro (@YY) (@ACg)) (And.intro (@AAU) (@ADB))) (And.intro (And.intro (@ADP) (@ASY)) (And.intro (@APR) (@Y7))))) (And.intro (And.intro (And.intro (And.intro (@WN) (@ACr)) (And.intro (@XE) (@AUz))) (And.intro (And.intro (@AE0) (@Zd)) (And.intro (@Wh) (@AD2)))) (And.intro (And.intro (And.intro (@Ws) (@AAT)) (And.intro (@ABq) (@ABF))) (And.intro (And.intro (@ASo) (@ARO)) (And.intro (@ACK) (@WV)))))))) (And.intro (And.intro (And.intro (And.intro (And.intro (And.intro (@ACY) (And.intro (@Wp) (@ACi))) (And.intro (And.intro (@XX) (@AHJ)) (And.intro (@AXr) (@AXL)))) (And.intro (And.intro (And.intro (@AHr) (@ADv)) (And.intro (@ABk) (@AEh))) (And.intro (And.intro (@ANB) (@ALQ)) (And.intro (@AQC) (@AFG))))) (And.intro (And.intro (And.intro (And.intro (@Y2) (@AUi)) (And.intro (@AB0) (@AMn))) (And.intro (And.intro (@ABd) (@AcG)) (And.intro (@AH9) (@Abo)))) (And.intro (And.intro (And.intro (@AAY) (@AFC)) (And.intro (@AAN) (@ABf))) (And.intro (And.intro (@AAd) (@ASI)) (And.intro (@AQz) (@AQl)))))) (And.intro (And.intro (And.intro (And.intro (@ASh) (And.intro (@ADM) (@Wi))) (And.intro (And.intro (@AAp) (@Wo)) (And.intro (@YM) (@Z0)))) (And.intro (And.intro (And.intro (@AD9) (@AAf)) (And.intro (@ZK) (@XK))) (And.intro (And.intro (@ADL) (@WP)) (And.intro (@AEc) (@WW))))) (And.intro (And.intro (And.intro (And.intro (@AAI) (@ADG)) (And.intro (@Zu) (@AEr))) (And.intro (And.intro (@AED) (@Zx)) (And.intro (@ADx) (@Y9)))) (And.intro (And.intro (And.intro (@ABZ) (@AES)) (And.intro (@ALC) (@AKx))) (And.intro (And.intro (@AO9) (@AAt)) (And.intro (@AQ5) (@ATP))))))) (And.intro (And.intro (And.intro (And.intro (And.intro (@ADq) (And.intro (@XI) (@ALn))) (And.intro (And.intro (@APe) (@AD3)) (And.intro (@AE7) (@ALj)))) (And.intro (And.intro (And.intro (@AM1) (@ABH)) (And.intro (@ADT) (@ABC))) (And.intro (And.intro (@YV) (@ARs)) (And.intro (@AEd) (@ACP))))) (And.intro (And.intro (And.intro (And.intro (@AO4) (@AFS)) (And.intro (@ZT) (@Yf))) (And.intro (And.intro (@AFA) (@AUP)) (And.intro (@Ym) (@ABS)))) (And.intro (And.intro (And.intro (@ZW) (@ACW)) (And.intro (@Yg) (@ABj))) (And.intro (And.intro (@AC0) (@Abq)) (And.intro (@ATQ) (@AY6)))))) (And.intro (And.intro (And.intro (And.intro (And.intro (@ACV) (@AAn)) (And.intro (@Yw) (@AMg))) (And.intro (And.intro (@ARn) (@ABY)) (And.intro (@ACf) (@ZE)))) (And.intro (And.intro (And.intro (@ABA) (@AFE)) (And.intro (@ACv) (@ACe))) (And.intro (And.intro (@AE4) (@AAg)) (And.intro (@ABT) (@ACA))))) (And.intro (And.intro (And.intro (And.intro (@AB2) (@ZN)) (And.intro (@ADU) (@ACE))) (And.intro (And.intro (@ABw) (@ACN)) (And.intro (@ABu) (@AEY)))) (And.intro (And.intro (And.intro (@Zz) (@AJA)) (And.intro (@AEv) (@AGa))) (And.intro (And.intro (@AC4) (@YH)) (And.intro (@AFK) (@AAu))))))))) (And.intro (And.intro (And.intro (And.intro (And.intro (And.intro (And.intro (@YS) (And.intro (@ADK) (@ADa))) (And.intro (And.intro (@AEH) (@AAZ)) (And.intro (@Qf) (@ALc)))) (And.intro (And.intro (And.intro (@AQm) (@Cy)) (And.intro (@ADY) (@Ye))) (And.intro (And.intro (@ACq) (@ACo)) (And.intro (@Qz) (@Yy))))) (And.intro (And.intro (And.intro (And.intro (@AAE) (@ALh)) (And.intro (@ALp) (@APF))) (And.intro (And.intro (@Y6) (@Wt)) (And.intro (@AAP) (@WO)))) (And.intro (And.intro (And.intro (@AE3) (@AEq)) (And.intro (@AD7) (@AEJ))) (And.intro (And.intro (@AKl) (@AKs)) (And.intro (@AO3) (@ATF)))))) (And.intro (And.intro (And.intro (And.intro (@ANT) (And.intro (@AMm) (@Rs))) (And.intro (And.intro (@Rq) (@AC6)) (And.intro (@ALx) (@AKi)))) (And.intro (And.intro (And.intro (@Ry) (@SF)) (And.intro (@AAW) (@ADQ))) (And.intro (And.intro (@AEB) (@ADg)) (And.intro (@Y3) (@AEO))))) (And.intro (And.intro (And.intro (And.intro (@AEs) (@ADX)) (And.intro (@AYb) (@AL4))) (And.intro (And.intro (@AS7) (@APb)) (And.intro (@APH) (@ACc)))) (And.intro (And.intro (And.intro (@XY) (@AAR)) (And.intro (@XF) (@AD0))) (And.intro (And.intro (@AWC) (@AK4)) (And.intro (@Ya) (@AYY))))))) (And.intro (And.intro (And.intro (And.intro (And.intro (@ARh) (And.intro (@AK2) (@ANz))) (And.intro (And.intro (@AMw) (@ASc)) (And.intro (@AMv) (@AEG)))) (And.intro (And.intro (And.intro (@YO) (@AO2)) (And.intro (@AA9) (@AMJ))) (And.intro (And.intro (@AMq) (@AMF)) (And.intro (@ABG) (@ARj))))) (And.intro (And.intro (And.intro (And.intro (@AWk) (@AKk)) (And.intro (@ASV) (@ZF))) (And.intro (And.intro (@AE8) (@ZI)) (And.intro (@AMM) (@ADs)))) (And.intro (And.intro (And.intro (@ABl) (@AEw)) (And.intro (@AFd) (@AP3))) (And.intro (And.intro (@Yv) (@AV4)) (And.intro (@ATN) (@AS1)))))) (And.intro (And.intro (And.intro (And.intro (@AAD) (And.intro (@WT) (@ACH))) (And.intro (And.intro (@Wy) (@YX)) (And.intro (@WM) (@ANa)))) (And.intro (And.intro (And.intro (@AQM) (@ALR)) (And.intro (@AK9) (@ABR))) (And.intro (And.intro (@ZG) (@AQW)) (And.intro (@AHb) (@AII))))) (And.intro (And.intro (And.intro (And.intro (@APY) (@ASi)) (And.intro (@AAV) (@Wj))) (And.intro (And.intro (@ZL) (@AAx)) (And.intro (@YG) (@AAM)))) (And.intro (And.intro (And.intro (@Zi) (@ABo)) (And.intro (@AAF) (@Yo))) (And.intro (And.intro (@AAz) (@ADl)) (And.intro (@ADd) (@ADW)))))))) (And.intro (And.intro (And.intro (And.intro (And.intro (And.intro (@ACn) (And.intro (@ABs) (@ARq))) (And.intro (And.intro (@APm) (@ABb)) (And.intro (@XU) (@AEZ)))) (And.intro (And.intro (And.intro (@Xd) (@VW)) (And.intro (@AFi) (@Vu))) (And.intro (And.intro (@AUT) (@ABD)) (And.intro (@ASn) (@AXJ))))) (And.intro (And.intro (And.intro (And.intro (@AFf) (@ACZ)) (And.intro (@ADw) (@ACy))) (And.intro (And.intro (@AAS) (@ACC)) (And.intro (@ADc) (@AC5)))) (And.intro (And.intro (And.intro (@AIi) (@Yr)) (And.intro (@AAA) (@ALm))) (And.intro (And.intro (@Ad0) (@AF6)) (And.intro (@ABE) (@AIR)))))) (And.intro (And.intro (And.intro (And.intro (@ABm) (And.intro (@AGo) (@AEM))) (And.intro (And.intro (@ABp) (@AQq)) (And.intro (@ATW) (@Zm)))) (And.intro (And.intro (And.intro (@XB) (@AEI)) (And.intro (@YW) (@ADm))) (And.intro (And.intro (@ABh) (@ACa)) (And.intro (@AL5) (@AFB))))) (And.intro (And.intro (And.intro (And.intro (@ADy) (@AB4)) (And.intro (@ADh) (@AEj))) (And.intro (And.intro (@Yb) (@ACu)) (And.intro (@AB8) (@Yc)))) (And.intro (And.intro (And.intro (@AA0) (@AEb)) (And.intro (@AE1) (@ABJ))) (And.intro (And.intro (@AC8) (@AGt)) (And.intro (@AGI) (@ADt))))))) (And.intro (And.intro (And.intro (And.intro (And.intro (@ANK) (And.intro (@ANu) (@AQA))) (And.intro (And.intro (@AMQ) (@ALk)) (And.intro (@ASG) (@Zn)))) (And.intro (And.intro (And.intro (@AAa) (@YZ)) (And.intro (@YK) (@Zr))) (And.intro (And.intro (@AFP) (@ACJ)) (And.intro (@Yx) (@AMY))))) (And.intro (And.intro (And.intro (And.intro (@ALy) (@ALA)) (And.intro (@ANb) (@ATJ))) (And.intro (And.intro (@AMo) (@AA7)) (And.intro (@AEE) (@AQf)))) (And.intro (And.intro (And.intro (@AQn) (@AD4)) (And.intro (@Xe) (@AB9))) (And.intro (And.intro (@WX) (@ARA)) (And.intro (@AR8) (@ZZ)))))) (And.intro (And.intro (And.intro (And.intro (And.intro (@Wv) (@ACs)) (And.intro (@Wz) (@AEi))) (And.intro (And.intro (@XH) (@ABW)) (And.intro (@XN) (@AEN)))) (And.intro (And.intro (And.intro (@WS) (@ASE)) (And.intro (@ARK) (@ASH))) (And.intro (And.intro (@ADi) (@Wq)) (And.intro (@Zv) (@WQ))))) (And.intro (And.intro (And.intro (And.intro (@AFa) (@XW)) (And.intro (@API) (@APy))) (And.intro (And.intro (@Zf) (@XQ)) (And.intro (@AAJ) (@Wu)))) (And.intro (And.intro (And.intro (@ACI) (@XJ)) (And.intro (@YP) (@XA))) (And.intro (And.intro (@Ag6) (@Agp)) (And.intro (@AgV) (@AgZ))))))))))
def vm:=And.intro vmC (And.intro fxE eE)
end Go.Proofs.YtcahkpfjpeomoaaGreatDoor
