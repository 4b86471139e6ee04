import Derived.Test.YtjgdhjpafjpjgaaGreatDoorChecked
import Derived.Test.YtjgdhjpafjpjgaaGreatDoorVM2
import Derived.Test.YtjgdhjpafjpjgaaGreatDoorTy
import Derived.KernelRfl
set_option linter.unusedVariables false
namespace Go.Proofs.YtjgdhjpafjpjgaaGreatDoor
open Go.VM
noncomputable def vE:Env:=⟨Tryz.prog,vT⟩
theorem Au:vE.P.follows .mixedOrders=true:=by kernel_rfl
theorem AGa:callable vE.P 1=false:=by kernel_rfl
theorem ASI:GR vE.P 4=0:=by kernel_rfl
theorem AHs:callable vE.P 7=true:=by kernel_rfl
theorem ALU:A7 vE.P 23=true:=by kernel_rfl
theorem AKs:Bj vE.P 23=true:=by kernel_rfl
theorem AMS:CQ vE.P 23=some 4:=by kernel_rfl
theorem AHQ:callable vE.P 8=true:=by kernel_rfl
theorem AGI:callable vE.P 9=true:=by kernel_rfl
theorem ASJ:KN vE.P 28=some (4,48):=by kernel_rfl
theorem AFQ:Ab vE.P 28 0=23:=by kernel_rfl
theorem ACS:CS vE.P 28=true:=by kernel_rfl
theorem AQk:GR vE.P 3=0:=by kernel_rfl
theorem AId:Cc vE.P 28=some 4:=by kernel_rfl
theorem AJ3: ∀n,Da vE.P 23 n=some [.int .i64 0,.str [],.str [],.int .i64 0]:=by intros;kernel_rfl
theorem ACs:callable vE.P 10=true:=by kernel_rfl
theorem ALH: ∀n,Da vE.P 30 n=some [.str [],.int .i64 0,.str [],.str [],.str [],.bool false,.bool false]:=by intros;kernel_rfl
theorem AOD:CQ vE.P 30=some 7:=by kernel_rfl
theorem AD7:callable vE.P 11=true:=by kernel_rfl
theorem ADM:callable vE.P 12=true:=by kernel_rfl
theorem AEI:callable vE.P 13=true:=by kernel_rfl
theorem AE5:callable vE.P 14=true:=by kernel_rfl
theorem ACl:callable vE.P 15=true:=by kernel_rfl
theorem AI6:A7 vE.P 30=true:=by kernel_rfl
theorem AKR:Bj vE.P 30=true:=by kernel_rfl
theorem AG8:vE.P.eqGuardType vE.P.depth 30=false:=by kernel_rfl
theorem ATt: ∀(a0 b0:List UInt8) (a1 b1:Int) (a2 b2:List UInt8) (a3 b3:List UInt8) (a4 b4:List UInt8) (a5 b5:Bool) (a6 b6:Bool),eqA vE.P 10000 30 (.agg [.str a0,.int .i64 a1,.str a2,.str a3,.str a4,.bool a5,.bool a6]) (.agg [.str b0,.int .i64 b1,.str b2,.str b3,.str b4,.bool b5,.bool b6])=some (a0==b0&&(a1==b1&&(a2==b2&&(a3==b3&&(a4==b4&&(a5==b5&&(a6==b6&&true))))))):=by intros;kernel_rfl
theorem AEl:callable vE.P 16=true:=by kernel_rfl
theorem ANk:Cb vE.P 9=true:=by kernel_rfl
theorem ADY:callable vE.P 18=true:=by kernel_rfl
theorem AFH:callable vE.P 19=true:=by kernel_rfl
theorem ABz:callable vE.P 17=true:=by kernel_rfl
theorem ADo:Ah vE.P 42 2=some (3,1,false):=by kernel_rfl
theorem APP:A7 vE.P 9=true:=by kernel_rfl
theorem APc:Bj vE.P 9=false:=by kernel_rfl
theorem ASG:CQ vE.P 9=some 1:=by kernel_rfl
theorem ABx:Ah vE.P 42 1=some (2,1,false):=by kernel_rfl
theorem AEd:Ah vE.P 42 3=some (4,1,false):=by kernel_rfl
theorem ADd:Ah vE.P 42 0=some (0,2,true):=by kernel_rfl
theorem AC8:Ah vE.P 40 1=some (1,1,false):=by kernel_rfl
theorem ADU:Ah vE.P 40 0=some (0,1,false):=by kernel_rfl
theorem ACw:callable vE.P 20=true:=by kernel_rfl
theorem ALG: ∀n,Da vE.P 46 n=some [.int .i64 0,.str [],.slice 1 [] true,.slice 4 [] true]:=by intros;kernel_rfl
theorem AMa:CQ vE.P 46=some 4:=by kernel_rfl
theorem AQ5:GR vE.P 9=0:=by kernel_rfl
theorem AQ6:GR vE.P 0=0:=by kernel_rfl
theorem APS:FB vE.P 40=some (.agg [.str [],.str []]):=by kernel_rfl
theorem AMO:(El vE.P 40).isSome=true:=by kernel_rfl
theorem AEX:Ab vE.P 40 0=9:=by kernel_rfl
theorem ZX:Az vE.P 40 0=some (0,1):=by kernel_rfl
theorem AFP:Ab vE.P 40 1=9:=by kernel_rfl
theorem XF:Az vE.P 40 1=some (1,1):=by kernel_rfl
theorem AEV:Ah vE.P 42 5=some (6,1,false):=by kernel_rfl
theorem AO4:A7 vE.P 4=true:=by kernel_rfl
theorem AMk:Bj vE.P 4=false:=by kernel_rfl
theorem ARD:CQ vE.P 4=some 1:=by kernel_rfl
theorem APV:FB vE.P 42=some (.agg [.str [],.str [],.str [],.str [],.str [],.bool false,.bool false]):=by kernel_rfl
theorem APa:(El vE.P 42).isSome=true:=by kernel_rfl
theorem ABm:Ab vE.P 42 0=40:=by kernel_rfl
theorem Xy:Az vE.P 42 0=some (0,2):=by kernel_rfl
theorem AD1:Ab vE.P 42 2=9:=by kernel_rfl
theorem AAQ:Az vE.P 42 2=some (3,1):=by kernel_rfl
theorem ACD:Ab vE.P 42 4=4:=by kernel_rfl
theorem XL:Az vE.P 42 4=some (5,1):=by kernel_rfl
theorem AE4:Ab vE.P 42 3=9:=by kernel_rfl
theorem AAu:Az vE.P 42 3=some (4,1):=by kernel_rfl
theorem AEA:Ab vE.P 42 5=4:=by kernel_rfl
theorem YT:Az vE.P 42 5=some (6,1):=by kernel_rfl
theorem AJ8: ∀n,Da vE.P 42 n=some [.str [],.str [],.str [],.str [],.str [],.bool false,.bool false]:=by intros;kernel_rfl
theorem ANj:CQ vE.P 42=some 7:=by kernel_rfl
theorem ALr:A7 vE.P 46=true:=by kernel_rfl
theorem AKr:Bj vE.P 46=true:=by kernel_rfl
theorem AI0:A7 vE.P 42=true:=by kernel_rfl
theorem ALO:Bj vE.P 42=true:=by kernel_rfl
theorem AER:callable vE.P 21=true:=by kernel_rfl
theorem AB7:callable vE.P 22=true:=by kernel_rfl
theorem AJv:A7 vE.P 55=true:=by kernel_rfl
theorem AJy:Bj vE.P 55=true:=by kernel_rfl
theorem ANv:CQ vE.P 55=some 4:=by kernel_rfl
theorem ABo:callable vE.P 23=true:=by kernel_rfl
theorem AFh:callable vE.P 25=true:=by kernel_rfl
theorem ADy:callable vE.P 26=true:=by kernel_rfl
theorem ACt:callable vE.P 24=true:=by kernel_rfl
theorem ACW:callable vE.P 27=true:=by kernel_rfl
theorem AOz:FB vE.P 23=some (.agg [.int .i64 0,.str [],.str [],.int .i64 0]):=by kernel_rfl
theorem AOK:(El vE.P 23).isSome=true:=by kernel_rfl
theorem AMA:GR vE.P 31=0:=by kernel_rfl
theorem AEE:callable vE.P 28=true:=by kernel_rfl
theorem AFD:Ah vE.P 23 1=some (1,1,false):=by kernel_rfl
theorem AFk:Ah vE.P 23 2=some (2,1,false):=by kernel_rfl
theorem AEL:callable vE.P 31=true:=by kernel_rfl
theorem AFB:callable vE.P 30=true:=by kernel_rfl
theorem ACH:callable vE.P 29=true:=by kernel_rfl
theorem ACg:callable vE.P 32=true:=by kernel_rfl
theorem APf:FB vE.P 30=some (.agg [.str [],.int .i64 0,.str [],.str [],.str [],.bool false,.bool false]):=by kernel_rfl
theorem AMw:(El vE.P 30).isSome=true:=by kernel_rfl
theorem ADi:callable vE.P 33=true:=by kernel_rfl
theorem AC0:Ah vE.P 30 3=some (3,1,false):=by kernel_rfl
theorem ADx:Ah vE.P 30 5=some (5,1,false):=by kernel_rfl
theorem AFM:callable vE.P 34=true:=by kernel_rfl
theorem AFm:callable vE.P 35=true:=by kernel_rfl
theorem AEQ:callable vE.P 36=true:=by kernel_rfl
theorem ADb:CS vE.P 36=true:=by kernel_rfl
theorem ALk:Cc vE.P 36=some 2:=by kernel_rfl
theorem ALM:A7 vE.P 70=true:=by kernel_rfl
theorem AKb:Bj vE.P 70=true:=by kernel_rfl
theorem AMF:CQ vE.P 70=some 2:=by kernel_rfl
theorem AHx:vE.P.eqGuardType vE.P.depth 70=false:=by kernel_rfl
theorem ASn: ∀(a0 b0:List UInt8) (a1 b1:List UInt8),eqA vE.P 10000 70 (.agg [.str a0,.str a1]) (.agg [.str b0,.str b1])=some (a0==b0&&(a1==b1&&true)):=by intros;kernel_rfl
theorem AOg:GR vE.P 36=2:=by kernel_rfl
theorem AKZ: ∀n,Da vE.P 36 n=some [.slice 2 [] true]:=by intros;kernel_rfl
theorem AEr:callable vE.P 37=true:=by kernel_rfl
theorem AFT:callable vE.P 38=true:=by kernel_rfl
theorem AEi:callable vE.P 39=true:=by kernel_rfl
theorem AKv:A7 vE.P 36=true:=by kernel_rfl
theorem AJL:Bj vE.P 36=false:=by kernel_rfl
theorem AM0:CQ vE.P 36=some 1:=by kernel_rfl
theorem ANF:FB vE.P 70=some (.agg [.str [],.str []]):=by kernel_rfl
theorem AMo:(El vE.P 70).isSome=true:=by kernel_rfl
theorem ADR:Ab vE.P 70 0=9:=by kernel_rfl
theorem WW:Az vE.P 70 0=some (0,1):=by kernel_rfl
theorem ACB:Ab vE.P 70 1=9:=by kernel_rfl
theorem YQ:Az vE.P 70 1=some (1,1):=by kernel_rfl
theorem AR7:KN vE.P 36=some (2,32):=by kernel_rfl
theorem ACv:Ab vE.P 36 0=70:=by kernel_rfl
theorem AQr:IA vE.P 36=none:=by kernel_rfl
theorem AQg:GR vE.P 5=0:=by kernel_rfl
theorem ACE:callable vE.P 40=true:=by kernel_rfl
theorem AEH:CS vE.P 43=true:=by kernel_rfl
theorem AJH:Cc vE.P 43=some 1:=by kernel_rfl
theorem AEB:callable vE.P 41=true:=by kernel_rfl
theorem ABp:callable vE.P 43=true:=by kernel_rfl
theorem AEY:callable vE.P 42=true:=by kernel_rfl
theorem AN2:FB vE.P 46=some (.agg [.int .i64 0,.str [],.slice 1 [] true,.slice 4 [] true]):=by kernel_rfl
theorem ANE:(El vE.P 46).isSome=true:=by kernel_rfl
theorem AOQ:FB vE.P 82=some (.agg [.str [],.int .i64 0,.int .i64 0,.int .i64 0,.int .i64 0]):=by kernel_rfl
theorem AOh:(El vE.P 82).isSome=true:=by kernel_rfl
theorem AFE:Ab vE.P 82 0=9:=by kernel_rfl
theorem Zo:Az vE.P 82 0=some (0,1):=by kernel_rfl
theorem ABu:callable vE.P 45=true:=by kernel_rfl
theorem ADj:callable vE.P 44=true:=by kernel_rfl
theorem ALd: ∀n,Da vE.P 85 n=some [.int .i64 0,.str [],.int .i64 0]:=by intros;kernel_rfl
theorem AN3:CQ vE.P 85=some 3:=by kernel_rfl
theorem AEm:Ah vE.P 82 3=some (3,1,false):=by kernel_rfl
theorem AKC:A7 vE.P 31=true:=by kernel_rfl
theorem AKN:Bj vE.P 31=false:=by kernel_rfl
theorem ANl:CQ vE.P 31=some 1:=by kernel_rfl
theorem ADN:Ah vE.P 85 0=some (0,1,false):=by kernel_rfl
theorem APO:A7 vE.P 3=true:=by kernel_rfl
theorem ANH:Bj vE.P 3=false:=by kernel_rfl
theorem AQG:CQ vE.P 3=some 1:=by kernel_rfl
theorem ADk:Ah vE.P 85 2=some (2,1,false):=by kernel_rfl
theorem ABl:callable vE.P 46=true:=by kernel_rfl
theorem ADc:Ah vE.P 82 4=some (4,1,false):=by kernel_rfl
theorem AEW:callable vE.P 47=true:=by kernel_rfl
theorem ALe: ∀n,Da vE.P 91 n=some [.str [],.slice 1 [] true,.slice 1 [] true,.slice 3 [] true,.slice 3 [] true]:=by intros;kernel_rfl
theorem APk:CQ vE.P 91=some 5:=by kernel_rfl
theorem ADA:callable vE.P 48=true:=by kernel_rfl
theorem ACG:callable vE.P 49=true:=by kernel_rfl
theorem AJB:A7 vE.P 91=true:=by kernel_rfl
theorem AKt:Bj vE.P 91=true:=by kernel_rfl
theorem AJ2:A7 vE.P 40=true:=by kernel_rfl
theorem AKu:Bj vE.P 40=true:=by kernel_rfl
theorem AMX:CQ vE.P 40=some 2:=by kernel_rfl
theorem AC2:callable vE.P 51=true:=by kernel_rfl
theorem AB0:callable vE.P 50=true:=by kernel_rfl
theorem ACc:callable vE.P 52=true:=by kernel_rfl
theorem ACX:callable vE.P 53=true:=by kernel_rfl
theorem AD9:Ah vE.P 30 6=some (6,1,false):=by kernel_rfl
theorem ACP:Ah vE.P 30 4=some (4,1,false):=by kernel_rfl
theorem ACZ:callable vE.P 54=true:=by kernel_rfl
theorem ACa:callable vE.P 56=true:=by kernel_rfl
theorem AEu:callable vE.P 55=true:=by kernel_rfl
theorem ADf:Ah vE.P 91 4=some (4,1,false):=by kernel_rfl
theorem ALF:A7 vE.P 89=true:=by kernel_rfl
theorem AJZ:Bj vE.P 89=false:=by kernel_rfl
theorem AM9:CQ vE.P 89=some 1:=by kernel_rfl
theorem ABk:CS vE.P 89=true:=by kernel_rfl
theorem AKy:Cc vE.P 89=some 3:=by kernel_rfl
theorem AGW:A7 vE.P 103=true:=by kernel_rfl
theorem AGk:Bj vE.P 103=true:=by kernel_rfl
theorem AIv:CQ vE.P 103=some 3:=by kernel_rfl
theorem AHA: ∀n,Da vE.P 103 n=some [.str [],.slice 1 [] true,.slice 1 [] true]:=by intros;kernel_rfl
theorem WM:Ah vE.P 103 0=some (0,1,false):=by kernel_rfl
theorem AED:callable vE.P 57=true:=by kernel_rfl
theorem ABi:callable vE.P 58=true:=by kernel_rfl
theorem ADO:Ah vE.P 55 0=some (0,1,false):=by kernel_rfl
theorem AE7:Ah vE.P 55 1=some (1,1,false):=by kernel_rfl
theorem AJq:A7 vE.P 43=true:=by kernel_rfl
theorem ALg:Bj vE.P 43=false:=by kernel_rfl
theorem ANW:CQ vE.P 43=some 1:=by kernel_rfl
theorem AFN:Ah vE.P 55 3=some (3,1,false):=by kernel_rfl
theorem AJX:A7 vE.P 53=true:=by kernel_rfl
theorem ALV:Bj vE.P 53=false:=by kernel_rfl
theorem APL:CQ vE.P 53=some 1:=by kernel_rfl
theorem ACi:CS vE.P 53=true:=by kernel_rfl
theorem ADv:Ah vE.P 55 2=some (2,1,false):=by kernel_rfl
theorem AJe:A7 vE.P 52=true:=by kernel_rfl
theorem AJW:Bj vE.P 52=false:=by kernel_rfl
theorem ANG:CQ vE.P 52=some 1:=by kernel_rfl
theorem AFS:CS vE.P 52=true:=by kernel_rfl
theorem AK5:Cc vE.P 53=some 6:=by kernel_rfl
theorem AHX:A7 vE.P 106=true:=by kernel_rfl
theorem AGz:Bj vE.P 106=true:=by kernel_rfl
theorem ALn:CQ vE.P 106=some 6:=by kernel_rfl
theorem AHt: ∀n,Da vE.P 106 n=some [.str [],.str [],.str [],.str [],.slice 3 [] true,.slice 3 [] true]:=by intros;kernel_rfl
theorem XJ:Ah vE.P 106 0=some (0,1,false):=by kernel_rfl
theorem Yy:Ah vE.P 106 1=some (1,1,false):=by kernel_rfl
theorem Xm:Ah vE.P 106 2=some (2,1,false):=by kernel_rfl
theorem XI:Ah vE.P 106 3=some (3,1,false):=by kernel_rfl
theorem AAO:Ah vE.P 106 4=some (4,1,false):=by kernel_rfl
theorem Yn:Ah vE.P 106 5=some (5,1,false):=by kernel_rfl
theorem AFv:vE.P.eqGuardType vE.P.depth 23=false:=by kernel_rfl
theorem ATh: ∀(a0 b0:Int) (a1 b1:List UInt8) (a2 b2:List UInt8) (a3 b3:Int),eqA vE.P 10000 23 (.agg [.int .i64 a0,.str a1,.str a2,.int .i64 a3]) (.agg [.int .i64 b0,.str b1,.str b2,.int .i64 b3])=some (a0==b0&&(a1==b1&&(a2==b2&&(a3==b3&&true)))):=by intros;kernel_rfl
theorem APZ:GR vE.P 28=4:=by kernel_rfl
theorem ANp:GR vE.P 43=1:=by kernel_rfl
theorem AFp:callable vE.P 59=true:=by kernel_rfl
theorem AR4:KN vE.P 43=some (1,16):=by kernel_rfl
theorem ABy:Ab vE.P 43 0=9:=by kernel_rfl
theorem AQI:IA vE.P 43=none:=by kernel_rfl
theorem AOU:KN vE.P 172=some (1,24):=by kernel_rfl
theorem ABc:Ab vE.P 172 0=43:=by kernel_rfl
theorem AEG:callable vE.P 60=true:=by kernel_rfl
theorem AEF:callable vE.P 61=true:=by kernel_rfl
theorem AEP:callable vE.P 62=true:=by kernel_rfl
theorem AE1:Ab vE.P 23 0=3:=by kernel_rfl
theorem Xl:Az vE.P 23 0=some (0,1):=by kernel_rfl
theorem ACR:Ab vE.P 23 1=9:=by kernel_rfl
theorem AA6:Az vE.P 23 1=some (1,1):=by kernel_rfl
theorem ACr:Ab vE.P 23 2=9:=by kernel_rfl
theorem Za:Az vE.P 23 2=some (2,1):=by kernel_rfl
theorem AFI:callable vE.P 64=true:=by kernel_rfl
theorem AFq:callable vE.P 63=true:=by kernel_rfl
theorem ABr:callable vE.P 65=true:=by kernel_rfl
theorem AB1:callable vE.P 66=true:=by kernel_rfl
theorem ACM:callable vE.P 67=true:=by kernel_rfl
theorem AG2: ∀n,Da vE.P 116 n=some [.str [],.str []]:=by intros;kernel_rfl
theorem ALR:CQ vE.P 116=some 2:=by kernel_rfl
theorem AF9:A7 vE.P 116=true:=by kernel_rfl
theorem AHl:Bj vE.P 116=true:=by kernel_rfl
theorem AEo:callable vE.P 68=true:=by kernel_rfl
theorem W9:Ah vE.P 116 1=some (1,1,false):=by kernel_rfl
theorem AFi:callable vE.P 69=true:=by kernel_rfl
theorem AGT: ∀n,Da vE.P 121 n=some [.str [],.str []]:=by intros;kernel_rfl
theorem ALo:CQ vE.P 121=some 2:=by kernel_rfl
theorem AGe:A7 vE.P 121=true:=by kernel_rfl
theorem AGq:Bj vE.P 121=true:=by kernel_rfl
theorem AB6:callable vE.P 70=true:=by kernel_rfl
theorem Zj:Ah vE.P 121 1=some (1,1,false):=by kernel_rfl
theorem ABs:callable vE.P 71=true:=by kernel_rfl
theorem ACu:callable vE.P 72=true:=by kernel_rfl
theorem AEv:callable vE.P 73=true:=by kernel_rfl
theorem ABw:callable vE.P 74=true:=by kernel_rfl
theorem AEh:callable vE.P 75=true:=by kernel_rfl
theorem ANd:GR vE.P 65=0:=by kernel_rfl
theorem ACA:CS vE.P 24=true:=by kernel_rfl
theorem AIl:Cc vE.P 24=some 1:=by kernel_rfl
theorem AI9:FB vE.P 128=some (.agg [.slice 1 [] true]):=by kernel_rfl
theorem ALC:(El vE.P 128).isSome=true:=by kernel_rfl
theorem Zu:Ab vE.P 128 0=24:=by kernel_rfl
theorem VA:Az vE.P 128 0=some (0,1):=by kernel_rfl
theorem AEe:callable vE.P 76=true:=by kernel_rfl
theorem ACQ:Ah vE.P 23 3=some (3,1,false):=by kernel_rfl
theorem AFJ:Ab vE.P 30 0=9:=by kernel_rfl
theorem AAd:Az vE.P 30 0=some (0,1):=by kernel_rfl
theorem AFG:Ab vE.P 30 1=3:=by kernel_rfl
theorem AA5:Az vE.P 30 1=some (1,1):=by kernel_rfl
theorem AE8:Ab vE.P 30 2=9:=by kernel_rfl
theorem AA2:Az vE.P 30 2=some (2,1):=by kernel_rfl
theorem AHH: ∀n,Da vE.P 129 n=some [.slice 1 [] true]:=by intros;kernel_rfl
theorem ACn:callable vE.P 77=true:=by kernel_rfl
theorem ADV:callable vE.P 78=true:=by kernel_rfl
theorem AHC:A7 vE.P 129=true:=by kernel_rfl
theorem AHq:Bj vE.P 129=false:=by kernel_rfl
theorem AJx:CQ vE.P 129=some 1:=by kernel_rfl
theorem AOT:KN vE.P 129=some (1,1):=by kernel_rfl
theorem XV:Ab vE.P 129 0=5:=by kernel_rfl
theorem AMx:IA vE.P 129=none:=by kernel_rfl
theorem ADT:callable vE.P 79=true:=by kernel_rfl
theorem ARw:u8T vE.P 129=true:=by kernel_rfl
theorem AE9:callable vE.P 81=true:=by kernel_rfl
theorem ABj:callable vE.P 80=true:=by kernel_rfl
theorem ACN:callable vE.P 82=true:=by kernel_rfl
theorem AFO:callable vE.P 83=true:=by kernel_rfl
theorem AFW:callable vE.P 84=true:=by kernel_rfl
theorem ADW:callable vE.P 85=true:=by kernel_rfl
theorem AD2:callable vE.P 86=true:=by kernel_rfl
theorem AMn:GR vE.P 72=0:=by kernel_rfl
theorem ADl:callable vE.P 88=true:=by kernel_rfl
theorem AIe:GR vE.P 129=1:=by kernel_rfl
theorem ACU:callable vE.P 89=true:=by kernel_rfl
theorem AL7:GR vE.P 24=1:=by kernel_rfl
theorem ADZ:callable vE.P 90=true:=by kernel_rfl
theorem ARP:KN vE.P 24=some (1,1):=by kernel_rfl
theorem AFY:Ab vE.P 24 0=5:=by kernel_rfl
theorem AQb:IA vE.P 24=none:=by kernel_rfl
theorem ALK:A7 vE.P 24=true:=by kernel_rfl
theorem ATU:u8T vE.P 24=true:=by kernel_rfl
theorem AKc:A7 vE.P 85=true:=by kernel_rfl
theorem ALA:Bj vE.P 85=true:=by kernel_rfl
theorem AC5:callable vE.P 91=true:=by kernel_rfl
theorem AB4:Ah vE.P 85 1=some (1,1,false):=by kernel_rfl
theorem AFF:Ab vE.P 46 0=3:=by kernel_rfl
theorem X6:Az vE.P 46 0=some (0,1):=by kernel_rfl
theorem ACK:Ab vE.P 46 1=9:=by kernel_rfl
theorem Wm:Az vE.P 46 1=some (1,1):=by kernel_rfl
theorem AEJ:callable vE.P 92=true:=by kernel_rfl
theorem AEZ:Ah vE.P 82 2=some (2,1,false):=by kernel_rfl
theorem AB3:callable vE.P 93=true:=by kernel_rfl
theorem AFg:callable vE.P 94=true:=by kernel_rfl
theorem ADC:callable vE.P 95=true:=by kernel_rfl
theorem AMg:FB vE.P 85=some (.agg [.int .i64 0,.str [],.int .i64 0]):=by kernel_rfl
theorem AO7:(El vE.P 85).isSome=true:=by kernel_rfl
theorem AFo:Ah vE.P 82 0=some (0,1,false):=by kernel_rfl
theorem AFV:Ah vE.P 82 1=some (1,1,false):=by kernel_rfl
theorem ADw:callable vE.P 96=true:=by kernel_rfl
theorem ACI:Ah vE.P 46 0=some (0,1,false):=by kernel_rfl
theorem ANb:FB vE.P 91=some (.agg [.str [],.slice 1 [] true,.slice 1 [] true,.slice 3 [] true,.slice 3 [] true]):=by kernel_rfl
theorem AMz:(El vE.P 91).isSome=true:=by kernel_rfl
theorem AF5: ∀n,Da vE.P 143 n=some [.str [],.str [],.int .i64 0]:=by intros;kernel_rfl
theorem ADJ:callable vE.P 98=true:=by kernel_rfl
theorem AFf:callable vE.P 97=true:=by kernel_rfl
theorem ALE: ∀n,Da vE.P 40 n=some [.str [],.str []]:=by intros;kernel_rfl
theorem Wp:Ah vE.P 143 1=some (2,1,false):=by kernel_rfl
theorem AAq:Ah vE.P 143 0=some (0,2,true):=by kernel_rfl
theorem AEb:Ah vE.P 91 0=some (0,1,false):=by kernel_rfl
theorem YE:callable vE.P 100=true:=by kernel_rfl
theorem AFC:callable vE.P 99=true:=by kernel_rfl
theorem AB9:Ah vE.P 91 1=some (1,1,false):=by kernel_rfl
theorem ZA:callable vE.P 101=true:=by kernel_rfl
theorem Wv:callable vE.P 102=true:=by kernel_rfl
theorem ACz:Ah vE.P 91 2=some (2,1,false):=by kernel_rfl
theorem ADz:CS vE.P 44=true:=by kernel_rfl
theorem AJV:Cc vE.P 44=some 4:=by kernel_rfl
theorem WI:callable vE.P 103=true:=by kernel_rfl
theorem AKn:FB vE.P 154=some (.agg [.str [],.str [],.str []]):=by kernel_rfl
theorem AJQ:(El vE.P 154).isSome=true:=by kernel_rfl
theorem Yk:Ab vE.P 154 0=9:=by kernel_rfl
theorem VB:Az vE.P 154 0=some (0,1):=by kernel_rfl
theorem AGl: ∀n,Da vE.P 154 n=some [.str [],.str [],.str []]:=by intros;kernel_rfl
theorem AJD:CQ vE.P 154=some 3:=by kernel_rfl
theorem Yu:Ah vE.P 154 1=some (1,1,false):=by kernel_rfl
theorem Y9:Ah vE.P 154 2=some (2,1,false):=by kernel_rfl
theorem AD0:Ah vE.P 91 3=some (3,1,false):=by kernel_rfl
theorem AKB:A7 vE.P 88=true:=by kernel_rfl
theorem AKQ:Bj vE.P 88=false:=by kernel_rfl
theorem AOs:CQ vE.P 88=some 1:=by kernel_rfl
theorem AGu:A7 vE.P 154=true:=by kernel_rfl
theorem AGj:Bj vE.P 154=true:=by kernel_rfl
theorem AQM:KN vE.P 88=some (3,48):=by kernel_rfl
theorem ACp:Ab vE.P 88 0=154:=by kernel_rfl
theorem ARH:IA vE.P 88=none:=by kernel_rfl
theorem Wx:callable vE.P 104=true:=by kernel_rfl
theorem AP5:KN vE.P 89=some (3,64):=by kernel_rfl
theorem AEz:Ab vE.P 89 0=103:=by kernel_rfl
theorem APz:IA vE.P 89=none:=by kernel_rfl
theorem ADI:Ah vE.P 42 4=some (5,1,false):=by kernel_rfl
theorem AJK: ∀n,Da vE.P 70 n=some [.str [],.str []]:=by intros;kernel_rfl
theorem ADG:Ah vE.P 70 0=some (0,1,false):=by kernel_rfl
theorem ADL:Ah vE.P 70 1=some (1,1,false):=by kernel_rfl
theorem Wl:Ah vE.P 103 2=some (2,1,false):=by kernel_rfl
theorem Xa:callable vE.P 105=true:=by kernel_rfl
theorem AF4: ∀n,Da vE.P 157 n=some [.str [],.str [],.str [],.str [],.str [],.bool false,.bool false,.bool false,.bool false]:=by intros;kernel_rfl
theorem AIw:CQ vE.P 157=some 9:=by kernel_rfl
theorem YX:Ah vE.P 157 5=some (5,1,false):=by kernel_rfl
theorem Xo:Ah vE.P 157 0=some (0,1,false):=by kernel_rfl
theorem YZ:callable vE.P 106=true:=by kernel_rfl
theorem WV:Ah vE.P 157 6=some (6,1,false):=by kernel_rfl
theorem AA4:Ah vE.P 157 1=some (1,1,false):=by kernel_rfl
theorem XN:callable vE.P 107=true:=by kernel_rfl
theorem YM:callable vE.P 108=true:=by kernel_rfl
theorem AGD: ∀n,Da vE.P 112 n=some [.str [],.int .i64 0]:=by intros;kernel_rfl
theorem ALD:CQ vE.P 112=some 2:=by kernel_rfl
theorem Zi:Ah vE.P 112 0=some (0,1,false):=by kernel_rfl
theorem XR:Ah vE.P 112 1=some (1,1,false):=by kernel_rfl
theorem YO:Ah vE.P 157 7=some (7,1,false):=by kernel_rfl
theorem ABE:Ah vE.P 157 8=some (8,1,false):=by kernel_rfl
theorem ABt:Ab vE.P 30 5=4:=by kernel_rfl
theorem ABa:Az vE.P 30 5=some (5,1):=by kernel_rfl
theorem AC4:Ab vE.P 30 6=4:=by kernel_rfl
theorem WK:Az vE.P 30 6=some (6,1):=by kernel_rfl
theorem YB:Ah vE.P 157 2=some (2,1,false):=by kernel_rfl
theorem ABH:callable vE.P 109=true:=by kernel_rfl
theorem AEM:Ah vE.P 30 2=some (2,1,false):=by kernel_rfl
theorem Yr:Ah vE.P 157 3=some (3,1,false):=by kernel_rfl
theorem AAr:Ah vE.P 157 4=some (4,1,false):=by kernel_rfl
theorem XA:callable vE.P 110=true:=by kernel_rfl
theorem Xj:callable vE.P 111=true:=by kernel_rfl
theorem AHR:A7 vE.P 157=true:=by kernel_rfl
theorem AG0:Bj vE.P 157=true:=by kernel_rfl
theorem Z4:callable vE.P 112=true:=by kernel_rfl
theorem AAD:callable vE.P 113=true:=by kernel_rfl
theorem ALJ:FB vE.P 169=some (.agg [.str [],.str [],.int .i64 0]):=by kernel_rfl
theorem AJo:(El vE.P 169).isSome=true:=by kernel_rfl
theorem AAs:callable vE.P 115=true:=by kernel_rfl
theorem Wj:callable vE.P 114=true:=by kernel_rfl
theorem YD:Ah vE.P 169 0=some (0,2,true):=by kernel_rfl
theorem ABK:callable vE.P 116=true:=by kernel_rfl
theorem ABv:Ab vE.P 91 0=9:=by kernel_rfl
theorem AAy:Az vE.P 91 0=some (0,1):=by kernel_rfl
theorem AD5:Ab vE.P 91 1=43:=by kernel_rfl
theorem Yq:Az vE.P 91 1=some (1,1):=by kernel_rfl
theorem Zp:callable vE.P 117=true:=by kernel_rfl
theorem ABO:callable vE.P 118=true:=by kernel_rfl
theorem Yt:callable vE.P 119=true:=by kernel_rfl
theorem YN:Ah vE.P 169 1=some (2,1,false):=by kernel_rfl
theorem XY:callable vE.P 120=true:=by kernel_rfl
theorem ZG:callable vE.P 121=true:=by kernel_rfl
theorem AOq:GR vE.P 53=6:=by kernel_rfl
theorem APW:GR vE.P 52=3:=by kernel_rfl
theorem ASL:KN vE.P 52=some (3,40):=by kernel_rfl
theorem ARW:IA vE.P 52=none:=by kernel_rfl
theorem ARm:KN vE.P 53=some (6,112):=by kernel_rfl
theorem AEK:Ab vE.P 53 0=106:=by kernel_rfl
theorem ARK:IA vE.P 53=none:=by kernel_rfl
theorem Zh:CS vE.P 172=true:=by kernel_rfl
theorem AGd:Cc vE.P 172=some 1:=by kernel_rfl
theorem Y7:callable vE.P 122=true:=by kernel_rfl
theorem AAa:callable vE.P 123=true:=by kernel_rfl
theorem AQV:IA vE.P 28=none:=by kernel_rfl
theorem AKl:A7 vE.P 28=true:=by kernel_rfl
theorem YR:callable vE.P 124=true:=by kernel_rfl
theorem AGw:A7 vE.P 112=true:=by kernel_rfl
theorem AF3:Bj vE.P 112=true:=by kernel_rfl
theorem ADu:Ah vE.P 30 0=some (0,1,false):=by kernel_rfl
theorem AFl:Ah vE.P 30 1=some (1,1,false):=by kernel_rfl
theorem ALu:FB vE.P 112=some (.agg [.str [],.int .i64 0]):=by kernel_rfl
theorem AKm:(El vE.P 112).isSome=true:=by kernel_rfl
theorem Z0:Ab vE.P 112 0=9:=by kernel_rfl
theorem Uq:Az vE.P 112 0=some (0,1):=by kernel_rfl
theorem Zt:Ab vE.P 112 1=3:=by kernel_rfl
theorem U8:Az vE.P 112 1=some (1,1):=by kernel_rfl
theorem AIq:Cb vE.P 24=false:=by kernel_rfl
theorem APh:A7 vE.P 5=true:=by kernel_rfl
theorem AM5:Bj vE.P 5=false:=by kernel_rfl
theorem ARV:CQ vE.P 5=some 1:=by kernel_rfl
theorem AJS:FB vE.P 116=some (.agg [.str [],.str []]):=by kernel_rfl
theorem AKD:(El vE.P 116).isSome=true:=by kernel_rfl
theorem ZE:callable vE.P 125=true:=by kernel_rfl
theorem ZY:callable vE.P 126=true:=by kernel_rfl
theorem AAS:callable vE.P 127=true:=by kernel_rfl
theorem Xq:Ab vE.P 116 0=9:=by kernel_rfl
theorem U9:Az vE.P 116 0=some (0,1):=by kernel_rfl
theorem YU:Ab vE.P 116 1=9:=by kernel_rfl
theorem Uo:Az vE.P 116 1=some (1,1):=by kernel_rfl
theorem AAC:Ah vE.P 116 0=some (0,1,false):=by kernel_rfl
theorem ALy:FB vE.P 121=some (.agg [.str [],.str []]):=by kernel_rfl
theorem ALw:(El vE.P 121).isSome=true:=by kernel_rfl
theorem AAA:callable vE.P 128=true:=by kernel_rfl
theorem Z9:callable vE.P 129=true:=by kernel_rfl
theorem Xe:Ab vE.P 121 0=9:=by kernel_rfl
theorem VC:Az vE.P 121 0=some (0,1):=by kernel_rfl
theorem AA0:Ab vE.P 121 1=9:=by kernel_rfl
theorem Ui:Az vE.P 121 1=some (1,1):=by kernel_rfl
theorem ABV:Ah vE.P 121 0=some (0,1,false):=by kernel_rfl
theorem ABn:Ab vE.P 23 3=3:=by kernel_rfl
theorem Wy:Az vE.P 23 3=some (3,1):=by kernel_rfl
theorem Z8:callable vE.P 130=true:=by kernel_rfl
theorem Yi:callable vE.P 131=true:=by kernel_rfl
theorem YA:Ah vE.P 128 0=some (0,1,false):=by kernel_rfl
theorem ALY:Bj vE.P 24=false:=by kernel_rfl
theorem APA:CQ vE.P 24=some 1:=by kernel_rfl
theorem AUO:IA vE.P 3=some .i64:=by kernel_rfl
theorem AOV:Cb vE.P 3=false:=by kernel_rfl
theorem WC:callable vE.P 132=true:=by kernel_rfl
theorem ZM:callable vE.P 133=true:=by kernel_rfl
theorem AAi:callable vE.P 134=true:=by kernel_rfl
theorem APJ:IA vE.P 180=some .u64:=by kernel_rfl
theorem AH0:Cb vE.P 180=false:=by kernel_rfl
theorem YI:callable vE.P 135=true:=by kernel_rfl
theorem YS:callable vE.P 136=true:=by kernel_rfl
theorem ABW:callable vE.P 137=true:=by kernel_rfl
theorem AAo:callable vE.P 138=true:=by kernel_rfl
theorem Xt:callable vE.P 139=true:=by kernel_rfl
theorem ABN:callable vE.P 140=true:=by kernel_rfl
theorem Y5:callable vE.P 141=true:=by kernel_rfl
theorem ZK:callable vE.P 142=true:=by kernel_rfl
theorem WO:callable vE.P 143=true:=by kernel_rfl
theorem Y4:callable vE.P 145=true:=by kernel_rfl
theorem AAZ:callable vE.P 144=true:=by kernel_rfl
theorem AA7:callable vE.P 146=true:=by kernel_rfl
theorem AC7:Ah vE.P 46 3=some (3,1,false):=by kernel_rfl
theorem AJz:A7 vE.P 44=true:=by kernel_rfl
theorem ALv:Bj vE.P 44=false:=by kernel_rfl
theorem AL2:CQ vE.P 44=some 1:=by kernel_rfl
theorem ASA:KN vE.P 44=some (4,72):=by kernel_rfl
theorem ACo:Ab vE.P 44 0=46:=by kernel_rfl
theorem ARR:IA vE.P 44=none:=by kernel_rfl
theorem AAx:callable vE.P 147=true:=by kernel_rfl
theorem ACh:Ah vE.P 46 2=some (2,1,false):=by kernel_rfl
theorem AAH:callable vE.P 148=true:=by kernel_rfl
theorem AFb:Ab vE.P 85 0=3:=by kernel_rfl
theorem Yw:Az vE.P 85 0=some (0,1):=by kernel_rfl
theorem AEa:Ab vE.P 85 2=3:=by kernel_rfl
theorem Xd:Az vE.P 85 2=some (2,1):=by kernel_rfl
theorem AEw:Ab vE.P 85 1=9:=by kernel_rfl
theorem ZR:Az vE.P 85 1=some (1,1):=by kernel_rfl
theorem Y1:callable vE.P 149=true:=by kernel_rfl
theorem AAG:callable vE.P 150=true:=by kernel_rfl
theorem X5:callable vE.P 151=true:=by kernel_rfl
theorem YY:callable vE.P 152=true:=by kernel_rfl
theorem Wq:callable vE.P 153=true:=by kernel_rfl
theorem YJ:callable vE.P 154=true:=by kernel_rfl
theorem AB5:Ah vE.P 46 1=some (1,1,false):=by kernel_rfl
theorem AMP:GR vE.P 44=4:=by kernel_rfl
theorem AAp:callable vE.P 155=true:=by kernel_rfl
theorem WT:callable vE.P 156=true:=by kernel_rfl
theorem AAN:callable vE.P 157=true:=by kernel_rfl
theorem AK6:FB vE.P 103=some (.agg [.str [],.slice 1 [] true,.slice 1 [] true]):=by kernel_rfl
theorem AIm:(El vE.P 103).isSome=true:=by kernel_rfl
theorem WZ:Ab vE.P 103 0=9:=by kernel_rfl
theorem U1:Az vE.P 103 0=some (0,1):=by kernel_rfl
theorem YH:Ah vE.P 103 1=some (1,1,false):=by kernel_rfl
theorem AKz:FB vE.P 157=some (.agg [.str [],.str [],.str [],.str [],.str [],.bool false,.bool false,.bool false,.bool false]):=by kernel_rfl
theorem AJN:(El vE.P 157).isSome=true:=by kernel_rfl
theorem ZP:callable vE.P 158=true:=by kernel_rfl
theorem ABP:callable vE.P 159=true:=by kernel_rfl
theorem Xp:callable vE.P 160=true:=by kernel_rfl
theorem Xn:callable vE.P 161=true:=by kernel_rfl
theorem WL:callable vE.P 162=true:=by kernel_rfl
theorem WU:callable vE.P 163=true:=by kernel_rfl
theorem AMv:O9 vE.P 24=some (1,.int .u8 0):=by kernel_rfl
theorem Zl:callable vE.P 164=true:=by kernel_rfl
theorem Xh:callable vE.P 165=true:=by kernel_rfl
theorem X7:callable vE.P 166=true:=by kernel_rfl
theorem ATD:IA vE.P 9=none:=by kernel_rfl
theorem ACy:UI vE.P 24 5=true:=by kernel_rfl
theorem ABR:callable vE.P 167=true:=by kernel_rfl
theorem AHr: ∀n,Da vE.P 196 n=some [.nself n 196 2,.buf 5 [] true]:=by intros;kernel_rfl
theorem ABM:callable vE.P 170=true:=by kernel_rfl
theorem ABe:callable vE.P 171=true:=by kernel_rfl
theorem Z6:callable vE.P 172=true:=by kernel_rfl
theorem WR:callable vE.P 173=true:=by kernel_rfl
theorem ZH:callable vE.P 174=true:=by kernel_rfl
theorem ZB:callable vE.P 175=true:=by kernel_rfl
theorem ABD:callable vE.P 176=true:=by kernel_rfl
theorem ABX:callable vE.P 177=true:=by kernel_rfl
theorem Zf:callable vE.P 178=true:=by kernel_rfl
theorem WY:callable vE.P 179=true:=by kernel_rfl
theorem AC6:Ab vE.P 30 3=9:=by kernel_rfl
theorem X4:Az vE.P 30 3=some (3,1):=by kernel_rfl
theorem ABq:Ab vE.P 30 4=9:=by kernel_rfl
theorem WH:Az vE.P 30 4=some (4,1):=by kernel_rfl
theorem Z7:callable vE.P 180=true:=by kernel_rfl
theorem Ya:callable vE.P 181=true:=by kernel_rfl
theorem Yd:callable vE.P 182=true:=by kernel_rfl
theorem AAK:callable vE.P 183=true:=by kernel_rfl
theorem AO1:(VF vE.P 204).isSome=true:=by kernel_rfl
theorem ANP:(VF vE.P 204).bind (FB vE.P)=some .nilFn:=by kernel_rfl
theorem AKi:GR vE.P 203=0:=by kernel_rfl
theorem AIt:TD vE.P 203=true:=by kernel_rfl
theorem Yz:callable vE.P 184=true:=by kernel_rfl
theorem AJl:GR vE.P 180=0:=by kernel_rfl
theorem ABY:callable vE.P 185=true:=by kernel_rfl
theorem WS:callable vE.P 186=true:=by kernel_rfl
theorem AAt:callable vE.P 187=true:=by kernel_rfl
theorem ABf:callable vE.P 188=true:=by kernel_rfl
theorem Z5:callable vE.P 189=true:=by kernel_rfl
theorem ABA:callable vE.P 190=true:=by kernel_rfl
theorem Yj:callable vE.P 191=true:=by kernel_rfl
theorem Zz:callable vE.P 192=true:=by kernel_rfl
theorem ABL:callable vE.P 193=false:=by kernel_rfl
theorem AHG: ∀n,Da vE.P 214 n=some [.int .u8 0,.int .u8 0,.int .u8 0,.int .u8 0,.int .u8 0,.int .u8 0,.int .u8 0,.int .u8 0,.int .u8 0,.int .u8 0,.int .u8 0,.int .u8 0,.int .u8 0,.int .u8 0,.int .u8 0,.int .u8 0,.int .u8 0,.int .u8 0,.int .u8 0,.int .u8 0]:=by intros;kernel_rfl
theorem AGP:A7 vE.P 180=true:=by kernel_rfl
theorem AT8:IA vE.P 5=some .u8:=by kernel_rfl
theorem APX:Cb vE.P 5=false:=by kernel_rfl
theorem AHB:JQ vE.P 214=some (20,1,false):=by kernel_rfl
theorem AGN:Cc vE.P 214=none:=by kernel_rfl
theorem X8:callable vE.P 194=false:=by kernel_rfl
theorem Wh:callable vE.P 195=true:=by kernel_rfl
theorem Zx:callable vE.P 196=true:=by kernel_rfl
theorem Wu:callable vE.P 197=true:=by kernel_rfl
theorem ABd:callable vE.P 198=true:=by kernel_rfl
theorem AAE:callable vE.P 199=true:=by kernel_rfl
theorem AAh:callable vE.P 200=true:=by kernel_rfl
theorem Xr:callable vE.P 201=true:=by kernel_rfl
theorem ZI:callable vE.P 202=true:=by kernel_rfl
theorem Wi:callable vE.P 203=true:=by kernel_rfl
theorem AQn:IA vE.P 21=some .i32:=by kernel_rfl
theorem AKL:Cb vE.P 21=false:=by kernel_rfl
theorem AL5:GR vE.P 21=0:=by kernel_rfl
theorem V6:callable vE.P 204=true:=by kernel_rfl
theorem AAX:callable vE.P 205=true:=by kernel_rfl
theorem Y0:callable vE.P 206=true:=by kernel_rfl
theorem AHf: ∀n,Da vE.P 222 n=some (List.map AVal.bool (ACj 256)):=by intros;kernel_rfl
theorem AKF:CQ vE.P 222=some 256:=by kernel_rfl
theorem Yg:callable vE.P 207=true:=by kernel_rfl
theorem XX:callable vE.P 208=true:=by kernel_rfl
theorem AAz:callable vE.P 209=true:=by kernel_rfl
theorem ABT:callable vE.P 210=true:=by kernel_rfl
theorem XC:callable vE.P 211=true:=by kernel_rfl
theorem XK:callable vE.P 212=true:=by kernel_rfl
theorem Ym:callable vE.P 213=true:=by kernel_rfl
theorem V7:callable vE.P 169=true:=by kernel_rfl
theorem AJY:GR vE.P 198=0:=by kernel_rfl
theorem Wz:callable vE.P 214=true:=by kernel_rfl
theorem ABC:Ah vE.P 196 1=some (1,1,false):=by kernel_rfl
theorem ALI:ptrTo vE.P 225 5=true:=by kernel_rfl
theorem YK:callable vE.P 215=true:=by kernel_rfl
theorem Y6:callable vE.P 216=true:=by kernel_rfl
theorem AAg:callable vE.P 217=true:=by kernel_rfl
theorem WA:callable vE.P 218=true:=by kernel_rfl
theorem Ye:callable vE.P 219=true:=by kernel_rfl
theorem We:callable vE.P 220=true:=by kernel_rfl
theorem AK9:GR vE.P 204=0:=by kernel_rfl
theorem AAR:callable vE.P 225=true:=by kernel_rfl
theorem YG:callable vE.P 226=true:=by kernel_rfl
theorem AA9:callable vE.P 227=true:=by kernel_rfl
theorem AAl:callable vE.P 228=true:=by kernel_rfl
theorem AKE:GR vE.P 228=0:=by kernel_rfl
theorem AMU:IA vE.P 228=some .u32:=by kernel_rfl
theorem AHd:Cb vE.P 228=false:=by kernel_rfl
theorem ZN:callable vE.P 229=true:=by kernel_rfl
theorem ABQ:callable vE.P 230=true:=by kernel_rfl
theorem YL:callable vE.P 231=true:=by kernel_rfl
theorem WP:callable vE.P 232=true:=by kernel_rfl
theorem AJ6:A7 vE.P 21=true:=by kernel_rfl
theorem Xf:callable vE.P 233=true:=by kernel_rfl
theorem AGZ:A7 vE.P 222=true:=by kernel_rfl
theorem AFx:Bj vE.P 222=true:=by kernel_rfl
theorem AG5:JQ vE.P 222=some (256,1,false):=by kernel_rfl
theorem ABB:callable vE.P 234=true:=by kernel_rfl
theorem Ww:callable vE.P 235=true:=by kernel_rfl
theorem ABZ:callable vE.P 236=true:=by kernel_rfl
theorem Zc:callable vE.P 237=true:=by kernel_rfl
theorem Xk:Ah vE.P 196 0=some (0,1,false):=by kernel_rfl
theorem AGU:A7 vE.P 194=true:=by kernel_rfl
theorem AGr:Bj vE.P 194=false:=by kernel_rfl
theorem AJC:CQ vE.P 194=some 1:=by kernel_rfl
theorem AKw:GR vE.P 194=0:=by kernel_rfl
theorem AHj:Mx vE.P 194=true:=by kernel_rfl
theorem AHK:Cb vE.P 238=false:=by kernel_rfl
theorem QL:P5 vE.P 194 238 195 2=true:=by kernel_rfl
theorem P7:P5 vE.P 194 238 196 2=true:=by kernel_rfl
theorem XU:callable vE.P 238=false:=by kernel_rfl
theorem AGo:A7 vE.P 238=true:=by kernel_rfl
theorem AGx:Cb vE.P 194=false:=by kernel_rfl
theorem P9:P5 vE.P 238 194 195 2=true:=by kernel_rfl
theorem Qb:P5 vE.P 238 194 196 2=true:=by kernel_rfl
theorem V5:callable vE.P 239=true:=by kernel_rfl
theorem X9:callable vE.P 240=true:=by kernel_rfl
theorem WE:callable vE.P 241=true:=by kernel_rfl
theorem Zq:callable vE.P 242=true:=by kernel_rfl
theorem XW:callable vE.P 243=true:=by kernel_rfl
theorem Xv:callable vE.P 244=true:=by kernel_rfl
theorem AAn:callable vE.P 245=true:=by kernel_rfl
theorem Yb:callable vE.P 246=true:=by kernel_rfl
theorem V9:callable vE.P 247=true:=by kernel_rfl
theorem Zn:callable vE.P 248=true:=by kernel_rfl
theorem Ws:callable vE.P 249=true:=by kernel_rfl
theorem Yx:callable vE.P 250=true:=by kernel_rfl
theorem AAY:callable vE.P 251=true:=by kernel_rfl
theorem AAU:callable vE.P 252=true:=by kernel_rfl
theorem AAJ:callable vE.P 253=true:=by kernel_rfl
theorem WN:callable vE.P 254=true:=by kernel_rfl
theorem XH:callable vE.P 255=true:=by kernel_rfl
theorem Zm:callable vE.P 256=true:=by kernel_rfl
theorem Xx:callable vE.P 257=true:=by kernel_rfl
theorem YW:callable vE.P 258=true:=by kernel_rfl
theorem AAj:callable vE.P 259=true:=by kernel_rfl
theorem Xw:callable vE.P 260=false:=by kernel_rfl
theorem X0:callable vE.P 261=true:=by kernel_rfl
theorem Zd:callable vE.P 262=true:=by kernel_rfl
theorem Y2:callable vE.P 263=true:=by kernel_rfl
theorem AL6:O9 vE.P 43=some (16,.str []):=by kernel_rfl
theorem YF:callable vE.P 264=true:=by kernel_rfl
theorem ZT:callable vE.P 265=true:=by kernel_rfl
theorem AHp: ∀n,Da vE.P 251 n=some [.int .i64 0]:=by intros;kernel_rfl
theorem YC:callable vE.P 266=true:=by kernel_rfl
theorem Zb:Ah vE.P 251 0=some (0,1,false):=by kernel_rfl
theorem Zy:callable vE.P 269=false:=by kernel_rfl
theorem AHE:JQ vE.P 254=some (256,1,false):=by kernel_rfl
theorem AGM:JQ vE.P 257=some (16,2,true):=by kernel_rfl
theorem AGR:A7 vE.P 256=true:=by kernel_rfl
theorem AGf:Bj vE.P 256=true:=by kernel_rfl
theorem AJc:CQ vE.P 256=some 2:=by kernel_rfl
theorem AGY: ∀n,Da vE.P 256 n=some [.int .u8 0,.int .u8 0]:=by intros;kernel_rfl
theorem Y3:Ah vE.P 256 0=some (0,1,false):=by kernel_rfl
theorem ZJ:Ah vE.P 256 1=some (1,1,false):=by kernel_rfl
theorem AI8:FB vE.P 256=some (.agg [.int .u8 0,.int .u8 0]):=by kernel_rfl
theorem ALa:(El vE.P 256).isSome=true:=by kernel_rfl
theorem Yc:Ab vE.P 256 0=5:=by kernel_rfl
theorem U3:Az vE.P 256 0=some (0,1):=by kernel_rfl
theorem AAP:Ab vE.P 256 1=5:=by kernel_rfl
theorem Ul:Az vE.P 256 1=some (1,1):=by kernel_rfl
theorem AL1:FB vE.P 257=some (.agg [.int .u8 0,.int .u8 0,.int .u8 0,.int .u8 0,.int .u8 0,.int .u8 0,.int .u8 0,.int .u8 0,.int .u8 0,.int .u8 0,.int .u8 0,.int .u8 0,.int .u8 0,.int .u8 0,.int .u8 0,.int .u8 0,.int .u8 0,.int .u8 0,.int .u8 0,.int .u8 0,.int .u8 0,.int .u8 0,.int .u8 0,.int .u8 0,.int .u8 0,.int .u8 0,.int .u8 0,.int .u8 0,.int .u8 0,.int .u8 0,.int .u8 0,.int .u8 0]):=by kernel_rfl
theorem AKY:(El vE.P 257).isSome=true:=by kernel_rfl
theorem Yv:Ab vE.P 257 0=256:=by kernel_rfl
theorem Uy:Az vE.P 257 0=some (0,2):=by kernel_rfl
theorem WJ:Ab vE.P 257 1=256:=by kernel_rfl
theorem Us:Az vE.P 257 1=some (2,2):=by kernel_rfl
theorem AA1:Ab vE.P 257 2=256:=by kernel_rfl
theorem Uw:Az vE.P 257 2=some (4,2):=by kernel_rfl
theorem AAk:Ab vE.P 257 3=256:=by kernel_rfl
theorem Ux:Az vE.P 257 3=some (6,2):=by kernel_rfl
theorem AAT:Ab vE.P 257 4=256:=by kernel_rfl
theorem Uc:Az vE.P 257 4=some (8,2):=by kernel_rfl
theorem AJT:CQ vE.P 257=some 32:=by kernel_rfl
theorem AIB:(vE.P.funcs[193]?).isSome=true:=by kernel_rfl
theorem ARU{l:List UInt8}{c:Int}{st:St}{Q:AVal→St→Prop} (h:Gl (Q (.int .i64 (Go.Lib.indexByte l (FX c))) st)):Vb vE 193 [.str l,.int .u8 c] st Q:=by
  refine .inl ⟨(vE.P.funcs[193]?).get AIB,Extern.BytealgIndexByte.indexByte,.int .i64 (Go.Lib.indexByte l (FX c)),(Option.some_get AIB).symm,by kernel_rfl,by kernel_rfl,by kernel_rfl,by kernel_rfl,fun Γ vs w hr=>?_,?_⟩
  · cases hr with|cons h1 t=>cases t with|cons h2 t=>cases t;cases h1;cases h2;exact⟨_,Go.Lib.run_indexByteString _ _ w,.int _ _⟩
  · have:=h.go;simpa[AVal.strip]using this
theorem AIG:(vE.P.funcs[238]?).isSome=true:=by kernel_rfl
theorem AIc{x:AVal}{st:St}{Q:AVal→St→Prop} (h:Gl (Q x.strip st)):Vb vE 238 [x] st Q:=by
  refine .inl ⟨(vE.P.funcs[238]?).get AIG,Extern.AbiNoEscape.same,x,(Option.some_get AIG).symm,by kernel_rfl,by kernel_rfl,by kernel_rfl,by kernel_rfl,fun Γ vs w hr=>?_,?_⟩
  · cases hr with|cons h1 t=>cases t;exact⟨_,Go.Lib.run_noEscape w _,h1⟩
  · have:=h.go;simpa[AVal.strip]using this
theorem AIM:(vE.P.funcs[260]?).isSome=true:=by kernel_rfl
theorem ASE{l:List UInt8}{c:Int}{st:St}{Q:AVal→St→Prop} (h:Gl (Q (.int .i64 ((Go.Lib.countByte l (FX c):Nat):Int)) st)):Vb vE 260 [.str l,.int .u8 c] st Q:=by
  refine .inl ⟨(vE.P.funcs[260]?).get AIM,Extern.BytealgCount.count,.int .i64 ((Go.Lib.countByte l (FX c):Nat):Int),(Option.some_get AIM).symm,by kernel_rfl,by kernel_rfl,by kernel_rfl,by kernel_rfl,fun Γ vs w hr=>?_,?_⟩
  · cases hr with|cons h1 t=>cases t with|cons h2 t=>cases t;cases h1;cases h2;exact⟨_,Go.Lib.run_countString _ _ w,.int _ _⟩
  · have:=h.go;simpa[AVal.strip]using this
theorem AH7:(vE.P.funcs[269]?).isSome=true:=by kernel_rfl
theorem AR8{k:Nat}{st:St}{Q:AVal→St→Prop} (h1:1≤k) (h2:k≤140737488355328) (h:Gl (Q (.trow 5 st.next k) {m:=(st.next,[.any])::st.m,next:=st.next+1})):Vb vE 269 [.int .i64 k] st Q:=.inr ⟨(vE.P.funcs[269]?).get AH7, #[3],24,5,k,(Option.some_get AH7).symm,by kernel_rfl,by kernel_rfl,by kernel_rfl,by kernel_rfl,by kernel_rfl,h1,h2,rfl,h.go⟩
set_option linter.defProp false
def fxE:=And.intro (And.intro (And.intro (And.intro (And.intro (And.intro (And.intro (And.intro (And.intro (@AGa) (@ASI)) (And.intro (@AHs) (And.intro (@ALU) (@AKs)))) (And.intro (And.intro (@AMS) (@AHQ)) (And.intro (@AGI) (And.intro (@ASJ) (@AFQ))))) (And.intro (And.intro (And.intro (@ACS) (@AQk)) (And.intro (@AId) (And.intro (@AJ3) (@ACs)))) (And.intro (And.intro (@ALH) (And.intro (@AOD) (@AD7))) (And.intro (@ADM) (And.intro (@AEI) (@AE5)))))) (And.intro (And.intro (And.intro (And.intro (@ACl) (@AI6)) (And.intro (@AKR) (And.intro (@AG8) (@ATt)))) (And.intro (And.intro (@AEl) (And.intro (@ANk) (@ADY))) (And.intro (@AFH) (And.intro (@ABz) (@ADo))))) (And.intro (And.intro (And.intro (@APP) (@APc)) (And.intro (@ASG) (And.intro (@ABx) (@AEd)))) (And.intro (And.intro (@ADd) (And.intro (@AC8) (@ADU))) (And.intro (@ACw) (And.intro (@ALG) (@AMa))))))) (And.intro (And.intro (And.intro (And.intro (And.intro (@AQ5) (@AQ6)) (And.intro (@APS) (And.intro (@AMO) (@AEX)))) (And.intro (And.intro (@ZX) (And.intro (@AFP) (@XF))) (And.intro (@AEV) (And.intro (@AO4) (@AMk))))) (And.intro (And.intro (And.intro (@ARD) (@APV)) (And.intro (@APa) (And.intro (@ABm) (@Xy)))) (And.intro (And.intro (@AD1) (And.intro (@AAQ) (@ACD))) (And.intro (@XL) (And.intro (@AE4) (@AAu)))))) (And.intro (And.intro (And.intro (And.intro (@AEA) (@YT)) (And.intro (@AJ8) (And.intro (@ANj) (@ALr)))) (And.intro (And.intro (@AKr) (And.intro (@AI0) (@ALO))) (And.intro (@AER) (And.intro (@AB7) (@AJv))))) (And.intro (And.intro (And.intro (@AJy) (@ANv)) (And.intro (@ABo) (And.intro (@AFh) (@ADy)))) (And.intro (And.intro (@ACt) (And.intro (@ACW) (@AOz))) (And.intro (@AOK) (And.intro (@AMA) (@AEE)))))))) (And.intro (And.intro (And.intro (And.intro (And.intro (And.intro (@AFD) (@AFk)) (And.intro (@AEL) (And.intro (@AFB) (@ACH)))) (And.intro (And.intro (@ACg) (@APf)) (And.intro (@AMw) (And.intro (@ADi) (@AC0))))) (And.intro (And.intro (And.intro (@ADx) (@AFM)) (And.intro (@AFm) (And.intro (@AEQ) (@ADb)))) (And.intro (And.intro (@ALk) (And.intro (@ALM) (@AKb))) (And.intro (@AMF) (And.intro (@AHx) (@ASn)))))) (And.intro (And.intro (And.intro (And.intro (@AOg) (@AKZ)) (And.intro (@AEr) (And.intro (@AFT) (@AEi)))) (And.intro (And.intro (@AKv) (And.intro (@AJL) (@AM0))) (And.intro (@ANF) (And.intro (@AMo) (@ADR))))) (And.intro (And.intro (And.intro (@WW) (@ACB)) (And.intro (@YQ) (And.intro (@AR7) (@ACv)))) (And.intro (And.intro (@AQr) (And.intro (@AQg) (@ACE))) (And.intro (@AEH) (And.intro (@AJH) (@AEB))))))) (And.intro (And.intro (And.intro (And.intro (And.intro (@ABp) (@AEY)) (And.intro (@AN2) (And.intro (@ANE) (@AOQ)))) (And.intro (And.intro (@AOh) (And.intro (@AFE) (@Zo))) (And.intro (@ABu) (And.intro (@ADj) (@ALd))))) (And.intro (And.intro (And.intro (@AN3) (@AEm)) (And.intro (@AKC) (And.intro (@AKN) (@ANl)))) (And.intro (And.intro (@ADN) (And.intro (@APO) (@ANH))) (And.intro (@AQG) (And.intro (@ADk) (@ABl)))))) (And.intro (And.intro (And.intro (And.intro (@ADc) (@AEW)) (And.intro (@ALe) (And.intro (@APk) (@ADA)))) (And.intro (And.intro (@ACG) (And.intro (@AJB) (@AKt))) (And.intro (@AJ2) (And.intro (@AKu) (@AMX))))) (And.intro (And.intro (And.intro (@AC2) (@AB0)) (And.intro (@ACc) (And.intro (@ACX) (@AD9)))) (And.intro (And.intro (@ACP) (And.intro (@ACZ) (@ACa))) (And.intro (@AEu) (And.intro (@ADf) (@ALF))))))))) (And.intro (And.intro (And.intro (And.intro (And.intro (And.intro (And.intro (@AJZ) (@AM9)) (And.intro (@ABk) (And.intro (@AKy) (@AGW)))) (And.intro (And.intro (@AGk) (@AIv)) (And.intro (@AHA) (And.intro (@WM) (@AED))))) (And.intro (And.intro (And.intro (@ABi) (@ADO)) (And.intro (@AE7) (And.intro (@AJq) (@ALg)))) (And.intro (And.intro (@ANW) (And.intro (@AFN) (@AJX))) (And.intro (@ALV) (And.intro (@APL) (@ACi)))))) (And.intro (And.intro (And.intro (And.intro (@ADv) (@AJe)) (And.intro (@AJW) (And.intro (@ANG) (@AFS)))) (And.intro (And.intro (@AK5) (And.intro (@AHX) (@AGz))) (And.intro (@ALn) (And.intro (@AHt) (@XJ))))) (And.intro (And.intro (And.intro (@Yy) (@Xm)) (And.intro (@XI) (And.intro (@AAO) (@Yn)))) (And.intro (And.intro (@AFv) (And.intro (@ATh) (@APZ))) (And.intro (@ANp) (And.intro (@AFp) (@AR4))))))) (And.intro (And.intro (And.intro (And.intro (And.intro (@ABy) (@AQI)) (And.intro (@AOU) (And.intro (@ABc) (@AEG)))) (And.intro (And.intro (@AEF) (And.intro (@AEP) (@AE1))) (And.intro (@Xl) (And.intro (@ACR) (@AA6))))) (And.intro (And.intro (And.intro (@ACr) (@Za)) (And.intro (@AFI) (And.intro (@AFq) (@ABr)))) (And.intro (And.intro (@AB1) (And.intro (@ACM) (@AG2))) (And.intro (@ALR) (And.intro (@AF9) (@AHl)))))) (And.intro (And.intro (And.intro (And.intro (@AEo) (@W9)) (And.intro (@AFi) (And.intro (@AGT) (@ALo)))) (And.intro (And.intro (@AGe) (And.intro (@AGq) (@AB6))) (And.intro (@Zj) (And.intro (@ABs) (@ACu))))) (And.intro (And.intro (And.intro (@AEv) (@ABw)) (And.intro (@AEh) (And.intro (@ANd) (@ACA)))) (And.intro (And.intro (@AIl) (And.intro (@AI9) (@ALC))) (And.intro (@Zu) (And.intro (@VA) (@AEe)))))))) (And.intro (And.intro (And.intro (And.intro (And.intro (And.intro (@ACQ) (@AFJ)) (And.intro (@AAd) (And.intro (@AFG) (@AA5)))) (And.intro (And.intro (@AE8) (@AA2)) (And.intro (@AHH) (And.intro (@ACn) (@ADV))))) (And.intro (And.intro (And.intro (@AHC) (@AHq)) (And.intro (@AJx) (And.intro (@AOT) (@XV)))) (And.intro (And.intro (@AMx) (And.intro (@ADT) (@ARw))) (And.intro (@AE9) (And.intro (@ABj) (@ACN)))))) (And.intro (And.intro (And.intro (And.intro (@AFO) (@AFW)) (And.intro (@ADW) (And.intro (@AD2) (@AMn)))) (And.intro (And.intro (@ADl) (And.intro (@AIe) (@ACU))) (And.intro (@AL7) (And.intro (@ADZ) (@ARP))))) (And.intro (And.intro (And.intro (@AFY) (@AQb)) (And.intro (@ALK) (And.intro (@ATU) (@AKc)))) (And.intro (And.intro (@ALA) (And.intro (@AC5) (@AB4))) (And.intro (@AFF) (And.intro (@X6) (@ACK))))))) (And.intro (And.intro (And.intro (And.intro (And.intro (@Wm) (@AEJ)) (And.intro (@AEZ) (And.intro (@AB3) (@AFg)))) (And.intro (And.intro (@ADC) (And.intro (@AMg) (@AO7))) (And.intro (@AFo) (And.intro (@AFV) (@ADw))))) (And.intro (And.intro (And.intro (@ACI) (@ANb)) (And.intro (@AMz) (And.intro (@AF5) (@ADJ)))) (And.intro (And.intro (@AFf) (And.intro (@ALE) (@Wp))) (And.intro (@AAq) (And.intro (@AEb) (@YE)))))) (And.intro (And.intro (And.intro (And.intro (@AFC) (@AB9)) (And.intro (@ZA) (And.intro (@Wv) (@ACz)))) (And.intro (And.intro (@ADz) (And.intro (@AJV) (@WI))) (And.intro (@AKn) (And.intro (@AJQ) (@Yk))))) (And.intro (And.intro (And.intro (@VB) (@AGl)) (And.intro (@AJD) (And.intro (@Yu) (@Y9)))) (And.intro (And.intro (@AD0) (And.intro (@AKB) (@AKQ))) (And.intro (@AOs) (And.intro (@AGu) (@AGj)))))))))) (And.intro (And.intro (And.intro (And.intro (And.intro (And.intro (And.intro (And.intro (@AQM) (@ACp)) (And.intro (@ARH) (And.intro (@Wx) (@AP5)))) (And.intro (And.intro (@AEz) (@APz)) (And.intro (@ADI) (And.intro (@AJK) (@ADG))))) (And.intro (And.intro (And.intro (@ADL) (@Wl)) (And.intro (@Xa) (And.intro (@AF4) (@AIw)))) (And.intro (And.intro (@YX) (And.intro (@Xo) (@YZ))) (And.intro (@WV) (And.intro (@AA4) (@XN)))))) (And.intro (And.intro (And.intro (And.intro (@YM) (@AGD)) (And.intro (@ALD) (And.intro (@Zi) (@XR)))) (And.intro (And.intro (@YO) (And.intro (@ABE) (@ABt))) (And.intro (@ABa) (And.intro (@AC4) (@WK))))) (And.intro (And.intro (And.intro (@YB) (@ABH)) (And.intro (@AEM) (And.intro (@Yr) (@AAr)))) (And.intro (And.intro (@XA) (And.intro (@Xj) (@AHR))) (And.intro (@AG0) (And.intro (@Z4) (@AAD))))))) (And.intro (And.intro (And.intro (And.intro (And.intro (@ALJ) (@AJo)) (And.intro (@AAs) (And.intro (@Wj) (@YD)))) (And.intro (And.intro (@ABK) (And.intro (@ABv) (@AAy))) (And.intro (@AD5) (And.intro (@Yq) (@Zp))))) (And.intro (And.intro (And.intro (@ABO) (@Yt)) (And.intro (@YN) (And.intro (@XY) (@ZG)))) (And.intro (And.intro (@AOq) (And.intro (@APW) (@ASL))) (And.intro (@ARW) (And.intro (@ARm) (@AEK)))))) (And.intro (And.intro (And.intro (And.intro (@ARK) (@Zh)) (And.intro (@AGd) (And.intro (@Y7) (@AAa)))) (And.intro (And.intro (@AQV) (And.intro (@AKl) (@YR))) (And.intro (@AGw) (And.intro (@AF3) (@ADu))))) (And.intro (And.intro (And.intro (@AFl) (@ALu)) (And.intro (@AKm) (And.intro (@Z0) (@Uq)))) (And.intro (And.intro (@Zt) (And.intro (@U8) (@AIq))) (And.intro (@APh) (And.intro (@AM5) (@ARV)))))))) (And.intro (And.intro (And.intro (And.intro (And.intro (And.intro (@AJS) (@AKD)) (And.intro (@ZE) (And.intro (@ZY) (@AAS)))) (And.intro (And.intro (@Xq) (@U9)) (And.intro (@YU) (And.intro (@Uo) (@AAC))))) (And.intro (And.intro (And.intro (@ALy) (@ALw)) (And.intro (@AAA) (And.intro (@Z9) (@Xe)))) (And.intro (And.intro (@VC) (And.intro (@AA0) (@Ui))) (And.intro (@ABV) (And.intro (@ABn) (@Wy)))))) (And.intro (And.intro (And.intro (And.intro (@Z8) (@Yi)) (And.intro (@YA) (And.intro (@ALY) (@APA)))) (And.intro (And.intro (@AUO) (And.intro (@AOV) (@WC))) (And.intro (@ZM) (And.intro (@AAi) (@APJ))))) (And.intro (And.intro (And.intro (@AH0) (@YI)) (And.intro (@YS) (And.intro (@ABW) (@AAo)))) (And.intro (And.intro (@Xt) (And.intro (@ABN) (@Y5))) (And.intro (@ZK) (And.intro (@WO) (@Y4))))))) (And.intro (And.intro (And.intro (And.intro (And.intro (@AAZ) (@AA7)) (And.intro (@AC7) (And.intro (@AJz) (@ALv)))) (And.intro (And.intro (@AL2) (And.intro (@ASA) (@ACo))) (And.intro (@ARR) (And.intro (@AAx) (@ACh))))) (And.intro (And.intro (And.intro (@AAH) (@AFb)) (And.intro (@Yw) (And.intro (@AEa) (@Xd)))) (And.intro (And.intro (@AEw) (And.intro (@ZR) (@Y1))) (And.intro (@AAG) (And.intro (@X5) (@YY)))))) (And.intro (And.intro (And.intro (And.intro (@Wq) (@YJ)) (And.intro (@AB5) (And.intro (@AMP) (@AAp)))) (And.intro (And.intro (@WT) (And.intro (@AAN) (@AK6))) (And.intro (@AIm) (And.intro (@WZ) (@U1))))) (And.intro (And.intro (And.intro (@YH) (@AKz)) (And.intro (@AJN) (And.intro (@ZP) (@ABP)))) (And.intro (And.intro (@Xp) (And.intro (@Xn) (@WL))) (And.intro (@WU) (And.intro (@AMv) (@Zl))))))))) (And.intro (And.intro (And.intro (And.intro (And.intro (And.intro (And.intro (@Xh) (@X7)) (And.intro (@ATD) (And.intro (@ACy) (@ABR)))) (And.intro (And.intro (@AHr) (@ABM)) (And.intro (@ABe) (And.intro (@Z6) (@WR))))) (And.intro (And.intro (And.intro (@ZH) (@ZB)) (And.intro (@ABD) (And.intro (@ABX) (@Zf)))) (And.intro (And.intro (@WY) (And.intro (@AC6) (@X4))) (And.intro (@ABq) (And.intro (@WH) (@Z7)))))) (And.intro (And.intro (And.intro (And.intro (@Ya) (@Yd)) (And.intro (@AAK) (And.intro (@AO1) (@ANP)))) (And.intro (And.intro (@AKi) (And.intro (@AIt) (@Yz))) (And.intro (@AJl) (And.intro (@ABY) (@WS))))) (And.intro (And.intro (And.intro (@AAt) (@ABf)) (And.intro (@Z5) (And.intro (@ABA) (@Yj)))) (And.intro (And.intro (@Zz) (And.intro (@ABL) (@AHG))) (And.intro (@AGP) (And.intro (@AT8) (@APX))))))) (And.intro (And.intro (And.intro (And.intro (And.intro (@AHB) (@AGN)) (And.intro (@X8) (And.intro (@Wh) (@Zx)))) (And.intro (And.intro (@Wu) (And.intro (@ABd) (@AAE))) (And.intro (@AAh) (And.intro (@Xr) (@ZI))))) (And.intro (And.intro (And.intro (@Wi) (@AQn)) (And.intro (@AKL) (And.intro (@AL5) (@V6)))) (And.intro (And.intro (@AAX) (And.intro (@Y0) (@AHf))) (And.intro (@AKF) (And.intro (@Yg) (@XX)))))) (And.intro (And.intro (And.intro (And.intro (@AAz) (@ABT)) (And.intro (@XC) (And.intro (@XK) (@Ym)))) (And.intro (And.intro (@V7) (And.intro (@AJY) (@Wz))) (And.intro (@ABC) (And.intro (@ALI) (@YK))))) (And.intro (And.intro (And.intro (@Y6) (@AAg)) (And.intro (@WA) (And.intro (@Ye) (@We)))) (And.intro (And.intro (@AK9) (And.intro (@AAR) (@YG))) (And.intro (@AA9) (And.intro (@AAl) (@AKE)))))))) (And.intro (And.intro (And.intro (And.intro (And.intro (And.intro (@AMU) (@AHd)) (And.intro (@ZN) (And.intro (@ABQ) (@YL)))) (And.intro (And.intro (@WP) (And.intro (@AJ6) (@Xf))) (And.intro (@AGZ) (And.intro (@AFx) (@AG5))))) (And.intro (And.intro (And.intro (@ABB) (@Ww)) (And.intro (@ABZ) (And.intro (@Zc) (@Xk)))) (And.intro (And.intro (@AGU) (And.intro (@AGr) (@AJC))) (And.intro (@AKw) (And.intro (@AHj) (@AHK)))))) (And.intro (And.intro (And.intro (And.intro (@QL) (@P7)) (And.intro (@XU) (And.intro (@AGo) (@AGx)))) (And.intro (And.intro (@P9) (And.intro (@Qb) (@V5))) (And.intro (@X9) (And.intro (@WE) (@Zq))))) (And.intro (And.intro (And.intro (@XW) (@Xv)) (And.intro (@AAn) (And.intro (@Yb) (@V9)))) (And.intro (And.intro (@Zn) (And.intro (@Ws) (@Yx))) (And.intro (@AAY) (And.intro (@AAU) (@AAJ))))))) (And.intro (And.intro (And.intro (And.intro (And.intro (@WN) (@XH)) (And.intro (@Zm) (And.intro (@Xx) (@YW)))) (And.intro (And.intro (@AAj) (And.intro (@Xw) (@X0))) (And.intro (@Zd) (And.intro (@Y2) (@AL6))))) (And.intro (And.intro (And.intro (@YF) (@ZT)) (And.intro (@AHp) (And.intro (@YC) (@Zb)))) (And.intro (And.intro (@Zy) (And.intro (@AHE) (@AGM))) (And.intro (@AGR) (And.intro (@AGf) (@AJc)))))) (And.intro (And.intro (And.intro (And.intro (@AGY) (@Y3)) (And.intro (@ZJ) (And.intro (@AI8) (@ALa)))) (And.intro (And.intro (@Yc) (And.intro (@U3) (@AAP))) (And.intro (@Ul) (And.intro (@AL1) (@AKY))))) (And.intro (And.intro (And.intro (@Yv) (@Uy)) (And.intro (@WJ) (And.intro (@Us) (@AA1)))) (And.intro (And.intro (@Uw) (And.intro (@AAk) (@Ux))) (And.intro (@AAT) (And.intro (@Uc) (@AJT))))))))))
def vm:=And.intro vmC (And.intro fxE eE)
end Go.Proofs.YtjgdhjpafjpjgaaGreatDoor
