import Derived.Test.YtjgdhjpafjpjgaaGreatDoorChecked
import Derived.Test.YtjgdhjpafjpjgaaGreatDoorVM2
import Derived.Test.YtjgdhjpafjpjgaaGreatDoorTy
import Derived.KernelRfl
set_option linter.unusedVariables false
namespace Go.Proofs.YtjgdhjpafjpjgaaGreatDoor
open Go.VM
noncomputable def vE:Env:=⟨Tryz.prog,vT⟩
theorem Gh:vE.P.follows .mixedOrders=true:=by kernel_rfl
instance:MX vE:=⟨Gh⟩
theorem AI0:callable vE.P 1=false:=by kernel_rfl
theorem AWE:Gm vE.P 4=0:=by kernel_rfl
theorem AIN:callable vE.P 7=true:=by kernel_rfl
theorem ALG:A7 vE.P 23=true:=by kernel_rfl
theorem ANh:Bu vE.P 23=true:=by kernel_rfl
theorem ASu:Cc vE.P 23=some 4:=by kernel_rfl
theorem AHW:callable vE.P 8=true:=by kernel_rfl
theorem AHS:callable vE.P 9=true:=by kernel_rfl
theorem AXV:Kk vE.P 28=some (4,48):=by kernel_rfl
theorem AGs:AY vE.P 28 0=23:=by kernel_rfl
theorem ADg:Cn vE.P 28=true:=by kernel_rfl
theorem AUV:Gm vE.P 3=0:=by kernel_rfl
theorem ANf:C8 vE.P 28=some 4:=by kernel_rfl
theorem AM4: ∀n,Dm vE.P 23 n=some [.int .i64 0,.str [],.str [],.int .i64 0]:=by intros;kernel_rfl
theorem ADp:callable vE.P 10=true:=by kernel_rfl
theorem ALS: ∀n,Dm vE.P 30 n=some [.str [],.int .i64 0,.str [],.str [],.str [],.bool false,.bool false]:=by intros;kernel_rfl
theorem APd:Cc vE.P 30=some 7:=by kernel_rfl
theorem AFA:callable vE.P 11=true:=by kernel_rfl
theorem AEi:callable vE.P 12=true:=by kernel_rfl
theorem AEA:callable vE.P 13=true:=by kernel_rfl
theorem AGL:callable vE.P 14=true:=by kernel_rfl
theorem ADY:callable vE.P 15=true:=by kernel_rfl
theorem ANX:A7 vE.P 30=true:=by kernel_rfl
theorem AKz:Bu vE.P 30=true:=by kernel_rfl
theorem AH0:vE.P.eqGuardType vE.P.depth 30=false:=by kernel_rfl
theorem AY6: ∀(a0 b0:List UInt8) (a1 b1:Int) (a2 b2:List UInt8) (a3 b3:List UInt8) (a4 b4:List UInt8) (a5 b5:Bool) (a6 b6:Bool),eqA vE.P 10000 30 (.agg [.str a0,.int .i64 a1,.str a2,.str a3,.str a4,.bool a5,.bool a6]) (.agg [.str b0,.int .i64 b1,.str b2,.str b3,.str b4,.bool b5,.bool b6])=some (a0==b0&&(a1==b1&&(a2==b2&&(a3==b3&&(a4==b4&&(a5==b5&&(a6==b6&&true))))))):=by intros;kernel_rfl
theorem AEY:callable vE.P 16=true:=by kernel_rfl
theorem ATc:Cy vE.P 9=true:=by kernel_rfl
theorem AGp:callable vE.P 18=true:=by kernel_rfl
theorem ADy:callable vE.P 19=true:=by kernel_rfl
theorem AFY:callable vE.P 17=true:=by kernel_rfl
theorem ADC:Ab vE.P 42 2=some (3,1,false):=by kernel_rfl
theorem ASA:A7 vE.P 9=true:=by kernel_rfl
theorem ARj:Bu vE.P 9=false:=by kernel_rfl
theorem AVY:Cc vE.P 9=some 1:=by kernel_rfl
theorem ADH:Ab vE.P 42 1=some (2,1,false):=by kernel_rfl
theorem ADN:Ab vE.P 42 3=some (4,1,false):=by kernel_rfl
theorem AEn:Ab vE.P 42 0=some (0,2,true):=by kernel_rfl
theorem AFR:Ab vE.P 40 1=some (1,1,false):=by kernel_rfl
theorem AFa:Ab vE.P 40 0=some (0,1,false):=by kernel_rfl
theorem AD0:callable vE.P 20=true:=by kernel_rfl
theorem AKo: ∀n,Dm vE.P 46 n=some [.int .i64 0,.str [],.slice 1 [] true,.slice 4 [] true]:=by intros;kernel_rfl
theorem AR3:Cc vE.P 46=some 4:=by kernel_rfl
theorem AUp:Gm vE.P 9=0:=by kernel_rfl
theorem AWJ:Gm vE.P 0=0:=by kernel_rfl
theorem AQJ:Ff vE.P 40=some (.agg [.str [],.str []]):=by kernel_rfl
theorem ARs:(FL vE.P 40).isSome=true:=by kernel_rfl
theorem AGH:AY vE.P 40 0=9:=by kernel_rfl
theorem AAQ:Az vE.P 40 0=some (0,1):=by kernel_rfl
theorem AFi:AY vE.P 40 1=9:=by kernel_rfl
theorem X8:Az vE.P 40 1=some (1,1):=by kernel_rfl
theorem AEw:Ab vE.P 42 5=some (6,1,false):=by kernel_rfl
theorem APz:A7 vE.P 4=true:=by kernel_rfl
theorem AP4:Bu vE.P 4=false:=by kernel_rfl
theorem AWU:Cc vE.P 4=some 1:=by kernel_rfl
theorem AR8:Ff vE.P 42=some (.agg [.str [],.str [],.str [],.str [],.str [],.bool false,.bool false]):=by kernel_rfl
theorem ATN:(FL vE.P 42).isSome=true:=by kernel_rfl
theorem AEt:AY vE.P 42 0=40:=by kernel_rfl
theorem Zw:Az vE.P 42 0=some (0,2):=by kernel_rfl
theorem AGN:AY vE.P 42 2=9:=by kernel_rfl
theorem ABn:Az vE.P 42 2=some (3,1):=by kernel_rfl
theorem AGz:AY vE.P 42 4=4:=by kernel_rfl
theorem ABQ:Az vE.P 42 4=some (5,1):=by kernel_rfl
theorem AGv:AY vE.P 42 3=9:=by kernel_rfl
theorem Xb:Az vE.P 42 3=some (4,1):=by kernel_rfl
theorem AG0:AY vE.P 42 5=4:=by kernel_rfl
theorem ABv:Az vE.P 42 5=some (6,1):=by kernel_rfl
theorem ANp: ∀n,Dm vE.P 42 n=some [.str [],.str [],.str [],.str [],.str [],.bool false,.bool false]:=by intros;kernel_rfl
theorem AQo:Cc vE.P 42=some 7:=by kernel_rfl
theorem ANM:A7 vE.P 46=true:=by kernel_rfl
theorem ALU:Bu vE.P 46=true:=by kernel_rfl
theorem AMh:A7 vE.P 42=true:=by kernel_rfl
theorem ALa:Bu vE.P 42=true:=by kernel_rfl
theorem ADb:callable vE.P 21=true:=by kernel_rfl
theorem AFk:callable vE.P 22=true:=by kernel_rfl
theorem AOV:A7 vE.P 55=true:=by kernel_rfl
theorem AL2:Bu vE.P 55=true:=by kernel_rfl
theorem ASU:Cc vE.P 55=some 4:=by kernel_rfl
theorem AE6:callable vE.P 23=true:=by kernel_rfl
theorem AGk:callable vE.P 25=true:=by kernel_rfl
theorem ACq:callable vE.P 26=true:=by kernel_rfl
theorem AEy:callable vE.P 24=true:=by kernel_rfl
theorem AFm:callable vE.P 27=true:=by kernel_rfl
theorem AS4:Ff vE.P 23=some (.agg [.int .i64 0,.str [],.str [],.int .i64 0]):=by kernel_rfl
theorem APm:(FL vE.P 23).isSome=true:=by kernel_rfl
theorem ASL:Gm vE.P 31=0:=by kernel_rfl
theorem AFh:callable vE.P 28=true:=by kernel_rfl
theorem ADn:Ab vE.P 23 1=some (1,1,false):=by kernel_rfl
theorem AGf:Ab vE.P 23 2=some (2,1,false):=by kernel_rfl
theorem AGn:callable vE.P 31=true:=by kernel_rfl
theorem AEB:callable vE.P 30=true:=by kernel_rfl
theorem AEp:callable vE.P 29=true:=by kernel_rfl
theorem AGP:callable vE.P 32=true:=by kernel_rfl
theorem APT:Ff vE.P 30=some (.agg [.str [],.int .i64 0,.str [],.str [],.str [],.bool false,.bool false]):=by kernel_rfl
theorem APu:(FL vE.P 30).isSome=true:=by kernel_rfl
theorem AEM:callable vE.P 33=true:=by kernel_rfl
theorem AFy:Ab vE.P 30 3=some (3,1,false):=by kernel_rfl
theorem ADJ:Ab vE.P 30 5=some (5,1,false):=by kernel_rfl
theorem AF7:callable vE.P 34=true:=by kernel_rfl
theorem ACh:callable vE.P 35=true:=by kernel_rfl
theorem AFT:callable vE.P 36=true:=by kernel_rfl
theorem AF3:Cn vE.P 36=true:=by kernel_rfl
theorem ANT:C8 vE.P 36=some 2:=by kernel_rfl
theorem ANd:A7 vE.P 70=true:=by kernel_rfl
theorem AMT:Bu vE.P 70=true:=by kernel_rfl
theorem ATH:Cc vE.P 70=some 2:=by kernel_rfl
theorem AIo:vE.P.eqGuardType vE.P.depth 70=false:=by kernel_rfl
theorem AZC: ∀(a0 b0:List UInt8) (a1 b1:List UInt8),eqA vE.P 10000 70 (.agg [.str a0,.str a1]) (.agg [.str b0,.str b1])=some (a0==b0&&(a1==b1&&true)):=by intros;kernel_rfl
theorem AS7:Gm vE.P 36=2:=by kernel_rfl
theorem ALu: ∀n,Dm vE.P 36 n=some [.slice 2 [] true]:=by intros;kernel_rfl
theorem AFV:callable vE.P 37=true:=by kernel_rfl
theorem AEa:callable vE.P 38=true:=by kernel_rfl
theorem ADc:callable vE.P 39=true:=by kernel_rfl
theorem ALC:A7 vE.P 36=true:=by kernel_rfl
theorem AOM:Bu vE.P 36=false:=by kernel_rfl
theorem ASe:Cc vE.P 36=some 1:=by kernel_rfl
theorem APN:Ff vE.P 70=some (.agg [.str [],.str []]):=by kernel_rfl
theorem APQ:(FL vE.P 70).isSome=true:=by kernel_rfl
theorem AGA:AY vE.P 70 0=9:=by kernel_rfl
theorem XN:Az vE.P 70 0=some (0,1):=by kernel_rfl
theorem ADl:AY vE.P 70 1=9:=by kernel_rfl
theorem YB:Az vE.P 70 1=some (1,1):=by kernel_rfl
theorem AXW:Kk vE.P 36=some (2,32):=by kernel_rfl
theorem AD9:AY vE.P 36 0=70:=by kernel_rfl
theorem AWN:IV vE.P 36=none:=by kernel_rfl
theorem AUw:Gm vE.P 5=0:=by kernel_rfl
theorem ADQ:callable vE.P 40=true:=by kernel_rfl
theorem AE0:Cn vE.P 43=true:=by kernel_rfl
theorem AME:C8 vE.P 43=some 1:=by kernel_rfl
theorem ADV:callable vE.P 41=true:=by kernel_rfl
theorem AD2:callable vE.P 43=true:=by kernel_rfl
theorem AE2:callable vE.P 42=true:=by kernel_rfl
theorem AP1:Ff vE.P 46=some (.agg [.int .i64 0,.str [],.slice 1 [] true,.slice 4 [] true]):=by kernel_rfl
theorem ASi:(FL vE.P 46).isSome=true:=by kernel_rfl
theorem ARo:Ff vE.P 82=some (.agg [.str [],.int .i64 0,.int .i64 0,.int .i64 0,.int .i64 0]):=by kernel_rfl
theorem ARO:(FL vE.P 82).isSome=true:=by kernel_rfl
theorem ADW:AY vE.P 82 0=9:=by kernel_rfl
theorem AAJ:Az vE.P 82 0=some (0,1):=by kernel_rfl
theorem ACn:callable vE.P 45=true:=by kernel_rfl
theorem AE7:callable vE.P 44=true:=by kernel_rfl
theorem ALr: ∀n,Dm vE.P 85 n=some [.int .i64 0,.str [],.int .i64 0]:=by intros;kernel_rfl
theorem APR:Cc vE.P 85=some 3:=by kernel_rfl
theorem AD4:Ab vE.P 82 3=some (3,1,false):=by kernel_rfl
theorem ALP:A7 vE.P 31=true:=by kernel_rfl
theorem ANC:Bu vE.P 31=false:=by kernel_rfl
theorem AQY:Cc vE.P 31=some 1:=by kernel_rfl
theorem ADf:Ab vE.P 85 0=some (0,1,false):=by kernel_rfl
theorem ASX:A7 vE.P 3=true:=by kernel_rfl
theorem AQC:Bu vE.P 3=false:=by kernel_rfl
theorem AUr:Cc vE.P 3=some 1:=by kernel_rfl
theorem AFX:Ab vE.P 85 2=some (2,1,false):=by kernel_rfl
theorem AFd:callable vE.P 46=true:=by kernel_rfl
theorem AEx:Ab vE.P 82 4=some (4,1,false):=by kernel_rfl
theorem AC6:callable vE.P 47=true:=by kernel_rfl
theorem ANO: ∀n,Dm vE.P 91 n=some [.str [],.slice 1 [] true,.slice 1 [] true,.slice 3 [] true,.slice 3 [] true]:=by intros;kernel_rfl
theorem ATO:Cc vE.P 91=some 5:=by kernel_rfl
theorem ADO:callable vE.P 48=true:=by kernel_rfl
theorem AD5:callable vE.P 49=true:=by kernel_rfl
theorem ALw:A7 vE.P 91=true:=by kernel_rfl
theorem AMJ:Bu vE.P 91=true:=by kernel_rfl
theorem ANK:A7 vE.P 40=true:=by kernel_rfl
theorem AKy:Bu vE.P 40=true:=by kernel_rfl
theorem AR1:Cc vE.P 40=some 2:=by kernel_rfl
theorem AC7:callable vE.P 51=true:=by kernel_rfl
theorem AGl:callable vE.P 50=true:=by kernel_rfl
theorem AC5:callable vE.P 52=true:=by kernel_rfl
theorem AFP:callable vE.P 53=true:=by kernel_rfl
theorem AFr:Ab vE.P 30 6=some (6,1,false):=by kernel_rfl
theorem AGR:Ab vE.P 30 4=some (4,1,false):=by kernel_rfl
theorem ADS:callable vE.P 54=true:=by kernel_rfl
theorem AF4:callable vE.P 56=true:=by kernel_rfl
theorem AGY:callable vE.P 55=true:=by kernel_rfl
theorem AEd:Ab vE.P 91 4=some (4,1,false):=by kernel_rfl
theorem ALJ:A7 vE.P 89=true:=by kernel_rfl
theorem AKq:Bu vE.P 89=false:=by kernel_rfl
theorem ASm:Cc vE.P 89=some 1:=by kernel_rfl
theorem AGF:Cn vE.P 89=true:=by kernel_rfl
theorem AMc:C8 vE.P 89=some 3:=by kernel_rfl
theorem AHZ:A7 vE.P 103=true:=by kernel_rfl
theorem AHR:Bu vE.P 103=true:=by kernel_rfl
theorem AL1:Cc vE.P 103=some 3:=by kernel_rfl
theorem AHN: ∀n,Dm vE.P 103 n=some [.str [],.slice 1 [] true,.slice 1 [] true]:=by intros;kernel_rfl
theorem Y2:Ab vE.P 103 0=some (0,1,false):=by kernel_rfl
theorem ADm:callable vE.P 57=true:=by kernel_rfl
theorem AGi:callable vE.P 58=true:=by kernel_rfl
theorem AF6:Ab vE.P 55 0=some (0,1,false):=by kernel_rfl
theorem AGg:Ab vE.P 55 1=some (1,1,false):=by kernel_rfl
theorem AN5:A7 vE.P 43=true:=by kernel_rfl
theorem AOA:Bu vE.P 43=false:=by kernel_rfl
theorem ARX:Cc vE.P 43=some 1:=by kernel_rfl
theorem AG2:Ab vE.P 55 3=some (3,1,false):=by kernel_rfl
theorem AML:A7 vE.P 53=true:=by kernel_rfl
theorem AL9:Bu vE.P 53=false:=by kernel_rfl
theorem AQd:Cc vE.P 53=some 1:=by kernel_rfl
theorem AD6:Cn vE.P 53=true:=by kernel_rfl
theorem ACm:Ab vE.P 55 2=some (2,1,false):=by kernel_rfl
theorem ALb:A7 vE.P 52=true:=by kernel_rfl
theorem AOL:Bu vE.P 52=false:=by kernel_rfl
theorem APf:Cc vE.P 52=some 1:=by kernel_rfl
theorem AFb:Cn vE.P 52=true:=by kernel_rfl
theorem AMq:C8 vE.P 53=some 6:=by kernel_rfl
theorem AI2:A7 vE.P 106=true:=by kernel_rfl
theorem AJZ:Bu vE.P 106=true:=by kernel_rfl
theorem ALy:Cc vE.P 106=some 6:=by kernel_rfl
theorem AHl: ∀n,Dm vE.P 106 n=some [.str [],.str [],.str [],.str [],.slice 3 [] true,.slice 3 [] true]:=by intros;kernel_rfl
theorem Zy:Ab vE.P 106 0=some (0,1,false):=by kernel_rfl
theorem ABm:Ab vE.P 106 1=some (1,1,false):=by kernel_rfl
theorem ZC:Ab vE.P 106 2=some (2,1,false):=by kernel_rfl
theorem Yn:Ab vE.P 106 3=some (3,1,false):=by kernel_rfl
theorem ABO:Ab vE.P 106 4=some (4,1,false):=by kernel_rfl
theorem ZA:Ab vE.P 106 5=some (5,1,false):=by kernel_rfl
theorem AIz:vE.P.eqGuardType vE.P.depth 23=false:=by kernel_rfl
theorem AXy: ∀(a0 b0:Int) (a1 b1:List UInt8) (a2 b2:List UInt8) (a3 b3:Int),eqA vE.P 10000 23 (.agg [.int .i64 a0,.str a1,.str a2,.int .i64 a3]) (.agg [.int .i64 b0,.str b1,.str b2,.int .i64 b3])=some (a0==b0&&(a1==b1&&(a2==b2&&(a3==b3&&true)))):=by intros;kernel_rfl
theorem AQX:Gm vE.P 28=4:=by kernel_rfl
theorem AQ0:Gm vE.P 43=1:=by kernel_rfl
theorem AFN:callable vE.P 59=true:=by kernel_rfl
theorem AUy:Kk vE.P 43=some (1,16):=by kernel_rfl
theorem AFz:AY vE.P 43 0=9:=by kernel_rfl
theorem AVm:IV vE.P 43=none:=by kernel_rfl
theorem AO2:Kk vE.P 172=some (1,24):=by kernel_rfl
theorem ZQ:AY vE.P 172 0=43:=by kernel_rfl
theorem ADZ:callable vE.P 60=true:=by kernel_rfl
theorem AED:callable vE.P 61=true:=by kernel_rfl
theorem ADF:callable vE.P 62=true:=by kernel_rfl
theorem AEO:AY vE.P 23 0=3:=by kernel_rfl
theorem XK:Az vE.P 23 0=some (0,1):=by kernel_rfl
theorem AFZ:AY vE.P 23 1=9:=by kernel_rfl
theorem ZG:Az vE.P 23 1=some (1,1):=by kernel_rfl
theorem ADA:AY vE.P 23 2=9:=by kernel_rfl
theorem XM:Az vE.P 23 2=some (2,1):=by kernel_rfl
theorem AGU:callable vE.P 64=true:=by kernel_rfl
theorem AFW:callable vE.P 63=true:=by kernel_rfl
theorem AEZ:callable vE.P 65=true:=by kernel_rfl
theorem AGK:callable vE.P 66=true:=by kernel_rfl
theorem ADP:callable vE.P 67=true:=by kernel_rfl
theorem AJA: ∀n,Dm vE.P 116 n=some [.str [],.str []]:=by intros;kernel_rfl
theorem AOF:Cc vE.P 116=some 2:=by kernel_rfl
theorem AHX:A7 vE.P 116=true:=by kernel_rfl
theorem AIA:Bu vE.P 116=true:=by kernel_rfl
theorem AEg:callable vE.P 68=true:=by kernel_rfl
theorem AB1:Ab vE.P 116 1=some (1,1,false):=by kernel_rfl
theorem AFe:callable vE.P 69=true:=by kernel_rfl
theorem AHJ: ∀n,Dm vE.P 121 n=some [.str [],.str []]:=by intros;kernel_rfl
theorem AMb:Cc vE.P 121=some 2:=by kernel_rfl
theorem AH4:A7 vE.P 121=true:=by kernel_rfl
theorem AJQ:Bu vE.P 121=true:=by kernel_rfl
theorem ACp:callable vE.P 70=true:=by kernel_rfl
theorem XU:Ab vE.P 121 1=some (1,1,false):=by kernel_rfl
theorem AEu:callable vE.P 71=true:=by kernel_rfl
theorem AGy:callable vE.P 72=true:=by kernel_rfl
theorem AFo:callable vE.P 73=true:=by kernel_rfl
theorem AEC:callable vE.P 74=true:=by kernel_rfl
theorem AC0:callable vE.P 75=true:=by kernel_rfl
theorem ASY:Gm vE.P 65=0:=by kernel_rfl
theorem ADq:Cn vE.P 24=true:=by kernel_rfl
theorem ALc:C8 vE.P 24=some 1:=by kernel_rfl
theorem AMO:Ff vE.P 128=some (.agg [.slice 1 [] true]):=by kernel_rfl
theorem AMm:(FL vE.P 128).isSome=true:=by kernel_rfl
theorem XI:AY vE.P 128 0=24:=by kernel_rfl
theorem VL:Az vE.P 128 0=some (0,1):=by kernel_rfl
theorem AD1:callable vE.P 76=true:=by kernel_rfl
theorem AGV:Ab vE.P 23 3=some (3,1,false):=by kernel_rfl
theorem AE9:AY vE.P 30 0=9:=by kernel_rfl
theorem YA:Az vE.P 30 0=some (0,1):=by kernel_rfl
theorem AFK:AY vE.P 30 1=3:=by kernel_rfl
theorem Y0:Az vE.P 30 1=some (1,1):=by kernel_rfl
theorem ADT:AY vE.P 30 2=9:=by kernel_rfl
theorem AAA:Az vE.P 30 2=some (2,1):=by kernel_rfl
theorem AIb: ∀n,Dm vE.P 129 n=some [.slice 1 [] true]:=by intros;kernel_rfl
theorem ADE:callable vE.P 77=true:=by kernel_rfl
theorem AFv:callable vE.P 78=true:=by kernel_rfl
theorem AHh:A7 vE.P 129=true:=by kernel_rfl
theorem AJD:Bu vE.P 129=false:=by kernel_rfl
theorem AOJ:Cc vE.P 129=some 1:=by kernel_rfl
theorem ARI:Kk vE.P 129=some (1,1):=by kernel_rfl
theorem ACO:AY vE.P 129 0=5:=by kernel_rfl
theorem ATa:IV vE.P 129=none:=by kernel_rfl
theorem ACl:callable vE.P 79=true:=by kernel_rfl
theorem AWH:u8T vE.P 129=true:=by kernel_rfl
theorem AFn:callable vE.P 81=true:=by kernel_rfl
theorem AFH:callable vE.P 80=true:=by kernel_rfl
theorem AGa:callable vE.P 82=true:=by kernel_rfl
theorem AF0:callable vE.P 83=true:=by kernel_rfl
theorem AFx:callable vE.P 84=true:=by kernel_rfl
theorem AGB:callable vE.P 85=true:=by kernel_rfl
theorem AFg:callable vE.P 86=true:=by kernel_rfl
theorem ARC:Gm vE.P 72=0:=by kernel_rfl
theorem AFq:callable vE.P 87=true:=by kernel_rfl
theorem AFU:callable vE.P 88=true:=by kernel_rfl
theorem AMw:Gm vE.P 129=1:=by kernel_rfl
theorem ADz:callable vE.P 89=true:=by kernel_rfl
theorem ASk:Gm vE.P 24=1:=by kernel_rfl
theorem AEV:callable vE.P 90=true:=by kernel_rfl
theorem AXR:Kk vE.P 24=some (1,1):=by kernel_rfl
theorem AG5:AY vE.P 24 0=5:=by kernel_rfl
theorem AWa:IV vE.P 24=none:=by kernel_rfl
theorem ALf:A7 vE.P 24=true:=by kernel_rfl
theorem AZp:u8T vE.P 24=true:=by kernel_rfl
theorem AMP:A7 vE.P 85=true:=by kernel_rfl
theorem AMk:Bu vE.P 85=true:=by kernel_rfl
theorem ADx:callable vE.P 91=true:=by kernel_rfl
theorem AEF:Ab vE.P 85 1=some (1,1,false):=by kernel_rfl
theorem AG4:AY vE.P 46 0=3:=by kernel_rfl
theorem Xt:Az vE.P 46 0=some (0,1):=by kernel_rfl
theorem ADt:AY vE.P 46 1=9:=by kernel_rfl
theorem ACG:Az vE.P 46 1=some (1,1):=by kernel_rfl
theorem AEf:callable vE.P 92=true:=by kernel_rfl
theorem AEP:Ab vE.P 82 2=some (2,1,false):=by kernel_rfl
theorem AEX:callable vE.P 93=true:=by kernel_rfl
theorem ADw:callable vE.P 94=true:=by kernel_rfl
theorem AGO:callable vE.P 95=true:=by kernel_rfl
theorem AQ9:Ff vE.P 85=some (.agg [.int .i64 0,.str [],.int .i64 0]):=by kernel_rfl
theorem AQy:(FL vE.P 85).isSome=true:=by kernel_rfl
theorem AFF:Ab vE.P 82 0=some (0,1,false):=by kernel_rfl
theorem AGm:Ab vE.P 82 1=some (1,1,false):=by kernel_rfl
theorem AGQ:callable vE.P 96=true:=by kernel_rfl
theorem ACy:Ab vE.P 46 0=some (0,1,false):=by kernel_rfl
theorem APq:Ff vE.P 91=some (.agg [.str [],.slice 1 [] true,.slice 1 [] true,.slice 3 [] true,.slice 3 [] true]):=by kernel_rfl
theorem ARc:(FL vE.P 91).isSome=true:=by kernel_rfl
theorem AIq: ∀n,Dm vE.P 143 n=some [.str [],.str [],.int .i64 0]:=by intros;kernel_rfl
theorem AGw:callable vE.P 98=true:=by kernel_rfl
theorem ADM:callable vE.P 97=true:=by kernel_rfl
theorem ANL: ∀n,Dm vE.P 40 n=some [.str [],.str []]:=by intros;kernel_rfl
theorem ABy:Ab vE.P 143 1=some (2,1,false):=by kernel_rfl
theorem YR:Ab vE.P 143 0=some (0,2,true):=by kernel_rfl
theorem ADR:Ab vE.P 91 0=some (0,1,false):=by kernel_rfl
theorem AA4:callable vE.P 100=true:=by kernel_rfl
theorem AEW:callable vE.P 99=true:=by kernel_rfl
theorem ADK:Ab vE.P 91 1=some (1,1,false):=by kernel_rfl
theorem AAw:callable vE.P 101=true:=by kernel_rfl
theorem YF:callable vE.P 102=true:=by kernel_rfl
theorem AEQ:Ab vE.P 91 2=some (2,1,false):=by kernel_rfl
theorem AEz:Cn vE.P 44=true:=by kernel_rfl
theorem ALB:C8 vE.P 44=some 4:=by kernel_rfl
theorem XL:callable vE.P 103=true:=by kernel_rfl
theorem AL5:Ff vE.P 154=some (.agg [.str [],.str [],.str []]):=by kernel_rfl
theorem ANH:(FL vE.P 154).isSome=true:=by kernel_rfl
theorem AA1:AY vE.P 154 0=9:=by kernel_rfl
theorem Vb:Az vE.P 154 0=some (0,1):=by kernel_rfl
theorem AIX: ∀n,Dm vE.P 154 n=some [.str [],.str [],.str []]:=by intros;kernel_rfl
theorem ANZ:Cc vE.P 154=some 3:=by kernel_rfl
theorem Yq:Ab vE.P 154 1=some (1,1,false):=by kernel_rfl
theorem Yd:Ab vE.P 154 2=some (2,1,false):=by kernel_rfl
theorem ADr:Ab vE.P 91 3=some (3,1,false):=by kernel_rfl
theorem AOH:A7 vE.P 88=true:=by kernel_rfl
theorem ALT:Bu vE.P 88=false:=by kernel_rfl
theorem APh:Cc vE.P 88=some 1:=by kernel_rfl
theorem AHj:A7 vE.P 154=true:=by kernel_rfl
theorem AHx:Bu vE.P 154=true:=by kernel_rfl
theorem AWw:Kk vE.P 88=some (3,48):=by kernel_rfl
theorem ADj:AY vE.P 88 0=154:=by kernel_rfl
theorem AUU:IV vE.P 88=none:=by kernel_rfl
theorem XC:callable vE.P 104=true:=by kernel_rfl
theorem AVf:Kk vE.P 89=some (3,64):=by kernel_rfl
theorem AGT:AY vE.P 89 0=103:=by kernel_rfl
theorem AWF:IV vE.P 89=none:=by kernel_rfl
theorem ACt:Ab vE.P 42 4=some (5,1,false):=by kernel_rfl
theorem AK0: ∀n,Dm vE.P 70 n=some [.str [],.str []]:=by intros;kernel_rfl
theorem ACv:Ab vE.P 70 0=some (0,1,false):=by kernel_rfl
theorem AD7:Ab vE.P 70 1=some (1,1,false):=by kernel_rfl
theorem Xw:Ab vE.P 103 2=some (2,1,false):=by kernel_rfl
theorem AAX:callable vE.P 105=true:=by kernel_rfl
theorem AJE: ∀n,Dm vE.P 157 n=some [.str [],.str [],.str [],.str [],.str [],.bool false,.bool false,.bool false,.bool false]:=by intros;kernel_rfl
theorem AKn:Cc vE.P 157=some 9:=by kernel_rfl
theorem Z6:Ab vE.P 157 5=some (5,1,false):=by kernel_rfl
theorem ABA:Ab vE.P 157 0=some (0,1,false):=by kernel_rfl
theorem AAa:callable vE.P 106=true:=by kernel_rfl
theorem Zf:Ab vE.P 157 6=some (6,1,false):=by kernel_rfl
theorem AAF:Ab vE.P 157 1=some (1,1,false):=by kernel_rfl
theorem Y9:callable vE.P 107=true:=by kernel_rfl
theorem Yi:callable vE.P 108=true:=by kernel_rfl
theorem AIQ: ∀n,Dm vE.P 112 n=some [.str [],.int .i64 0]:=by intros;kernel_rfl
theorem ANQ:Cc vE.P 112=some 2:=by kernel_rfl
theorem AAi:Ab vE.P 112 0=some (0,1,false):=by kernel_rfl
theorem Ya:Ab vE.P 112 1=some (1,1,false):=by kernel_rfl
theorem Zp:Ab vE.P 157 7=some (7,1,false):=by kernel_rfl
theorem Ym:Ab vE.P 157 8=some (8,1,false):=by kernel_rfl
theorem AE1:AY vE.P 30 5=4:=by kernel_rfl
theorem AA0:Az vE.P 30 5=some (5,1):=by kernel_rfl
theorem ADa:AY vE.P 30 6=4:=by kernel_rfl
theorem Xz:Az vE.P 30 6=some (6,1):=by kernel_rfl
theorem ABK:Ab vE.P 157 2=some (2,1,false):=by kernel_rfl
theorem ZR:callable vE.P 109=true:=by kernel_rfl
theorem AC8:Ab vE.P 30 2=some (2,1,false):=by kernel_rfl
theorem ZL:Ab vE.P 157 3=some (3,1,false):=by kernel_rfl
theorem ABG:Ab vE.P 157 4=some (4,1,false):=by kernel_rfl
theorem AAE:callable vE.P 110=true:=by kernel_rfl
theorem ABE:callable vE.P 111=true:=by kernel_rfl
theorem AHT:A7 vE.P 157=true:=by kernel_rfl
theorem AI8:Bu vE.P 157=true:=by kernel_rfl
theorem XB:callable vE.P 112=true:=by kernel_rfl
theorem Yj:callable vE.P 113=true:=by kernel_rfl
theorem ALK:Ff vE.P 169=some (.agg [.str [],.str [],.int .i64 0]):=by kernel_rfl
theorem AM2:(FL vE.P 169).isSome=true:=by kernel_rfl
theorem AAK:callable vE.P 115=true:=by kernel_rfl
theorem YZ:callable vE.P 114=true:=by kernel_rfl
theorem Y5:Ab vE.P 169 0=some (0,2,true):=by kernel_rfl
theorem AAf:callable vE.P 116=true:=by kernel_rfl
theorem AFS:AY vE.P 91 0=9:=by kernel_rfl
theorem ZX:Az vE.P 91 0=some (0,1):=by kernel_rfl
theorem AF1:AY vE.P 91 1=43:=by kernel_rfl
theorem ACR:Az vE.P 91 1=some (1,1):=by kernel_rfl
theorem ACC:callable vE.P 117=true:=by kernel_rfl
theorem AAb:callable vE.P 118=true:=by kernel_rfl
theorem YW:callable vE.P 119=true:=by kernel_rfl
theorem AB8:Ab vE.P 169 1=some (2,1,false):=by kernel_rfl
theorem XE:callable vE.P 120=true:=by kernel_rfl
theorem W9:callable vE.P 121=true:=by kernel_rfl
theorem APF:Gm vE.P 53=6:=by kernel_rfl
theorem APx:Gm vE.P 52=3:=by kernel_rfl
theorem AUo:Kk vE.P 52=some (3,40):=by kernel_rfl
theorem AUd:IV vE.P 52=none:=by kernel_rfl
theorem AVn:Kk vE.P 53=some (6,112):=by kernel_rfl
theorem AGb:AY vE.P 53 0=106:=by kernel_rfl
theorem AU1:IV vE.P 53=none:=by kernel_rfl
theorem ZM:Cn vE.P 172=true:=by kernel_rfl
theorem AHn:C8 vE.P 172=some 1:=by kernel_rfl
theorem ABg:callable vE.P 122=true:=by kernel_rfl
theorem Yf:callable vE.P 123=true:=by kernel_rfl
theorem AVy:IV vE.P 28=none:=by kernel_rfl
theorem AOU:A7 vE.P 28=true:=by kernel_rfl
theorem Y3:callable vE.P 124=true:=by kernel_rfl
theorem AHr:A7 vE.P 112=true:=by kernel_rfl
theorem AIV:Bu vE.P 112=true:=by kernel_rfl
theorem AF5:Ab vE.P 30 0=some (0,1,false):=by kernel_rfl
theorem AGt:Ab vE.P 30 1=some (1,1,false):=by kernel_rfl
theorem ALl:Ff vE.P 112=some (.agg [.str [],.int .i64 0]):=by kernel_rfl
theorem ALY:(FL vE.P 112).isSome=true:=by kernel_rfl
theorem AB0:AY vE.P 112 0=9:=by kernel_rfl
theorem VF:Az vE.P 112 0=some (0,1):=by kernel_rfl
theorem ABo:AY vE.P 112 1=3:=by kernel_rfl
theorem VD:Az vE.P 112 1=some (1,1):=by kernel_rfl
theorem ANn:Cy vE.P 24=false:=by kernel_rfl
theorem APA:A7 vE.P 5=true:=by kernel_rfl
theorem ARZ:Bu vE.P 5=false:=by kernel_rfl
theorem AVh:Cc vE.P 5=some 1:=by kernel_rfl
theorem ALM:Ff vE.P 116=some (.agg [.str [],.str []]):=by kernel_rfl
theorem ALn:(FL vE.P 116).isSome=true:=by kernel_rfl
theorem Zb:callable vE.P 125=true:=by kernel_rfl
theorem Y6:callable vE.P 126=true:=by kernel_rfl
theorem XV:callable vE.P 127=true:=by kernel_rfl
theorem YD:AY vE.P 116 0=9:=by kernel_rfl
theorem VT:Az vE.P 116 0=some (0,1):=by kernel_rfl
theorem ABs:AY vE.P 116 1=9:=by kernel_rfl
theorem VH:Az vE.P 116 1=some (1,1):=by kernel_rfl
theorem AAe:Ab vE.P 116 0=some (0,1,false):=by kernel_rfl
theorem ANe:Ff vE.P 121=some (.agg [.str [],.str []]):=by kernel_rfl
theorem ALd:(FL vE.P 121).isSome=true:=by kernel_rfl
theorem Zc:callable vE.P 128=true:=by kernel_rfl
theorem AAU:callable vE.P 129=true:=by kernel_rfl
theorem Zt:AY vE.P 121 0=9:=by kernel_rfl
theorem VO:Az vE.P 121 0=some (0,1):=by kernel_rfl
theorem X9:AY vE.P 121 1=9:=by kernel_rfl
theorem Vd:Az vE.P 121 1=some (1,1):=by kernel_rfl
theorem Yo:Ab vE.P 121 0=some (0,1,false):=by kernel_rfl
theorem AEG:AY vE.P 23 3=3:=by kernel_rfl
theorem XW:Az vE.P 23 3=some (3,1):=by kernel_rfl
theorem Yr:callable vE.P 130=true:=by kernel_rfl
theorem ZO:callable vE.P 131=true:=by kernel_rfl
theorem ACZ:Ab vE.P 128 0=some (0,1,false):=by kernel_rfl
theorem AMi:Bu vE.P 24=false:=by kernel_rfl
theorem APU:Cc vE.P 24=some 1:=by kernel_rfl
theorem AYK:IV vE.P 3=some .i64:=by kernel_rfl
theorem ASa:Cy vE.P 3=false:=by kernel_rfl
theorem YK:callable vE.P 132=true:=by kernel_rfl
theorem AAj:callable vE.P 133=true:=by kernel_rfl
theorem Xo:callable vE.P 134=true:=by kernel_rfl
theorem ASM:IV vE.P 180=some .u64:=by kernel_rfl
theorem AIk:Cy vE.P 180=false:=by kernel_rfl
theorem ABp:callable vE.P 135=true:=by kernel_rfl
theorem ZZ:callable vE.P 136=true:=by kernel_rfl
theorem Yv:callable vE.P 137=true:=by kernel_rfl
theorem XJ:callable vE.P 138=true:=by kernel_rfl
theorem Xv:callable vE.P 139=true:=by kernel_rfl
theorem ABH:callable vE.P 140=true:=by kernel_rfl
theorem AAg:callable vE.P 141=true:=by kernel_rfl
theorem YX:callable vE.P 142=true:=by kernel_rfl
theorem ACB:callable vE.P 143=true:=by kernel_rfl
theorem ABC:callable vE.P 145=true:=by kernel_rfl
theorem ABY:callable vE.P 144=true:=by kernel_rfl
theorem YN:callable vE.P 146=true:=by kernel_rfl
theorem AG1:Ab vE.P 46 3=some (3,1,false):=by kernel_rfl
theorem AL6:A7 vE.P 44=true:=by kernel_rfl
theorem AM8:Bu vE.P 44=false:=by kernel_rfl
theorem AQ2:Cc vE.P 44=some 1:=by kernel_rfl
theorem AVK:Kk vE.P 44=some (4,72):=by kernel_rfl
theorem ACr:AY vE.P 44 0=46:=by kernel_rfl
theorem AVt:IV vE.P 44=none:=by kernel_rfl
theorem Xm:callable vE.P 147=true:=by kernel_rfl
theorem ADh:Ab vE.P 46 2=some (2,1,false):=by kernel_rfl
theorem ACA:callable vE.P 148=true:=by kernel_rfl
theorem AEr:AY vE.P 85 0=3:=by kernel_rfl
theorem AAL:Az vE.P 85 0=some (0,1):=by kernel_rfl
theorem AFl:AY vE.P 85 2=3:=by kernel_rfl
theorem AAt:Az vE.P 85 2=some (2,1):=by kernel_rfl
theorem AGu:AY vE.P 85 1=9:=by kernel_rfl
theorem ZB:Az vE.P 85 1=some (1,1):=by kernel_rfl
theorem YT:callable vE.P 149=true:=by kernel_rfl
theorem AAl:callable vE.P 150=true:=by kernel_rfl
theorem Xj:callable vE.P 151=true:=by kernel_rfl
theorem ABw:callable vE.P 152=true:=by kernel_rfl
theorem ABb:callable vE.P 153=true:=by kernel_rfl
theorem XQ:callable vE.P 154=true:=by kernel_rfl
theorem AF8:Ab vE.P 46 1=some (1,1,false):=by kernel_rfl
theorem ASx:Gm vE.P 44=4:=by kernel_rfl
theorem XR:callable vE.P 155=true:=by kernel_rfl
theorem Z5:callable vE.P 156=true:=by kernel_rfl
theorem ABF:callable vE.P 157=true:=by kernel_rfl
theorem AOG:Ff vE.P 103=some (.agg [.str [],.slice 1 [] true,.slice 1 [] true]):=by kernel_rfl
theorem AN2:(FL vE.P 103).isSome=true:=by kernel_rfl
theorem AAD:AY vE.P 103 0=9:=by kernel_rfl
theorem VV:Az vE.P 103 0=some (0,1):=by kernel_rfl
theorem AAC:Ab vE.P 103 1=some (1,1,false):=by kernel_rfl
theorem AOB:Ff vE.P 157=some (.agg [.str [],.str [],.str [],.str [],.str [],.bool false,.bool false,.bool false,.bool false]):=by kernel_rfl
theorem ANa:(FL vE.P 157).isSome=true:=by kernel_rfl
theorem Zq:callable vE.P 158=true:=by kernel_rfl
theorem Z9:callable vE.P 159=true:=by kernel_rfl
theorem ABi:callable vE.P 160=true:=by kernel_rfl
theorem YO:callable vE.P 161=true:=by kernel_rfl
theorem ABB:callable vE.P 162=true:=by kernel_rfl
theorem AA7:callable vE.P 163=true:=by kernel_rfl
theorem ARJ:PR vE.P 24=some (1,.int .u8 0):=by kernel_rfl
theorem ZH:callable vE.P 164=true:=by kernel_rfl
theorem ABa:callable vE.P 165=true:=by kernel_rfl
theorem Xd:callable vE.P 166=true:=by kernel_rfl
theorem AZW:IV vE.P 9=none:=by kernel_rfl
theorem AFI:UM vE.P 24 5=true:=by kernel_rfl
theorem ACY:callable vE.P 167=true:=by kernel_rfl
theorem AHu: ∀n,Dm vE.P 196 n=some [.nself n 196 2,.buf 5 [] true]:=by intros;kernel_rfl
theorem XG:callable vE.P 168=true:=by kernel_rfl
theorem AB5:callable vE.P 170=true:=by kernel_rfl
theorem ZE:callable vE.P 171=true:=by kernel_rfl
theorem ZK:callable vE.P 172=true:=by kernel_rfl
theorem Yt:callable vE.P 173=true:=by kernel_rfl
theorem X6:callable vE.P 174=true:=by kernel_rfl
theorem AB9:callable vE.P 175=true:=by kernel_rfl
theorem ZY:callable vE.P 176=true:=by kernel_rfl
theorem AAo:callable vE.P 177=true:=by kernel_rfl
theorem AAO:callable vE.P 178=true:=by kernel_rfl
theorem ACJ:callable vE.P 179=true:=by kernel_rfl
theorem AGJ:AY vE.P 30 3=9:=by kernel_rfl
theorem ZI:Az vE.P 30 3=some (3,1):=by kernel_rfl
theorem AFJ:AY vE.P 30 4=9:=by kernel_rfl
theorem XF:Az vE.P 30 4=some (4,1):=by kernel_rfl
theorem ZU:callable vE.P 180=true:=by kernel_rfl
theorem ABx:callable vE.P 181=true:=by kernel_rfl
theorem ABV:callable vE.P 182=true:=by kernel_rfl
theorem ZV:callable vE.P 183=true:=by kernel_rfl
theorem APV:(Vg vE.P 204).isSome=true:=by kernel_rfl
theorem AQS:(Vg vE.P 204).bind (Ff vE.P)=some .nilFn:=by kernel_rfl
theorem AKx:Gm vE.P 203=0:=by kernel_rfl
theorem AOE:U4 vE.P 203=true:=by kernel_rfl
theorem AAG:callable vE.P 184=true:=by kernel_rfl
theorem AOK:Gm vE.P 180=0:=by kernel_rfl
theorem ABh:callable vE.P 185=true:=by kernel_rfl
theorem ABL:callable vE.P 186=true:=by kernel_rfl
theorem Xa:callable vE.P 187=true:=by kernel_rfl
theorem ABJ:callable vE.P 188=true:=by kernel_rfl
theorem X3:callable vE.P 189=true:=by kernel_rfl
theorem YE:callable vE.P 190=true:=by kernel_rfl
theorem Zu:callable vE.P 191=true:=by kernel_rfl
theorem AAn:callable vE.P 192=true:=by kernel_rfl
theorem Yy:callable vE.P 193=false:=by kernel_rfl
theorem AHd: ∀n,Dm vE.P 214 n=some [.int .u8 0,.int .u8 0,.int .u8 0,.int .u8 0,.int .u8 0,.int .u8 0,.int .u8 0,.int .u8 0,.int .u8 0,.int .u8 0,.int .u8 0,.int .u8 0,.int .u8 0,.int .u8 0,.int .u8 0,.int .u8 0,.int .u8 0,.int .u8 0,.int .u8 0,.int .u8 0]:=by intros;kernel_rfl
theorem AHG:A7 vE.P 180=true:=by kernel_rfl
theorem AYz:IV vE.P 5=some .u8:=by kernel_rfl
theorem ATp:Cy vE.P 5=false:=by kernel_rfl
theorem AIG:Jw vE.P 214=some (20,1,false):=by kernel_rfl
theorem AJJ:C8 vE.P 214=none:=by kernel_rfl
theorem Zm:callable vE.P 194=false:=by kernel_rfl
theorem AA9:callable vE.P 195=true:=by kernel_rfl
theorem ACX:callable vE.P 196=true:=by kernel_rfl
theorem AAM:callable vE.P 197=true:=by kernel_rfl
theorem AAp:callable vE.P 198=true:=by kernel_rfl
theorem ABq:callable vE.P 199=true:=by kernel_rfl
theorem AAv:callable vE.P 200=true:=by kernel_rfl
theorem ACM:callable vE.P 201=true:=by kernel_rfl
theorem AAu:callable vE.P 202=true:=by kernel_rfl
theorem AAy:callable vE.P 203=true:=by kernel_rfl
theorem AVk:IV vE.P 21=some .i32:=by kernel_rfl
theorem ANy:Cy vE.P 21=false:=by kernel_rfl
theorem AQc:Gm vE.P 21=0:=by kernel_rfl
theorem ZP:callable vE.P 204=true:=by kernel_rfl
theorem ABf:callable vE.P 205=true:=by kernel_rfl
theorem XZ:callable vE.P 206=true:=by kernel_rfl
theorem AJC: ∀n,Dm vE.P 222 n=some (List.map AVal.bool (AHQ 256)):=by intros;kernel_rfl
theorem ANt:Cc vE.P 222=some 256:=by kernel_rfl
theorem AA5:callable vE.P 207=true:=by kernel_rfl
theorem Zn:callable vE.P 208=true:=by kernel_rfl
theorem AAS:callable vE.P 209=true:=by kernel_rfl
theorem Xg:callable vE.P 210=true:=by kernel_rfl
theorem Xn:callable vE.P 211=true:=by kernel_rfl
theorem Zz:callable vE.P 212=true:=by kernel_rfl
theorem AAB:callable vE.P 213=true:=by kernel_rfl
theorem AAZ:callable vE.P 169=true:=by kernel_rfl
theorem AMz:Gm vE.P 198=0:=by kernel_rfl
theorem Yb:callable vE.P 214=true:=by kernel_rfl
theorem Xp:Ab vE.P 196 1=some (1,1,false):=by kernel_rfl
theorem ANs:ptrTo vE.P 225 5=true:=by kernel_rfl
theorem ACS:callable vE.P 215=true:=by kernel_rfl
theorem Y8:callable vE.P 216=true:=by kernel_rfl
theorem ZJ:callable vE.P 217=true:=by kernel_rfl
theorem ZT:callable vE.P 218=true:=by kernel_rfl
theorem Xr:callable vE.P 219=true:=by kernel_rfl
theorem Xi:callable vE.P 220=true:=by kernel_rfl
theorem AMs:Gm vE.P 204=0:=by kernel_rfl
theorem AAc:callable vE.P 225=true:=by kernel_rfl
theorem AB7:callable vE.P 226=true:=by kernel_rfl
theorem YY:callable vE.P 227=true:=by kernel_rfl
theorem Yk:callable vE.P 228=true:=by kernel_rfl
theorem ANb:Gm vE.P 228=0:=by kernel_rfl
theorem AO6:IV vE.P 228=some .u32:=by kernel_rfl
theorem AIm:Cy vE.P 228=false:=by kernel_rfl
theorem ACW:callable vE.P 229=true:=by kernel_rfl
theorem Zx:callable vE.P 230=true:=by kernel_rfl
theorem Y4:callable vE.P 231=true:=by kernel_rfl
theorem Xu:callable vE.P 232=true:=by kernel_rfl
theorem AN0:A7 vE.P 21=true:=by kernel_rfl
theorem XO:callable vE.P 233=true:=by kernel_rfl
theorem AJI:A7 vE.P 222=true:=by kernel_rfl
theorem AHf:Bu vE.P 222=true:=by kernel_rfl
theorem AIu:Jw vE.P 222=some (256,1,false):=by kernel_rfl
theorem Yz:callable vE.P 234=true:=by kernel_rfl
theorem ACT:callable vE.P 235=true:=by kernel_rfl
theorem AA3:callable vE.P 236=true:=by kernel_rfl
theorem ABe:callable vE.P 237=true:=by kernel_rfl
theorem ABk:Ab vE.P 196 0=some (0,1,false):=by kernel_rfl
theorem AHy:A7 vE.P 194=true:=by kernel_rfl
theorem AHk:Bu vE.P 194=false:=by kernel_rfl
theorem AMQ:Cc vE.P 194=some 1:=by kernel_rfl
theorem AOP:Gm vE.P 194=0:=by kernel_rfl
theorem AIF:NK vE.P 194=true:=by kernel_rfl
theorem AIJ:Cy vE.P 238=false:=by kernel_rfl
theorem Qy:Qt vE.P 194 238 195 2=true:=by kernel_rfl
theorem Qv:Qt vE.P 194 238 196 2=true:=by kernel_rfl
theorem Xq:callable vE.P 238=false:=by kernel_rfl
theorem AHY:A7 vE.P 238=true:=by kernel_rfl
theorem AJa:Cy vE.P 194=false:=by kernel_rfl
theorem Qe:Qt vE.P 238 194 195 2=true:=by kernel_rfl
theorem Qo:Qt vE.P 238 194 196 2=true:=by kernel_rfl
theorem ACP:callable vE.P 239=true:=by kernel_rfl
theorem AAN:callable vE.P 240=true:=by kernel_rfl
theorem Z8:callable vE.P 241=true:=by kernel_rfl
theorem ACE:callable vE.P 242=true:=by kernel_rfl
theorem AB4:callable vE.P 243=true:=by kernel_rfl
theorem ABS:callable vE.P 244=true:=by kernel_rfl
theorem YL:callable vE.P 245=true:=by kernel_rfl
theorem ACU:callable vE.P 246=true:=by kernel_rfl
theorem ABT:callable vE.P 247=true:=by kernel_rfl
theorem AAk:callable vE.P 248=true:=by kernel_rfl
theorem Z4:callable vE.P 249=true:=by kernel_rfl
theorem XT:callable vE.P 250=true:=by kernel_rfl
theorem XX:callable vE.P 251=true:=by kernel_rfl
theorem Yx:callable vE.P 252=true:=by kernel_rfl
theorem ACN:callable vE.P 253=true:=by kernel_rfl
theorem ABN:callable vE.P 254=true:=by kernel_rfl
theorem ZN:callable vE.P 255=true:=by kernel_rfl
theorem Y7:callable vE.P 256=true:=by kernel_rfl
theorem YC:callable vE.P 257=true:=by kernel_rfl
theorem AAm:callable vE.P 258=true:=by kernel_rfl
theorem AAs:callable vE.P 259=true:=by kernel_rfl
theorem AAP:callable vE.P 260=false:=by kernel_rfl
theorem ABr:callable vE.P 261=true:=by kernel_rfl
theorem ABZ:callable vE.P 262=true:=by kernel_rfl
theorem ZW:callable vE.P 263=true:=by kernel_rfl
theorem ASt:PR vE.P 43=some (16,.str []):=by kernel_rfl
theorem ABd:callable vE.P 264=true:=by kernel_rfl
theorem Zo:callable vE.P 265=true:=by kernel_rfl
theorem AII: ∀n,Dm vE.P 251 n=some [.int .i64 0]:=by intros;kernel_rfl
theorem YM:callable vE.P 267=true:=by kernel_rfl
theorem ABU:callable vE.P 266=true:=by kernel_rfl
theorem Xl:Ab vE.P 251 0=some (0,1,false):=by kernel_rfl
theorem ACV:callable vE.P 268=true:=by kernel_rfl
theorem Z0:callable vE.P 269=false:=by kernel_rfl
theorem AIa:Jw vE.P 254=some (256,1,false):=by kernel_rfl
theorem AIW:Jw vE.P 257=some (16,2,true):=by kernel_rfl
theorem AH9:A7 vE.P 256=true:=by kernel_rfl
theorem AHm:Bu vE.P 256=true:=by kernel_rfl
theorem AK3:Cc vE.P 256=some 2:=by kernel_rfl
theorem AHw: ∀n,Dm vE.P 256 n=some [.int .u8 0,.int .u8 0]:=by intros;kernel_rfl
theorem Xh:Ab vE.P 256 0=some (0,1,false):=by kernel_rfl
theorem Xc:Ab vE.P 256 1=some (1,1,false):=by kernel_rfl
theorem ALh:Ff vE.P 256=some (.agg [.int .u8 0,.int .u8 0]):=by kernel_rfl
theorem ANg:(FL vE.P 256).isSome=true:=by kernel_rfl
theorem Yg:AY vE.P 256 0=5:=by kernel_rfl
theorem VI:Az vE.P 256 0=some (0,1):=by kernel_rfl
theorem AAH:AY vE.P 256 1=5:=by kernel_rfl
theorem U8:Az vE.P 256 1=some (1,1):=by kernel_rfl
theorem ANx:Ff vE.P 257=some (.agg [.int .u8 0,.int .u8 0,.int .u8 0,.int .u8 0,.int .u8 0,.int .u8 0,.int .u8 0,.int .u8 0,.int .u8 0,.int .u8 0,.int .u8 0,.int .u8 0,.int .u8 0,.int .u8 0,.int .u8 0,.int .u8 0,.int .u8 0,.int .u8 0,.int .u8 0,.int .u8 0,.int .u8 0,.int .u8 0,.int .u8 0,.int .u8 0,.int .u8 0,.int .u8 0,.int .u8 0,.int .u8 0,.int .u8 0,.int .u8 0,.int .u8 0,.int .u8 0]):=by kernel_rfl
theorem AK2:(FL vE.P 257).isSome=true:=by kernel_rfl
theorem ABP:AY vE.P 257 0=256:=by kernel_rfl
theorem Va:Az vE.P 257 0=some (0,2):=by kernel_rfl
theorem Xf:AY vE.P 257 1=256:=by kernel_rfl
theorem VJ:Az vE.P 257 1=some (2,2):=by kernel_rfl
theorem YI:AY vE.P 257 2=256:=by kernel_rfl
theorem Vi:Az vE.P 257 2=some (4,2):=by kernel_rfl
theorem Yu:AY vE.P 257 3=256:=by kernel_rfl
theorem U9:Az vE.P 257 3=some (6,2):=by kernel_rfl
theorem AAh:AY vE.P 257 4=256:=by kernel_rfl
theorem VU:Az vE.P 257 4=some (8,2):=by kernel_rfl
theorem AN8:Cc vE.P 257=some 32:=by kernel_rfl
theorem AKc:(vE.P.funcs[193]?).isSome=true:=by kernel_rfl
theorem AWK{l:List UInt8}{c:Int}{st:St}{Q:AVal→St→Prop} (h:Gl (Q (.int .i64 (Go.Lib.indexByte l (Fx c))) st)):Wz vE 193 [.str l,.int .u8 c] st Q:=by
  refine .inl ⟨(vE.P.funcs[193]?).get AKc,Extern.BytealgIndexByte.indexByte,.int .i64 (Go.Lib.indexByte l (Fx c)),(Option.some_get AKc).symm,by kernel_rfl,by kernel_rfl,by kernel_rfl,by kernel_rfl,fun Γ vs w hr=>?_,?_⟩
  · cases hr with|cons h1 t=>cases t with|cons h2 t=>cases t;cases h1;cases h2;exact⟨_,Go.Lib.run_indexByteString _ _ w,.int _ _⟩
  · have:=h.go;simpa[AVal.strip]using this
theorem AKT:(vE.P.funcs[238]?).isSome=true:=by kernel_rfl
theorem AJ2{x:AVal}{st:St}{Q:AVal→St→Prop} (h:Gl (Q x.strip st)):Wz vE 238 [x] st Q:=by
  refine .inl ⟨(vE.P.funcs[238]?).get AKT,Extern.AbiNoEscape.same,x,(Option.some_get AKT).symm,by kernel_rfl,by kernel_rfl,by kernel_rfl,by kernel_rfl,fun Γ vs w hr=>?_,?_⟩
  · cases hr with|cons h1 t=>cases t;exact⟨_,Go.Lib.run_noEscape w _,h1⟩
  · have:=h.go;simpa[AVal.strip]using this
theorem AKC:(vE.P.funcs[260]?).isSome=true:=by kernel_rfl
theorem AWL{l:List UInt8}{c:Int}{st:St}{Q:AVal→St→Prop} (h:Gl (Q (.int .i64 ((Go.Lib.countByte l (Fx c):Nat):Int)) st)):Wz vE 260 [.str l,.int .u8 c] st Q:=by
  refine .inl ⟨(vE.P.funcs[260]?).get AKC,Extern.BytealgCount.count,.int .i64 ((Go.Lib.countByte l (Fx c):Nat):Int),(Option.some_get AKC).symm,by kernel_rfl,by kernel_rfl,by kernel_rfl,by kernel_rfl,fun Γ vs w hr=>?_,?_⟩
  · cases hr with|cons h1 t=>cases t with|cons h2 t=>cases t;cases h1;cases h2;exact⟨_,Go.Lib.run_countString _ _ w,.int _ _⟩
  · have:=h.go;simpa[AVal.strip]using this
theorem AKO:(vE.P.funcs[269]?).isSome=true:=by kernel_rfl
theorem AVN{k:Nat}{st:St}{Q:AVal→St→Prop} (h1:1≤k) (h2:k≤140737488355328) (h:Gl (Q (.trow 5 st.next k) {m:=(st.next,[.any])::st.m,next:=st.next+1})):Wz vE 269 [.int .i64 k] st Q:=.inr ⟨(vE.P.funcs[269]?).get AKO, #[3],24,5,k,(Option.some_get AKO).symm,by kernel_rfl,by kernel_rfl,by kernel_rfl,by kernel_rfl,by kernel_rfl,h1,h2,rfl,h.go⟩
set_option linter.defProp false
def fxE:=And.intro (And.intro (And.intro (And.intro (And.intro (And.intro (And.intro (And.intro (And.intro (@AI0) (@AWE)) (And.intro (@AIN) (And.intro (@ALG) (@ANh)))) (And.intro (And.intro (@ASu) (@AHW)) (And.intro (@AHS) (And.intro (@AXV) (@AGs))))) (And.intro (And.intro (And.intro (@ADg) (@AUV)) (And.intro (@ANf) (And.intro (@AM4) (@ADp)))) (And.intro (And.intro (@ALS) (And.intro (@APd) (@AFA))) (And.intro (@AEi) (And.intro (@AEA) (@AGL)))))) (And.intro (And.intro (And.intro (And.intro (@ADY) (@ANX)) (And.intro (@AKz) (And.intro (@AH0) (@AY6)))) (And.intro (And.intro (@AEY) (And.intro (@ATc) (@AGp))) (And.intro (@ADy) (And.intro (@AFY) (@ADC))))) (And.intro (And.intro (And.intro (@ASA) (@ARj)) (And.intro (@AVY) (And.intro (@ADH) (@ADN)))) (And.intro (And.intro (@AEn) (And.intro (@AFR) (@AFa))) (And.intro (@AD0) (And.intro (@AKo) (@AR3))))))) (And.intro (And.intro (And.intro (And.intro (And.intro (@AUp) (@AWJ)) (And.intro (@AQJ) (And.intro (@ARs) (@AGH)))) (And.intro (And.intro (@AAQ) (And.intro (@AFi) (@X8))) (And.intro (@AEw) (And.intro (@APz) (@AP4))))) (And.intro (And.intro (And.intro (@AWU) (@AR8)) (And.intro (@ATN) (And.intro (@AEt) (@Zw)))) (And.intro (And.intro (@AGN) (And.intro (@ABn) (@AGz))) (And.intro (@ABQ) (And.intro (@AGv) (@Xb)))))) (And.intro (And.intro (And.intro (And.intro (@AG0) (@ABv)) (And.intro (@ANp) (And.intro (@AQo) (@ANM)))) (And.intro (And.intro (@ALU) (And.intro (@AMh) (@ALa))) (And.intro (@ADb) (And.intro (@AFk) (@AOV))))) (And.intro (And.intro (And.intro (@AL2) (@ASU)) (And.intro (@AE6) (And.intro (@AGk) (@ACq)))) (And.intro (And.intro (@AEy) (And.intro (@AFm) (@AS4))) (And.intro (@APm) (And.intro (@ASL) (@AFh)))))))) (And.intro (And.intro (And.intro (And.intro (And.intro (And.intro (@ADn) (@AGf)) (And.intro (@AGn) (And.intro (@AEB) (@AEp)))) (And.intro (And.intro (@AGP) (And.intro (@APT) (@APu))) (And.intro (@AEM) (And.intro (@AFy) (@ADJ))))) (And.intro (And.intro (And.intro (@AF7) (@ACh)) (And.intro (@AFT) (And.intro (@AF3) (@ANT)))) (And.intro (And.intro (@ANd) (And.intro (@AMT) (@ATH))) (And.intro (@AIo) (And.intro (@AZC) (@AS7)))))) (And.intro (And.intro (And.intro (And.intro (@ALu) (@AFV)) (And.intro (@AEa) (And.intro (@ADc) (@ALC)))) (And.intro (And.intro (@AOM) (And.intro (@ASe) (@APN))) (And.intro (@APQ) (And.intro (@AGA) (@XN))))) (And.intro (And.intro (And.intro (@ADl) (@YB)) (And.intro (@AXW) (And.intro (@AD9) (@AWN)))) (And.intro (And.intro (@AUw) (And.intro (@ADQ) (@AE0))) (And.intro (@AME) (And.intro (@ADV) (@AD2))))))) (And.intro (And.intro (And.intro (And.intro (And.intro (@AE2) (@AP1)) (And.intro (@ASi) (And.intro (@ARo) (@ARO)))) (And.intro (And.intro (@ADW) (And.intro (@AAJ) (@ACn))) (And.intro (@AE7) (And.intro (@ALr) (@APR))))) (And.intro (And.intro (And.intro (@AD4) (@ALP)) (And.intro (@ANC) (And.intro (@AQY) (@ADf)))) (And.intro (And.intro (@ASX) (And.intro (@AQC) (@AUr))) (And.intro (@AFX) (And.intro (@AFd) (@AEx)))))) (And.intro (And.intro (And.intro (And.intro (@AC6) (@ANO)) (And.intro (@ATO) (And.intro (@ADO) (@AD5)))) (And.intro (And.intro (@ALw) (And.intro (@AMJ) (@ANK))) (And.intro (@AKy) (And.intro (@AR1) (@AC7))))) (And.intro (And.intro (And.intro (@AGl) (@AC5)) (And.intro (@AFP) (And.intro (@AFr) (@AGR)))) (And.intro (And.intro (@ADS) (And.intro (@AF4) (@AGY))) (And.intro (@AEd) (And.intro (@ALJ) (@AKq))))))))) (And.intro (And.intro (And.intro (And.intro (And.intro (And.intro (And.intro (@ASm) (@AGF)) (And.intro (@AMc) (And.intro (@AHZ) (@AHR)))) (And.intro (And.intro (@AL1) (@AHN)) (And.intro (@Y2) (And.intro (@ADm) (@AGi))))) (And.intro (And.intro (And.intro (@AF6) (@AGg)) (And.intro (@AN5) (And.intro (@AOA) (@ARX)))) (And.intro (And.intro (@AG2) (And.intro (@AML) (@AL9))) (And.intro (@AQd) (And.intro (@AD6) (@ACm)))))) (And.intro (And.intro (And.intro (And.intro (@ALb) (@AOL)) (And.intro (@APf) (And.intro (@AFb) (@AMq)))) (And.intro (And.intro (@AI2) (And.intro (@AJZ) (@ALy))) (And.intro (@AHl) (And.intro (@Zy) (@ABm))))) (And.intro (And.intro (And.intro (@ZC) (@Yn)) (And.intro (@ABO) (And.intro (@ZA) (@AIz)))) (And.intro (And.intro (@AXy) (And.intro (@AQX) (@AQ0))) (And.intro (@AFN) (And.intro (@AUy) (@AFz))))))) (And.intro (And.intro (And.intro (And.intro (And.intro (@AVm) (@AO2)) (And.intro (@ZQ) (And.intro (@ADZ) (@AED)))) (And.intro (And.intro (@ADF) (And.intro (@AEO) (@XK))) (And.intro (@AFZ) (And.intro (@ZG) (@ADA))))) (And.intro (And.intro (And.intro (@XM) (@AGU)) (And.intro (@AFW) (And.intro (@AEZ) (@AGK)))) (And.intro (And.intro (@ADP) (And.intro (@AJA) (@AOF))) (And.intro (@AHX) (And.intro (@AIA) (@AEg)))))) (And.intro (And.intro (And.intro (And.intro (@AB1) (@AFe)) (And.intro (@AHJ) (And.intro (@AMb) (@AH4)))) (And.intro (And.intro (@AJQ) (And.intro (@ACp) (@XU))) (And.intro (@AEu) (And.intro (@AGy) (@AFo))))) (And.intro (And.intro (And.intro (@AEC) (@AC0)) (And.intro (@ASY) (And.intro (@ADq) (@ALc)))) (And.intro (And.intro (@AMO) (And.intro (@AMm) (@XI))) (And.intro (@VL) (And.intro (@AD1) (@AGV)))))))) (And.intro (And.intro (And.intro (And.intro (And.intro (And.intro (@AE9) (@YA)) (And.intro (@AFK) (And.intro (@Y0) (@ADT)))) (And.intro (And.intro (@AAA) (And.intro (@AIb) (@ADE))) (And.intro (@AFv) (And.intro (@AHh) (@AJD))))) (And.intro (And.intro (And.intro (@AOJ) (@ARI)) (And.intro (@ACO) (And.intro (@ATa) (@ACl)))) (And.intro (And.intro (@AWH) (And.intro (@AFn) (@AFH))) (And.intro (@AGa) (And.intro (@AF0) (@AFx)))))) (And.intro (And.intro (And.intro (And.intro (@AGB) (@AFg)) (And.intro (@ARC) (And.intro (@AFq) (@AFU)))) (And.intro (And.intro (@AMw) (And.intro (@ADz) (@ASk))) (And.intro (@AEV) (And.intro (@AXR) (@AG5))))) (And.intro (And.intro (And.intro (@AWa) (@ALf)) (And.intro (@AZp) (And.intro (@AMP) (@AMk)))) (And.intro (And.intro (@ADx) (And.intro (@AEF) (@AG4))) (And.intro (@Xt) (And.intro (@ADt) (@ACG))))))) (And.intro (And.intro (And.intro (And.intro (And.intro (@AEf) (@AEP)) (And.intro (@AEX) (And.intro (@ADw) (@AGO)))) (And.intro (And.intro (@AQ9) (And.intro (@AQy) (@AFF))) (And.intro (@AGm) (And.intro (@AGQ) (@ACy))))) (And.intro (And.intro (And.intro (@APq) (@ARc)) (And.intro (@AIq) (And.intro (@AGw) (@ADM)))) (And.intro (And.intro (@ANL) (And.intro (@ABy) (@YR))) (And.intro (@ADR) (And.intro (@AA4) (@AEW)))))) (And.intro (And.intro (And.intro (And.intro (@ADK) (@AAw)) (And.intro (@YF) (And.intro (@AEQ) (@AEz)))) (And.intro (And.intro (@ALB) (And.intro (@XL) (@AL5))) (And.intro (@ANH) (And.intro (@AA1) (@Vb))))) (And.intro (And.intro (And.intro (@AIX) (@ANZ)) (And.intro (@Yq) (And.intro (@Yd) (@ADr)))) (And.intro (And.intro (@AOH) (And.intro (@ALT) (@APh))) (And.intro (@AHj) (And.intro (@AHx) (@AWw)))))))))) (And.intro (And.intro (And.intro (And.intro (And.intro (And.intro (And.intro (And.intro (@ADj) (@AUU)) (And.intro (@XC) (And.intro (@AVf) (@AGT)))) (And.intro (And.intro (@AWF) (@ACt)) (And.intro (@AK0) (And.intro (@ACv) (@AD7))))) (And.intro (And.intro (And.intro (@Xw) (@AAX)) (And.intro (@AJE) (And.intro (@AKn) (@Z6)))) (And.intro (And.intro (@ABA) (And.intro (@AAa) (@Zf))) (And.intro (@AAF) (And.intro (@Y9) (@Yi)))))) (And.intro (And.intro (And.intro (And.intro (@AIQ) (@ANQ)) (And.intro (@AAi) (And.intro (@Ya) (@Zp)))) (And.intro (And.intro (@Ym) (And.intro (@AE1) (@AA0))) (And.intro (@ADa) (And.intro (@Xz) (@ABK))))) (And.intro (And.intro (And.intro (@ZR) (@AC8)) (And.intro (@ZL) (And.intro (@ABG) (@AAE)))) (And.intro (And.intro (@ABE) (And.intro (@AHT) (@AI8))) (And.intro (@XB) (And.intro (@Yj) (@ALK))))))) (And.intro (And.intro (And.intro (And.intro (And.intro (@AM2) (@AAK)) (And.intro (@YZ) (And.intro (@Y5) (@AAf)))) (And.intro (And.intro (@AFS) (And.intro (@ZX) (@AF1))) (And.intro (@ACR) (And.intro (@ACC) (@AAb))))) (And.intro (And.intro (And.intro (@YW) (@AB8)) (And.intro (@XE) (And.intro (@W9) (@APF)))) (And.intro (And.intro (@APx) (And.intro (@AUo) (@AUd))) (And.intro (@AVn) (And.intro (@AGb) (@AU1)))))) (And.intro (And.intro (And.intro (And.intro (@ZM) (@AHn)) (And.intro (@ABg) (And.intro (@Yf) (@AVy)))) (And.intro (And.intro (@AOU) (And.intro (@Y3) (@AHr))) (And.intro (@AIV) (And.intro (@AF5) (@AGt))))) (And.intro (And.intro (And.intro (@ALl) (@ALY)) (And.intro (@AB0) (And.intro (@VF) (@ABo)))) (And.intro (And.intro (@VD) (And.intro (@ANn) (@APA))) (And.intro (@ARZ) (And.intro (@AVh) (@ALM)))))))) (And.intro (And.intro (And.intro (And.intro (And.intro (And.intro (@ALn) (@Zb)) (And.intro (@Y6) (And.intro (@XV) (@YD)))) (And.intro (And.intro (@VT) (And.intro (@ABs) (@VH))) (And.intro (@AAe) (And.intro (@ANe) (@ALd))))) (And.intro (And.intro (And.intro (@Zc) (@AAU)) (And.intro (@Zt) (And.intro (@VO) (@X9)))) (And.intro (And.intro (@Vd) (And.intro (@Yo) (@AEG))) (And.intro (@XW) (And.intro (@Yr) (@ZO)))))) (And.intro (And.intro (And.intro (And.intro (@ACZ) (@AMi)) (And.intro (@APU) (And.intro (@AYK) (@ASa)))) (And.intro (And.intro (@YK) (And.intro (@AAj) (@Xo))) (And.intro (@ASM) (And.intro (@AIk) (@ABp))))) (And.intro (And.intro (And.intro (@ZZ) (@Yv)) (And.intro (@XJ) (And.intro (@Xv) (@ABH)))) (And.intro (And.intro (@AAg) (And.intro (@YX) (@ACB))) (And.intro (@ABC) (And.intro (@ABY) (@YN))))))) (And.intro (And.intro (And.intro (And.intro (And.intro (@AG1) (@AL6)) (And.intro (@AM8) (And.intro (@AQ2) (@AVK)))) (And.intro (And.intro (@ACr) (And.intro (@AVt) (@Xm))) (And.intro (@ADh) (And.intro (@ACA) (@AEr))))) (And.intro (And.intro (And.intro (@AAL) (@AFl)) (And.intro (@AAt) (And.intro (@AGu) (@ZB)))) (And.intro (And.intro (@YT) (And.intro (@AAl) (@Xj))) (And.intro (@ABw) (And.intro (@ABb) (@XQ)))))) (And.intro (And.intro (And.intro (And.intro (@AF8) (@ASx)) (And.intro (@XR) (And.intro (@Z5) (@ABF)))) (And.intro (And.intro (@AOG) (And.intro (@AN2) (@AAD))) (And.intro (@VV) (And.intro (@AAC) (@AOB))))) (And.intro (And.intro (And.intro (@ANa) (@Zq)) (And.intro (@Z9) (And.intro (@ABi) (@YO)))) (And.intro (And.intro (@ABB) (And.intro (@AA7) (@ARJ))) (And.intro (@ZH) (And.intro (@ABa) (@Xd))))))))) (And.intro (And.intro (And.intro (And.intro (And.intro (And.intro (And.intro (@AZW) (@AFI)) (And.intro (@ACY) (And.intro (@AHu) (@XG)))) (And.intro (And.intro (@AB5) (And.intro (@ZE) (@ZK))) (And.intro (@Yt) (And.intro (@X6) (@AB9))))) (And.intro (And.intro (And.intro (@ZY) (@AAo)) (And.intro (@AAO) (And.intro (@ACJ) (@AGJ)))) (And.intro (And.intro (@ZI) (And.intro (@AFJ) (@XF))) (And.intro (@ZU) (And.intro (@ABx) (@ABV)))))) (And.intro (And.intro (And.intro (And.intro (@ZV) (@APV)) (And.intro (@AQS) (And.intro (@AKx) (@AOE)))) (And.intro (And.intro (@AAG) (And.intro (@AOK) (@ABh))) (And.intro (@ABL) (And.intro (@Xa) (@ABJ))))) (And.intro (And.intro (And.intro (@X3) (@YE)) (And.intro (@Zu) (And.intro (@AAn) (@Yy)))) (And.intro (And.intro (@AHd) (And.intro (@AHG) (@AYz))) (And.intro (@ATp) (And.intro (@AIG) (@AJJ))))))) (And.intro (And.intro (And.intro (And.intro (And.intro (@Zm) (@AA9)) (And.intro (@ACX) (And.intro (@AAM) (@AAp)))) (And.intro (And.intro (@ABq) (And.intro (@AAv) (@ACM))) (And.intro (@AAu) (And.intro (@AAy) (@AVk))))) (And.intro (And.intro (And.intro (@ANy) (@AQc)) (And.intro (@ZP) (And.intro (@ABf) (@XZ)))) (And.intro (And.intro (@AJC) (And.intro (@ANt) (@AA5))) (And.intro (@Zn) (And.intro (@AAS) (@Xg)))))) (And.intro (And.intro (And.intro (And.intro (@Xn) (@Zz)) (And.intro (@AAB) (And.intro (@AAZ) (@AMz)))) (And.intro (And.intro (@Yb) (And.intro (@Xp) (@ANs))) (And.intro (@ACS) (And.intro (@Y8) (@ZJ))))) (And.intro (And.intro (And.intro (@ZT) (@Xr)) (And.intro (@Xi) (And.intro (@AMs) (@AAc)))) (And.intro (And.intro (@AB7) (And.intro (@YY) (@Yk))) (And.intro (@ANb) (And.intro (@AO6) (@AIm)))))))) (And.intro (And.intro (And.intro (And.intro (And.intro (And.intro (@ACW) (@Zx)) (And.intro (@Y4) (And.intro (@Xu) (@AN0)))) (And.intro (And.intro (@XO) (And.intro (@AJI) (@AHf))) (And.intro (@AIu) (And.intro (@Yz) (@ACT))))) (And.intro (And.intro (And.intro (@AA3) (@ABe)) (And.intro (@ABk) (And.intro (@AHy) (@AHk)))) (And.intro (And.intro (@AMQ) (And.intro (@AOP) (@AIF))) (And.intro (@AIJ) (And.intro (@Qy) (@Qv)))))) (And.intro (And.intro (And.intro (And.intro (@Xq) (@AHY)) (And.intro (@AJa) (And.intro (@Qe) (@Qo)))) (And.intro (And.intro (@ACP) (And.intro (@AAN) (@Z8))) (And.intro (@ACE) (And.intro (@AB4) (@ABS))))) (And.intro (And.intro (And.intro (@YL) (@ACU)) (And.intro (@ABT) (And.intro (@AAk) (@Z4)))) (And.intro (And.intro (@XT) (And.intro (@XX) (@Yx))) (And.intro (@ACN) (And.intro (@ABN) (@ZN))))))) (And.intro (And.intro (And.intro (And.intro (And.intro (@Y7) (@YC)) (And.intro (@AAm) (And.intro (@AAs) (@AAP)))) (And.intro (And.intro (@ABr) (And.intro (@ABZ) (@ZW))) (And.intro (@ASt) (And.intro (@ABd) (@Zo))))) (And.intro (And.intro (And.intro (@AII) (@YM)) (And.intro (@ABU) (And.intro (@Xl) (@ACV)))) (And.intro (And.intro (@Z0) (And.intro (@AIa) (@AIW))) (And.intro (@AH9) (And.intro (@AHm) (@AK3)))))) (And.intro (And.intro (And.intro (And.intro (@AHw) (@Xh)) (And.intro (@Xc) (And.intro (@ALh) (@ANg)))) (And.intro (And.intro (@Yg) (And.intro (@VI) (@AAH))) (And.intro (@U8) (And.intro (@ANx) (@AK2))))) (And.intro (And.intro (And.intro (@ABP) (@Va)) (And.intro (@Xf) (And.intro (@VJ) (@YI)))) (And.intro (And.intro (@Vi) (And.intro (@Yu) (@U9))) (And.intro (@AAh) (And.intro (@VU) (@AN8))))))))))
def vm:=And.intro vmC (And.intro fxE eE)
end Go.Proofs.YtjgdhjpafjpjgaaGreatDoor
