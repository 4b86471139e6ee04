import Derived.Test.YtfknikagmmfakaaGreatDoorChecked
import Derived.Test.YtfknikagmmfakaaGreatDoorTy
import Derived.KernelRfl
set_option linter.unusedVariables false
namespace Go.Proofs.YtfknikagmmfakaaGreatDoor
open Go.VM
noncomputable def vE:Env:=⟨Tryz.prog,vT⟩
theorem JY:vE.P.follows .mixedOrders=true:=by kernel_rfl
instance:MX vE:=⟨JY⟩
theorem AQE:callable vE.P 1=false:=by kernel_rfl
theorem Ago:ES vE.P 4=0:=by kernel_rfl
theorem APy:callable vE.P 4=true:=by kernel_rfl
theorem APa:callable vE.P 5=true:=by kernel_rfl
theorem AOi:Ar vE.P 23=true:=by kernel_rfl
theorem Ags:ES vE.P 3=0:=by kernel_rfl
theorem AdN:ES vE.P 22=9:=by kernel_rfl
theorem Ahi:ES vE.P 0=0:=by kernel_rfl
theorem Ahd:Ff vE.P 22=some (9,96):=by kernel_rfl
theorem Aiy:EI vE.P 22=none:=by kernel_rfl
theorem AVF:Aa vE.P 22=true:=by kernel_rfl
theorem AMs:Ar vE.P 22=true:=by kernel_rfl
theorem AhD:Ff vE.P 26=some (1,8):=by kernel_rfl
theorem ALk:AC vE.P 26 0=3:=by kernel_rfl
theorem AUF:BB vE.P 23=some 1:=by kernel_rfl
theorem AcB:Aa vE.P 5=true:=by kernel_rfl
theorem AbT:Al vE.P 5=false:=by kernel_rfl
theorem AiL:Az vE.P 5=some 1:=by kernel_rfl
theorem Ajc:ES vE.P 5=0:=by kernel_rfl
theorem AVx:BB vE.P 26=some 1:=by kernel_rfl
theorem AcK:Aa vE.P 3=true:=by kernel_rfl
theorem Aek:Al vE.P 3=false:=by kernel_rfl
theorem Ahn:Az vE.P 3=some 1:=by kernel_rfl
theorem AYH:BB vE.P 22=some 9:=by kernel_rfl
theorem ALw:AJ vE.P 31 1=some (7,1,false):=by kernel_rfl
theorem ASp:callable vE.P 6=true:=by kernel_rfl
theorem APS:callable vE.P 7=true:=by kernel_rfl
theorem ANh:Ar vE.P 32=true:=by kernel_rfl
theorem AVm:BB vE.P 32=some 1:=by kernel_rfl
theorem AVC:Al vE.P 22=false:=by kernel_rfl
theorem Ac2:Az vE.P 22=some 1:=by kernel_rfl
theorem AS1:callable vE.P 8=true:=by kernel_rfl
theorem ARS:callable vE.P 9=true:=by kernel_rfl
theorem ALN:callable vE.P 10=true:=by kernel_rfl
theorem AfK:ES vE.P 41=0:=by kernel_rfl
theorem AWi: ∀n,BU vE.P 45 n=some [.int .i64 0,.int .i64 0,.str [],.str [],.int .i64 0,.int .i64 0,.str [],.str [],.int .i64 0,.bool false,.int .u64 0,.slice 9 [] true]:=by intros;kernel_rfl
theorem Aav:Az vE.P 45=some 12:=by kernel_rfl
theorem AWw:Aa vE.P 45=true:=by kernel_rfl
theorem AVu:Al vE.P 45=true:=by kernel_rfl
theorem AKj:AJ vE.P 45 4=some (11,1,false):=by kernel_rfl
theorem AN6:callable vE.P 11=true:=by kernel_rfl
theorem Aer:ES vE.P 29=0:=by kernel_rfl
theorem Abm:Bb vE.P 45=some (.agg [.int .i64 0,.int .i64 0,.str [],.str [],.int .i64 0,.int .i64 0,.str [],.str [],.int .i64 0,.bool false,.int .u64 0,.slice 9 [] true]):=by kernel_rfl
theorem AeQ:(Ba vE.P 45).isSome=true:=by kernel_rfl
theorem AVg:Aa vE.P 31=true:=by kernel_rfl
theorem AUJ:Al vE.P 31=true:=by kernel_rfl
theorem Ady:Az vE.P 31=some 9:=by kernel_rfl
theorem AXA: ∀n,BU vE.P 31 n=some [.str [],.int .i64 0,.str [],.str [],.str [],.bool false,.bool false,.int .i64 0,.int .i64 0]:=by intros;kernel_rfl
theorem ANm:AJ vE.P 31 0=some (0,7,true):=by kernel_rfl
theorem AXL:Aa vE.P 28=true:=by kernel_rfl
theorem AXr:Al vE.P 28=true:=by kernel_rfl
theorem AfL:Az vE.P 28=some 7:=by kernel_rfl
theorem AOo:callable vE.P 12=true:=by kernel_rfl
theorem Aah:ES vE.P 32=1:=by kernel_rfl
theorem AOx:callable vE.P 13=true:=by kernel_rfl
theorem AOc:callable vE.P 14=true:=by kernel_rfl
theorem AMh:callable vE.P 16=true:=by kernel_rfl
theorem Agr:Ff vE.P 32=some (1,24):=by kernel_rfl
theorem ANI:AC vE.P 32 0=22:=by kernel_rfl
theorem AiS:EI vE.P 32=none:=by kernel_rfl
theorem AYd:Aa vE.P 32=true:=by kernel_rfl
theorem AKh:AC vE.P 22 0=31:=by kernel_rfl
theorem ANO:callable vE.P 17=true:=by kernel_rfl
theorem AQn:vE.P.eqGuardType vE.P.depth 31=false:=by kernel_rfl
theorem AlQ: ∀(a0 b0:List UInt8) (a1 b1:Int) (a2 b2:List UInt8) (a3 b3:List UInt8) (a4 b4:List UInt8) (a5 b5:Bool) (a6 b6:Bool) (a7 b7:Int) (a8 b8:Int),eqA vE.P 10000 31 (.agg [.str a0,.int .i64 a1,.str a2,.str a3,.str a4,.bool a5,.bool a6,.int .i64 a7,.int .i64 a8]) (.agg [.str b0,.int .i64 b1,.str b2,.str b3,.str b4,.bool b5,.bool b6,.int .i64 b7,.int .i64 b8])=some ((a0==b0&&(a1==b1&&(a2==b2&&(a3==b3&&(a4==b4&&(a5==b5&&(a6==b6&&true)))))))&&(a7==b7&&(a8==b8&&true))):=by intros;kernel_rfl
theorem AjL:ES vE.P 9=0:=by kernel_rfl
theorem Adm:ES vE.P 36=7:=by kernel_rfl
theorem AMc:callable vE.P 18=true:=by kernel_rfl
theorem AdO:ES vE.P 23=1:=by kernel_rfl
theorem AOq:callable vE.P 19=true:=by kernel_rfl
theorem AXa: ∀n,BU vE.P 40 n=some [.int .i64 0,.str [],.str [],.int .i64 0]:=by intros;kernel_rfl
theorem Aa1:Az vE.P 40=some 4:=by kernel_rfl
theorem AKq:AJ vE.P 40 1=some (1,1,false):=by kernel_rfl
theorem Acj:Aa vE.P 9=true:=by kernel_rfl
theorem Ad6:Al vE.P 9=false:=by kernel_rfl
theorem AiQ:Az vE.P 9=some 1:=by kernel_rfl
theorem AYj:Aa vE.P 40=true:=by kernel_rfl
theorem AVz:Al vE.P 40=true:=by kernel_rfl
theorem AjI:Ff vE.P 58=some (1,16):=by kernel_rfl
theorem ANE:AC vE.P 58 0=9:=by kernel_rfl
theorem AMv:callable vE.P 20=true:=by kernel_rfl
theorem Agz:Ff vE.P 36=some (7,80):=by kernel_rfl
theorem Ag4:EI vE.P 36=none:=by kernel_rfl
theorem AXv:Aa vE.P 36=true:=by kernel_rfl
theorem ALl:AC vE.P 45 0=29:=by kernel_rfl
theorem ACy:AQ vE.P 45 0=some (0,1):=by kernel_rfl
theorem AMb:callable vE.P 21=true:=by kernel_rfl
theorem AWd: ∀n,BU vE.P 61 n=some [.int .i64 0,.str [],.str [],.int .i64 0,.slice 4 [] true,.int .i64 0,.bool false,.int .u64 0,.slice 9 [] true]:=by intros;kernel_rfl
theorem AfC:Az vE.P 61=some 9:=by kernel_rfl
theorem AOE:AJ vE.P 61 4=some (8,1,false):=by kernel_rfl
theorem AOn:AC vE.P 45 1=40:=by kernel_rfl
theorem AH5:AQ vE.P 45 1=some (1,4):=by kernel_rfl
theorem AKl:AC vE.P 45 4=22:=by kernel_rfl
theorem Zl:AQ vE.P 45 4=some (11,1):=by kernel_rfl
theorem ALx:AJ vE.P 61 1=some (4,1,false):=by kernel_rfl
theorem AYk:Aa vE.P 59=true:=by kernel_rfl
theorem AXt:Al vE.P 59=false:=by kernel_rfl
theorem AaT:Az vE.P 59=some 1:=by kernel_rfl
theorem AM5:Ar vE.P 59=true:=by kernel_rfl
theorem ALB:AJ vE.P 45 0=some (0,1,false):=by kernel_rfl
theorem AfR:Az vE.P 29=some 1:=by kernel_rfl
theorem AUl:BB vE.P 59=some 4:=by kernel_rfl
theorem AKm:AJ vE.P 45 2=some (5,4,true):=by kernel_rfl
theorem AQJ:vE.P.eqGuardType vE.P.depth 40=false:=by kernel_rfl
theorem AmT: ∀(a0 b0:Int) (a1 b1:List UInt8) (a2 b2:List UInt8) (a3 b3:Int),eqA vE.P 10000 40 (.agg [.int .i64 a0,.str a1,.str a2,.int .i64 a3]) (.agg [.int .i64 b0,.str b1,.str b2,.int .i64 b3])=some (a0==b0&&(a1==b1&&(a2==b2&&(a3==b3&&true)))):=by intros;kernel_rfl
theorem AKo:AJ vE.P 61 3=some (6,2,true):=by kernel_rfl
theorem AXC:Aa vE.P 43=true:=by kernel_rfl
theorem AXI:Al vE.P 43=true:=by kernel_rfl
theorem Aaa:Az vE.P 43=some 2:=by kernel_rfl
theorem ANW:callable vE.P 22=true:=by kernel_rfl
theorem AMX:AJ vE.P 45 3=some (9,2,true):=by kernel_rfl
theorem AWA:Aa vE.P 29=true:=by kernel_rfl
theorem AYo:Al vE.P 29=false:=by kernel_rfl
theorem AKb:AJ vE.P 45 1=some (1,4,true):=by kernel_rfl
theorem ANU:callable vE.P 23=true:=by kernel_rfl
theorem AMR:callable vE.P 24=true:=by kernel_rfl
theorem AXH: ∀n,BU vE.P 70 n=some [.str [],.int .i64 0,.str [],.str [],.str [],.bool false,.bool false,.int .i64 0,.int .i64 0,.slice 2 [] true,.str [],.slice 9 [] true]:=by intros;kernel_rfl
theorem Acl:Az vE.P 70=some 12:=by kernel_rfl
theorem AMp:AJ vE.P 31 2=some (8,1,false):=by kernel_rfl
theorem AMn:callable vE.P 25=true:=by kernel_rfl
theorem AKr:callable vE.P 26=true:=by kernel_rfl
theorem AN2:AJ vE.P 28 0=some (0,1,false):=by kernel_rfl
theorem Adx:CZ vE.P 9=true:=by kernel_rfl
theorem ANC:AJ vE.P 28 2=some (2,1,false):=by kernel_rfl
theorem AOG:AJ vE.P 28 3=some (3,1,false):=by kernel_rfl
theorem ALR:AJ vE.P 28 4=some (4,1,false):=by kernel_rfl
theorem AKy:callable vE.P 15=true:=by kernel_rfl
theorem Acb:ES vE.P 53=0:=by kernel_rfl
theorem Abr:Bb vE.P 75=some (.agg [.slice 1 [] true]):=by kernel_rfl
theorem Acz:(Ba vE.P 75).isSome=true:=by kernel_rfl
theorem ANG:AC vE.P 75 0=23:=by kernel_rfl
theorem ABn:AQ vE.P 75 0=some (0,1):=by kernel_rfl
theorem AcJ:Bb vE.P 40=some (.agg [.int .i64 0,.str [],.str [],.int .i64 0]):=by kernel_rfl
theorem AeW:(Ba vE.P 40).isSome=true:=by kernel_rfl
theorem ALy:callable vE.P 27=true:=by kernel_rfl
theorem ALz:callable vE.P 28=true:=by kernel_rfl
theorem ANe:callable vE.P 29=true:=by kernel_rfl
theorem AW9: ∀n,BU vE.P 79 n=some [.str [],.str []]:=by intros;kernel_rfl
theorem AfH:Az vE.P 79=some 2:=by kernel_rfl
theorem AY3:Aa vE.P 79=true:=by kernel_rfl
theorem AUa:Al vE.P 79=true:=by kernel_rfl
theorem AN8:callable vE.P 30=true:=by kernel_rfl
theorem AN7:AJ vE.P 79 1=some (1,1,false):=by kernel_rfl
theorem AMF:AC vE.P 40 0=3:=by kernel_rfl
theorem AEt:AQ vE.P 40 0=some (0,1):=by kernel_rfl
theorem ALi:AC vE.P 40 1=9:=by kernel_rfl
theorem AHP:AQ vE.P 40 1=some (1,1):=by kernel_rfl
theorem AOp:AC vE.P 40 2=9:=by kernel_rfl
theorem AHD:AQ vE.P 40 2=some (2,1):=by kernel_rfl
theorem AMu:callable vE.P 31=true:=by kernel_rfl
theorem AXo: ∀n,BU vE.P 84 n=some [.str [],.str []]:=by intros;kernel_rfl
theorem AcY:Az vE.P 84=some 2:=by kernel_rfl
theorem AV1:Aa vE.P 84=true:=by kernel_rfl
theorem AVr:Al vE.P 84=true:=by kernel_rfl
theorem ALF:callable vE.P 32=true:=by kernel_rfl
theorem AKZ:AJ vE.P 84 1=some (1,1,false):=by kernel_rfl
theorem AOI:callable vE.P 33=true:=by kernel_rfl
theorem AMO:callable vE.P 34=true:=by kernel_rfl
theorem AOr:callable vE.P 35=true:=by kernel_rfl
theorem AMQ:callable vE.P 37=true:=by kernel_rfl
theorem AOb:callable vE.P 38=true:=by kernel_rfl
theorem AL0:callable vE.P 36=true:=by kernel_rfl
theorem ANg:AJ vE.P 40 0=some (0,1,false):=by kernel_rfl
theorem ALM:callable vE.P 39=true:=by kernel_rfl
theorem AU4: ∀n,BU vE.P 94 n=some [.str [],.str []]:=by intros;kernel_rfl
theorem Ado:Az vE.P 94=some 2:=by kernel_rfl
theorem AXN:Aa vE.P 94=true:=by kernel_rfl
theorem AVR:Al vE.P 94=true:=by kernel_rfl
theorem ANr:callable vE.P 40=true:=by kernel_rfl
theorem ATy: ∀n,BU vE.P 28 n=some [.str [],.int .i64 0,.str [],.str [],.str [],.bool false,.bool false]:=by intros;kernel_rfl
theorem AL9:callable vE.P 41=true:=by kernel_rfl
theorem ANq:AC vE.P 36 0=100:=by kernel_rfl
theorem AKx:callable vE.P 42=true:=by kernel_rfl
theorem ANF:callable vE.P 43=true:=by kernel_rfl
theorem ANp:callable vE.P 44=true:=by kernel_rfl
theorem AOs:callable vE.P 45=true:=by kernel_rfl
theorem ALI:callable vE.P 46=true:=by kernel_rfl
theorem AX0:Bb vE.P 107=some (.agg [.str [],.str [],.str [],.str [],.slice 3 [] true,.slice 3 [] true]):=by kernel_rfl
theorem AUU:(Ba vE.P 107).isSome=true:=by kernel_rfl
theorem AB8:AC vE.P 107 0=9:=by kernel_rfl
theorem Xg:AQ vE.P 107 0=some (0,1):=by kernel_rfl
theorem ABN:AC vE.P 107 3=9:=by kernel_rfl
theorem YR:AQ vE.P 107 3=some (3,1):=by kernel_rfl
theorem AbC:Ff vE.P 108=some (6,112):=by kernel_rfl
theorem AIA:AC vE.P 108 0=107:=by kernel_rfl
theorem AXf:Bb vE.P 110=some (.agg [.str [],.slice 1 [] true,.slice 3 [] true,.slice 6 [] true]):=by kernel_rfl
theorem AXB:(Ba vE.P 110).isSome=true:=by kernel_rfl
theorem ADm:AC vE.P 110 3=108:=by kernel_rfl
theorem X0:AQ vE.P 110 3=some (3,1):=by kernel_rfl
theorem AQ7: ∀n,BU vE.P 110 n=some [.str [],.slice 1 [] true,.slice 3 [] true,.slice 6 [] true]:=by intros;kernel_rfl
theorem ATx:Az vE.P 110=some 4:=by kernel_rfl
theorem ARY:Aa vE.P 110=true:=by kernel_rfl
theorem AQZ:Al vE.P 110=true:=by kernel_rfl
theorem AOj:callable vE.P 48=true:=by kernel_rfl
theorem AK9:callable vE.P 47=true:=by kernel_rfl
theorem AM0:callable vE.P 49=true:=by kernel_rfl
theorem Ae4:ES vE.P 66=2:=by kernel_rfl
theorem AL4:callable vE.P 50=true:=by kernel_rfl
theorem AV5:Bb vE.P 120=some (.agg [.str [],.str []]):=by kernel_rfl
theorem AVO:(Ba vE.P 120).isSome=true:=by kernel_rfl
theorem AII:AC vE.P 120 0=9:=by kernel_rfl
theorem XA:AQ vE.P 120 0=some (0,1):=by kernel_rfl
theorem AA1:AC vE.P 120 1=9:=by kernel_rfl
theorem YP:AQ vE.P 120 1=some (1,1):=by kernel_rfl
theorem AjS:Ff vE.P 66=some (2,32):=by kernel_rfl
theorem ALJ:AC vE.P 66 0=120:=by kernel_rfl
theorem AN3:callable vE.P 51=true:=by kernel_rfl
theorem AbK:Bb vE.P 68=some (.agg [.int .i64 0,.int .i64 0,.slice 2 [] true]):=by kernel_rfl
theorem Aad:(Ba vE.P 68).isSome=true:=by kernel_rfl
theorem AOy:AC vE.P 68 2=66:=by kernel_rfl
theorem AA7:AQ vE.P 68 2=some (2,1):=by kernel_rfl
theorem ALP:callable vE.P 52=true:=by kernel_rfl
theorem AVn:Aa vE.P 61=true:=by kernel_rfl
theorem AVl:Al vE.P 61=true:=by kernel_rfl
theorem ANA:callable vE.P 53=true:=by kernel_rfl
theorem ANL:callable vE.P 54=true:=by kernel_rfl
theorem AWa: ∀n,BU vE.P 43 n=some [.bool false,.int .u64 0]:=by intros;kernel_rfl
theorem AMI:AJ vE.P 43 0=some (0,1,false):=by kernel_rfl
theorem Acr:Aa vE.P 4=true:=by kernel_rfl
theorem Aez:Al vE.P 4=false:=by kernel_rfl
theorem AhL:Az vE.P 4=some 1:=by kernel_rfl
theorem Adw:Bb vE.P 43=some (.agg [.bool false,.int .u64 0]):=by kernel_rfl
theorem Adq:(Ba vE.P 43).isSome=true:=by kernel_rfl
theorem AMy:AJ vE.P 43 1=some (1,1,false):=by kernel_rfl
theorem AXb:Aa vE.P 41=true:=by kernel_rfl
theorem AVv:Al vE.P 41=false:=by kernel_rfl
theorem Aew:Az vE.P 41=some 1:=by kernel_rfl
theorem AK1:AC vE.P 43 0=4:=by kernel_rfl
theorem AIl:AQ vE.P 43 0=some (0,1):=by kernel_rfl
theorem AL6:AC vE.P 43 1=41:=by kernel_rfl
theorem AH4:AQ vE.P 43 1=some (1,1):=by kernel_rfl
theorem AOV:callable vE.P 55=true:=by kernel_rfl
theorem AUB:Aa vE.P 70=true:=by kernel_rfl
theorem AYv:Al vE.P 70=true:=by kernel_rfl
theorem AOU:callable vE.P 56=true:=by kernel_rfl
theorem AaK:Bb vE.P 70=some (.agg [.str [],.int .i64 0,.str [],.str [],.str [],.bool false,.bool false,.int .i64 0,.int .i64 0,.slice 2 [] true,.str [],.slice 9 [] true]):=by kernel_rfl
theorem AaV:(Ba vE.P 70).isSome=true:=by kernel_rfl
theorem ANZ:callable vE.P 57=true:=by kernel_rfl
theorem AV6: ∀n,BU vE.P 68 n=some [.int .i64 0,.int .i64 0,.slice 2 [] true]:=by intros;kernel_rfl
theorem Ad7:Az vE.P 68=some 3:=by kernel_rfl
theorem AY9:Aa vE.P 68=true:=by kernel_rfl
theorem AVB:Al vE.P 68=true:=by kernel_rfl
theorem AKk:AC vE.P 70 0=28:=by kernel_rfl
theorem ADa:AQ vE.P 70 0=some (0,7):=by kernel_rfl
theorem ANn:AC vE.P 70 1=68:=by kernel_rfl
theorem AAu:AQ vE.P 70 1=some (7,3):=by kernel_rfl
theorem AMG:AJ vE.P 68 1=some (1,1,false):=by kernel_rfl
theorem AMN:callable vE.P 58=true:=by kernel_rfl
theorem AMq:AJ vE.P 70 2=some (10,1,false):=by kernel_rfl
theorem ALO:callable vE.P 59=true:=by kernel_rfl
theorem Ai8:hpT vE.P 130=true:=by kernel_rfl
theorem AOA:callable vE.P 60=true:=by kernel_rfl
theorem AhF:Ff vE.P 59=some (4,48):=by kernel_rfl
theorem ANl:AC vE.P 59 0=40:=by kernel_rfl
theorem AMY:callable vE.P 61=true:=by kernel_rfl
theorem ZT:Ar vE.P 132=true:=by kernel_rfl
theorem ASu:BB vE.P 132=some 2:=by kernel_rfl
theorem ARw:Aa vE.P 128=true:=by kernel_rfl
theorem ARa:Al vE.P 128=true:=by kernel_rfl
theorem AXR:Az vE.P 128=some 2:=by kernel_rfl
theorem AQi: ∀n,BU vE.P 128 n=some [.str [],.int .i64 0]:=by intros;kernel_rfl
theorem ALD:callable vE.P 63=true:=by kernel_rfl
theorem ANN:callable vE.P 62=true:=by kernel_rfl
theorem AKt:callable vE.P 64=true:=by kernel_rfl
theorem AWt:CZ vE.P 23=false:=by kernel_rfl
theorem AmV:u8T vE.P 23=true:=by kernel_rfl
theorem AT9:Aa vE.P 23=true:=by kernel_rfl
theorem AbQ:Bb vE.P 79=some (.agg [.str [],.str []]):=by kernel_rfl
theorem AdM:(Ba vE.P 79).isSome=true:=by kernel_rfl
theorem ALb:callable vE.P 65=true:=by kernel_rfl
theorem AKi:callable vE.P 66=true:=by kernel_rfl
theorem ALS:callable vE.P 67=true:=by kernel_rfl
theorem AOu:AC vE.P 79 0=9:=by kernel_rfl
theorem AJl:AQ vE.P 79 0=some (0,1):=by kernel_rfl
theorem ANb:AC vE.P 79 1=9:=by kernel_rfl
theorem AA2:AQ vE.P 79 1=some (1,1):=by kernel_rfl
theorem ALo:AJ vE.P 79 0=some (0,1,false):=by kernel_rfl
theorem Aan:Bb vE.P 84=some (.agg [.str [],.str []]):=by kernel_rfl
theorem AZ9:(Ba vE.P 84).isSome=true:=by kernel_rfl
theorem AMJ:callable vE.P 68=true:=by kernel_rfl
theorem AMf:callable vE.P 69=true:=by kernel_rfl
theorem AL5:callable vE.P 70=true:=by kernel_rfl
theorem ALc:callable vE.P 71=true:=by kernel_rfl
theorem AKX:AC vE.P 84 0=9:=by kernel_rfl
theorem AAE:AQ vE.P 84 0=some (0,1):=by kernel_rfl
theorem ANw:AC vE.P 84 1=9:=by kernel_rfl
theorem AAl:AQ vE.P 84 1=some (1,1):=by kernel_rfl
theorem AM7:AJ vE.P 84 0=some (0,1,false):=by kernel_rfl
theorem AOZ:callable vE.P 72=true:=by kernel_rfl
theorem AMM:callable vE.P 73=true:=by kernel_rfl
theorem AMl:callable vE.P 74=true:=by kernel_rfl
theorem ALa:AJ vE.P 28 1=some (1,1,false):=by kernel_rfl
theorem AMe:AC vE.P 40 3=3:=by kernel_rfl
theorem AIv:AQ vE.P 40 3=some (3,1):=by kernel_rfl
theorem ALh:callable vE.P 75=true:=by kernel_rfl
theorem AK0:callable vE.P 76=true:=by kernel_rfl
theorem ANM:callable vE.P 77=true:=by kernel_rfl
theorem AGo:AJ vE.P 128 0=some (0,1,false):=by kernel_rfl
theorem ADd:AJ vE.P 128 1=some (1,1,false):=by kernel_rfl
theorem ASm: ∀n,BU vE.P 115 n=some [.int .i64 0,.str [],.slice 1 [] true,.slice 4 [] true]:=by intros;kernel_rfl
theorem AOv:callable vE.P 79=true:=by kernel_rfl
theorem AVV:Bb vE.P 154=some (.agg [.str [],.slice 1 [] true,.slice 1 [] true,.slice 3 [] true,.slice 3 [] true]):=by kernel_rfl
theorem AYc:(Ba vE.P 154).isSome=true:=by kernel_rfl
theorem ABd:AC vE.P 154 0=9:=by kernel_rfl
theorem YH:AQ vE.P 154 0=some (0,1):=by kernel_rfl
theorem AEM:AC vE.P 154 1=58:=by kernel_rfl
theorem XD:AQ vE.P 154 1=some (1,1):=by kernel_rfl
theorem AIR:AC vE.P 154 4=150:=by kernel_rfl
theorem YA:AQ vE.P 154 4=some (4,1):=by kernel_rfl
theorem ALf:callable vE.P 78=true:=by kernel_rfl
theorem AYf:Az vE.P 115=some 4:=by kernel_rfl
theorem ABl:AC vE.P 110 0=9:=by kernel_rfl
theorem Xq:AQ vE.P 110 0=some (0,1):=by kernel_rfl
theorem AMZ:Ar vE.P 58=true:=by kernel_rfl
theorem AT5:BB vE.P 58=some 1:=by kernel_rfl
theorem AAL:AJ vE.P 110 3=some (3,1,false):=by kernel_rfl
theorem ARy:Aa vE.P 108=true:=by kernel_rfl
theorem AP2:Al vE.P 108=false:=by kernel_rfl
theorem AYU:Az vE.P 108=some 1:=by kernel_rfl
theorem AIW:AC vE.P 107 2=9:=by kernel_rfl
theorem W9:AQ vE.P 107 2=some (2,1):=by kernel_rfl
theorem AcV:EI vE.P 108=none:=by kernel_rfl
theorem AJ3:AJ vE.P 110 1=some (1,1,false):=by kernel_rfl
theorem AVq:Aa vE.P 58=true:=by kernel_rfl
theorem AVQ:Al vE.P 58=false:=by kernel_rfl
theorem Ach:Az vE.P 58=some 1:=by kernel_rfl
theorem Aim:EI vE.P 58=none:=by kernel_rfl
theorem AEe:AJ vE.P 110 0=some (0,1,false):=by kernel_rfl
theorem APu:Aa vE.P 115=true:=by kernel_rfl
theorem ARN:Al vE.P 115=true:=by kernel_rfl
theorem ALZ:AC vE.P 68 0=3:=by kernel_rfl
theorem ADt:AQ vE.P 68 0=some (0,1):=by kernel_rfl
theorem AKw:AC vE.P 68 1=3:=by kernel_rfl
theorem ADF:AQ vE.P 68 1=some (1,1):=by kernel_rfl
theorem AMW:AJ vE.P 68 2=some (2,1,false):=by kernel_rfl
theorem AUX:Aa vE.P 66=true:=by kernel_rfl
theorem AYX:Al vE.P 66=false:=by kernel_rfl
theorem AbN:Az vE.P 66=some 1:=by kernel_rfl
theorem Agg:EI vE.P 66=none:=by kernel_rfl
theorem AOt:callable vE.P 80=true:=by kernel_rfl
theorem ANi:callable vE.P 81=true:=by kernel_rfl
theorem AOS:callable vE.P 82=true:=by kernel_rfl
theorem ANa:AJ vE.P 75 0=some (0,1,false):=by kernel_rfl
theorem AWg:Al vE.P 23=false:=by kernel_rfl
theorem Aen:Az vE.P 23=some 1:=by kernel_rfl
theorem Alr:EI vE.P 3=some .i64:=by kernel_rfl
theorem AbV:CZ vE.P 3=false:=by kernel_rfl
theorem Aab:Bb vE.P 94=some (.agg [.str [],.str []]):=by kernel_rfl
theorem AdE:(Ba vE.P 94).isSome=true:=by kernel_rfl
theorem AOR:callable vE.P 83=true:=by kernel_rfl
theorem AOh:callable vE.P 84=true:=by kernel_rfl
theorem AKd:callable vE.P 85=true:=by kernel_rfl
theorem ALV:callable vE.P 86=true:=by kernel_rfl
theorem AK8:callable vE.P 87=true:=by kernel_rfl
theorem ALC:AC vE.P 94 0=9:=by kernel_rfl
theorem AEp:AQ vE.P 94 0=some (0,1):=by kernel_rfl
theorem ANR:AC vE.P 94 1=9:=by kernel_rfl
theorem AJR:AQ vE.P 94 1=some (1,1):=by kernel_rfl
theorem AL1:callable vE.P 88=true:=by kernel_rfl
theorem Abl:Bb vE.P 28=some (.agg [.str [],.int .i64 0,.str [],.str [],.str [],.bool false,.bool false]):=by kernel_rfl
theorem Aby:(Ba vE.P 28).isSome=true:=by kernel_rfl
theorem ALG:AC vE.P 28 0=9:=by kernel_rfl
theorem AAm:AQ vE.P 28 0=some (0,1):=by kernel_rfl
theorem AN1:AC vE.P 28 1=3:=by kernel_rfl
theorem ACA:AQ vE.P 28 1=some (1,1):=by kernel_rfl
theorem AN0:AC vE.P 28 2=9:=by kernel_rfl
theorem ACt:AQ vE.P 28 2=some (2,1):=by kernel_rfl
theorem ARC:Aa vE.P 100=true:=by kernel_rfl
theorem ARI:Al vE.P 100=true:=by kernel_rfl
theorem AXV:Az vE.P 100=some 7:=by kernel_rfl
theorem APZ: ∀n,BU vE.P 100 n=some [.str [],.int .i64 0,.str [],.str [],.int .i64 0,.int .u64 0,.int .u64 0]:=by intros;kernel_rfl
theorem AF3:AJ vE.P 100 3=some (3,1,false):=by kernel_rfl
theorem ZA:AJ vE.P 100 4=some (4,1,false):=by kernel_rfl
theorem AKV:callable vE.P 89=true:=by kernel_rfl
theorem AMd:Ar vE.P 36=true:=by kernel_rfl
theorem AUb:BB vE.P 36=some 7:=by kernel_rfl
theorem ANT:callable vE.P 90=true:=by kernel_rfl
theorem AOY:AJ vE.P 28 5=some (5,1,false):=by kernel_rfl
theorem AOm:callable vE.P 91=true:=by kernel_rfl
theorem AKW:callable vE.P 92=true:=by kernel_rfl
theorem ALg:callable vE.P 94=true:=by kernel_rfl
theorem AMC:callable vE.P 93=true:=by kernel_rfl
theorem AT7:Bb vE.P 115=some (.agg [.int .i64 0,.str [],.slice 1 [] true,.slice 4 [] true]):=by kernel_rfl
theorem AXe:(Ba vE.P 115).isSome=true:=by kernel_rfl
theorem AFF:AC vE.P 115 0=3:=by kernel_rfl
theorem XE:AQ vE.P 115 0=some (0,1):=by kernel_rfl
theorem ANo:callable vE.P 95=true:=by kernel_rfl
theorem AK5:callable vE.P 97=true:=by kernel_rfl
theorem ANf:callable vE.P 96=true:=by kernel_rfl
theorem AFw:AJ vE.P 110 2=some (2,1,false):=by kernel_rfl
theorem AQj:Aa vE.P 105=true:=by kernel_rfl
theorem AQP:Al vE.P 105=false:=by kernel_rfl
theorem AUL:Az vE.P 105=some 1:=by kernel_rfl
theorem AOP:callable vE.P 98=true:=by kernel_rfl
theorem AFJ:Ar vE.P 108=true:=by kernel_rfl
theorem ASF:BB vE.P 108=some 6:=by kernel_rfl
theorem APP:Aa vE.P 107=true:=by kernel_rfl
theorem ARL:Al vE.P 107=true:=by kernel_rfl
theorem AT1:Az vE.P 107=some 6:=by kernel_rfl
theorem ARr: ∀n,BU vE.P 107 n=some [.str [],.str [],.str [],.str [],.slice 3 [] true,.slice 3 [] true]:=by intros;kernel_rfl
theorem ABG:AJ vE.P 107 0=some (0,1,false):=by kernel_rfl
theorem AOQ:callable vE.P 99=true:=by kernel_rfl
theorem AJ5:AJ vE.P 107 1=some (1,1,false):=by kernel_rfl
theorem AB1:AJ vE.P 107 2=some (2,1,false):=by kernel_rfl
theorem ADk:AJ vE.P 107 3=some (3,1,false):=by kernel_rfl
theorem AAr:AJ vE.P 107 4=some (4,1,false):=by kernel_rfl
theorem AET:AJ vE.P 107 5=some (5,1,false):=by kernel_rfl
theorem AGO:AJ vE.P 115 3=some (3,1,false):=by kernel_rfl
theorem AQs:Aa vE.P 113=true:=by kernel_rfl
theorem AR9:Al vE.P 113=false:=by kernel_rfl
theorem AWY:Az vE.P 113=some 1:=by kernel_rfl
theorem Ads:Ff vE.P 113=some (4,72):=by kernel_rfl
theorem ADy:AC vE.P 113 0=115:=by kernel_rfl
theorem Ad1:EI vE.P 113=none:=by kernel_rfl
theorem AIb:callable vE.P 100=true:=by kernel_rfl
theorem ACP:callable vE.P 101=true:=by kernel_rfl
theorem AHm:callable vE.P 102=true:=by kernel_rfl
theorem AT8:Bb vE.P 100=some (.agg [.str [],.int .i64 0,.str [],.str [],.int .i64 0,.int .u64 0,.int .u64 0]):=by kernel_rfl
theorem AXK:(Ba vE.P 100).isSome=true:=by kernel_rfl
theorem Zy:AC vE.P 100 0=9:=by kernel_rfl
theorem Xp:AQ vE.P 100 0=some (0,1):=by kernel_rfl
theorem AHy:AC vE.P 100 1=3:=by kernel_rfl
theorem Wu:AQ vE.P 100 1=some (1,1):=by kernel_rfl
theorem AI9:AC vE.P 100 2=9:=by kernel_rfl
theorem YG:AQ vE.P 100 2=some (2,1):=by kernel_rfl
theorem ADi:AC vE.P 100 3=9:=by kernel_rfl
theorem YV:AQ vE.P 100 3=some (3,1):=by kernel_rfl
theorem ADc:callable vE.P 103=true:=by kernel_rfl
theorem ABV:callable vE.P 104=true:=by kernel_rfl
theorem ZP:callable vE.P 105=true:=by kernel_rfl
theorem ABT:callable vE.P 106=true:=by kernel_rfl
theorem AGA:callable vE.P 107=true:=by kernel_rfl
theorem AdI:Bb vE.P 61=some (.agg [.int .i64 0,.str [],.str [],.int .i64 0,.slice 4 [] true,.int .i64 0,.bool false,.int .u64 0,.slice 9 [] true]):=by kernel_rfl
theorem AbM:(Ba vE.P 61).isSome=true:=by kernel_rfl
theorem AFd:callable vE.P 108=true:=by kernel_rfl
theorem AK3:AJ vE.P 70 3=some (11,1,false):=by kernel_rfl
theorem AMK:AC vE.P 61 4=22:=by kernel_rfl
theorem AJE:AQ vE.P 61 4=some (8,1):=by kernel_rfl
theorem AA6:callable vE.P 109=true:=by kernel_rfl
theorem ASN: ∀n,BU vE.P 154 n=some [.str [],.slice 1 [] true,.slice 1 [] true,.slice 3 [] true,.slice 3 [] true]:=by intros;kernel_rfl
theorem AWO:Az vE.P 154=some 5:=by kernel_rfl
theorem AR8:Aa vE.P 154=true:=by kernel_rfl
theorem AQD:Al vE.P 154=true:=by kernel_rfl
theorem AIM:callable vE.P 110=true:=by kernel_rfl
theorem AOJ:AJ vE.P 70 1=some (7,3,true):=by kernel_rfl
theorem AEc:callable vE.P 111=true:=by kernel_rfl
theorem AKn:AC vE.P 61 0=40:=by kernel_rfl
theorem AD0:AQ vE.P 61 0=some (0,4):=by kernel_rfl
theorem AKa:AC vE.P 61 1=59:=by kernel_rfl
theorem AHk:AQ vE.P 61 1=some (4,1):=by kernel_rfl
theorem ALX:AC vE.P 61 3=43:=by kernel_rfl
theorem AAd:AQ vE.P 61 3=some (6,2):=by kernel_rfl
theorem AUT:Bb vE.P 187=some (.agg [.slice 7 [] true,.int .u64 0,.int .i64 0,.str [],.str [],.int .i64 0,.slice 9 [] true]):=by kernel_rfl
theorem AT0:(Ba vE.P 187).isSome=true:=by kernel_rfl
theorem ADu:AC vE.P 187 0=36:=by kernel_rfl
theorem YJ:AQ vE.P 187 0=some (0,1):=by kernel_rfl
theorem AI3:AC vE.P 187 1=41:=by kernel_rfl
theorem YB:AQ vE.P 187 1=some (1,1):=by kernel_rfl
theorem ACV:AC vE.P 187 2=40:=by kernel_rfl
theorem Xf:AQ vE.P 187 2=some (2,4):=by kernel_rfl
theorem AFm:callable vE.P 112=true:=by kernel_rfl
theorem AF7:callable vE.P 113=true:=by kernel_rfl
theorem AMr:AJ vE.P 61 2=some (5,1,false):=by kernel_rfl
theorem AF6:callable vE.P 114=true:=by kernel_rfl
theorem AD8:AJ vE.P 187 3=some (6,1,false):=by kernel_rfl
theorem AI1:callable vE.P 115=true:=by kernel_rfl
theorem AH3:callable vE.P 116=true:=by kernel_rfl
theorem AEs:callable vE.P 117=true:=by kernel_rfl
theorem AdV:(Oy vE.P 195).isSome=true:=by kernel_rfl
theorem Ac9:(Oy vE.P 195).bind (Bb vE.P)=some .nilFn:=by kernel_rfl
theorem AWq:ES vE.P 194=0:=by kernel_rfl
theorem AX8:WX vE.P 194=true:=by kernel_rfl
theorem AB7:callable vE.P 118=true:=by kernel_rfl
theorem AGn:callable vE.P 119=true:=by kernel_rfl
theorem AYh:Bb vE.P 199=some (.agg [.str [],.int .i64 0,.str [],.int .u64 0]):=by kernel_rfl
theorem AUe:(Ba vE.P 199).isSome=true:=by kernel_rfl
theorem AGG:AC vE.P 199 0=128:=by kernel_rfl
theorem XO:AQ vE.P 199 0=some (0,2):=by kernel_rfl
theorem AHK:AC vE.P 199 1=9:=by kernel_rfl
theorem X3:AQ vE.P 199 1=some (2,1):=by kernel_rfl
theorem AJc:AC vE.P 199 2=41:=by kernel_rfl
theorem Wy:AQ vE.P 199 2=some (3,1):=by kernel_rfl
theorem ARQ: ∀n,BU vE.P 199 n=some [.str [],.int .i64 0,.str [],.int .u64 0]:=by intros;kernel_rfl
theorem AV4:Az vE.P 199=some 4:=by kernel_rfl
theorem ARO:Aa vE.P 199=true:=by kernel_rfl
theorem AQ8:Al vE.P 199=true:=by kernel_rfl
theorem ACC:callable vE.P 121=true:=by kernel_rfl
theorem AAy:callable vE.P 120=true:=by kernel_rfl
theorem ACB:callable vE.P 122=true:=by kernel_rfl
theorem AYm:Bb vE.P 204=some (.agg [.str [],.bool false]):=by kernel_rfl
theorem AUr:(Ba vE.P 204).isSome=true:=by kernel_rfl
theorem AGQ:AC vE.P 204 0=9:=by kernel_rfl
theorem Xx:AQ vE.P 204 0=some (0,1):=by kernel_rfl
theorem AJ6:callable vE.P 124=true:=by kernel_rfl
theorem AFr:callable vE.P 123=true:=by kernel_rfl
theorem ACo:AJ vE.P 204 1=some (1,1,false):=by kernel_rfl
theorem AKv:Ar vE.P 66=true:=by kernel_rfl
theorem AJF:callable vE.P 125=true:=by kernel_rfl
theorem Zw:callable vE.P 126=true:=by kernel_rfl
theorem AIq:callable vE.P 127=true:=by kernel_rfl
theorem AG4:callable vE.P 128=true:=by kernel_rfl
theorem Zj:callable vE.P 129=true:=by kernel_rfl
theorem AFX:callable vE.P 130=true:=by kernel_rfl
theorem Ah3:EI vE.P 41=some .u64:=by kernel_rfl
theorem AXg:CZ vE.P 41=false:=by kernel_rfl
theorem AOK:AJ vE.P 40 2=some (2,1,false):=by kernel_rfl
theorem AOW:AJ vE.P 40 3=some (3,1,false):=by kernel_rfl
theorem AWr:Bb vE.P 128=some (.agg [.str [],.int .i64 0]):=by kernel_rfl
theorem AUm:(Ba vE.P 128).isSome=true:=by kernel_rfl
theorem AJ7:AC vE.P 128 0=9:=by kernel_rfl
theorem X4:AQ vE.P 128 0=some (0,1):=by kernel_rfl
theorem AFl:AC vE.P 128 1=3:=by kernel_rfl
theorem Xu:AQ vE.P 128 1=some (1,1):=by kernel_rfl
theorem AWo:ES vE.P 132=2:=by kernel_rfl
theorem AGl:callable vE.P 131=true:=by kernel_rfl
theorem AD9:callable vE.P 132=true:=by kernel_rfl
theorem Acs:Ff vE.P 132=some (2,24):=by kernel_rfl
theorem AbE:EI vE.P 132=none:=by kernel_rfl
theorem ARv:Aa vE.P 132=true:=by kernel_rfl
theorem AIX:callable vE.P 133=true:=by kernel_rfl
theorem AYs:ES vE.P 291=7:=by kernel_rfl
theorem AGF:AC vE.P 132 0=128:=by kernel_rfl
theorem AEO:callable vE.P 134=true:=by kernel_rfl
theorem AbI:ES vE.P 59=4:=by kernel_rfl
theorem AHA:callable vE.P 135=true:=by kernel_rfl
theorem AH0:callable vE.P 136=true:=by kernel_rfl
theorem ADS:callable vE.P 137=true:=by kernel_rfl
theorem Zt:callable vE.P 138=true:=by kernel_rfl
theorem AD6:callable vE.P 139=true:=by kernel_rfl
theorem Aik:Ff vE.P 23=some (1,1):=by kernel_rfl
theorem ALY:AC vE.P 23 0=5:=by kernel_rfl
theorem Aid:EI vE.P 23=none:=by kernel_rfl
theorem AB9:callable vE.P 140=true:=by kernel_rfl
theorem ADB:callable vE.P 141=true:=by kernel_rfl
theorem Aku:EI vE.P 9=none:=by kernel_rfl
theorem AOk:Vh vE.P 23 5=true:=by kernel_rfl
theorem AJt:callable vE.P 142=true:=by kernel_rfl
theorem AFf:callable vE.P 143=true:=by kernel_rfl
theorem AHe:callable vE.P 144=true:=by kernel_rfl
theorem AG3:callable vE.P 145=true:=by kernel_rfl
theorem AGE:callable vE.P 146=true:=by kernel_rfl
theorem AFy:callable vE.P 147=true:=by kernel_rfl
theorem APj: ∀n,BU vE.P 223 n=some [.str [],.str [],.str [],.str [],.str [],.bool false,.bool false,.bool false,.bool false]:=by intros;kernel_rfl
theorem AW4:Az vE.P 223=some 9:=by kernel_rfl
theorem AH9:AJ vE.P 223 5=some (5,1,false):=by kernel_rfl
theorem ABD:AJ vE.P 223 0=some (0,1,false):=by kernel_rfl
theorem AGr:AJ vE.P 223 6=some (6,1,false):=by kernel_rfl
theorem ACq:AJ vE.P 223 1=some (1,1,false):=by kernel_rfl
theorem AG2:callable vE.P 148=true:=by kernel_rfl
theorem AC1:AJ vE.P 223 2=some (2,1,false):=by kernel_rfl
theorem AFH:AJ vE.P 223 3=some (3,1,false):=by kernel_rfl
theorem AFu:AJ vE.P 223 4=some (4,1,false):=by kernel_rfl
theorem AFk:callable vE.P 149=true:=by kernel_rfl
theorem AHi:AJ vE.P 223 7=some (7,1,false):=by kernel_rfl
theorem AIZ:AJ vE.P 223 8=some (8,1,false):=by kernel_rfl
theorem AOF:AC vE.P 28 3=9:=by kernel_rfl
theorem Zv:AQ vE.P 28 3=some (3,1):=by kernel_rfl
theorem ALe:AC vE.P 28 4=9:=by kernel_rfl
theorem AAv:AQ vE.P 28 4=some (4,1):=by kernel_rfl
theorem ALd:AC vE.P 28 5=4:=by kernel_rfl
theorem AIE:AQ vE.P 28 5=some (5,1):=by kernel_rfl
theorem AM6:AC vE.P 28 6=4:=by kernel_rfl
theorem AD7:AQ vE.P 28 6=some (6,1):=by kernel_rfl
theorem AGU:callable vE.P 151=true:=by kernel_rfl
theorem AAR:callable vE.P 150=true:=by kernel_rfl
theorem AMP:AJ vE.P 28 6=some (6,1,false):=by kernel_rfl
theorem AF1:callable vE.P 152=true:=by kernel_rfl
theorem ALU:AJ vE.P 94 0=some (0,1,false):=by kernel_rfl
theorem AMA:AJ vE.P 94 1=some (1,1,false):=by kernel_rfl
theorem AFN:callable vE.P 154=true:=by kernel_rfl
theorem AHS:AJ vE.P 154 0=some (0,1,false):=by kernel_rfl
theorem ABu:callable vE.P 153=true:=by kernel_rfl
theorem AI6:AJ vE.P 154 1=some (1,1,false):=by kernel_rfl
theorem ZV:AJ vE.P 154 2=some (2,1,false):=by kernel_rfl
theorem AFU:AJ vE.P 154 3=some (3,1,false):=by kernel_rfl
theorem APH:Aa vE.P 152=true:=by kernel_rfl
theorem AQq:Al vE.P 152=false:=by kernel_rfl
theorem AXz:Az vE.P 152=some 1:=by kernel_rfl
theorem AIB:Ar vE.P 152=true:=by kernel_rfl
theorem AQr:BB vE.P 152=some 3:=by kernel_rfl
theorem AQV:Aa vE.P 231=true:=by kernel_rfl
theorem APL:Al vE.P 231=true:=by kernel_rfl
theorem AYg:Az vE.P 231=some 3:=by kernel_rfl
theorem APV: ∀n,BU vE.P 231 n=some [.str [],.str [],.str []]:=by intros;kernel_rfl
theorem AED:AJ vE.P 231 0=some (0,1,false):=by kernel_rfl
theorem AIH:AJ vE.P 231 1=some (1,1,false):=by kernel_rfl
theorem AHJ:AJ vE.P 231 2=some (2,1,false):=by kernel_rfl
theorem ABs:Ar vE.P 113=true:=by kernel_rfl
theorem AFY:AJ vE.P 154 4=some (4,1,false):=by kernel_rfl
theorem AP4:Aa vE.P 150=true:=by kernel_rfl
theorem AQv:Al vE.P 150=false:=by kernel_rfl
theorem AW5:Az vE.P 150=some 1:=by kernel_rfl
theorem ACc:Ar vE.P 150=true:=by kernel_rfl
theorem ARf:BB vE.P 150=some 3:=by kernel_rfl
theorem AQ2:Aa vE.P 233=true:=by kernel_rfl
theorem ASs:Al vE.P 233=true:=by kernel_rfl
theorem AU3:Az vE.P 233=some 3:=by kernel_rfl
theorem ASU: ∀n,BU vE.P 233 n=some [.str [],.slice 1 [] true,.slice 1 [] true]:=by intros;kernel_rfl
theorem AG5:AJ vE.P 233 0=some (0,1,false):=by kernel_rfl
theorem AHG:AJ vE.P 233 1=some (1,1,false):=by kernel_rfl
theorem AAC:AJ vE.P 233 2=some (2,1,false):=by kernel_rfl
theorem AUW:ES vE.P 150=3:=by kernel_rfl
theorem AYz:Bb vE.P 233=some (.agg [.str [],.slice 1 [] true,.slice 1 [] true]):=by kernel_rfl
theorem AYM:(Ba vE.P 233).isSome=true:=by kernel_rfl
theorem ACE:AC vE.P 233 0=9:=by kernel_rfl
theorem Wq:AQ vE.P 233 0=some (0,1):=by kernel_rfl
theorem ADM:AC vE.P 233 1=58:=by kernel_rfl
theorem XI:AQ vE.P 233 1=some (1,1):=by kernel_rfl
theorem AAe:AC vE.P 233 2=58:=by kernel_rfl
theorem XM:AQ vE.P 233 2=some (2,1):=by kernel_rfl
theorem AbA:Ff vE.P 150=some (3,64):=by kernel_rfl
theorem AAn:AC vE.P 150 0=233:=by kernel_rfl
theorem ALj:AJ vE.P 68 0=some (0,1,false):=by kernel_rfl
theorem AGX:callable vE.P 155=true:=by kernel_rfl
theorem AWL:BB vE.P 66=some 2:=by kernel_rfl
theorem ASO:Aa vE.P 120=true:=by kernel_rfl
theorem ASt:Al vE.P 120=true:=by kernel_rfl
theorem AWN:Az vE.P 120=some 2:=by kernel_rfl
theorem ASH: ∀n,BU vE.P 120 n=some [.str [],.str []]:=by intros;kernel_rfl
theorem AFj:AJ vE.P 120 0=some (0,1,false):=by kernel_rfl
theorem AHM:AJ vE.P 120 1=some (1,1,false):=by kernel_rfl
theorem AD1:callable vE.P 156=true:=by kernel_rfl
theorem AkN:EI vE.P 5=some .u8:=by kernel_rfl
theorem Aa9:CZ vE.P 5=false:=by kernel_rfl
theorem Adu:ES vE.P 58=1:=by kernel_rfl
theorem Ze:callable vE.P 157=true:=by kernel_rfl
theorem Zx:callable vE.P 158=true:=by kernel_rfl
theorem ZC:AJ vE.P 115 1=some (1,1,false):=by kernel_rfl
theorem AAK:AJ vE.P 115 2=some (2,1,false):=by kernel_rfl
theorem Vt:BB vE.P 113=some 4:=by kernel_rfl
theorem AGw:AJ vE.P 115 0=some (0,1,false):=by kernel_rfl
theorem ACO:callable vE.P 159=true:=by kernel_rfl
theorem AFQ:AC vE.P 115 1=9:=by kernel_rfl
theorem YW:AQ vE.P 115 1=some (1,1):=by kernel_rfl
theorem AHY:callable vE.P 160=true:=by kernel_rfl
theorem Zb:callable vE.P 161=true:=by kernel_rfl
theorem ACv:Ar vE.P 105=true:=by kernel_rfl
theorem APr:BB vE.P 105=some 3:=by kernel_rfl
theorem ASn:Aa vE.P 239=true:=by kernel_rfl
theorem ARb:Al vE.P 239=true:=by kernel_rfl
theorem AT4:Az vE.P 239=some 3:=by kernel_rfl
theorem AP1: ∀n,BU vE.P 239 n=some [.str [],.str [],.bool false]:=by intros;kernel_rfl
theorem ABm:AJ vE.P 239 2=some (2,1,false):=by kernel_rfl
theorem AGy:AJ vE.P 239 0=some (0,1,false):=by kernel_rfl
theorem Zh:AJ vE.P 239 1=some (1,1,false):=by kernel_rfl
theorem AUt:ES vE.P 108=6:=by kernel_rfl
theorem AG6:callable vE.P 162=true:=by kernel_rfl
theorem Zi:callable vE.P 163=true:=by kernel_rfl
theorem AXM:ES vE.P 174=3:=by kernel_rfl
theorem AEJ:callable vE.P 164=true:=by kernel_rfl
theorem AIj:Ar vE.P 174=true:=by kernel_rfl
theorem AHh:callable vE.P 165=true:=by kernel_rfl
theorem ASV: ∀n,BU vE.P 245 n=some [.str [],.slice 1 [] true,.slice 2 [] true]:=by intros;kernel_rfl
theorem AYw:Az vE.P 245=some 3:=by kernel_rfl
theorem ARP:Aa vE.P 245=true:=by kernel_rfl
theorem AQX:Al vE.P 245=true:=by kernel_rfl
theorem Aaw:Ff vE.P 174=some (3,64):=by kernel_rfl
theorem ZB:AC vE.P 174 0=245:=by kernel_rfl
theorem Aac:EI vE.P 174=none:=by kernel_rfl
theorem AQo:Aa vE.P 174=true:=by kernel_rfl
theorem AQl:BB vE.P 174=some 3:=by kernel_rfl
theorem ZW:AJ vE.P 245 1=some (1,1,false):=by kernel_rfl
theorem AJM:AJ vE.P 245 0=some (0,1,false):=by kernel_rfl
theorem AKA:callable vE.P 166=true:=by kernel_rfl
theorem APp:Aa vE.P 223=true:=by kernel_rfl
theorem AP0:Al vE.P 223=true:=by kernel_rfl
theorem AFO:callable vE.P 167=true:=by kernel_rfl
theorem AJ1:callable vE.P 168=true:=by kernel_rfl
theorem ADG:callable vE.P 169=true:=by kernel_rfl
theorem ALs:AC vE.P 70 3=22:=by kernel_rfl
theorem AFC:AQ vE.P 70 3=some (11,1):=by kernel_rfl
theorem AGZ:callable vE.P 170=true:=by kernel_rfl
theorem AUC:Bb vE.P 253=some (.agg [.str [],.str [],.int .i64 0]):=by kernel_rfl
theorem AUc:(Ba vE.P 253).isSome=true:=by kernel_rfl
theorem AEX:callable vE.P 171=true:=by kernel_rfl
theorem AIU:AJ vE.P 253 0=some (0,2,true):=by kernel_rfl
theorem AJC:callable vE.P 172=true:=by kernel_rfl
theorem ACw:callable vE.P 173=true:=by kernel_rfl
theorem AEo:callable vE.P 174=true:=by kernel_rfl
theorem AcL:Ff vE.P 152=some (3,48):=by kernel_rfl
theorem AEr:AC vE.P 152 0=231:=by kernel_rfl
theorem Aex:EI vE.P 152=none:=by kernel_rfl
theorem AAW:callable vE.P 175=true:=by kernel_rfl
theorem AdF:EI vE.P 150=none:=by kernel_rfl
theorem AIr:AJ vE.P 253 1=some (2,1,false):=by kernel_rfl
theorem AJA:callable vE.P 176=true:=by kernel_rfl
theorem AIz:callable vE.P 177=true:=by kernel_rfl
theorem AIT:callable vE.P 178=true:=by kernel_rfl
theorem AAZ:callable vE.P 179=true:=by kernel_rfl
theorem AF0:AJ vE.P 187 0=some (0,1,false):=by kernel_rfl
theorem AWR:Al vE.P 36=false:=by kernel_rfl
theorem AcU:Az vE.P 36=some 1:=by kernel_rfl
theorem AJL:AJ vE.P 187 1=some (1,1,false):=by kernel_rfl
theorem ABL:callable vE.P 180=true:=by kernel_rfl
theorem ZQ:callable vE.P 181=true:=by kernel_rfl
theorem ABE:callable vE.P 182=true:=by kernel_rfl
theorem ABg:callable vE.P 183=true:=by kernel_rfl
theorem AJH:AJ vE.P 187 2=some (2,4,true):=by kernel_rfl
theorem AKD:callable vE.P 184=true:=by kernel_rfl
theorem AEy:callable vE.P 185=true:=by kernel_rfl
theorem ACx:callable vE.P 186=true:=by kernel_rfl
theorem AUP:ES vE.P 195=0:=by kernel_rfl
theorem Zq:callable vE.P 187=true:=by kernel_rfl
theorem AAM:callable vE.P 188=true:=by kernel_rfl
theorem AI0:callable vE.P 189=true:=by kernel_rfl
theorem AAY:callable vE.P 190=true:=by kernel_rfl
theorem ADO:callable vE.P 192=true:=by kernel_rfl
theorem AGd:callable vE.P 191=true:=by kernel_rfl
theorem AQg:vE.P.eqGuardType vE.P.depth 28=false:=by kernel_rfl
theorem AmI: ∀(a0 b0:List UInt8) (a1 b1:Int) (a2 b2:List UInt8) (a3 b3:List UInt8) (a4 b4:List UInt8) (a5 b5:Bool) (a6 b6:Bool),eqA vE.P 10000 28 (.agg [.str a0,.int .i64 a1,.str a2,.str a3,.str a4,.bool a5,.bool a6]) (.agg [.str b0,.int .i64 b1,.str b2,.str b3,.str b4,.bool b5,.bool b6])=some (a0==b0&&(a1==b1&&(a2==b2&&(a3==b3&&(a4==b4&&(a5==b5&&(a6==b6&&true))))))):=by intros;kernel_rfl
theorem AFZ:callable vE.P 193=true:=by kernel_rfl
theorem AJ2:AJ vE.P 199 0=some (0,2,true):=by kernel_rfl
theorem AOL:vE.P.eqGuardType vE.P.depth 128=false:=by kernel_rfl
theorem Aib: ∀(a0 b0:List UInt8) (a1 b1:Int),eqA vE.P 10000 128 (.agg [.str a0,.int .i64 a1]) (.agg [.str b0,.int .i64 b1])=some (a0==b0&&(a1==b1&&true)):=by intros;kernel_rfl
theorem AE0:AJ vE.P 100 2=some (2,1,false):=by kernel_rfl
theorem AB5:AJ vE.P 199 1=some (2,1,false):=by kernel_rfl
theorem ADq:AJ vE.P 100 5=some (5,1,false):=by kernel_rfl
theorem AIs:AJ vE.P 199 2=some (3,1,false):=by kernel_rfl
theorem ACn:AJ vE.P 100 6=some (6,1,false):=by kernel_rfl
theorem AHu:callable vE.P 194=true:=by kernel_rfl
theorem AJS:callable vE.P 195=true:=by kernel_rfl
theorem ACJ:callable vE.P 196=true:=by kernel_rfl
theorem AAO:AJ vE.P 204 0=some (0,1,false):=by kernel_rfl
theorem AAc:callable vE.P 197=true:=by kernel_rfl
theorem AKC:callable vE.P 198=true:=by kernel_rfl
theorem ACk:callable vE.P 199=true:=by kernel_rfl
theorem AA3:callable vE.P 200=true:=by kernel_rfl
theorem APc: ∀n,RD vE.P 274 n=some [.nself n 274 2,.nbuf 5]:=by intros;kernel_rfl
theorem APv: ∀n,BU vE.P 274 n=some [.nself n 274 2,.buf 5 [] true]:=by intros;kernel_rfl
theorem AUg:Bb vE.P 277=some (.agg [.str [],.int .u64 0]):=by kernel_rfl
theorem AWk:(Ba vE.P 277).isSome=true:=by kernel_rfl
theorem AJf:AC vE.P 277 0=9:=by kernel_rfl
theorem YC:AQ vE.P 277 0=some (0,1):=by kernel_rfl
theorem AAb:callable vE.P 201=true:=by kernel_rfl
theorem AIx:AJ vE.P 277 1=some (1,1,false):=by kernel_rfl
theorem AJr:callable vE.P 202=true:=by kernel_rfl
theorem Z4:AJ vE.P 277 0=some (0,1,false):=by kernel_rfl
theorem AF5:callable vE.P 203=true:=by kernel_rfl
theorem AJQ:callable vE.P 204=true:=by kernel_rfl
theorem AEg:callable vE.P 205=true:=by kernel_rfl
theorem ACf:callable vE.P 206=true:=by kernel_rfl
theorem AJj:callable vE.P 207=true:=by kernel_rfl
theorem AGY:callable vE.P 208=true:=by kernel_rfl
theorem ACG:callable vE.P 209=true:=by kernel_rfl
theorem ACZ:callable vE.P 210=true:=by kernel_rfl
theorem AES:callable vE.P 211=true:=by kernel_rfl
theorem AGg:callable vE.P 212=true:=by kernel_rfl
theorem ADP:callable vE.P 214=true:=by kernel_rfl
theorem AEl:callable vE.P 213=true:=by kernel_rfl
theorem AHl:callable vE.P 215=true:=by kernel_rfl
theorem AEv:callable vE.P 216=true:=by kernel_rfl
theorem AMU:AJ vE.P 70 0=some (0,7,true):=by kernel_rfl
theorem AIe:callable vE.P 217=true:=by kernel_rfl
theorem AFR:callable vE.P 218=true:=by kernel_rfl
theorem AFg:callable vE.P 219=true:=by kernel_rfl
theorem AGT:callable vE.P 220=true:=by kernel_rfl
theorem ADh:callable vE.P 221=true:=by kernel_rfl
theorem AGI:callable vE.P 223=true:=by kernel_rfl
theorem ADT:callable vE.P 224=true:=by kernel_rfl
theorem AEb:callable vE.P 225=true:=by kernel_rfl
theorem AGv:callable vE.P 226=true:=by kernel_rfl
theorem AKB:callable vE.P 227=true:=by kernel_rfl
theorem ADx:callable vE.P 228=true:=by kernel_rfl
theorem AP5: ∀n,BU vE.P 295 n=some [.str [],.str [],.slice 2 [] true]:=by intros;kernel_rfl
theorem AYW:Az vE.P 295=some 3:=by kernel_rfl
theorem AQw:Aa vE.P 295=true:=by kernel_rfl
theorem ASw:Al vE.P 295=true:=by kernel_rfl
theorem AG8:callable vE.P 229=true:=by kernel_rfl
theorem AHT:callable vE.P 230=true:=by kernel_rfl
theorem ABo:callable vE.P 222=true:=by kernel_rfl
theorem AQR: ∀n,BU vE.P 300 n=some [.str [],.str [],.int .i64 0]:=by intros;kernel_rfl
theorem AEA:callable vE.P 231=true:=by kernel_rfl
theorem AGb:AJ vE.P 300 1=some (2,1,false):=by kernel_rfl
theorem AFz:AJ vE.P 300 0=some (0,2,true):=by kernel_rfl
theorem AIK:callable vE.P 233=true:=by kernel_rfl
theorem AJG:callable vE.P 232=true:=by kernel_rfl
theorem ADV:callable vE.P 234=true:=by kernel_rfl
theorem AEd:callable vE.P 235=true:=by kernel_rfl
theorem AAg:callable vE.P 236=true:=by kernel_rfl
theorem AVG:Bb vE.P 231=some (.agg [.str [],.str [],.str []]):=by kernel_rfl
theorem AV3:(Ba vE.P 231).isSome=true:=by kernel_rfl
theorem ABX:AC vE.P 231 0=9:=by kernel_rfl
theorem Xh:AQ vE.P 231 0=some (0,1):=by kernel_rfl
theorem ABx:callable vE.P 237=true:=by kernel_rfl
theorem AfN:Ff vE.P 359=some (1,24):=by kernel_rfl
theorem AFL:AC vE.P 359 0=58:=by kernel_rfl
theorem AHp:callable vE.P 238=true:=by kernel_rfl
theorem AHR:callable vE.P 239=true:=by kernel_rfl
theorem AIt:callable vE.P 240=true:=by kernel_rfl
theorem ABJ:callable vE.P 241=true:=by kernel_rfl
theorem AC9:callable vE.P 242=true:=by kernel_rfl
theorem AAt:callable vE.P 243=true:=by kernel_rfl
theorem AUI:Bb vE.P 223=some (.agg [.str [],.str [],.str [],.str [],.str [],.bool false,.bool false,.bool false,.bool false]):=by kernel_rfl
theorem AUK:(Ba vE.P 223).isSome=true:=by kernel_rfl
theorem AI2:callable vE.P 244=true:=by kernel_rfl
theorem AGi:callable vE.P 245=true:=by kernel_rfl
theorem AIP:callable vE.P 246=true:=by kernel_rfl
theorem ZF:callable vE.P 247=true:=by kernel_rfl
theorem ADv:callable vE.P 248=true:=by kernel_rfl
theorem ACz:callable vE.P 249=true:=by kernel_rfl
theorem AH2:callable vE.P 250=true:=by kernel_rfl
theorem ZN:callable vE.P 251=true:=by kernel_rfl
theorem AAk:callable vE.P 252=true:=by kernel_rfl
theorem AUk:Bb vE.P 245=some (.agg [.str [],.slice 1 [] true,.slice 2 [] true]):=by kernel_rfl
theorem ATz:(Ba vE.P 245).isSome=true:=by kernel_rfl
theorem ZG:AC vE.P 245 0=9:=by kernel_rfl
theorem XN:AQ vE.P 245 0=some (0,1):=by kernel_rfl
theorem AEQ:callable vE.P 253=true:=by kernel_rfl
theorem AGH:callable vE.P 254=true:=by kernel_rfl
theorem ABU:AJ vE.P 245 2=some (2,1,false):=by kernel_rfl
theorem AJV:callable vE.P 255=true:=by kernel_rfl
theorem AHb:callable vE.P 256=true:=by kernel_rfl
theorem ARp: ∀n,BU vE.P 315 n=some [.str [],.int .i64 0,.str [],.str [],.str [],.bool false,.bool false,.int .i64 0,.bool false,.int .i64 0,.str [],.int .i64 0,.str [],.str [],.str [],.bool false,.bool false,.int .i64 0,.int .i64 0,.slice 2 [] true,.str [],.slice 9 [] true,.slice 7 [] true]:=by intros;kernel_rfl
theorem AWS:Az vE.P 315=some 23:=by kernel_rfl
theorem AHZ:AJ vE.P 315 2=some (8,1,false):=by kernel_rfl
theorem AQ5:Aa vE.P 315=true:=by kernel_rfl
theorem ARl:Al vE.P 315=true:=by kernel_rfl
theorem AJ9:callable vE.P 257=true:=by kernel_rfl
theorem AJN:AJ vE.P 315 4=some (10,12,true):=by kernel_rfl
theorem ABh:AJ vE.P 315 3=some (9,1,false):=by kernel_rfl
theorem ABw:callable vE.P 258=true:=by kernel_rfl
theorem AEC:callable vE.P 259=true:=by kernel_rfl
theorem ADC:callable vE.P 260=true:=by kernel_rfl
theorem AGx:callable vE.P 261=true:=by kernel_rfl
theorem AEh:callable vE.P 262=true:=by kernel_rfl
theorem AUD:ES vE.P 113=4:=by kernel_rfl
theorem AAD:callable vE.P 263=true:=by kernel_rfl
theorem AhZ:EI vE.P 59=none:=by kernel_rfl
theorem ADg:callable vE.P 264=true:=by kernel_rfl
theorem AFq:callable vE.P 265=true:=by kernel_rfl
theorem AHq:callable vE.P 266=true:=by kernel_rfl
theorem AAS:callable vE.P 267=true:=by kernel_rfl
theorem AI4:callable vE.P 268=true:=by kernel_rfl
theorem AFo:callable vE.P 269=true:=by kernel_rfl
theorem ABB:callable vE.P 270=true:=by kernel_rfl
theorem AEn:callable vE.P 271=true:=by kernel_rfl
theorem AB2:callable vE.P 272=true:=by kernel_rfl
theorem AE7:callable vE.P 273=true:=by kernel_rfl
theorem AHH:callable vE.P 274=true:=by kernel_rfl
theorem AIY:callable vE.P 275=true:=by kernel_rfl
theorem AHv:callable vE.P 276=true:=by kernel_rfl
theorem AIc:callable vE.P 277=true:=by kernel_rfl
theorem ABq:callable vE.P 278=true:=by kernel_rfl
theorem AHx:callable vE.P 279=true:=by kernel_rfl
theorem AJP:callable vE.P 280=true:=by kernel_rfl
theorem AHI:callable vE.P 281=true:=by kernel_rfl
theorem AEa:AJ vE.P 100 0=some (0,1,false):=by kernel_rfl
theorem AGB:AJ vE.P 100 1=some (1,1,false):=by kernel_rfl
theorem AHd:callable vE.P 282=true:=by kernel_rfl
theorem ADU:callable vE.P 283=false:=by kernel_rfl
theorem AEZ:callable vE.P 284=true:=by kernel_rfl
theorem AFh:callable vE.P 285=true:=by kernel_rfl
theorem ADz:callable vE.P 286=true:=by kernel_rfl
theorem AIy:callable vE.P 287=true:=by kernel_rfl
theorem AGj:callable vE.P 288=true:=by kernel_rfl
theorem AFx:callable vE.P 289=true:=by kernel_rfl
theorem AB0:callable vE.P 290=true:=by kernel_rfl
theorem AJX:callable vE.P 291=true:=by kernel_rfl
theorem AE6:callable vE.P 292=true:=by kernel_rfl
theorem AEG:AJ vE.P 274 1=some (1,1,false):=by kernel_rfl
theorem AVE:ES vE.P 281=0:=by kernel_rfl
theorem AD4:callable vE.P 293=true:=by kernel_rfl
theorem AH7:callable vE.P 294=true:=by kernel_rfl
theorem ZE:callable vE.P 295=true:=by kernel_rfl
theorem AX5:ptrTo vE.P 324 5=true:=by kernel_rfl
theorem ABi:callable vE.P 296=true:=by kernel_rfl
theorem ACg:callable vE.P 297=true:=by kernel_rfl
theorem AJd:callable vE.P 298=true:=by kernel_rfl
theorem ZI:callable vE.P 299=true:=by kernel_rfl
theorem AQA: ∀n,BU vE.P 330 n=some [.slice 5 [] true,.int .i64 0,.int .i64 0,.int .i64 0,.str [],.slice 1 [] true,.slice 4 [] true]:=by intros;kernel_rfl
theorem AB4:callable vE.P 300=true:=by kernel_rfl
theorem AQO: ∀n,BU vE.P 332 n=some [.int .i64 0,.str [],.int .i64 0]:=by intros;kernel_rfl
theorem AVK:Az vE.P 332=some 3:=by kernel_rfl
theorem ASJ:Aa vE.P 332=true:=by kernel_rfl
theorem AQM:Al vE.P 332=true:=by kernel_rfl
theorem AGP:callable vE.P 301=true:=by kernel_rfl
theorem AGC:AJ vE.P 332 2=some (2,1,false):=by kernel_rfl
theorem AGm:AJ vE.P 332 0=some (0,1,false):=by kernel_rfl
theorem ADj:AJ vE.P 330 3=some (3,4,true):=by kernel_rfl
theorem APx: ∀n,BU vE.P 337 n=some [.int .i64 0]:=by intros;kernel_rfl
theorem ADA:callable vE.P 302=true:=by kernel_rfl
theorem AHg:callable vE.P 303=true:=by kernel_rfl
theorem AG7:callable vE.P 304=true:=by kernel_rfl
theorem AFt:callable vE.P 305=true:=by kernel_rfl
theorem AIO:callable vE.P 306=true:=by kernel_rfl
theorem AAh:AJ vE.P 337 0=some (0,1,false):=by kernel_rfl
theorem AJZ:callable vE.P 307=true:=by kernel_rfl
theorem AHX:callable vE.P 308=true:=by kernel_rfl
theorem AU8:Bb vE.P 343=some (.agg [.str [],.int .i64 0]):=by kernel_rfl
theorem AXJ:(Ba vE.P 343).isSome=true:=by kernel_rfl
theorem ACM:AC vE.P 343 0=9:=by kernel_rfl
theorem YQ:AQ vE.P 343 0=some (0,1):=by kernel_rfl
theorem ADJ:callable vE.P 309=true:=by kernel_rfl
theorem AE8:callable vE.P 310=true:=by kernel_rfl
theorem AIL:callable vE.P 311=true:=by kernel_rfl
theorem AJI:callable vE.P 312=true:=by kernel_rfl
theorem Zk:callable vE.P 313=true:=by kernel_rfl
theorem AHt:callable vE.P 314=true:=by kernel_rfl
theorem AF2:callable vE.P 315=true:=by kernel_rfl
theorem Zc:callable vE.P 316=true:=by kernel_rfl
theorem ADn:callable vE.P 317=true:=by kernel_rfl
theorem AEF:callable vE.P 318=true:=by kernel_rfl
theorem AJh:callable vE.P 319=true:=by kernel_rfl
theorem ABW:callable vE.P 320=true:=by kernel_rfl
theorem ABP:callable vE.P 321=true:=by kernel_rfl
theorem ACX:callable vE.P 322=true:=by kernel_rfl
theorem AJp:callable vE.P 323=true:=by kernel_rfl
theorem AEW:callable vE.P 324=true:=by kernel_rfl
theorem ASS: ∀n,BU vE.P 341 n=some [.nilp]:=by intros;kernel_rfl
theorem AU6:Az vE.P 341=some 1:=by kernel_rfl
theorem Zr:callable vE.P 325=true:=by kernel_rfl
theorem APW:Aa vE.P 341=true:=by kernel_rfl
theorem ASa:Al vE.P 341=false:=by kernel_rfl
theorem Zg:AJ vE.P 295 0=some (0,1,false):=by kernel_rfl
theorem AAF:AJ vE.P 295 1=some (1,1,false):=by kernel_rfl
theorem AIm:callable vE.P 327=true:=by kernel_rfl
theorem AGN:AJ vE.P 295 2=some (2,1,false):=by kernel_rfl
theorem AVo:Bb vE.P 295=some (.agg [.str [],.str [],.slice 2 [] true]):=by kernel_rfl
theorem AX2:(Ba vE.P 295).isSome=true:=by kernel_rfl
theorem AEB:callable vE.P 328=true:=by kernel_rfl
theorem AIN:callable vE.P 329=true:=by kernel_rfl
theorem AGf:callable vE.P 330=true:=by kernel_rfl
theorem Zz:callable vE.P 331=true:=by kernel_rfl
theorem ASB: ∀n,BU vE.P 355 n=some [.str [],.str [],.str [],.str [],.str [],.bool false,.bool false]:=by intros;kernel_rfl
theorem AWs:Az vE.P 355=some 7:=by kernel_rfl
theorem APT:Aa vE.P 355=true:=by kernel_rfl
theorem APf:Al vE.P 355=true:=by kernel_rfl
theorem ACp:callable vE.P 332=true:=by kernel_rfl
theorem AIa:Ar vE.P 359=true:=by kernel_rfl
theorem AQy:BB vE.P 359=some 1:=by kernel_rfl
theorem AF8:callable vE.P 333=true:=by kernel_rfl
theorem AJO:callable vE.P 335=true:=by kernel_rfl
theorem AAP:callable vE.P 334=true:=by kernel_rfl
theorem AJJ:callable vE.P 336=true:=by kernel_rfl
theorem AXQ:Bb vE.P 315=some (.agg [.str [],.int .i64 0,.str [],.str [],.str [],.bool false,.bool false,.int .i64 0,.bool false,.int .i64 0,.str [],.int .i64 0,.str [],.str [],.str [],.bool false,.bool false,.int .i64 0,.int .i64 0,.slice 2 [] true,.str [],.slice 9 [] true,.slice 7 [] true]):=by kernel_rfl
theorem AVP:(Ba vE.P 315).isSome=true:=by kernel_rfl
theorem AEj:AC vE.P 315 2=4:=by kernel_rfl
theorem Wp:AQ vE.P 315 2=some (8,1):=by kernel_rfl
theorem AG9:AC vE.P 315 3=29:=by kernel_rfl
theorem YN:AQ vE.P 315 3=some (9,1):=by kernel_rfl
theorem ACQ:callable vE.P 337=true:=by kernel_rfl
theorem Ade:Ff vE.P 291=some (7,80):=by kernel_rfl
theorem ACd:AC vE.P 291 0=28:=by kernel_rfl
theorem Z5:AC vE.P 315 0=28:=by kernel_rfl
theorem X7:AQ vE.P 315 0=some (0,7):=by kernel_rfl
theorem AGM:AC vE.P 315 5=291:=by kernel_rfl
theorem X5:AQ vE.P 315 5=some (22,1):=by kernel_rfl
theorem ACb:AJ vE.P 315 0=some (0,7,true):=by kernel_rfl
theorem ADf:callable vE.P 338=true:=by kernel_rfl
theorem AF9:callable vE.P 339=true:=by kernel_rfl
theorem AAV:callable vE.P 340=true:=by kernel_rfl
theorem ABv:AJ vE.P 315 5=some (22,1,false):=by kernel_rfl
theorem AR3:Aa vE.P 291=true:=by kernel_rfl
theorem AQW:Al vE.P 291=false:=by kernel_rfl
theorem AYn:Az vE.P 291=some 1:=by kernel_rfl
theorem AHE:AJ vE.P 315 1=some (7,1,false):=by kernel_rfl
theorem AJ8:callable vE.P 341=true:=by kernel_rfl
theorem AIQ:Ar vE.P 291=true:=by kernel_rfl
theorem AP3:BB vE.P 291=some 7:=by kernel_rfl
theorem Adz:EI vE.P 291=none:=by kernel_rfl
theorem AH6:callable vE.P 342=true:=by kernel_rfl
theorem ACu:callable vE.P 343=true:=by kernel_rfl
theorem AJT:callable vE.P 344=true:=by kernel_rfl
theorem AY2:Bb vE.P 367=some (.agg [.str [],.int .i64 0,.int .i64 0,.int .i64 0,.int .i64 0]):=by kernel_rfl
theorem AWx:(Ba vE.P 367).isSome=true:=by kernel_rfl
theorem AJY:AC vE.P 367 0=9:=by kernel_rfl
theorem Wz:AQ vE.P 367 0=some (0,1):=by kernel_rfl
theorem ACe:callable vE.P 346=true:=by kernel_rfl
theorem AJo:callable vE.P 345=true:=by kernel_rfl
theorem AHO:AJ vE.P 367 3=some (3,1,false):=by kernel_rfl
theorem AIF:callable vE.P 347=true:=by kernel_rfl
theorem AC6:AJ vE.P 367 4=some (4,1,false):=by kernel_rfl
theorem AIf:callable vE.P 348=true:=by kernel_rfl
theorem ABa:callable vE.P 349=true:=by kernel_rfl
theorem AFi:callable vE.P 350=true:=by kernel_rfl
theorem AHo:callable vE.P 351=true:=by kernel_rfl
theorem AX6:Bb vE.P 373=some (.agg [.int .i64 0]):=by kernel_rfl
theorem AVe:(Ba vE.P 373).isSome=true:=by kernel_rfl
theorem AE2:callable vE.P 352=true:=by kernel_rfl
theorem AID:callable vE.P 353=true:=by kernel_rfl
theorem AIh:AC vE.P 110 1=58:=by kernel_rfl
theorem YF:AQ vE.P 110 1=some (1,1):=by kernel_rfl
theorem AFD:callable vE.P 354=true:=by kernel_rfl
theorem AI5:callable vE.P 355=true:=by kernel_rfl
theorem AFb:callable vE.P 356=true:=by kernel_rfl
theorem ADw:AJ vE.P 373 0=some (0,1,false):=by kernel_rfl
theorem AFp:callable vE.P 357=true:=by kernel_rfl
theorem Y6:callable vE.P 358=true:=by kernel_rfl
theorem AEU:callable vE.P 359=true:=by kernel_rfl
theorem AAp:callable vE.P 360=true:=by kernel_rfl
theorem AI8:callable vE.P 361=true:=by kernel_rfl
theorem AGJ:callable vE.P 362=true:=by kernel_rfl
theorem AIS:callable vE.P 363=true:=by kernel_rfl
theorem AHc:callable vE.P 364=true:=by kernel_rfl
theorem ACs:callable vE.P 365=true:=by kernel_rfl
theorem AFI:callable vE.P 366=true:=by kernel_rfl
theorem AHf:callable vE.P 367=true:=by kernel_rfl
theorem ASP: ∀n,BU vE.P 378 n=some [.slice 1 [] true]:=by intros;kernel_rfl
theorem AE1:callable vE.P 368=true:=by kernel_rfl
theorem APs:Aa vE.P 378=true:=by kernel_rfl
theorem APt:Al vE.P 378=false:=by kernel_rfl
theorem AXE:Az vE.P 378=some 1:=by kernel_rfl
theorem Aa7:Ff vE.P 378=some (1,1):=by kernel_rfl
theorem Zo:AC vE.P 378 0=5:=by kernel_rfl
theorem AeR:EI vE.P 378=none:=by kernel_rfl
theorem ABQ:callable vE.P 369=true:=by kernel_rfl
theorem Agc:u8T vE.P 378=true:=by kernel_rfl
theorem AcQ:O5 vE.P 23=some (1,.int .u8 0):=by kernel_rfl
theorem AE9:callable vE.P 370=true:=by kernel_rfl
theorem ADN:callable vE.P 371=true:=by kernel_rfl
theorem AEL:callable vE.P 372=true:=by kernel_rfl
theorem ABb:callable vE.P 373=false:=by kernel_rfl
theorem Z8:callable vE.P 374=true:=by kernel_rfl
theorem AXS:ES vE.P 380=0:=by kernel_rfl
theorem AdK:EI vE.P 380=some .u32:=by kernel_rfl
theorem AQC:CZ vE.P 380=false:=by kernel_rfl
theorem AHL:callable vE.P 375=true:=by kernel_rfl
theorem ACW:callable vE.P 376=true:=by kernel_rfl
theorem AI7:callable vE.P 377=true:=by kernel_rfl
theorem AE5:AJ vE.P 274 0=some (0,1,false):=by kernel_rfl
theorem ASx:Aa vE.P 272=true:=by kernel_rfl
theorem APm:Al vE.P 272=false:=by kernel_rfl
theorem AVI:Az vE.P 272=some 1:=by kernel_rfl
theorem AWD:ES vE.P 272=0:=by kernel_rfl
theorem AR0:Oh vE.P 272=true:=by kernel_rfl
theorem ARx:CZ vE.P 383=false:=by kernel_rfl
theorem R3:Rw vE.P 272 383 273 2=true:=by kernel_rfl
theorem Sn:Rw vE.P 272 383 274 2=true:=by kernel_rfl
theorem AGu:callable vE.P 378=false:=by kernel_rfl
theorem ARq:Aa vE.P 383=true:=by kernel_rfl
theorem ARB:CZ vE.P 272=false:=by kernel_rfl
theorem SY:Rw vE.P 383 272 273 2=true:=by kernel_rfl
theorem Sa:Rw vE.P 383 272 274 2=true:=by kernel_rfl
theorem Ahf:EI vE.P 21=some .i32:=by kernel_rfl
theorem AY4:CZ vE.P 21=false:=by kernel_rfl
theorem Abf:ES vE.P 21=0:=by kernel_rfl
theorem AFn:callable vE.P 379=true:=by kernel_rfl
theorem ACY:callable vE.P 380=true:=by kernel_rfl
theorem Zn:callable vE.P 381=true:=by kernel_rfl
theorem AQd: ∀n,BU vE.P 387 n=some (List.map AVal.bool (AQp 256)):=by intros;kernel_rfl
theorem AV8:Az vE.P 387=some 256:=by kernel_rfl
theorem AEu:callable vE.P 382=true:=by kernel_rfl
theorem AG1:callable vE.P 383=true:=by kernel_rfl
theorem AId:callable vE.P 384=true:=by kernel_rfl
theorem Abe:O5 vE.P 58=some (16,.str []):=by kernel_rfl
theorem AVw:Rf vE.P 58=some (.str []):=by kernel_rfl
theorem AJw:callable vE.P 385=true:=by kernel_rfl
theorem AYR:Bb vE.P 332=some (.agg [.int .i64 0,.str [],.int .i64 0]):=by kernel_rfl
theorem AYu:(Ba vE.P 332).isSome=true:=by kernel_rfl
theorem AUs:Bb vE.P 394=some (.agg [.str [],.int .i64 0]):=by kernel_rfl
theorem AVc:(Ba vE.P 394).isSome=true:=by kernel_rfl
theorem Zp:AC vE.P 394 0=9:=by kernel_rfl
theorem YI:AQ vE.P 394 0=some (0,1):=by kernel_rfl
theorem AGS:AC vE.P 394 1=3:=by kernel_rfl
theorem Xm:AQ vE.P 394 1=some (1,1):=by kernel_rfl
theorem ZY:callable vE.P 386=true:=by kernel_rfl
theorem AJB:callable vE.P 387=true:=by kernel_rfl
theorem AH8:AJ vE.P 394 1=some (1,1,false):=by kernel_rfl
theorem AGp:callable vE.P 388=true:=by kernel_rfl
theorem Zd:AC vE.P 332 0=3:=by kernel_rfl
theorem Wx:AQ vE.P 332 0=some (0,1):=by kernel_rfl
theorem AJ4:AC vE.P 332 1=9:=by kernel_rfl
theorem Xz:AQ vE.P 332 1=some (1,1):=by kernel_rfl
theorem AGe:AC vE.P 332 2=3:=by kernel_rfl
theorem Xt:AQ vE.P 332 2=some (2,1):=by kernel_rfl
theorem AIC:callable vE.P 389=true:=by kernel_rfl
theorem ACR:AJ vE.P 332 1=some (1,1,false):=by kernel_rfl
theorem ADr:callable vE.P 390=true:=by kernel_rfl
theorem AFS:AJ vE.P 330 1=some (1,1,false):=by kernel_rfl
theorem AHj:callable vE.P 391=true:=by kernel_rfl
theorem AEq:callable vE.P 392=true:=by kernel_rfl
theorem ACa:callable vE.P 393=true:=by kernel_rfl
theorem Z0:callable vE.P 394=true:=by kernel_rfl
theorem AU9:ES vE.P 105=3:=by kernel_rfl
theorem AYL:Bb vE.P 239=some (.agg [.str [],.str [],.bool false]):=by kernel_rfl
theorem AYt:(Ba vE.P 239).isSome=true:=by kernel_rfl
theorem ZH:AC vE.P 239 0=9:=by kernel_rfl
theorem Xn:AQ vE.P 239 0=some (0,1):=by kernel_rfl
theorem Ae5:Ff vE.P 105=some (3,40):=by kernel_rfl
theorem Z6:AC vE.P 105 0=239:=by kernel_rfl
theorem AbW:EI vE.P 105=none:=by kernel_rfl
theorem ACl:callable vE.P 395=true:=by kernel_rfl
theorem AC2:callable vE.P 396=true:=by kernel_rfl
theorem AC5:callable vE.P 397=true:=by kernel_rfl
theorem ACj:AJ vE.P 343 1=some (1,1,false):=by kernel_rfl
theorem AFT:AJ vE.P 343 0=some (0,1,false):=by kernel_rfl
theorem Za:callable vE.P 398=true:=by kernel_rfl
theorem ABr:callable vE.P 399=true:=by kernel_rfl
theorem AEN:callable vE.P 400=true:=by kernel_rfl
theorem AEI:callable vE.P 401=true:=by kernel_rfl
theorem ABj:callable vE.P 402=true:=by kernel_rfl
theorem AEE:callable vE.P 326=true:=by kernel_rfl
theorem AY0:ES vE.P 378=1:=by kernel_rfl
theorem AEx:callable vE.P 403=true:=by kernel_rfl
theorem AGD:callable vE.P 404=true:=by kernel_rfl
theorem AAx:callable vE.P 405=true:=by kernel_rfl
theorem ADp:callable vE.P 406=true:=by kernel_rfl
theorem AUj:Bb vE.P 355=some (.agg [.str [],.str [],.str [],.str [],.str [],.bool false,.bool false]):=by kernel_rfl
theorem AVj:(Ba vE.P 355).isSome=true:=by kernel_rfl
theorem AAQ:AJ vE.P 355 0=some (0,2,true):=by kernel_rfl
theorem AG0:AJ vE.P 355 1=some (2,1,false):=by kernel_rfl
theorem AEY:AJ vE.P 355 4=some (5,1,false):=by kernel_rfl
theorem AIi:AJ vE.P 355 2=some (3,1,false):=by kernel_rfl
theorem ZJ:AJ vE.P 355 5=some (6,1,false):=by kernel_rfl
theorem AHB:AJ vE.P 355 3=some (4,1,false):=by kernel_rfl
theorem AAU:callable vE.P 407=true:=by kernel_rfl
theorem ABZ:callable vE.P 408=true:=by kernel_rfl
theorem ABM:callable vE.P 409=true:=by kernel_rfl
theorem Abu:Bb vE.P 31=some (.agg [.str [],.int .i64 0,.str [],.str [],.str [],.bool false,.bool false,.int .i64 0,.int .i64 0]):=by kernel_rfl
theorem Aba:(Ba vE.P 31).isSome=true:=by kernel_rfl
theorem AMj:AC vE.P 31 0=28:=by kernel_rfl
theorem AFc:AQ vE.P 31 0=some (0,7):=by kernel_rfl
theorem AMm:AC vE.P 31 1=3:=by kernel_rfl
theorem AAi:AQ vE.P 31 1=some (7,1):=by kernel_rfl
theorem ALn:AC vE.P 31 2=29:=by kernel_rfl
theorem ADo:AQ vE.P 31 2=some (8,1):=by kernel_rfl
theorem ZM:callable vE.P 410=true:=by kernel_rfl
theorem AA5:callable vE.P 411=true:=by kernel_rfl
theorem ABA:callable vE.P 412=true:=by kernel_rfl
theorem AGa:callable vE.P 413=true:=by kernel_rfl
theorem ZK:callable vE.P 414=true:=by kernel_rfl
theorem AGz:callable vE.P 415=true:=by kernel_rfl
theorem AAA:callable vE.P 416=true:=by kernel_rfl
theorem ZZ:AC vE.P 295 0=9:=by kernel_rfl
theorem Wn:AQ vE.P 295 0=some (0,1):=by kernel_rfl
theorem ACI:AC vE.P 295 1=9:=by kernel_rfl
theorem XU:AQ vE.P 295 1=some (1,1):=by kernel_rfl
theorem AIG:callable vE.P 417=true:=by kernel_rfl
theorem AFP:AJ vE.P 367 2=some (2,1,false):=by kernel_rfl
theorem AF4:callable vE.P 418=true:=by kernel_rfl
theorem AJb:callable vE.P 419=true:=by kernel_rfl
theorem ADs:callable vE.P 420=true:=by kernel_rfl
theorem AHN:AJ vE.P 367 0=some (0,1,false):=by kernel_rfl
theorem ACN:AJ vE.P 367 1=some (1,1,false):=by kernel_rfl
theorem Y8:callable vE.P 421=true:=by kernel_rfl
theorem ACT:callable vE.P 422=true:=by kernel_rfl
theorem ADY:AC vE.P 239 1=9:=by kernel_rfl
theorem X8:AQ vE.P 239 1=some (1,1):=by kernel_rfl
theorem AJg:callable vE.P 423=true:=by kernel_rfl
theorem ABz:callable vE.P 424=true:=by kernel_rfl
theorem ARJ: ∀n,BU vE.P 416 n=some [.int .i64 0]:=by intros;kernel_rfl
theorem AJz:callable vE.P 426=true:=by kernel_rfl
theorem AB3:callable vE.P 425=true:=by kernel_rfl
theorem AAB:AJ vE.P 416 0=some (0,1,false):=by kernel_rfl
theorem AGK:callable vE.P 427=true:=by kernel_rfl
theorem ACK:callable vE.P 428=true:=by kernel_rfl
theorem AGt:callable vE.P 429=true:=by kernel_rfl
theorem AA0:callable vE.P 430=true:=by kernel_rfl
theorem AQT: ∀n,BU vE.P 419 n=some [.int .u8 0,.int .u8 0,.int .u8 0,.int .u8 0,.int .u8 0,.int .u8 0,.int .u8 0,.int .u8 0,.int .u8 0,.int .u8 0,.int .u8 0,.int .u8 0,.int .u8 0,.int .u8 0,.int .u8 0,.int .u8 0,.int .u8 0,.int .u8 0,.int .u8 0,.int .u8 0]:=by intros;kernel_rfl
theorem ASv:Jj vE.P 419=some (20,1,false):=by kernel_rfl
theorem ARF:BB vE.P 419=none:=by kernel_rfl
theorem ADQ:callable vE.P 431=false:=by kernel_rfl
theorem AYY:Aa vE.P 21=true:=by kernel_rfl
theorem AIk:callable vE.P 432=true:=by kernel_rfl
theorem ARd:Aa vE.P 387=true:=by kernel_rfl
theorem ARg:Al vE.P 387=true:=by kernel_rfl
theorem AST:Jj vE.P 387=some (256,1,false):=by kernel_rfl
theorem AJk:callable vE.P 433=true:=by kernel_rfl
theorem AAa:callable vE.P 434=true:=by kernel_rfl
theorem AEk:callable vE.P 435=false:=by kernel_rfl
theorem AIn:AJ vE.P 394 0=some (0,1,false):=by kernel_rfl
theorem AFV:callable vE.P 436=true:=by kernel_rfl
theorem AC3:callable vE.P 437=true:=by kernel_rfl
theorem AAG:AJ vE.P 330 0=some (0,1,false):=by kernel_rfl
theorem Rj:Aa vE.P 328=true:=by kernel_rfl
theorem APh:Al vE.P 328=false:=by kernel_rfl
theorem AUh:Az vE.P 328=some 1:=by kernel_rfl
theorem Cu:Ar vE.P 328=true:=by kernel_rfl
theorem AEz:callable vE.P 438=true:=by kernel_rfl
theorem AHU:AJ vE.P 427 0=some (0,4,true):=by kernel_rfl
theorem AGs:callable vE.P 439=true:=by kernel_rfl
theorem AIo:callable vE.P 440=true:=by kernel_rfl
theorem RS:BB vE.P 328=some 5:=by kernel_rfl
theorem ABt:callable vE.P 441=true:=by kernel_rfl
theorem ABc:AJ vE.P 427 1=some (4,1,false):=by kernel_rfl
theorem API:Aa vE.P 425=true:=by kernel_rfl
theorem APq:Al vE.P 425=false:=by kernel_rfl
theorem AWP:Az vE.P 425=some 1:=by kernel_rfl
theorem AFs:callable vE.P 442=true:=by kernel_rfl
theorem AEm:AJ vE.P 330 2=some (2,1,false):=by kernel_rfl
theorem ABK:callable vE.P 443=true:=by kernel_rfl
theorem AFK:callable vE.P 444=true:=by kernel_rfl
theorem AAH:callable vE.P 445=true:=by kernel_rfl
theorem ADL:callable vE.P 446=true:=by kernel_rfl
theorem AGk:callable vE.P 447=true:=by kernel_rfl
theorem ADR:callable vE.P 448=true:=by kernel_rfl
theorem AIp:callable vE.P 449=true:=by kernel_rfl
theorem AAX:callable vE.P 450=true:=by kernel_rfl
theorem ACU:callable vE.P 451=true:=by kernel_rfl
theorem ADE:callable vE.P 452=true:=by kernel_rfl
theorem AEw:callable vE.P 453=true:=by kernel_rfl
theorem AFa:AC vE.P 355 0=94:=by kernel_rfl
theorem XX:AQ vE.P 355 0=some (0,2):=by kernel_rfl
theorem AAJ:callable vE.P 454=true:=by kernel_rfl
theorem AAq:callable vE.P 455=true:=by kernel_rfl
theorem ADW:callable vE.P 456=true:=by kernel_rfl
theorem AIu:callable vE.P 457=true:=by kernel_rfl
theorem AFW:callable vE.P 458=true:=by kernel_rfl
theorem ABO:callable vE.P 459=true:=by kernel_rfl
theorem AXX:ES vE.P 428=0:=by kernel_rfl
theorem AUq:(Ba vE.P 427).isSome=true:=by kernel_rfl
theorem AHr:AC vE.P 427 0=115:=by kernel_rfl
theorem Wv:AQ vE.P 427 0=some (0,4):=by kernel_rfl
theorem ABf:AC vE.P 427 1=425:=by kernel_rfl
theorem Xc:AQ vE.P 427 1=some (4,1):=by kernel_rfl
theorem Vp:Ff vE.P 328=some (5,80):=by kernel_rfl
theorem AEP:AC vE.P 328 0=427:=by kernel_rfl
theorem Vu:EI vE.P 328=none:=by kernel_rfl
theorem AWz:ES vE.P 115=0:=by kernel_rfl
theorem ZL:callable vE.P 460=true:=by kernel_rfl
theorem AHC:callable vE.P 461=true:=by kernel_rfl
theorem ADb:callable vE.P 462=true:=by kernel_rfl
theorem Aa2:Ff vE.P 441=some (2,16):=by kernel_rfl
theorem AR2:Rf vE.P 441=some (.agg [.int .i64 0,.int .i64 0]):=by kernel_rfl
theorem AXd:O5 vE.P 441=none:=by kernel_rfl
theorem AWb:Bb vE.P 443=some (.agg [.int .i64 0,.int .i64 0]):=by kernel_rfl
theorem AYE:(Ba vE.P 443).isSome=true:=by kernel_rfl
theorem AAf:AC vE.P 443 0=3:=by kernel_rfl
theorem Xb:AQ vE.P 443 0=some (0,1):=by kernel_rfl
theorem AEK:AC vE.P 443 1=3:=by kernel_rfl
theorem Xw:AQ vE.P 443 1=some (1,1):=by kernel_rfl
theorem AH1:AC vE.P 441 0=443:=by kernel_rfl
theorem AeG:EI vE.P 441=none:=by kernel_rfl
theorem APR:Aa vE.P 441=true:=by kernel_rfl
theorem AAj:Ar vE.P 441=true:=by kernel_rfl
theorem AP8:BB vE.P 441=some 2:=by kernel_rfl
theorem ARi:Aa vE.P 443=true:=by kernel_rfl
theorem AQb:Al vE.P 443=true:=by kernel_rfl
theorem AVH:Az vE.P 443=some 2:=by kernel_rfl
theorem AP6: ∀n,BU vE.P 443 n=some [.int .i64 0,.int .i64 0]:=by intros;kernel_rfl
theorem AJn:AJ vE.P 443 0=some (0,1,false):=by kernel_rfl
theorem AAo:AJ vE.P 443 1=some (1,1,false):=by kernel_rfl
theorem AE3:callable vE.P 463=true:=by kernel_rfl
theorem AJa:callable vE.P 464=true:=by kernel_rfl
theorem AHw:callable vE.P 465=true:=by kernel_rfl
theorem ARh:Jj vE.P 444=some (256,1,false):=by kernel_rfl
theorem ARu:Jj vE.P 447=some (16,2,true):=by kernel_rfl
theorem ARs:Aa vE.P 446=true:=by kernel_rfl
theorem ARV:Al vE.P 446=true:=by kernel_rfl
theorem AWF:Az vE.P 446=some 2:=by kernel_rfl
theorem ARD: ∀n,BU vE.P 446 n=some [.int .u8 0,.int .u8 0]:=by intros;kernel_rfl
theorem Y9:AJ vE.P 446 0=some (0,1,false):=by kernel_rfl
theorem ACF:AJ vE.P 446 1=some (1,1,false):=by kernel_rfl
theorem AIw:callable vE.P 466=true:=by kernel_rfl
theorem AEH:callable vE.P 467=true:=by kernel_rfl
theorem ACh:callable vE.P 468=true:=by kernel_rfl
theorem ABF:callable vE.P 469=true:=by kernel_rfl
theorem AHW:callable vE.P 470=true:=by kernel_rfl
theorem ZR:callable vE.P 471=true:=by kernel_rfl
theorem ADI:callable vE.P 472=true:=by kernel_rfl
theorem AAN:callable vE.P 473=true:=by kernel_rfl
theorem AHQ:callable vE.P 474=true:=by kernel_rfl
theorem ADK:callable vE.P 475=true:=by kernel_rfl
theorem ABk:callable vE.P 476=true:=by kernel_rfl
theorem AQU:Aa vE.P 456=true:=by kernel_rfl
theorem APd:Al vE.P 456=true:=by kernel_rfl
theorem AYp:Az vE.P 456=some 12:=by kernel_rfl
theorem APw:Jj vE.P 456=some (4,3,true):=by kernel_rfl
theorem ASW: ∀n,BU vE.P 455 n=some [.int .u8 0,.int .u8 0,.int .i64 0]:=by intros;kernel_rfl
theorem AVW:Az vE.P 455=some 3:=by kernel_rfl
theorem AFG:AJ vE.P 455 1=some (1,1,false):=by kernel_rfl
theorem AD5:AJ vE.P 455 0=some (0,1,false):=by kernel_rfl
theorem AJK:AJ vE.P 455 2=some (2,1,false):=by kernel_rfl
theorem AJv:callable vE.P 477=true:=by kernel_rfl
theorem ACm:callable vE.P 478=true:=by kernel_rfl
theorem ACD:callable vE.P 479=true:=by kernel_rfl
theorem ZO:callable vE.P 480=true:=by kernel_rfl
theorem AVk:Bb vE.P 446=some (.agg [.int .u8 0,.int .u8 0]):=by kernel_rfl
theorem AYB:(Ba vE.P 446).isSome=true:=by kernel_rfl
theorem Zf:AC vE.P 446 0=5:=by kernel_rfl
theorem Xj:AQ vE.P 446 0=some (0,1):=by kernel_rfl
theorem AHz:AC vE.P 446 1=5:=by kernel_rfl
theorem XL:AQ vE.P 446 1=some (1,1):=by kernel_rfl
theorem AWQ:Bb vE.P 447=some (.agg [.int .u8 0,.int .u8 0,.int .u8 0,.int .u8 0,.int .u8 0,.int .u8 0,.int .u8 0,.int .u8 0,.int .u8 0,.int .u8 0,.int .u8 0,.int .u8 0,.int .u8 0,.int .u8 0,.int .u8 0,.int .u8 0,.int .u8 0,.int .u8 0,.int .u8 0,.int .u8 0,.int .u8 0,.int .u8 0,.int .u8 0,.int .u8 0,.int .u8 0,.int .u8 0,.int .u8 0,.int .u8 0,.int .u8 0,.int .u8 0,.int .u8 0,.int .u8 0]):=by kernel_rfl
theorem AYF:(Ba vE.P 447).isSome=true:=by kernel_rfl
theorem AC4:AC vE.P 447 0=446:=by kernel_rfl
theorem YK:AQ vE.P 447 0=some (0,2):=by kernel_rfl
theorem ADl:AC vE.P 447 1=446:=by kernel_rfl
theorem XK:AQ vE.P 447 1=some (2,2):=by kernel_rfl
theorem ADH:AC vE.P 447 2=446:=by kernel_rfl
theorem Xy:AQ vE.P 447 2=some (4,2):=by kernel_rfl
theorem Zu:AC vE.P 447 3=446:=by kernel_rfl
theorem XR:AQ vE.P 447 3=some (6,2):=by kernel_rfl
theorem ADe:AC vE.P 447 4=446:=by kernel_rfl
theorem YT:AQ vE.P 447 4=some (8,2):=by kernel_rfl
theorem AWT:Az vE.P 447=some 32:=by kernel_rfl
theorem AUR:Bb vE.P 455=some (.agg [.int .u8 0,.int .u8 0,.int .i64 0]):=by kernel_rfl
theorem AW7:(Ba vE.P 455).isSome=true:=by kernel_rfl
theorem AHV:AC vE.P 455 0=5:=by kernel_rfl
theorem X6:AQ vE.P 455 0=some (0,1):=by kernel_rfl
theorem AGh:AC vE.P 455 1=5:=by kernel_rfl
theorem Ws:AQ vE.P 455 1=some (1,1):=by kernel_rfl
theorem ABH:AC vE.P 455 2=3:=by kernel_rfl
theorem YD:AQ vE.P 455 2=some (2,1):=by kernel_rfl
theorem AVY:Bb vE.P 456=some (.agg [.int .u8 0,.int .u8 0,.int .i64 0,.int .u8 0,.int .u8 0,.int .i64 0,.int .u8 0,.int .u8 0,.int .i64 0,.int .u8 0,.int .u8 0,.int .i64 0]):=by kernel_rfl
theorem AY1:(Ba vE.P 456).isSome=true:=by kernel_rfl
theorem ABy:AC vE.P 456 0=455:=by kernel_rfl
theorem Xi:AQ vE.P 456 0=some (0,3):=by kernel_rfl
theorem AA9:AC vE.P 456 1=455:=by kernel_rfl
theorem XF:AQ vE.P 456 1=some (3,3):=by kernel_rfl
theorem AC7:AC vE.P 456 2=455:=by kernel_rfl
theorem Xa:AQ vE.P 456 2=some (6,3):=by kernel_rfl
theorem AD3:AC vE.P 456 3=455:=by kernel_rfl
theorem XQ:AQ vE.P 456 3=some (9,3):=by kernel_rfl
theorem Amx: ∀af t,rd vE af t (.global 3)=.cptr Kz:=by intros;rfl
theorem Am0:stripL Kz=Kz:=by simp[Kz,stripL,AVal.strip]
theorem AnV:List.take 12 Kz=Kz:=by rfl
theorem Ani: ∀st,Nq vE 456 (.cptr Kz) st=some (.agg Kz):=by intros;kernel_rfl
theorem Ox{n:Int}{x:Utf8textForm}{k:IntKind} (h:idx Jh n=some x):QC vE 456 (.agg Kz) (.int k n)=some (.agg [.int .u8 x.mark,.int .u8 x.mask,.int .i64 x.least]):=by
  unfold idx at h
  split at h
  · rename_i hn
    obtain⟨j,rfl⟩: ∃j:Nat,n=j:=⟨n.toNat,by omega⟩
    rw[Int.toNat_natCast]at h
    rcases j with _|j
    · cases h;kernel_rfl
    rcases j with _|j
    · cases h;kernel_rfl
    rcases j with _|j
    · cases h;kernel_rfl
    rcases j with _|j
    · cases h;kernel_rfl
    simp[Jh]at h
  · cases h
theorem ATm:(vE.P.funcs[373]?).isSome=true:=by kernel_rfl
theorem Ai9{l:List UInt8}{c:Int}{st:St}{Q:AVal→St→Prop} (h:Gl (Q (.int .i64 (Go.Lib.indexByte l (Ij c))) st)):UJ vE 373 [.str l,.int .u8 c] st Q:=by
  refine .inl ⟨(vE.P.funcs[373]?).get ATm,Extern.BytealgIndexByte.indexByte,.int .i64 (Go.Lib.indexByte l (Ij c)),(Option.some_get ATm).symm,by kernel_rfl,by kernel_rfl,by kernel_rfl,by kernel_rfl,fun Γ vs w hr=>?_,?_⟩
  · cases hr with|cons h1 t=>cases t with|cons h2 t=>cases t;cases h1;cases h2;exact⟨_,Go.Lib.run_indexByteString _ _ w,.int _ _⟩
  · have:=h.go;simpa[AVal.strip]using this
instance{l:List UInt8}{c:Int}:XC vE 373 [.str l,.int .u8 c] (.int .i64 (Go.Lib.indexByte l (Ij c))):=⟨fun h=>Ai9 h⟩
theorem ATR:(vE.P.funcs[378]?).isSome=true:=by kernel_rfl
theorem ATY{x:AVal}{st:St}{Q:AVal→St→Prop} (h:Gl (Q x.strip st)):UJ vE 378 [x] st Q:=by
  refine .inl ⟨(vE.P.funcs[378]?).get ATR,Extern.AbiNoEscape.same,x,(Option.some_get ATR).symm,by kernel_rfl,by kernel_rfl,by kernel_rfl,by kernel_rfl,fun Γ vs w hr=>?_,?_⟩
  · cases hr with|cons h1 t=>cases t;exact⟨_,Go.Lib.run_noEscape w _,h1⟩
  · have:=h.go;simpa[AVal.strip]using this
instance{x:AVal}:XC vE 378 [x] x.strip:=⟨fun h=>ATY h⟩
theorem AS5:(vE.P.funcs[435]?).isSome=true:=by kernel_rfl
theorem Ai6{l:List UInt8}{c:Int}{st:St}{Q:AVal→St→Prop} (h:Gl (Q (.int .i64 ((Go.Lib.countByte l (Ij c):Nat):Int)) st)):UJ vE 435 [.str l,.int .u8 c] st Q:=by
  refine .inl ⟨(vE.P.funcs[435]?).get AS5,Extern.BytealgCount.count,.int .i64 ((Go.Lib.countByte l (Ij c):Nat):Int),(Option.some_get AS5).symm,by kernel_rfl,by kernel_rfl,by kernel_rfl,by kernel_rfl,fun Γ vs w hr=>?_,?_⟩
  · cases hr with|cons h1 t=>cases t with|cons h2 t=>cases t;cases h1;cases h2;exact⟨_,Go.Lib.run_countString _ _ w,.int _ _⟩
  · have:=h.go;simpa[AVal.strip]using this
instance{l:List UInt8}{c:Int}:XC vE 435 [.str l,.int .u8 c] (.int .i64 ((Go.Lib.countByte l (Ij c):Nat):Int)):=⟨fun h=>Ai6 h⟩
theorem ATM:(vE.P.funcs[431]?).isSome=true:=by kernel_rfl
theorem Aja{k:Nat}{st:St}{Q:AVal→St→Prop} (h1:1≤k) (h2:k≤140737488355328) (h:Gl (Q (.trow 5 st.next k) {m:=(st.next,[.any])::st.m,next:=st.next+1})):UJ vE 431 [.int .i64 k] st Q:=.inr ⟨(vE.P.funcs[431]?).get ATM, #[3],23,5,k,(Option.some_get ATM).symm,by kernel_rfl,by kernel_rfl,by kernel_rfl,by kernel_rfl,by kernel_rfl,h1,h2,rfl,h.go⟩
set_option linter.defProp false
def fxE:=And.intro (And.intro (And.intro (And.intro (And.intro (And.intro (And.intro (And.intro (And.intro (And.intro (@AQE) (@Ago)) (And.intro (@APy) (And.intro (@APa) (@AOi)))) (And.intro (And.intro (@Ags) (@AdN)) (And.intro (@Ahi) (And.intro (@Ahd) (@Aiy))))) (And.intro (And.intro (And.intro (@AVF) (@AMs)) (And.intro (@AhD) (And.intro (@ALk) (@AUF)))) (And.intro (And.intro (@AcB) (@AbT)) (And.intro (@AiL) (And.intro (@Ajc) (@AVx)))))) (And.intro (And.intro (And.intro (And.intro (@AcK) (@Aek)) (And.intro (@Ahn) (And.intro (@AYH) (@ALw)))) (And.intro (And.intro (@ASp) (@APS)) (And.intro (@ANh) (And.intro (@AVm) (@AVC))))) (And.intro (And.intro (And.intro (@Ac2) (@AS1)) (And.intro (@ARS) (And.intro (@ALN) (@AfK)))) (And.intro (And.intro (@AWi) (@Aav)) (And.intro (@AWw) (And.intro (@AVu) (@AKj))))))) (And.intro (And.intro (And.intro (And.intro (And.intro (@AN6) (@Aer)) (And.intro (@Abm) (And.intro (@AeQ) (@AVg)))) (And.intro (And.intro (@AUJ) (@Ady)) (And.intro (@AXA) (And.intro (@ANm) (@AXL))))) (And.intro (And.intro (And.intro (@AXr) (@AfL)) (And.intro (@AOo) (And.intro (@Aah) (@AOx)))) (And.intro (And.intro (@AOc) (@AMh)) (And.intro (@Agr) (And.intro (@ANI) (@AiS)))))) (And.intro (And.intro (And.intro (And.intro (@AYd) (@AKh)) (And.intro (@ANO) (And.intro (@AQn) (@AlQ)))) (And.intro (And.intro (@AjL) (@Adm)) (And.intro (@AMc) (And.intro (@AdO) (@AOq))))) (And.intro (And.intro (And.intro (@AXa) (@Aa1)) (And.intro (@AKq) (And.intro (@Acj) (@Ad6)))) (And.intro (And.intro (@AiQ) (And.intro (@AYj) (@AVz))) (And.intro (@AjI) (And.intro (@ANE) (@AMv)))))))) (And.intro (And.intro (And.intro (And.intro (And.intro (And.intro (@Agz) (@Ag4)) (And.intro (@AXv) (And.intro (@ALl) (@ACy)))) (And.intro (And.intro (@AMb) (@AWd)) (And.intro (@AfC) (And.intro (@AOE) (@AOn))))) (And.intro (And.intro (And.intro (@AH5) (@AKl)) (And.intro (@Zl) (And.intro (@ALx) (@AYk)))) (And.intro (And.intro (@AXt) (@AaT)) (And.intro (@AM5) (And.intro (@ALB) (@AfR)))))) (And.intro (And.intro (And.intro (And.intro (@AUl) (@AKm)) (And.intro (@AQJ) (And.intro (@AmT) (@AKo)))) (And.intro (And.intro (@AXC) (@AXI)) (And.intro (@Aaa) (And.intro (@ANW) (@AMX))))) (And.intro (And.intro (And.intro (@AWA) (@AYo)) (And.intro (@AKb) (And.intro (@ANU) (@AMR)))) (And.intro (And.intro (@AXH) (And.intro (@Acl) (@AMp))) (And.intro (@AMn) (And.intro (@AKr) (@AN2))))))) (And.intro (And.intro (And.intro (And.intro (And.intro (@Adx) (@ANC)) (And.intro (@AOG) (And.intro (@ALR) (@AKy)))) (And.intro (And.intro (@Acb) (@Abr)) (And.intro (@Acz) (And.intro (@ANG) (@ABn))))) (And.intro (And.intro (And.intro (@AcJ) (@AeW)) (And.intro (@ALy) (And.intro (@ALz) (@ANe)))) (And.intro (And.intro (@AW9) (@AfH)) (And.intro (@AY3) (And.intro (@AUa) (@AN8)))))) (And.intro (And.intro (And.intro (And.intro (@AN7) (@AMF)) (And.intro (@AEt) (And.intro (@ALi) (@AHP)))) (And.intro (And.intro (@AOp) (@AHD)) (And.intro (@AMu) (And.intro (@AXo) (@AcY))))) (And.intro (And.intro (And.intro (@AV1) (@AVr)) (And.intro (@ALF) (And.intro (@AKZ) (@AOI)))) (And.intro (And.intro (@AMO) (And.intro (@AOr) (@AMQ))) (And.intro (@AOb) (And.intro (@AL0) (@ANg))))))))) (And.intro (And.intro (And.intro (And.intro (And.intro (And.intro (And.intro (@ALM) (@AU4)) (And.intro (@Ado) (And.intro (@AXN) (@AVR)))) (And.intro (And.intro (@ANr) (@ATy)) (And.intro (@AL9) (And.intro (@ANq) (@AKx))))) (And.intro (And.intro (And.intro (@ANF) (@ANp)) (And.intro (@AOs) (And.intro (@ALI) (@AX0)))) (And.intro (And.intro (@AUU) (@AB8)) (And.intro (@Xg) (And.intro (@ABN) (@YR)))))) (And.intro (And.intro (And.intro (And.intro (@AbC) (@AIA)) (And.intro (@AXf) (And.intro (@AXB) (@ADm)))) (And.intro (And.intro (@X0) (@AQ7)) (And.intro (@ATx) (And.intro (@ARY) (@AQZ))))) (And.intro (And.intro (And.intro (@AOj) (@AK9)) (And.intro (@AM0) (And.intro (@Ae4) (@AL4)))) (And.intro (And.intro (@AV5) (And.intro (@AVO) (@AII))) (And.intro (@XA) (And.intro (@AA1) (@YP))))))) (And.intro (And.intro (And.intro (And.intro (And.intro (@AjS) (@ALJ)) (And.intro (@AN3) (And.intro (@AbK) (@Aad)))) (And.intro (And.intro (@AOy) (@AA7)) (And.intro (@ALP) (And.intro (@AVn) (@AVl))))) (And.intro (And.intro (And.intro (@ANA) (@ANL)) (And.intro (@AWa) (And.intro (@AMI) (@Acr)))) (And.intro (And.intro (@Aez) (@AhL)) (And.intro (@Adw) (And.intro (@Adq) (@AMy)))))) (And.intro (And.intro (And.intro (And.intro (@AXb) (@AVv)) (And.intro (@Aew) (And.intro (@AK1) (@AIl)))) (And.intro (And.intro (@AL6) (@AH4)) (And.intro (@AOV) (And.intro (@AUB) (@AYv))))) (And.intro (And.intro (And.intro (@AOU) (@AaK)) (And.intro (@AaV) (And.intro (@ANZ) (@AV6)))) (And.intro (And.intro (@Ad7) (And.intro (@AY9) (@AVB))) (And.intro (@AKk) (And.intro (@ADa) (@ANn)))))))) (And.intro (And.intro (And.intro (And.intro (And.intro (And.intro (@AAu) (@AMG)) (And.intro (@AMN) (And.intro (@AMq) (@ALO)))) (And.intro (And.intro (@Ai8) (@AOA)) (And.intro (@AhF) (And.intro (@ANl) (@AMY))))) (And.intro (And.intro (And.intro (@ZT) (@ASu)) (And.intro (@ARw) (And.intro (@ARa) (@AXR)))) (And.intro (And.intro (@AQi) (@ALD)) (And.intro (@ANN) (And.intro (@AKt) (@AWt)))))) (And.intro (And.intro (And.intro (And.intro (@AmV) (@AT9)) (And.intro (@AbQ) (And.intro (@AdM) (@ALb)))) (And.intro (And.intro (@AKi) (@ALS)) (And.intro (@AOu) (And.intro (@AJl) (@ANb))))) (And.intro (And.intro (And.intro (@AA2) (@ALo)) (And.intro (@Aan) (And.intro (@AZ9) (@AMJ)))) (And.intro (And.intro (@AMf) (And.intro (@AL5) (@ALc))) (And.intro (@AKX) (And.intro (@AAE) (@ANw))))))) (And.intro (And.intro (And.intro (And.intro (And.intro (@AAl) (@AM7)) (And.intro (@AOZ) (And.intro (@AMM) (@AMl)))) (And.intro (And.intro (@ALa) (@AMe)) (And.intro (@AIv) (And.intro (@ALh) (@AK0))))) (And.intro (And.intro (And.intro (@ANM) (@AGo)) (And.intro (@ADd) (And.intro (@ASm) (@AOv)))) (And.intro (And.intro (@AVV) (@AYc)) (And.intro (@ABd) (And.intro (@YH) (@AEM)))))) (And.intro (And.intro (And.intro (And.intro (@XD) (@AIR)) (And.intro (@YA) (And.intro (@ALf) (@AYf)))) (And.intro (And.intro (@ABl) (@Xq)) (And.intro (@AMZ) (And.intro (@AT5) (@AAL))))) (And.intro (And.intro (And.intro (@ARy) (@AP2)) (And.intro (@AYU) (And.intro (@AIW) (@W9)))) (And.intro (And.intro (@AcV) (And.intro (@AJ3) (@AVq))) (And.intro (@AVQ) (And.intro (@Ach) (@Aim)))))))))) (And.intro (And.intro (And.intro (And.intro (And.intro (And.intro (And.intro (And.intro (@AEe) (@APu)) (And.intro (@ARN) (And.intro (@ALZ) (@ADt)))) (And.intro (And.intro (@AKw) (@ADF)) (And.intro (@AMW) (And.intro (@AUX) (@AYX))))) (And.intro (And.intro (And.intro (@AbN) (@Agg)) (And.intro (@AOt) (And.intro (@ANi) (@AOS)))) (And.intro (And.intro (@ANa) (@AWg)) (And.intro (@Aen) (And.intro (@Alr) (@AbV)))))) (And.intro (And.intro (And.intro (And.intro (@Aab) (@AdE)) (And.intro (@AOR) (And.intro (@AOh) (@AKd)))) (And.intro (And.intro (@ALV) (@AK8)) (And.intro (@ALC) (And.intro (@AEp) (@ANR))))) (And.intro (And.intro (And.intro (@AJR) (@AL1)) (And.intro (@Abl) (And.intro (@Aby) (@ALG)))) (And.intro (And.intro (@AAm) (@AN1)) (And.intro (@ACA) (And.intro (@AN0) (@ACt))))))) (And.intro (And.intro (And.intro (And.intro (And.intro (@ARC) (@ARI)) (And.intro (@AXV) (And.intro (@APZ) (@AF3)))) (And.intro (And.intro (@ZA) (@AKV)) (And.intro (@AMd) (And.intro (@AUb) (@ANT))))) (And.intro (And.intro (And.intro (@AOY) (@AOm)) (And.intro (@AKW) (And.intro (@ALg) (@AMC)))) (And.intro (And.intro (@AT7) (@AXe)) (And.intro (@AFF) (And.intro (@XE) (@ANo)))))) (And.intro (And.intro (And.intro (And.intro (@AK5) (@ANf)) (And.intro (@AFw) (And.intro (@AQj) (@AQP)))) (And.intro (And.intro (@AUL) (@AOP)) (And.intro (@AFJ) (And.intro (@ASF) (@APP))))) (And.intro (And.intro (And.intro (@ARL) (@AT1)) (And.intro (@ARr) (And.intro (@ABG) (@AOQ)))) (And.intro (And.intro (@AJ5) (And.intro (@AB1) (@ADk))) (And.intro (@AAr) (And.intro (@AET) (@AGO)))))))) (And.intro (And.intro (And.intro (And.intro (And.intro (And.intro (@AQs) (@AR9)) (And.intro (@AWY) (And.intro (@Ads) (@ADy)))) (And.intro (And.intro (@Ad1) (@AIb)) (And.intro (@ACP) (And.intro (@AHm) (@AT8))))) (And.intro (And.intro (And.intro (@AXK) (@Zy)) (And.intro (@Xp) (And.intro (@AHy) (@Wu)))) (And.intro (And.intro (@AI9) (@YG)) (And.intro (@ADi) (And.intro (@YV) (@ADc)))))) (And.intro (And.intro (And.intro (And.intro (@ABV) (@ZP)) (And.intro (@ABT) (And.intro (@AGA) (@AdI)))) (And.intro (And.intro (@AbM) (@AFd)) (And.intro (@AK3) (And.intro (@AMK) (@AJE))))) (And.intro (And.intro (And.intro (@AA6) (@ASN)) (And.intro (@AWO) (And.intro (@AR8) (@AQD)))) (And.intro (And.intro (@AIM) (And.intro (@AOJ) (@AEc))) (And.intro (@AKn) (And.intro (@AD0) (@AKa))))))) (And.intro (And.intro (And.intro (And.intro (And.intro (@AHk) (@ALX)) (And.intro (@AAd) (And.intro (@AUT) (@AT0)))) (And.intro (And.intro (@ADu) (@YJ)) (And.intro (@AI3) (And.intro (@YB) (@ACV))))) (And.intro (And.intro (And.intro (@Xf) (@AFm)) (And.intro (@AF7) (And.intro (@AMr) (@AF6)))) (And.intro (And.intro (@AD8) (@AI1)) (And.intro (@AH3) (And.intro (@AEs) (@AdV)))))) (And.intro (And.intro (And.intro (And.intro (@Ac9) (@AWq)) (And.intro (@AX8) (And.intro (@AB7) (@AGn)))) (And.intro (And.intro (@AYh) (@AUe)) (And.intro (@AGG) (And.intro (@XO) (@AHK))))) (And.intro (And.intro (And.intro (@X3) (@AJc)) (And.intro (@Wy) (And.intro (@ARQ) (@AV4)))) (And.intro (And.intro (@ARO) (And.intro (@AQ8) (@ACC))) (And.intro (@AAy) (And.intro (@ACB) (@AYm))))))))) (And.intro (And.intro (And.intro (And.intro (And.intro (And.intro (And.intro (@AUr) (@AGQ)) (And.intro (@Xx) (And.intro (@AJ6) (@AFr)))) (And.intro (And.intro (@ACo) (@AKv)) (And.intro (@AJF) (And.intro (@Zw) (@AIq))))) (And.intro (And.intro (And.intro (@AG4) (@Zj)) (And.intro (@AFX) (And.intro (@Ah3) (@AXg)))) (And.intro (And.intro (@AOK) (@AOW)) (And.intro (@AWr) (And.intro (@AUm) (@AJ7)))))) (And.intro (And.intro (And.intro (And.intro (@X4) (@AFl)) (And.intro (@Xu) (And.intro (@AWo) (@AGl)))) (And.intro (And.intro (@AD9) (@Acs)) (And.intro (@AbE) (And.intro (@ARv) (@AIX))))) (And.intro (And.intro (And.intro (@AYs) (@AGF)) (And.intro (@AEO) (And.intro (@AbI) (@AHA)))) (And.intro (And.intro (@AH0) (And.intro (@ADS) (@Zt))) (And.intro (@AD6) (And.intro (@Aik) (@ALY))))))) (And.intro (And.intro (And.intro (And.intro (And.intro (@Aid) (@AB9)) (And.intro (@ADB) (And.intro (@Aku) (@AOk)))) (And.intro (And.intro (@AJt) (@AFf)) (And.intro (@AHe) (And.intro (@AG3) (@AGE))))) (And.intro (And.intro (And.intro (@AFy) (@APj)) (And.intro (@AW4) (And.intro (@AH9) (@ABD)))) (And.intro (And.intro (@AGr) (@ACq)) (And.intro (@AG2) (And.intro (@AC1) (@AFH)))))) (And.intro (And.intro (And.intro (And.intro (@AFu) (@AFk)) (And.intro (@AHi) (And.intro (@AIZ) (@AOF)))) (And.intro (And.intro (@Zv) (@ALe)) (And.intro (@AAv) (And.intro (@ALd) (@AIE))))) (And.intro (And.intro (And.intro (@AM6) (@AD7)) (And.intro (@AGU) (And.intro (@AAR) (@AMP)))) (And.intro (And.intro (@AF1) (And.intro (@ALU) (@AMA))) (And.intro (@AFN) (And.intro (@AHS) (@ABu)))))))) (And.intro (And.intro (And.intro (And.intro (And.intro (And.intro (@AI6) (@ZV)) (And.intro (@AFU) (And.intro (@APH) (@AQq)))) (And.intro (And.intro (@AXz) (@AIB)) (And.intro (@AQr) (And.intro (@AQV) (@APL))))) (And.intro (And.intro (And.intro (@AYg) (@APV)) (And.intro (@AED) (And.intro (@AIH) (@AHJ)))) (And.intro (And.intro (@ABs) (@AFY)) (And.intro (@AP4) (And.intro (@AQv) (@AW5)))))) (And.intro (And.intro (And.intro (And.intro (@ACc) (@ARf)) (And.intro (@AQ2) (And.intro (@ASs) (@AU3)))) (And.intro (And.intro (@ASU) (@AG5)) (And.intro (@AHG) (And.intro (@AAC) (@AUW))))) (And.intro (And.intro (And.intro (@AYz) (@AYM)) (And.intro (@ACE) (And.intro (@Wq) (@ADM)))) (And.intro (And.intro (@XI) (And.intro (@AAe) (@XM))) (And.intro (@AbA) (And.intro (@AAn) (@ALj))))))) (And.intro (And.intro (And.intro (And.intro (And.intro (@AGX) (@AWL)) (And.intro (@ASO) (And.intro (@ASt) (@AWN)))) (And.intro (And.intro (@ASH) (@AFj)) (And.intro (@AHM) (And.intro (@AD1) (@AkN))))) (And.intro (And.intro (And.intro (@Aa9) (@Adu)) (And.intro (@Ze) (And.intro (@Zx) (@ZC)))) (And.intro (And.intro (@AAK) (@Vt)) (And.intro (@AGw) (And.intro (@ACO) (@AFQ)))))) (And.intro (And.intro (And.intro (And.intro (@YW) (@AHY)) (And.intro (@Zb) (And.intro (@ACv) (@APr)))) (And.intro (And.intro (@ASn) (@ARb)) (And.intro (@AT4) (And.intro (@AP1) (@ABm))))) (And.intro (And.intro (And.intro (@AGy) (@Zh)) (And.intro (@AUt) (And.intro (@AG6) (@Zi)))) (And.intro (And.intro (@AXM) (And.intro (@AEJ) (@AIj))) (And.intro (@AHh) (And.intro (@ASV) (@AYw))))))))))) (And.intro (And.intro (And.intro (And.intro (And.intro (And.intro (And.intro (And.intro (And.intro (@ARP) (@AQX)) (And.intro (@Aaw) (And.intro (@ZB) (@Aac)))) (And.intro (And.intro (@AQo) (@AQl)) (And.intro (@ZW) (And.intro (@AJM) (@AKA))))) (And.intro (And.intro (And.intro (@APp) (@AP0)) (And.intro (@AFO) (And.intro (@AJ1) (@ADG)))) (And.intro (And.intro (@ALs) (@AFC)) (And.intro (@AGZ) (And.intro (@AUC) (@AUc)))))) (And.intro (And.intro (And.intro (And.intro (@AEX) (@AIU)) (And.intro (@AJC) (And.intro (@ACw) (@AEo)))) (And.intro (And.intro (@AcL) (@AEr)) (And.intro (@Aex) (And.intro (@AAW) (@AdF))))) (And.intro (And.intro (And.intro (@AIr) (@AJA)) (And.intro (@AIz) (And.intro (@AIT) (@AAZ)))) (And.intro (And.intro (@AF0) (@AWR)) (And.intro (@AcU) (And.intro (@AJL) (@ABL))))))) (And.intro (And.intro (And.intro (And.intro (And.intro (@ZQ) (@ABE)) (And.intro (@ABg) (And.intro (@AJH) (@AKD)))) (And.intro (And.intro (@AEy) (@ACx)) (And.intro (@AUP) (And.intro (@Zq) (@AAM))))) (And.intro (And.intro (And.intro (@AI0) (@AAY)) (And.intro (@ADO) (And.intro (@AGd) (@AQg)))) (And.intro (And.intro (@AmI) (@AFZ)) (And.intro (@AJ2) (And.intro (@AOL) (@Aib)))))) (And.intro (And.intro (And.intro (And.intro (@AE0) (@AB5)) (And.intro (@ADq) (And.intro (@AIs) (@ACn)))) (And.intro (And.intro (@AHu) (@AJS)) (And.intro (@ACJ) (And.intro (@AAO) (@AAc))))) (And.intro (And.intro (And.intro (@AKC) (@ACk)) (And.intro (@AA3) (And.intro (@APc) (@APv)))) (And.intro (And.intro (@AUg) (And.intro (@AWk) (@AJf))) (And.intro (@YC) (And.intro (@AAb) (@AIx)))))))) (And.intro (And.intro (And.intro (And.intro (And.intro (And.intro (@AJr) (@Z4)) (And.intro (@AF5) (And.intro (@AJQ) (@AEg)))) (And.intro (And.intro (@ACf) (@AJj)) (And.intro (@AGY) (And.intro (@ACG) (@ACZ))))) (And.intro (And.intro (And.intro (@AES) (@AGg)) (And.intro (@ADP) (And.intro (@AEl) (@AHl)))) (And.intro (And.intro (@AEv) (@AMU)) (And.intro (@AIe) (And.intro (@AFR) (@AFg)))))) (And.intro (And.intro (And.intro (And.intro (@AGT) (@ADh)) (And.intro (@AGI) (And.intro (@ADT) (@AEb)))) (And.intro (And.intro (@AGv) (@AKB)) (And.intro (@ADx) (And.intro (@AP5) (@AYW))))) (And.intro (And.intro (And.intro (@AQw) (@ASw)) (And.intro (@AG8) (And.intro (@AHT) (@ABo)))) (And.intro (And.intro (@AQR) (And.intro (@AEA) (@AGb))) (And.intro (@AFz) (And.intro (@AIK) (@AJG))))))) (And.intro (And.intro (And.intro (And.intro (And.intro (@ADV) (@AEd)) (And.intro (@AAg) (And.intro (@AVG) (@AV3)))) (And.intro (And.intro (@ABX) (@Xh)) (And.intro (@ABx) (And.intro (@AfN) (@AFL))))) (And.intro (And.intro (And.intro (@AHp) (@AHR)) (And.intro (@AIt) (And.intro (@ABJ) (@AC9)))) (And.intro (And.intro (@AAt) (@AUI)) (And.intro (@AUK) (And.intro (@AI2) (@AGi)))))) (And.intro (And.intro (And.intro (And.intro (@AIP) (@ZF)) (And.intro (@ADv) (And.intro (@ACz) (@AH2)))) (And.intro (And.intro (@ZN) (@AAk)) (And.intro (@AUk) (And.intro (@ATz) (@ZG))))) (And.intro (And.intro (And.intro (@XN) (@AEQ)) (And.intro (@AGH) (And.intro (@ABU) (@AJV)))) (And.intro (And.intro (@AHb) (And.intro (@ARp) (@AWS))) (And.intro (@AHZ) (And.intro (@AQ5) (@ARl))))))))) (And.intro (And.intro (And.intro (And.intro (And.intro (And.intro (And.intro (@AJ9) (@AJN)) (And.intro (@ABh) (And.intro (@ABw) (@AEC)))) (And.intro (And.intro (@ADC) (@AGx)) (And.intro (@AEh) (And.intro (@AUD) (@AAD))))) (And.intro (And.intro (And.intro (@AhZ) (@ADg)) (And.intro (@AFq) (And.intro (@AHq) (@AAS)))) (And.intro (And.intro (@AI4) (@AFo)) (And.intro (@ABB) (And.intro (@AEn) (@AB2)))))) (And.intro (And.intro (And.intro (And.intro (@AE7) (@AHH)) (And.intro (@AIY) (And.intro (@AHv) (@AIc)))) (And.intro (And.intro (@ABq) (@AHx)) (And.intro (@AJP) (And.intro (@AHI) (@AEa))))) (And.intro (And.intro (And.intro (@AGB) (@AHd)) (And.intro (@ADU) (And.intro (@AEZ) (@AFh)))) (And.intro (And.intro (@ADz) (And.intro (@AIy) (@AGj))) (And.intro (@AFx) (And.intro (@AB0) (@AJX))))))) (And.intro (And.intro (And.intro (And.intro (And.intro (@AE6) (@AEG)) (And.intro (@AVE) (And.intro (@AD4) (@AH7)))) (And.intro (And.intro (@ZE) (@AX5)) (And.intro (@ABi) (And.intro (@ACg) (@AJd))))) (And.intro (And.intro (And.intro (@ZI) (@AQA)) (And.intro (@AB4) (And.intro (@AQO) (@AVK)))) (And.intro (And.intro (@ASJ) (@AQM)) (And.intro (@AGP) (And.intro (@AGC) (@AGm)))))) (And.intro (And.intro (And.intro (And.intro (@ADj) (@APx)) (And.intro (@ADA) (And.intro (@AHg) (@AG7)))) (And.intro (And.intro (@AFt) (@AIO)) (And.intro (@AAh) (And.intro (@AJZ) (@AHX))))) (And.intro (And.intro (And.intro (@AU8) (@AXJ)) (And.intro (@ACM) (And.intro (@YQ) (@ADJ)))) (And.intro (And.intro (@AE8) (And.intro (@AIL) (@AJI))) (And.intro (@Zk) (And.intro (@AHt) (@AF2)))))))) (And.intro (And.intro (And.intro (And.intro (And.intro (And.intro (@Zc) (@ADn)) (And.intro (@AEF) (And.intro (@AJh) (@ABW)))) (And.intro (And.intro (@ABP) (@ACX)) (And.intro (@AJp) (And.intro (@AEW) (@ASS))))) (And.intro (And.intro (And.intro (@AU6) (@Zr)) (And.intro (@APW) (And.intro (@ASa) (@Zg)))) (And.intro (And.intro (@AAF) (@AIm)) (And.intro (@AGN) (And.intro (@AVo) (@AX2)))))) (And.intro (And.intro (And.intro (And.intro (@AEB) (@AIN)) (And.intro (@AGf) (And.intro (@Zz) (@ASB)))) (And.intro (And.intro (@AWs) (@APT)) (And.intro (@APf) (And.intro (@ACp) (@AIa))))) (And.intro (And.intro (And.intro (@AQy) (@AF8)) (And.intro (@AJO) (And.intro (@AAP) (@AJJ)))) (And.intro (And.intro (@AXQ) (And.intro (@AVP) (@AEj))) (And.intro (@Wp) (And.intro (@AG9) (@YN))))))) (And.intro (And.intro (And.intro (And.intro (And.intro (@ACQ) (@Ade)) (And.intro (@ACd) (And.intro (@Z5) (@X7)))) (And.intro (And.intro (@AGM) (@X5)) (And.intro (@ACb) (And.intro (@ADf) (@AF9))))) (And.intro (And.intro (And.intro (@AAV) (@ABv)) (And.intro (@AR3) (And.intro (@AQW) (@AYn)))) (And.intro (And.intro (@AHE) (@AJ8)) (And.intro (@AIQ) (And.intro (@AP3) (@Adz)))))) (And.intro (And.intro (And.intro (And.intro (@AH6) (@ACu)) (And.intro (@AJT) (And.intro (@AY2) (@AWx)))) (And.intro (And.intro (@AJY) (@Wz)) (And.intro (@ACe) (And.intro (@AJo) (@AHO))))) (And.intro (And.intro (And.intro (@AIF) (@AC6)) (And.intro (@AIf) (And.intro (@ABa) (@AFi)))) (And.intro (And.intro (@AHo) (And.intro (@AX6) (@AVe))) (And.intro (@AE2) (And.intro (@AID) (@AIh)))))))))) (And.intro (And.intro (And.intro (And.intro (And.intro (And.intro (And.intro (And.intro (@YF) (@AFD)) (And.intro (@AI5) (And.intro (@AFb) (@ADw)))) (And.intro (And.intro (@AFp) (@Y6)) (And.intro (@AEU) (And.intro (@AAp) (@AI8))))) (And.intro (And.intro (And.intro (@AGJ) (@AIS)) (And.intro (@AHc) (And.intro (@ACs) (@AFI)))) (And.intro (And.intro (@AHf) (@ASP)) (And.intro (@AE1) (And.intro (@APs) (@APt)))))) (And.intro (And.intro (And.intro (And.intro (@AXE) (@Aa7)) (And.intro (@Zo) (And.intro (@AeR) (@ABQ)))) (And.intro (And.intro (@Agc) (@AcQ)) (And.intro (@AE9) (And.intro (@ADN) (@AEL))))) (And.intro (And.intro (And.intro (@ABb) (@Z8)) (And.intro (@AXS) (And.intro (@AdK) (@AQC)))) (And.intro (And.intro (@AHL) (@ACW)) (And.intro (@AI7) (And.intro (@AE5) (@ASx))))))) (And.intro (And.intro (And.intro (And.intro (And.intro (@APm) (@AVI)) (And.intro (@AWD) (And.intro (@AR0) (@ARx)))) (And.intro (And.intro (@R3) (@Sn)) (And.intro (@AGu) (And.intro (@ARq) (@ARB))))) (And.intro (And.intro (And.intro (@SY) (@Sa)) (And.intro (@Ahf) (And.intro (@AY4) (@Abf)))) (And.intro (And.intro (@AFn) (@ACY)) (And.intro (@Zn) (And.intro (@AQd) (@AV8)))))) (And.intro (And.intro (And.intro (And.intro (@AEu) (@AG1)) (And.intro (@AId) (And.intro (@Abe) (@AVw)))) (And.intro (And.intro (@AJw) (@AYR)) (And.intro (@AYu) (And.intro (@AUs) (@AVc))))) (And.intro (And.intro (And.intro (@Zp) (@YI)) (And.intro (@AGS) (And.intro (@Xm) (@ZY)))) (And.intro (And.intro (@AJB) (And.intro (@AH8) (@AGp))) (And.intro (@Zd) (And.intro (@Wx) (@AJ4)))))))) (And.intro (And.intro (And.intro (And.intro (And.intro (And.intro (@Xz) (@AGe)) (And.intro (@Xt) (And.intro (@AIC) (@ACR)))) (And.intro (And.intro (@ADr) (@AFS)) (And.intro (@AHj) (And.intro (@AEq) (@ACa))))) (And.intro (And.intro (And.intro (@Z0) (@AU9)) (And.intro (@AYL) (And.intro (@AYt) (@ZH)))) (And.intro (And.intro (@Xn) (@Ae5)) (And.intro (@Z6) (And.intro (@AbW) (@ACl)))))) (And.intro (And.intro (And.intro (And.intro (@AC2) (@AC5)) (And.intro (@ACj) (And.intro (@AFT) (@Za)))) (And.intro (And.intro (@ABr) (@AEN)) (And.intro (@AEI) (And.intro (@ABj) (@AEE))))) (And.intro (And.intro (And.intro (@AY0) (@AEx)) (And.intro (@AGD) (And.intro (@AAx) (@ADp)))) (And.intro (And.intro (@AUj) (And.intro (@AVj) (@AAQ))) (And.intro (@AG0) (And.intro (@AEY) (@AIi))))))) (And.intro (And.intro (And.intro (And.intro (And.intro (@ZJ) (@AHB)) (And.intro (@AAU) (And.intro (@ABZ) (@ABM)))) (And.intro (And.intro (@Abu) (@Aba)) (And.intro (@AMj) (And.intro (@AFc) (@AMm))))) (And.intro (And.intro (And.intro (@AAi) (@ALn)) (And.intro (@ADo) (And.intro (@ZM) (@AA5)))) (And.intro (And.intro (@ABA) (@AGa)) (And.intro (@ZK) (And.intro (@AGz) (@AAA)))))) (And.intro (And.intro (And.intro (And.intro (@ZZ) (@Wn)) (And.intro (@ACI) (And.intro (@XU) (@AIG)))) (And.intro (And.intro (@AFP) (@AF4)) (And.intro (@AJb) (And.intro (@ADs) (@AHN))))) (And.intro (And.intro (And.intro (@ACN) (@Y8)) (And.intro (@ACT) (And.intro (@ADY) (@X8)))) (And.intro (And.intro (@AJg) (And.intro (@ABz) (@ARJ))) (And.intro (@AJz) (And.intro (@AB3) (@AAB))))))))) (And.intro (And.intro (And.intro (And.intro (And.intro (And.intro (And.intro (@AGK) (@ACK)) (And.intro (@AGt) (And.intro (@AA0) (@AQT)))) (And.intro (And.intro (@ASv) (@ARF)) (And.intro (@ADQ) (And.intro (@AYY) (@AIk))))) (And.intro (And.intro (And.intro (@ARd) (@ARg)) (And.intro (@AST) (And.intro (@AJk) (@AAa)))) (And.intro (And.intro (@AEk) (@AIn)) (And.intro (@AFV) (And.intro (@AC3) (@AAG)))))) (And.intro (And.intro (And.intro (And.intro (@Rj) (@APh)) (And.intro (@AUh) (And.intro (@Cu) (@AEz)))) (And.intro (And.intro (@AHU) (@AGs)) (And.intro (@AIo) (And.intro (@RS) (@ABt))))) (And.intro (And.intro (And.intro (@ABc) (@API)) (And.intro (@APq) (And.intro (@AWP) (@AFs)))) (And.intro (And.intro (@AEm) (And.intro (@ABK) (@AFK))) (And.intro (@AAH) (And.intro (@ADL) (@AGk))))))) (And.intro (And.intro (And.intro (And.intro (And.intro (@ADR) (@AIp)) (And.intro (@AAX) (And.intro (@ACU) (@ADE)))) (And.intro (And.intro (@AEw) (@AFa)) (And.intro (@XX) (And.intro (@AAJ) (@AAq))))) (And.intro (And.intro (And.intro (@ADW) (@AIu)) (And.intro (@AFW) (And.intro (@ABO) (@AXX)))) (And.intro (And.intro (@AUq) (@AHr)) (And.intro (@Wv) (And.intro (@ABf) (@Xc)))))) (And.intro (And.intro (And.intro (And.intro (@Vp) (@AEP)) (And.intro (@Vu) (And.intro (@AWz) (@ZL)))) (And.intro (And.intro (@AHC) (@ADb)) (And.intro (@Aa2) (And.intro (@AR2) (@AXd))))) (And.intro (And.intro (And.intro (@AWb) (@AYE)) (And.intro (@AAf) (And.intro (@Xb) (@AEK)))) (And.intro (And.intro (@Xw) (And.intro (@AH1) (@AeG))) (And.intro (@APR) (And.intro (@AAj) (@AP8)))))))) (And.intro (And.intro (And.intro (And.intro (And.intro (And.intro (@ARi) (@AQb)) (And.intro (@AVH) (And.intro (@AP6) (@AJn)))) (And.intro (And.intro (@AAo) (@AE3)) (And.intro (@AJa) (And.intro (@AHw) (@ARh))))) (And.intro (And.intro (And.intro (@ARu) (@ARs)) (And.intro (@ARV) (And.intro (@AWF) (@ARD)))) (And.intro (And.intro (@Y9) (@ACF)) (And.intro (@AIw) (And.intro (@AEH) (@ACh)))))) (And.intro (And.intro (And.intro (And.intro (@ABF) (@AHW)) (And.intro (@ZR) (And.intro (@ADI) (@AAN)))) (And.intro (And.intro (@AHQ) (@ADK)) (And.intro (@ABk) (And.intro (@AQU) (@APd))))) (And.intro (And.intro (And.intro (@AYp) (@APw)) (And.intro (@ASW) (And.intro (@AVW) (@AFG)))) (And.intro (And.intro (@AD5) (And.intro (@AJK) (@AJv))) (And.intro (@ACm) (And.intro (@ACD) (@ZO))))))) (And.intro (And.intro (And.intro (And.intro (And.intro (@AVk) (@AYB)) (And.intro (@Zf) (And.intro (@Xj) (@AHz)))) (And.intro (And.intro (@XL) (@AWQ)) (And.intro (@AYF) (And.intro (@AC4) (@YK))))) (And.intro (And.intro (And.intro (@ADl) (@XK)) (And.intro (@ADH) (And.intro (@Xy) (@Zu)))) (And.intro (And.intro (@XR) (@ADe)) (And.intro (@YT) (And.intro (@AWT) (@AUR)))))) (And.intro (And.intro (And.intro (And.intro (@AW7) (@AHV)) (And.intro (@X6) (And.intro (@AGh) (@Ws)))) (And.intro (And.intro (@ABH) (@YD)) (And.intro (@AVY) (And.intro (@AY1) (@ABy))))) (And.intro (And.intro (And.intro (@Xi) (@AA9)) (And.intro (@XF) (And.intro (@AC7) (@Xa)))) (And.intro (And.intro (@AD3) (And.intro (@XQ) (@Amx))) (And.intro (@Am0) (And.intro (@AnV) (@Ani)))))))))))
def vm:=And.intro vmC (And.intro fxE eE)
end Go.Proofs.YtfknikagmmfakaaGreatDoor
