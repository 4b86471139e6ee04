import Derived.Test.YtfknikagmmfakaaGreatDoorTy
import Derived.Lib.Index
set_option linter.unusedVariables false
namespace Go.VM
def C8 (N:Nat) (a0:Int):Option (Bool):=
 AA (d:=.a (2,17) [(5,5)] [4] (fun j1:Bool=>[.bool j1])) (fun j1:Bool=>
  if j1=true then
   some (true)
  else
   some (false)) fun k2=>
 if(a0==301)=true then
  k2 (a0==301)
 else
  if(a0==302)=true then
   k2 (a0==302)
  else
   if(a0==303)=true then
    k2 (a0==303)
   else
    if(a0==307)=true then
     k2 (a0==307)
    else
     k2 (a0==308)
def JF (N:Nat) (a0:ApiExchange):Option (Bool):=
 Option.bind (C8 N a0.status) fun y1=>
 some ((!y1))
def Av (N:Nat) (a0:(List ApiExchange)):Option (List ApiExchange):=
 grd (Ah (([]:List ApiExchange).length+a0.length) 96) (
 some a0)
def AO (N:Nat) (k2:(Unit→Option (Int))):List ApiExchange→Int→Option (Int)
  |[],s8_0=>
  k2 ()
  |xk5::xs,s8_0=>
  Option.bind (JF N xk5) fun y6=>
  if y6=true then
   some (s8_0)
  else
   AO N k2 xs (s8_0+1)
def Ac (N:Nat) (a0:(List ApiExchange)):Option (Int):=
 AA (d:=.a (1,22) [(4,15)] [] (fun j1:Unit=>[])) (fun j1:Unit=>
  some ((-1))) fun k2=>
 grd (AU (a0.length)) (
  AO N k2 a0 0)
def DC (N:Nat) (k2:((List (List ApiExchange))→Option ((List (List ApiExchange))))):Nat→(List ApiExchange)→(List (List ApiExchange))→Option ((List (List ApiExchange)))
  |0,_,_=>none
  |k+1,s0,s3=>
  if(decide ((s0.length:Int)>0))=true then
   Option.bind (Ac N s0) fun y6=>
   AA (d:=.a (4,5) [(11,4)] [4] (fun j8:Int=>[.int .i64 j8])) (fun j8:Int=>
    Option.bind (sub s0 0 j8) fun x12=>
    Option.bind (Av N x12) fun y13=>
    grd (Ah (s3.length+1) 24) (
    Option.bind (sub s0 j8 (s0.length:Int)) fun x15=>
    DC N k2 k x15 (s3++[y13]))) fun k9=>
   if((wr .i64 (y6+1))==0)=true then
    k9 (s0.length:Int)
   else
    k9 (wr .i64 (y6+1))
  else
   k2 s3
def Ew (N:Nat) (a0:(List ApiExchange)):Option ((List (List ApiExchange))):=
 AA (d:=.a (0,18) [(0,1),(4,21)] [3] (fun j1:(List (List ApiExchange))=>[.slice 1 (List.map (fun l=>AVal.slice 9 (List.map AL l) false) j1) true])) (fun j1:(List (List ApiExchange))=>
  some (j1)) fun k2=>
 DC N k2 N a0 []
def SV (N:Nat) (a0:(List Int)):Option (MadeDice):=
 Option.bind (sub a0 0 (if 200<(a0.length:Int)then 200 else(a0.length:Int))) fun x1=>
 some ((MadeDice.mk x1))
def KA (N:Nat) (a0:Int) (k2:(Unit→Option (Bool))):List UInt8→Option (Bool)
  |[]=>
  k2 ()
  |xk5::xs=>
  if((AX xk5)==a0)=true then
   some (true)
  else
   KA N a0 k2 xs
def Jc (N:Nat) (a0:Int) (a1:(List UInt8)):Option (Bool):=
 AA (d:=.a (1,20) [(4,13)] [] (fun j1:Unit=>[])) (fun j1:Unit=>
  some (false)) fun k2=>
 grd (AU (a1.length)) (
  KA N a0 k2 a1)
def Gs (N:Nat) (a1:(List UInt8)) (k2:(Unit→Option (Int))):List UInt8→Int→Option (Int)
  |[],s5=>
  k2 ()
  |xk5::xs,s5=>
  Option.bind (Jc N (AX xk5) a1) fun y6=>
  if y6=true then
   some (s5)
  else
   Gs N a1 k2 xs (s5+1)
def Du (N:Nat) (a0:(List UInt8)) (a1:(List UInt8)):Option (Int):=
 AA (d:=.a (1,20) [(4,14)] [] (fun j1:Unit=>[])) (fun j1:Unit=>
  some ((a0.length:Int))) fun k2=>
 grd (AU (a0.length)) (
  Gs N a1 k2 a0 0)
def Gg (N:Nat) (a0:(List UInt8)) (k2:((List Int)→Option ((List UInt8)))):List UInt8→Int→(List Int)→Option ((List UInt8))
  |[],s9,bn=>
  k2 bn
  |xk5::xs,s9,bn=>
  AA (d:=.b (1,8) [(4,1),(11,19)] [] (fun j6:(List Int)=>[]) fun j6=>[.s (List.map (AVal.int .u8) j6)]) (fun j6:(List Int)=>
   Gg N a0 k2 xs (s9+1) j6) fun k7=>
  AA (d:=.a (5,1) [(12,11)] [23] (fun j10:Bool=>[.bool j10])) (fun j10:Bool=>
   if j10=true then
    grd (0≤s9∧s9<(a0.length:Int)) (
    Option.bind (idx bn s9) fun x15=>
    grd (s9.toNat+1≤bn.length) (
    k7 (bn.set s9.toNat (wr .u8 (x15+32)))))
   else
    k7 bn) fun k11=>
  grd (0≤s9∧s9<(a0.length:Int)) (
  Option.bind (idx bn s9) fun x14=>
  if(decide (x14≥65))=true then
   k11 (decide (x14≤90))
  else
   k11 false)
def Dv (N:Nat) (a0:(List UInt8)):Option ((List UInt8)):=
 AA (d:=.b (2,20) [(4,1),(7,24)] [] (fun j1:(List Int)=>[]) fun j1=>[.s (List.map (AVal.int .u8) j1)]) (fun j1:(List Int)=>
  grd (a0.length≤j1.length∧AU a0.length) (
  some ((List.map Ij (List.take a0.length j1))))) fun k2=>
 grd (AU (a0.length)) (
  Gg N a0 k2 a0 0 (List.map AX a0))
def Jy (N:Nat) (a0:(List UInt8)) (a1:(List UInt8)):Option (Bool):=
 Option.bind (Dv N a0) fun y1=>
 Option.bind (Dv N a1) fun y3=>
 some ((y1==y3))
def Fz (N:Nat) (a0:Int):Option (Bool):=
 if(decide (a0≥65))=true then
  if(decide (a0≤90))=true then
   some (true)
  else
   if(decide (a0≥97))=true then
    some ((decide (a0≤122)))
   else
    some (false)
 else
  if(decide (a0≥97))=true then
   some ((decide (a0≤122)))
  else
   some (false)
def Di (N:Nat) (a0:Int):Option (Bool):=
 if(decide (a0≥48))=true then
  some ((decide (a0≤57)))
 else
  some (false)
def Er (N:Nat) (a0:Int):Option (Bool):=
 Option.bind (Fz N a0) fun y1=>
 if y1=true then
  some (true)
 else
  Option.bind (Di N a0) fun y3=>
  if y3=true then
   some (true)
  else
   Option.bind (Jc N a0 ([45,46,95,126]:List UInt8)) fun y5=>
   some (y5)
def Iy (N:Nat) (a0:Int):Option (Bool):=
 Option.bind (Di N a0) fun y1=>
 if y1=true then
  some (true)
 else
  if(decide (a0≥65))=true then
   if(decide (a0≤70))=true then
    some (true)
   else
    if(decide (a0≥97))=true then
     some ((decide (a0≤102)))
    else
     some (false)
  else
   if(decide (a0≥97))=true then
    some ((decide (a0≤102)))
   else
    some (false)
def M5 (N:Nat) (a0:Int):Option (Int):=
 if(decide (a0≤57))=true then
  some ((wr .u8 (a0-48)))
 else
  if(decide (a0≤70))=true then
   some ((wr .u8 ((wr .u8 (a0-65))+10)))
  else
   some ((wr .u8 ((wr .u8 (a0-97))+10)))
def N8 (N:Nat) (a0:(List UInt8)) (a1:Int):Option (Int×Bool):=
 AA (d:=.a (1,1) [(6,26)] [32] (fun j1:Bool=>[.bool j1])) (fun j1:Bool=>
  if j1=true then
   some (0,false)
  else
   Option.bind (idx a0 (wr .i64 (a1+1))) fun x12=>
   Option.bind (M5 N (AX x12)) fun y13=>
   Option.bind (idx a0 (wr .i64 (a1+2))) fun x15=>
   Option.bind (M5 N (AX x15)) fun y16=>
   some ((wr .u8 ((wr .u8 (16 * y13))+y16)),true)) fun k2=>
 if(decide ((wr .i64 (a1+2))≥(a0.length:Int)))=true then
  k2 true
 else
  Option.bind (idx a0 a1) fun x5=>
  if((AX x5) !=37)=true then
   k2 true
  else
   Option.bind (idx a0 (wr .i64 (a1+1))) fun x6=>
   Option.bind (Iy N (AX x6)) fun y7=>
   if y7=true then
    Option.bind (idx a0 (wr .i64 (a1+2))) fun x9=>
    Option.bind (Iy N (AX x9)) fun y10=>
    k2 (!y10)
   else
    k2 true
def Ls (N:Nat) (a0:Int):Option ((List UInt8)):=
 Option.bind (idx ([48,49,50,51,52,53,54,55,56,57,65,66,67,68,69,70]:List UInt8) (wr .u8 (a0.tdiv 16))) fun x1=>
 Option.bind (idx ([48,49,50,51,52,53,54,55,56,57,65,66,67,68,69,70]:List UInt8) (a0.tmod 16)) fun x2=>
 letL ([37,(AX x1),(AX x2)]:(List Int)) fun l3=>
 some ((List.map Ij l3))
def EB (N:Nat) (a0:(List UInt8)) (a1:(List UInt8)) (k2:((List Int)→Option ((List UInt8)×Int))):Nat→(List Int)→Int→Option ((List UInt8)×Int)
  |0,_,_=>none
  |k+1,s6,s7=>
  if (decide (s7<(a0.length:Int)))=true then
   AA (d:=.a (1,34) [(4,2),(8,2),(19,43)] [6,7] (fun j6:(List Int)×Int=>[.slice 1 (List.map (AVal.int .u8) j6.1) true,.int .i64 j6.2])) (fun j6:(List Int)×Int=>
    EB N a0 a1 k2 k j6.1 (wr .i64 (j6.2+1))) fun k7=>
   Option.bind (idx a0 s7) fun x10=>
   if((AX x10) !=37)=true then
    AA (d:=.a (8,1) [(23,12)] [35] (fun j11:Bool=>[.bool j11])) (fun j11:Bool=>
     if j11=true then
      some ([],1)
     else
      grd (Ah (s6.length+1) 1) (
      k7 ((s6++[(AX x10)]),s7))) fun k12=>
    Option.bind (Er N (AX x10)) fun y15=>
    if y15=true then
     k12 false
    else
     Option.bind (Jc N (AX x10) a1) fun y17=>
     k12 (!y17)
   else
    Option.bind (N8 N a0 s7) fun y19=>
    if y19.2=true then
     AA (d:=.a (14,5) [(50,10)] [6] (fun j21:(List Int)=>[.slice 1 (List.map (AVal.int .u8) j21) true])) (fun j21:(List Int)=>
      k7 (j21,(wr .i64 (s7+2)))) fun k22=>
     Option.bind (Er N y19.1) fun y25=>
     if y25=true then
      grd (Ah (s6.length+1) 1) (
      k22 (s6++[y19.1]))
     else
      Option.bind (Ls N y19.1) fun y27=>
      grd (Ah (s6.length+y27.length) 1) (
      k22 (s6++(List.map AX y27)))
    else
     some ([],2)
  else
   k2 s6
def FB (N:Nat) (a0:(List UInt8)) (a1:(List UInt8)):Option ((List UInt8)×Int):=
 if(decide ((a0.length:Int)>16384))=true then
  some ([],5)
 else
  AA (d:=.a (4,46) [(4,2),(7,3),(13,49)] [6] (fun j1:(List Int)=>[.slice 1 (List.map (AVal.int .u8) j1) true])) (fun j1:(List Int)=>
   some ((List.map Ij j1),0)) fun k2=>
  EB N a0 a1 k2 N [] 0
def Gb (N:Nat) (a0:(List UInt8)) (a1:Int) (k2:((List (List UInt8))×Int→Option ((List (List UInt8))))):List UInt8→Int→(List (List UInt8))→Int→Option ((List (List UInt8)))
  |[],s7,s5,s6=>
  k2 (s5,s6)
  |xk5::xs,s7,s5,s6=>
  AA (d:=.a (1,6) [(14,14)] [5,6] (fun j6:(List (List UInt8))×Int=>[.vec 1 (List.map AVal.str j6.1),.int .i64 j6.2])) (fun j6:(List (List UInt8))×Int=>
   Gb N a0 a1 k2 xs (s7+1) j6.1 j6.2) fun k7=>
  if((AX xk5)==a1)=true then
   Option.bind (sub a0 s6 s7) fun x10=>
   grd (Ah (s5.length+1) 16) (
   k7 ((s5++[x10]),(s7+1)))
  else
   k7 (s5,s6)
def LX (N:Nat) (a0:(List UInt8)) (a1:Int):Option ((List (List UInt8))):=
 AA (d:=.a (3,18) [(7,21)] [5,6] (fun j1:(List (List UInt8))×Int=>[.vec 1 (List.map AVal.str j1.1),.int .i64 j1.2])) (fun j1:(List (List UInt8))×Int=>
  Option.bind (sub a0 j1.2 (a0.length:Int)) fun x11=>
  grd (Ah (j1.1.length+1) 16) (
  some ((j1.1++[x11])))) fun k2=>
 grd (AU (a0.length)) (
  Gb N a0 a1 k2 a0 0 ([]:List (List UInt8)) 0)
def GQ (N:Nat) (a1:Int) (a2:Int) (k17:(Int→Option (Int×Int))):List UInt8→Int→Option (Int×Int)
  |[],s9=>
  k17 s9
  |xk20::xs,s9=>
  AA (d:=.a (13,5) [(51,11)] [11] (fun j21:Int=>[.int .u64 j21])) (fun j21:Int=>
   AA (d:=.a (15,1) [(62,18)] [80] (fun j25:Bool=>[.bool j25])) (fun j25:Bool=>
    if j25=true then
     some (0,4)
    else
     GQ N a1 a2 k17 xs (wr .u64 ((wr .u64 (s9 * a1))+j21))) fun k26=>
   grd (a1≠0) (
   if(decide (s9>(wr .u64 (a2.tdiv a1))))=true then
    k26 true
   else
    if(decide ((wr .u64 (s9 * a1))>(wr .u64 (a2-j21))))=true then
     k26 true
    else
     k26 (decide (j21>a2)))) fun k22=>
  if(decide ((AX xk20)>57))=true then
   k22 (wr .u64 ((wr .u64 ((wr .u64 (Mt .u8 (AX xk20) 32))-97))+10))
  else
   k22 (wr .u64 (wr .u8 ((AX xk20)-48)))
def Gh (N:Nat) (a1:Int) (k2:(Unit→Option (Int×Int))):List UInt8→Option (Int×Int)
  |[]=>
  k2 ()
  |xk5::xs=>
  AA (d:=.a (6,1) [(20,19)] [39] (fun j6:Bool=>[.bool j6])) (fun j6:Bool=>
   if j6=true then
    some (0,1)
   else
    Gh N a1 k2 xs) fun k7=>
  if(a1==10)=true then
   Option.bind (Di N (AX xk5)) fun y10=>
   if y10=true then
    if(a1==16)=true then
     Option.bind (Iy N (AX xk5)) fun y12=>
     k7 (!y12)
    else
     k7 false
   else
    k7 true
  else
   if(a1==16)=true then
    Option.bind (Iy N (AX xk5)) fun y14=>
    k7 (!y14)
   else
    k7 false
def LV (N:Nat) (a0:(List UInt8)) (a1:Int) (a2:Int):Option (Int×Int):=
 if(a0==[])=true then
  some (0,3)
 else
  AA (d:=.a (3,20) [(6,3),(14,26)] [] (fun j1:Unit=>[])) (fun j1:Unit=>
   AA (d:=.a (9,30) [(6,2),(10,2),(40,46)] [9] (fun j16:Int=>[.int .u64 j16])) (fun j16:Int=>
    some (j16,0)) fun k17=>
   grd (AU (a0.length)) (
    GQ N a1 a2 k17 a0 0)) fun k2=>
  grd (AU (a0.length)) (
   Gh N a1 k2 a0)
def OA (N:Nat) (a0:(List UInt8)) (a1:Int):Option (Int×Int):=
 Option.bind (LV N a0 10 a1) fun y1=>
 AA (d:=.a (2,1) [(14,15)] [29] (fun j3:Bool=>[.bool j3])) (fun j3:Bool=>
  if j3=true then
   some (0,6)
  else
   some (y1.1,y1.2)) fun k4=>
 if(y1.2==0)=true then
  if(decide ((a0.length:Int)>1))=true then
   Option.bind (idx a0 0) fun x7=>
   k4 ((AX x7)==48)
  else
   k4 false
 else
  if(y1.2==4)=true then
   if(decide ((a0.length:Int)>1))=true then
    Option.bind (idx a0 0) fun x8=>
    k4 ((AX x8)==48)
   else
    k4 false
  else
   k4 false
def FR (N:Nat) (k4:(Unit→Option (Bool))):List (List UInt8)→Option (Bool)
  |[]=>
  k4 ()
  |xk7::xs=>
  Option.bind (OA N xk7 255) fun y8=>
  if(y8.2 !=0)=true then
   some (false)
  else
   FR N k4 xs
def OQ (N:Nat) (a0:(List UInt8)):Option (Bool):=
 Option.bind (LX N a0 46) fun y1=>
 AA (d:=.a (2,24) [(2,1),(5,3),(10,14)] [] (fun j3:Unit=>[])) (fun j3:Unit=>
  some (((y1.length:Int)==4))) fun k4=>
 grd (AU (y1.length)) (
  FR N k4 y1)
def Gf (N:Nat) (k2:(Unit→Option (Bool))):List UInt8→Option (Bool)
  |[]=>
  k2 ()
  |xk5::xs=>
  AA (d:=.a (4,1) [(10,17)] [27] (fun j6:Bool=>[.bool j6])) (fun j6:Bool=>
   if j6=true then
    some (false)
   else
    Gf N k2 xs) fun k7=>
  Option.bind (Fz N (AX xk5)) fun y10=>
  if y10=true then
   k7 false
  else
   Option.bind (Di N (AX xk5)) fun y12=>
   if y12=true then
    k7 false
   else
    k7 ((AX xk5) !=45)
def Pp (N:Nat) (a0:(List UInt8)):Option (Bool):=
 AA (d:=.a (1,20) [(2,26)] [] (fun j1:Unit=>[])) (fun j1:Unit=>
  if(a0==[])=true then
   some (false)
  else
   if(decide ((a0.length:Int)≤63))=true then
    Option.bind (idx a0 0) fun x14=>
    if((AX x14) !=45)=true then
     Option.bind (idx a0 (wr .i64 ((a0.length:Int)-1))) fun x15=>
     some (((AX x15) !=45))
    else
     some (false)
   else
    some (false)) fun k2=>
 grd (AU (a0.length)) (
  Gf N k2 a0)
def FY (N:Nat) (k2:(Unit→Option (Bool))):List UInt8→Option (Bool)
  |[]=>
  k2 ()
  |xk5::xs=>
  Option.bind (Di N (AX xk5)) fun y6=>
  if y6=true then
   FY N k2 xs
  else
   some (false)
def KO (N:Nat) (a0:(List UInt8)):Option (Bool):=
 AA (d:=.a (1,20) [(2,13)] [] (fun j1:Unit=>[])) (fun j1:Unit=>
  some ((!(a0==[])))) fun k2=>
 grd (AU (a0.length)) (
  FY N k2 a0)
def Hr (N:Nat) (k4:(Unit→Option (Bool))):List (List UInt8)→Option (Bool)
  |[]=>
  k4 ()
  |xk7::xs=>
  Option.bind (Pp N xk7) fun y8=>
  if y8=true then
   Hr N k4 xs
  else
   some (false)
def Q3 (N:Nat) (a0:(List UInt8)):Option (Bool):=
 Option.bind (LX N a0 46) fun y1=>
 AA (d:=.a (2,22) [(2,1),(5,1),(8,10)] [] (fun j3:Unit=>[])) (fun j3:Unit=>
  Option.bind (idx y1 (wr .i64 ((y1.length:Int)-1))) fun x10=>
  Option.bind (KO N x10) fun y11=>
  some ((!y11))) fun k4=>
 grd (AU (y1.length)) (
  Hr N k4 y1)
def N7 (N:Nat) (a0:(List UInt8)):Option ((List UInt8)×Int):=
 if(a0==[])=true then
  some ([],3)
 else
  if(decide ((a0.length:Int)>253))=true then
   some ([],5)
  else
   AA (d:=.a (5,1) [(12,8)] [11] (fun j1:Bool=>[.bool j1])) (fun j1:Bool=>
    if j1=true then
     some ([],50)
    else
     Option.bind (Dv N a0) fun y9=>
     some (y9,0)) fun k2=>
   Option.bind (OQ N a0) fun y5=>
   if y5=true then
    k2 false
   else
    Option.bind (Q3 N a0) fun y7=>
    k2 (!y7)
def PN (N:Nat) (a0:(List UInt8)):Option (ApiAcct×Int):=
 if(decide ((a0.length:Int)>4096))=true then
  some ((ApiAcct.mk [] []),5)
 else
  AA (d:=.a (3,1) [(14,9)] [13] (fun j1:Bool=>[.bool j1])) (fun j1:Bool=>
   if j1=true then
    some ((ApiAcct.mk [] []),60)
   else
    Option.bind (sub a0 5 (a0.length:Int)) fun x8=>
    Option.bind (Du N x8 ([64]:List UInt8)) fun y9=>
    if(y9==(x8.length:Int))=true then
     some ((ApiAcct.mk [] []),6)
    else
     Option.bind (sub x8 0 y9) fun x11=>
     Option.bind (FB N x11 ([33,36,38,39,40,41,42,43,44,59,61]:List UInt8)) fun y12=>
     AA (d:=.a (10,1) [(40,10)] [50] (fun j14:Bool=>[.bool j14])) (fun j14:Bool=>
      if j14=true then
       some ((ApiAcct.mk [] []),80)
      else
       Option.bind (sub x8 (wr .i64 (y9+1)) (x8.length:Int)) fun x19=>
       Option.bind (N7 N x19) fun y20=>
       if(y20.2 !=0)=true then
        some ((ApiAcct.mk [] []),y20.2)
       else
        some ((ApiAcct.mk y12.1 y20.1),0)) fun k15=>
     if(y12.2 !=0)=true then
      k15 true
     else
      if(y12.1==[])=true then
       k15 true
      else
       Option.bind (idx y12.1 0) fun x18=>
       k15 ((AX x18)==37)) fun k2=>
  if(decide ((a0.length:Int)<5))=true then
   k2 true
  else
   Option.bind (sub a0 0 5) fun x5=>
   Option.bind (Jy N x5 ([97,99,99,116,58]:List UInt8)) fun y6=>
   k2 (!y6)
def Nz (N:Nat) (a0:ApiAcct):Option ((List UInt8)):=
 grd (AU (([97,99,99,116,58]:List UInt8).length+a0.user.length)) (
 grd (AU ((([97,99,99,116,58]:List UInt8)++a0.user).length+([64]:List UInt8).length)) (
 grd (AU (((([97,99,99,116,58]:List UInt8)++a0.user)++([64]:List UInt8)).length+a0.host.length)) (
 some ((((([97,99,99,116,58]:List UInt8)++a0.user)++([64]:List UInt8))++a0.host)))))
def FV (N:Nat) (a0:(List UInt8)) (a1:(List UInt8)) (k2:((List UInt8)→Option ((List UInt8)))):List UInt8→Int→(List UInt8)→Option ((List UInt8))
  |[],s6,s5=>
  k2 s5
  |xk5::xs,s6,s5=>
  AA (d:=.a (1,6) [(13,30)] [5] (fun j6:(List UInt8)=>[.str j6])) (fun j6:(List UInt8)=>
   FV N a0 a1 k2 xs (s6+1) j6) fun k7=>
  AA (d:=.a (5,1) [(13,16)] [29] (fun j10:Bool=>[.bool j10])) (fun j10:Bool=>
   if j10=true then
    Option.bind (sub a0 s6 (s6+1)) fun x18=>
    grd (AU (s5.length+x18.length)) (
    k7 (s5++x18))
   else
    Option.bind (Ls N (AX xk5)) fun y19=>
    grd (AU (s5.length+y19.length)) (
    k7 (s5++y19))) fun k11=>
  Option.bind (Er N (AX xk5)) fun y14=>
  if y14=true then
   k11 true
  else
   if((AX xk5) !=37)=true then
    Option.bind (Jc N (AX xk5) a1) fun y16=>
    k11 y16
   else
    k11 false
def Oi (N:Nat) (a0:(List UInt8)) (a1:(List UInt8)):Option ((List UInt8)):=
 AA (d:=.a (2,18) [(6,37)] [5] (fun j1:(List UInt8)=>[.str j1])) (fun j1:(List UInt8)=>
  some (j1)) fun k2=>
 grd (AU (a0.length)) (
  FV N a0 a1 k2 a0 0 [])
def KX (N:Nat) (a0:ApiURL):Option ((List UInt8)):=
 if a0.hasQuery=true then
  grd (AU (a0.path.length+([63]:List UInt8).length)) (
  grd (AU ((a0.path++([63]:List UInt8)).length+a0.query.length)) (
  some (((a0.path++([63]:List UInt8))++a0.query))))
 else
  some (a0.path)
def FW (N:Nat):Nat→Int→(List UInt8)→Option ((List UInt8))
  |0,_,_=>none
  |k+1,s0,s3=>
  grd (AU ((List.map Ij [(wr .u8 (wr .u64 (48+(s0.tmod 10))))]).length+s3.length)) (
  if((wr .u64 (s0.tdiv 10))==0)=true then
   some (((List.map Ij [(wr .u8 (wr .u64 (48+(s0.tmod 10))))])++s3))
  else
   FW N k (wr .u64 (s0.tdiv 10)) ((List.map Ij [(wr .u8 (wr .u64 (48+(s0.tmod 10))))])++s3))
def MG (N:Nat) (a0:Int):Option ((List UInt8)):=
 FW N N a0 []
def Kv (N:Nat) (a0:Int):Option ((List UInt8)):=
 if(decide (a0<0))=true then
  Option.bind (MG N (wr .u64 ((wr .u64 (wr .i64 (0-(wr .i64 (a0+1)))))+1))) fun y1=>
  grd (AU (([45]:List UInt8).length+y1.length)) (
  some ((([45]:List UInt8)++y1)))
 else
  Option.bind (MG N (wr .u64 a0)) fun y3=>
  some (y3)
def OO (N:Nat) (a0:ApiHostPort):Option ((List UInt8)):=
 if(a0.port==0)=true then
  some (a0.host)
 else
  grd (AU (a0.host.length+([58]:List UInt8).length)) (
  Option.bind (Kv N a0.port) fun y1=>
  grd (AU ((a0.host++([58]:List UInt8)).length+y1.length)) (
  some (((a0.host++([58]:List UInt8))++y1))))
def OE (N:Nat) (a0:ApiURL):Option (ApiHostPort):=
 some ((ApiHostPort.mk a0.host a0.port))
def I7 (N:Nat) (a0:ApiURL):Option ((List UInt8)):=
 Option.bind (OE N a0) fun y1=>
 Option.bind (OO N y1) fun y3=>
 grd (AU (([104,116,116,112,115,58,47,47]:List UInt8).length+y3.length)) (
 Option.bind (KX N a0) fun y5=>
 grd (AU ((([104,116,116,112,115,58,47,47]:List UInt8)++y3).length+y5.length)) (
 AA (d:=.a (2,5) [(11,7)] [3] (fun j7:(List UInt8)=>[.str j7])) (fun j7:(List UInt8)=>
  some (j7)) fun k8=>
 if a0.hasFrag=true then
  grd (AU (([35]:List UInt8).length+a0.fragment.length)) (
  grd (AU (((([104,116,116,112,115,58,47,47]:List UInt8)++y3)++y5).length+(([35]:List UInt8)++a0.fragment).length)) (
  k8 (((([104,116,116,112,115,58,47,47]:List UInt8)++y3)++y5)++(([35]:List UInt8)++a0.fragment))))
 else
  k8 ((([104,116,116,112,115,58,47,47]:List UInt8)++y3)++y5)))
def G7 (N:Nat) (a0:(List UInt8)) (a1:(List UInt8)):Option (Bool):=
 if(decide ((a0.length:Int)≥(a1.length:Int)))=true then
  Option.bind (sub a0 0 (a1.length:Int)) fun x1=>
  some ((x1==a1))
 else
  some (false)
def FQ (N:Nat) (k2:(Unit→Option (Bool))):List UInt8→Int→Option (Bool)
  |[],s3=>
  k2 ()
  |xk5::xs,s3=>
  AA (d:=.a (4,1) [(10,22)] [32] (fun j6:Bool=>[.bool j6])) (fun j6:Bool=>
   if j6=true then
    some (false)
   else
    FQ N k2 xs (s3+1)) fun k7=>
  Option.bind (Fz N (AX xk5)) fun y10=>
  if y10=true then
   k7 false
  else
   if(s3==0)=true then
    k7 true
   else
    Option.bind (Di N (AX xk5)) fun y12=>
    if y12=true then
     k7 false
    else
     Option.bind (Jc N (AX xk5) ([43,45,46]:List UInt8)) fun y14=>
     k7 (!y14)
def OC (N:Nat) (a0:(List UInt8)):Option (Bool):=
 AA (d:=.a (1,20) [(2,31)] [] (fun j1:Unit=>[])) (fun j1:Unit=>
  some ((!(a0==[])))) fun k2=>
 grd (AU (a0.length)) (
  FQ N k2 a0 0)
def Ps (N:Nat) (a0:(List UInt8)):Option (ApiURI×Int):=
 if(decide ((a0.length:Int)>16384))=true then
  some ((ApiURI.mk [] [] [] [] [] false false false false),5)
 else
  AA (d:=.b (4,7) [(5,1),(13,15)] [0] (fun j1:(List UInt8)×(List UInt8)×Bool=>[.str j1.1]) fun j1=>[.p [.k,.k,.k,.k,.v (.str j1.2.1),.k,.k,.k,.v (.bool j1.2.2)]]) (fun j1:(List UInt8)×(List UInt8)×Bool=>
   AA (d:=.b (7,7) [(6,1),(28,15)] [0] (fun j9:(List UInt8)×(List UInt8)×Bool=>[.str j9.1]) fun j9=>[.p [.k,.k,.k,.v (.str j9.2.1),.k,.k,.k,.v (.bool j9.2.2)]]) (fun j9:(List UInt8)×(List UInt8)×Bool=>
    AA (d:=.b (10,15) [(3,1),(7,1),(43,27)] [0] (fun j17:(List UInt8)×(List UInt8)×Bool=>[.str j17.1]) fun j17=>[.p [.v (.str j17.2.1),.k,.k,.k,.k,.v (.bool j17.2.2)]]) (fun j17:(List UInt8)×(List UInt8)×Bool=>
     AA (d:=.b (15,7) [(8,1),(70,14)] [0] (fun j32:(List UInt8)×(List UInt8)×Bool=>[.str j32.1]) fun j32=>[.p [.k,.v (.str j32.2.1),.k,.k,.k,.k,.v (.bool j32.2.2)]]) (fun j32:(List UInt8)×(List UInt8)×Bool=>
      some ((ApiURI.mk j17.2.1 j32.2.1 j32.1 j9.2.1 j1.2.1 j17.2.2 j32.2.2 j9.2.2 j1.2.2),0)) fun k33=>
     Option.bind (G7 N j17.1 ([47,47]:List UInt8)) fun y36=>
     if y36=true then
      Option.bind (sub j17.1 2 (j17.1.length:Int)) fun x38=>
      Option.bind (Du N x38 ([47]:List UInt8)) fun y39=>
      Option.bind (sub j17.1 2 (wr .i64 (2+y39))) fun x41=>
      Option.bind (sub j17.1 (wr .i64 (2+y39)) (j17.1.length:Int)) fun x42=>
      k33 (x42,x41,true)
     else
      k33 (j17.1,[],false)) fun k18=>
    Option.bind (Du N j9.1 ([58,47]:List UInt8)) fun y21=>
    AA (d:=.a (11,1) [(45,9)] [54] (fun j23:Bool=>[.bool j23])) (fun j23:Bool=>
     if j23=true then
      Option.bind (sub j9.1 0 y21) fun x28=>
      Option.bind (OC N x28) fun y29=>
      if y29=true then
       Option.bind (sub j9.1 (wr .i64 (y21+1)) (j9.1.length:Int)) fun x31=>
       k18 (x31,x28,true)
      else
       some ((ApiURI.mk [] [] [] [] [] false false false false),6)
     else
      k18 (j9.1,[],false)) fun k24=>
    if(decide (y21<(j9.1.length:Int)))=true then
     Option.bind (idx j9.1 y21) fun x27=>
     k24 ((AX x27)==58)
    else
     k24 false) fun k10=>
   Option.bind (Du N j1.1 ([63]:List UInt8)) fun y13=>
   if(decide (y13<(j1.1.length:Int)))=true then
    Option.bind (sub j1.1 (wr .i64 (y13+1)) (j1.1.length:Int)) fun x15=>
    Option.bind (sub j1.1 0 y13) fun x16=>
    k10 (x16,x15,true)
   else
    k10 (j1.1,[],false)) fun k2=>
  Option.bind (Du N a0 ([35]:List UInt8)) fun y5=>
  if(decide (y5<(a0.length:Int)))=true then
   Option.bind (sub a0 (wr .i64 (y5+1)) (a0.length:Int)) fun x7=>
   Option.bind (sub a0 0 y5) fun x8=>
   k2 (x8,x7,true)
  else
   k2 (a0,[],false)
def PZ (N:Nat) (a0:(List UInt8)):Option (ApiHostPort×Int):=
 Option.bind (Du N a0 ([58]:List UInt8)) fun y1=>
 Option.bind (sub a0 0 y1) fun x3=>
 Option.bind (N7 N x3) fun y4=>
 if(y4.2 !=0)=true then
  some ((ApiHostPort.mk [] 0),y4.2)
 else
  if(y1==(a0.length:Int))=true then
   some ((ApiHostPort.mk y4.1 0),0)
  else
   Option.bind (sub a0 (wr .i64 (y1+1)) (a0.length:Int)) fun x6=>
   (none:Option (ApiHostPort×Int))
def BN (N:Nat) (k2:((List UInt8)→Option ((List UInt8)))):Nat→(List UInt8)→(List UInt8)→Option ((List UInt8))
  |0,_,_=>none
  |k+1,s3,s4=>
  if(s3==[])=true then
   k2 s4
  else
   Option.bind (G7 N s3 ([46,46,47]:List UInt8)) fun y6=>
   if y6=true then
    Option.bind (sub s3 3 (s3.length:Int)) fun x8=>
    BN N k2 k x8 s4
   else
    Option.bind (G7 N s3 ([46,47]:List UInt8)) fun y9=>
    if y9=true then
     Option.bind (sub s3 2 (s3.length:Int)) fun x11=>
     BN N k2 k x11 s4
    else
     Option.bind (G7 N s3 ([47,46,47]:List UInt8)) fun y12=>
     if y12=true then
      Option.bind (sub s3 2 (s3.length:Int)) fun x14=>
      BN N k2 k x14 s4
     else
      if(s3==([47,46]:List UInt8))=true then
       BN N k2 k ([47]:List UInt8) s4
      else
       Option.bind (G7 N s3 ([47,46,46,47]:List UInt8)) fun y15=>
       if y15=true then
        Option.bind (sub s3 3 (s3.length:Int)) fun x17=>
        (none:Option ((List UInt8)))
       else
        if(s3==([47,46,46]:List UInt8))=true then
         (none:Option ((List UInt8)))
        else
         AA (d:=.a (17,1) [(52,6)] [51] (fun j18:Bool=>[.bool j18])) (fun j18:Bool=>
          if j18=true then
           BN N k2 k [] s4
          else
           Option.bind (sub s3 1 (s3.length:Int)) fun x22=>
           Option.bind (Du N x22 ([47]:List UInt8)) fun y23=>
           Option.bind (sub s3 (wr .i64 (1+y23)) (s3.length:Int)) fun x25=>
           Option.bind (sub s3 0 (wr .i64 (1+y23))) fun x26=>
           grd (AU (s4.length+x26.length)) (
           BN N k2 k x25 (s4++x26))) fun k19=>
         if(s3==([46]:List UInt8))=true then
          k19 true
         else
          k19 (s3==([46,46]:List UInt8))
def Kt (N:Nat) (a0:(List UInt8)):Option ((List UInt8)):=
 AA (d:=.a (0,41) [(3,1),(5,1),(7,51)] [4] (fun j1:(List UInt8)=>[.str j1])) (fun j1:(List UInt8)=>
  some (j1)) fun k2=>
 BN N k2 N a0 []
def NC (N:Nat) (a0:(List UInt8)):Option (ApiURL×Int):=
 if(decide ((a0.length:Int)>4096))=true then
  some ((ApiURL.mk [] 0 [] [] [] false false),5)
 else
  Option.bind (Ps N a0) fun y1=>
  if(y1.2 !=0)=true then
   some ((ApiURL.mk [] 0 [] [] [] false false),y1.2)
  else
   AA (d := .a (6,1) [(25,9)] [24] (fun j3:Bool=>[.bool j3])) (fun j3:Bool=>
    if j3=true then
     some ((ApiURL.mk [] 0 [] [] [] false false),60)
    else
     if y1.1.hasAuthority=true then
      Option.bind (Du N y1.1.authority ([64]:List UInt8)) fun y9=>
      if(decide (y9<(y1.1.authority.length:Int)))=true then
       some ((ApiURL.mk [] 0 [] [] [] false false),70)
      else
       Option.bind (PZ N y1.1.authority) fun y11=>
       if(y11.2 !=0)=true then
        some ((ApiURL.mk [] 0 [] [] [] false false),y11.2)
       else
        Option.bind (FB N y1.1.path ([33,36,38,39,40,41,42,43,44,59,61,58,64,47]:List UInt8)) fun y13=>
        if(y13.2 !=0)=true then
         some ((ApiURL.mk [] 0 [] [] [] false false),y13.2)
        else
         Option.bind (FB N y1.1.query ([33,36,38,39,40,41,42,43,44,59,61,58,64,47,63]:List UInt8)) fun y15=>
         if(y15.2 !=0)=true then
          some ((ApiURL.mk [] 0 [] [] [] false false),y15.2)
         else
          Option.bind (FB N y1.1.fragment ([33,36,38,39,40,41,42,43,44,59,61,58,64,47,63]:List UInt8)) fun y17=>
          if(y17.2 !=0)=true then
           some ((ApiURL.mk [] 0 [] [] [] false false),y17.2)
          else
           AA (d:=.a (24,7) [(89,4)] [7] (fun j19:(List UInt8)=>[.str j19])) (fun j19:(List UInt8)=>
            Option.bind (I7 N (ApiURL.mk y11.1.host y11.1.port j19 y15.1 y17.1 y1.1.hasQuery y1.1.hasFrag)) fun y25=>
            if(decide ((y25.length:Int)>4096))=true then
             some ((ApiURL.mk [] 0 [] [] [] false false),5)
            else
             some ((ApiURL.mk y11.1.host y11.1.port j19 y15.1 y17.1 y1.1.hasQuery y1.1.hasFrag),0)) fun k20=>
           Option.bind (Kt N y13.1) fun y23=>
           if(y23==[])=true then
            k20 ([47]:List UInt8)
           else
            k20 y23
     else
      some ((ApiURL.mk [] 0 [] [] [] false false),71)) fun k4=>
   if y1.1.hasScheme=true then
    Option.bind (Jy N y1.1.scheme ([104,116,116,112,115]:List UInt8)) fun y7=>
    k4 (!y7)
   else
    k4 true
def Tt (N:Nat) (a0:(List UInt8)):Option (ApiID×Int):=
 Option.bind (NC N a0) fun y1=>
 if(y1.2 !=0)=true then
  some ((ApiID.mk 0 [] [] 0),y1.2)
 else
  Option.bind (I7 N y1.1) fun y3=>
  some ((ApiID.mk 3 y3 y1.1.host y1.1.port),0)
def NK (N:Nat) (a0:ApiURL):Option (Bool):=
 Option.bind (I7 N a0) fun y1=>
 Option.bind (NC N y1) fun y3=>
 if(y3.2==0)=true then
  some ((a0.host==y3.1.host&&(a0.port==y3.1.port&&(a0.path==y3.1.path&&(a0.query==y3.1.query&&(a0.fragment==y3.1.fragment&&(a0.hasQuery==y3.1.hasQuery&&a0.hasFrag==y3.1.hasFrag)))))))
 else
  some (false)
def Fw (N:Nat) (a0:(List UInt8)):Option (ApiID×Int):=
 if(decide ((a0.length:Int)>4096))=true then
  some ((ApiID.mk 0 [] [] 0),5)
 else
  Option.bind (Du N a0 ([58]:List UInt8)) fun y1=>
  if(y1==(a0.length:Int))=true then
   some ((ApiID.mk 0 [] [] 0),60)
  else
   Option.bind (sub a0 0 y1) fun x3=>
   Option.bind (Dv N x3) fun y4=>
   if(y4==([97,99,99,116]:List UInt8))=true then
    Option.bind (PN N a0) fun y6=>
    if(y6.2 !=0)=true then
     some ((ApiID.mk 0 [] [] 0),y6.2)
    else
     Option.bind (Nz N y6.1) fun y8=>
     some ((ApiID.mk 1 y8 y6.1.host 0),0)
   else
    if(y4==([109,97,105,108,116,111]:List UInt8))=true then
     (none:Option (ApiID×Int))
    else
     if(y4==([104,116,116,112,115]:List UInt8))=true then
      Option.bind (Tt N a0) fun y10=>
      some (y10.1,y10.2)
     else
      if(y4==([100,105,100]:List UInt8))=true then
       (none:Option (ApiID×Int))
      else
       some ((ApiID.mk 0 [] [] 0),60)
def CY (N:Nat) (a0:MadeDice) (a1:Int):Option (Int×MadeDice):=
 AA (d:=.a (1,1) [(6,9)] [15] (fun j1:Bool=>[.bool j1])) (fun j1:Bool=>
  if j1=true then
   some (0,a0)
  else
   Option.bind (idx a0.l 0) fun x5=>
   Option.bind (sub a0.l 1 (a0.l.length:Int)) fun x6=>
   grd (a1≠0) (
   some (((wr .i64 x5).tmod a1),(MadeDice.mk x6)))) fun k2=>
 if((a0.l.length:Int)==0)=true then
  k2 true
 else
  k2 (decide (a1≤1))
def F6 (N:Nat) (a0:MadeDice) (a1:(List (List UInt8))):Option ((List UInt8)×MadeDice):=
 Option.bind (CY N a0 (a1.length:Int)) fun y1=>
 Option.bind (idx a1 y1.1) fun x3=>
 some (x3,y1.2)
def GR (N:Nat) (rec_ref15_count:(ApiValue→Int→Option (Int))) (j1:Int) (k10:(Int→Option (Int))):List ApiValue→Int→Option (Int)
  |[],s6=>
  k10 s6
  |xk13::xs,s6=>
  Option.bind (rec_ref15_count xk13 j1) fun y14=>
  if(y14==0)=true then
   some (0)
  else
   if(decide ((wr .i64 (s6+y14))>20000))=true then
    some (20001)
   else
    GR N rec_ref15_count j1 k10 xs (wr .i64 (s6+y14))
def Jv (N:Nat):Nat→ApiValue→Int→Option (Int)
  |0,_,_=>none
  |D+1,a0,a1=>
  AA (d:=.a (2,5) [(11,10)] [5] (fun j1:Int=>[.int .i64 j1])) (fun j1:Int=>
   if(decide (j1>64))=true then
    some (0)
   else
    AA (d:=.a (7,34) [(4,1),(8,2),(23,18)] [6] (fun j9:Int=>[.int .i64 j9])) (fun j9:Int=>
     some (j9)) fun k10=>
    grd (AU (a0.items.length)) (
     GR N (Jv N D) j1 k10 a0.items 1)) fun k2=>
  AA (d:=.a (2,1) [(11,7)] [18] (fun j5:Bool=>[.bool j5])) (fun j5:Bool=>
   if j5=true then
    k2 (wr .i64 (a1+1))
   else
    k2 a1) fun k6=>
  if(a0.kind==6)=true then
   k6 true
  else
   k6 (a0.kind==7)
def Ga (N:Nat) (a0:(List UInt8)) (k4:(Int→Option (Int))):Nat→Int→Int→Option (Int)
  |0,s4,s3=>
  k4 s3
  |k+1,s4,s3=>
  Option.bind (idx a0 s4) fun x8=>
  Ga N a0 k4 k (s4+1) (Mt .i64 (ASD .i64 s3 6) (LM .i64 (wr .i64 (AX x8)) 63))
def Pg (N:Nat) (a0:(List UInt8)):Option (Int):=
 if((a0.length:Int)==1)=true then
  Option.bind (idx a0 0) fun x1=>
  some ((wr .i64 (AX x1)))
 else
  Option.bind (idx a0 0) fun x2=>
  grd (¬(wr .i64 (7-(a0.length:Int)))<0) (
  AA (d:=.a (4,14) [(4,1),(20,14)] [3] (fun j3:Int=>[.int .i64 j3])) (fun j3:Int=>
   some (j3)) fun k4=>
  grd ((-4611686018427387904:Int)≤1∧((a0.length:Int):Int)≤4611686018427387904) (
   Ga N a0 k4 (((a0.length:Int):Int)-1).toNat 1 (LM .i64 (wr .i64 (AX x2)) (wr .i64 ((ASD .i64 1 (wr .i64 (7-(a0.length:Int))))-1)))))
def Pi (N:Nat) (a0:Int):Option (Bool):=
 if(decide (a0≥0))=true then
  if(decide (a0≤1114111))=true then
   if(decide (a0<55296))=true then
    some (true)
   else
    some ((decide (a0>57343)))
  else
   some (false)
 else
  some (false)
def OB (N:Nat) (a0:Int):Option ((List UInt8)×Int):=
 Option.bind (Pi N a0) fun y1=>
 if y1=true then
  if(decide (a0<128))=true then
   some ((List.map Ij [(wr .u8 a0)]),0)
  else
   if(decide (a0<2048))=true then
    letL ([(wr .u8 (Mt .i64 192 (ABY .i64 a0 6))),(wr .u8 (Mt .i64 128 (LM .i64 a0 63)))]:(List Int)) fun l3=>
    some ((List.map Ij l3),0)
   else
    if(decide (a0<65536))=true then
     letL ([(wr .u8 (Mt .i64 224 (ABY .i64 a0 12))),(wr .u8 (Mt .i64 128 (LM .i64 (ABY .i64 a0 6) 63))),(wr .u8 (Mt .i64 128 (LM .i64 a0 63)))]:(List Int)) fun l4=>
     some ((List.map Ij l4),0)
    else
     letL ([(wr .u8 (Mt .i64 240 (ABY .i64 a0 18))),(wr .u8 (Mt .i64 128 (LM .i64 (ABY .i64 a0 12) 63))),(wr .u8 (Mt .i64 128 (LM .i64 (ABY .i64 a0 6) 63))),(wr .u8 (Mt .i64 128 (LM .i64 a0 63)))]:(List Int)) fun l5=>
     some ((List.map Ij l5),0)
 else
  some ([],4)
def FC (N:Nat) (a0:(List UInt8)) (a1:Int) (k6:(Unit→Option (Int×Int×Int))):Nat→Int→Option (Int×Int×Int)
  |0,_=>none
  |k+1,s7=>
  AA (d:=.a (4,1) [(19,9)] [28] (fun j10:Bool=>[.bool j10])) (fun j10:Bool=>
   if j10=true then
    Option.bind (sub a0 a1 (wr .i64 (a1+s7))) fun x14=>
    Option.bind (Pg N x14) fun y15=>
    Option.bind (OB N y15) fun y17=>
    AA (d:=.a (8,1) [(43,11)] [54] (fun j19:Bool=>[.bool j19])) (fun j19:Bool=>
     if j19=true then
      some (y15,(wr .i64 (a1+s7)),0)
     else
      FC N a0 a1 k6 k (wr .i64 (s7+1))) fun k20=>
    if(y17.2==0)=true then
     k20 (y17.1==x14)
    else
     k20 false
   else
    k6 ()) fun k11=>
  if(decide (s7≤4))=true then
   k11 (decide ((wr .i64 (a1+s7))≤(a0.length:Int)))
  else
   k11 false
def MF (N:Nat) (a0:(List UInt8)) (a1:Int):Option (Int×Int×Int):=
 AA (d:=.a (1,1) [(11,7)] [18] (fun j1:Bool=>[.bool j1])) (fun j1:Bool=>
  if j1=true then
   some (0,0,4)
  else
   AA (d:=.a (3,24) [(4,7),(19,40)] [] (fun j5:Unit=>[])) (fun j5:Unit=>
    some (0,0,7)) fun k6=>
   FC N a0 a1 k6 N 1) fun k2=>
 if(decide (a1<0))=true then
  k2 true
 else
  k2 (decide (a1≥(a0.length:Int)))
def Gc (N:Nat) (a0:(List UInt8)) (k2:(Int→Option (Int))):Nat→Int→Int→Option (Int)
  |0,_,_=>none
  |k+1,s3,s4=>
  if(decide (s4<(a0.length:Int)))=true then
   Option.bind (MF N a0 s4) fun y6=>
   if(y6.2.2 !=0)=true then
    some ((-1))
   else
    Gc N a0 k2 k (wr .i64 (s3+1)) y6.2.1
  else
   k2 s3
def PU (N:Nat) (a0:(List UInt8)):Option (Int):=
 AA (d:=.a (2,24) [(2,1),(4,20)] [3] (fun j1:Int=>[.int .i64 j1])) (fun j1:Int=>
  some (j1)) fun k2=>
 Gc N a0 k2 N 0 0
def LJ (N:Nat) (a0:(List UInt8)):Option (Bool):=
 Option.bind (PU N a0) fun y1=>
 some ((decide (y1≥0)))
def EM (N:Nat) (k8:((List (List UInt8))×(List (List UInt8))×(List (List UInt8))→Option ((List (List UInt8))))):Nat→(List (List UInt8))→(List (List UInt8))→(List (List UInt8))→Option ((List (List UInt8)))
  |0,_,_,_=>none
  |k+1,s3,s4,s5=>
  AA (d:=.a (5,1) [(22,7)] [29] (fun j12:Bool=>[.bool j12])) (fun j12:Bool=>
   if j12=true then
    Option.bind (idx s3 0) fun x16=>
    Option.bind (idx s4 0) fun x17=>
    if(Op.bytesLess x16 x17||x16==x17)=true then
     grd (Ah (s5.length+1) 16) (
     Option.bind (sub s3 1 (s3.length:Int)) fun x18=>
     EM N k8 k x18 s4 (s5++[x16]))
    else
     grd (Ah (s5.length+1) 16) (
     Option.bind (sub s4 1 (s4.length:Int)) fun x19=>
     EM N k8 k s3 x19 (s5++[x17]))
   else
    k8 (s3,s4,s5)) fun k13=>
  if(decide ((s3.length:Int)>0))=true then
   k13 (decide ((s4.length:Int)>0))
  else
   k13 false
def Fg (N:Nat):Nat→(List (List UInt8))→Option ((List (List UInt8)))
  |0,_=>none
  |D+1,a0=>
  if(decide ((a0.length:Int)<2))=true then
   some (a0)
  else
   Option.bind (sub a0 0 (wr .i64 ((a0.length:Int).tdiv 2))) fun x1=>
   Option.bind ((Fg N D) x1) fun y2=>
   Option.bind (sub a0 (wr .i64 ((a0.length:Int).tdiv 2)) (a0.length:Int)) fun x4=>
   Option.bind ((Fg N D) x4) fun y5=>
   AA (d:=.a (0,14) [(22,31)] [3,4,5] (fun j7:(List (List UInt8))×(List (List UInt8))×(List (List UInt8))=>[.slice 1 (List.map AVal.str j7.1) false,.slice 1 (List.map AVal.str j7.2.1) false,.slice 1 (List.map AVal.str j7.2.2) true])) (fun j7:(List (List UInt8))×(List (List UInt8))×(List (List UInt8))=>
    grd (Ah (j7.2.2.length+j7.1.length) 16) (
    grd (Ah ((j7.2.2++j7.1).length+j7.2.1.length) 16) (
    some (((j7.2.2++j7.1)++j7.2.1))))) fun k8=>
   EM N k8 N y2 y5 []
def EA (N:Nat) (y1:(List (List UInt8))) (k4:(Unit→Option (Bool))):List (List UInt8)→Int→Option (Bool)
  |[],s10=>
  k4 ()
  |xk7::xs,s10=>
  AA (d:=.a (5,1) [(15,15)] [30] (fun j8:Bool=>[.bool j8])) (fun j8:Bool=>
   if j8=true then
    some (false)
   else
    EA N y1 k4 xs (s10+1)) fun k9=>
  Option.bind (LJ N xk7) fun y12=>
  if y12=true then
   if(decide (s10>0))=true then
    Option.bind (idx y1 (wr .i64 (s10-1))) fun x14=>
    k9 (x14==xk7)
   else
    k9 false
  else
   k9 true
def Lf (N:Nat) (a0:(List (List UInt8))):Option (Bool):=
 Option.bind (Fg N N a0) fun y1=>
 AA (d:=.a (2,22) [(2,1),(4,2),(8,24)] [] (fun j3:Unit=>[])) (fun j3:Unit=>
  some (true)) fun k4=>
 grd (AU (y1.length)) (
  EA N y1 k4 y1 0)
def GU (N:Nat) (rec_ref15_shape:(ApiValue→Option (Bool))) (k22:(Unit→Option (Bool))):List ApiValue→Option (Bool)
  |[]=>
  k22 ()
  |xk25::xs=>
  Option.bind (rec_ref15_shape xk25) fun y26=>
  if y26=true then
   GU N rec_ref15_shape k22 xs
  else
   some (false)
def J8 (N:Nat):Nat→ApiValue→Option (Bool)
  |0,_=>none
  |D+1,a0=>
  AA (d:=.a (1,54) [(2,3),(7,97)] [] (fun j1:Unit=>[])) (fun j1:Unit=>
   AA (d:=.a (18,22) [(2,1),(6,1),(104,11)] [] (fun j21:Unit=>[])) (fun j21:Unit=>
    some (true)) fun k22=>
   grd (AU (a0.items.length)) (
    GU N (J8 N D) k22 a0.items)) fun k2=>
  AA (d:=.a (3,9) [(10,3)] [9] (fun j5:Bool=>[.bool j5])) (fun j5:Bool=>
   if j5=true then
    if(a0.text==[])=true then
     if((a0.keys.length:Int)==0)=true then
      some (((a0.items.length:Int)==0))
     else
      some (false)
    else
     some (false)
   else
    if(a0.kind==4)=true then
     (none:Option (Bool))
    else
     if(a0.kind==5)=true then
      Option.bind (LJ N a0.text) fun y9=>
      if y9=true then
       if((a0.keys.length:Int)==0)=true then
        some (((a0.items.length:Int)==0))
       else
        some (false)
      else
       some (false)
     else
      if(a0.kind==6)=true then
       AA (d:=.a (13,1) [(75,8)] [83] (fun j11:Bool=>[.bool j11])) (fun j11:Bool=>
        if j11=true then
         some (false)
        else
         k2 ()) fun k12=>
       if(a0.text==[])=true then
        k12 ((a0.keys.length:Int) !=0)
       else
        k12 true
      else
       if(a0.kind==7)=true then
        AA (d:=.a (16,1) [(86,17)] [103] (fun j15:Bool=>[.bool j15])) (fun j15:Bool=>
         if j15=true then
          some (false)
         else
          k2 ()) fun k16=>
        if(a0.text==[])=true then
         if((a0.keys.length:Int) !=(a0.items.length:Int))=true then
          k16 true
         else
          Option.bind (Lf N a0.keys) fun y19=>
          k16 (!y19)
        else
         k16 true
       else
        some (false)) fun k6=>
  if(a0.kind==1)=true then
   k6 (a0.kind==1)
  else
   if(a0.kind==3)=true then
    k6 (a0.kind==3)
   else
    k6 (a0.kind==2)
def Pv (N:Nat) (a0:ApiValue):Option (Bool):=
 Option.bind (Jv N N a0 0) fun y1=>
 if(decide (y1>0))=true then
  if(decide (y1≤20000))=true then
   Option.bind (J8 N N a0) fun y3=>
   some (y3)
  else
   some (false)
 else
  some (false)
def IJ (N:Nat) (rec_ref15_long:(ApiValue→Option (Bool))) (k7:(Unit→Option (Bool))):List ApiValue→Option (Bool)
  |[]=>
  k7 ()
  |xk10::xs=>
  Option.bind (rec_ref15_long xk10) fun y11=>
  if y11=true then
   some (true)
  else
   IJ N rec_ref15_long k7 xs
def IE (N:Nat) (k2:(Int→Option (Bool))):List (List UInt8)→Int→Option (Bool)
  |[],s3=>
  k2 s3
  |xk5::xs,s3=>
  IE N k2 xs (wr .i64 (s3+(xk5.length:Int)))
def Kc (N:Nat):Nat→ApiValue→Option (Bool)
  |0,_=>none
  |D+1,a0=>
  AA (d:=.a (2,16) [(5,1),(11,12)] [3] (fun j1:Int=>[.int .i64 j1])) (fun j1:Int=>
   if(decide (j1>1048576))=true then
    some (true)
   else
    AA (d:=.a (9,22) [(2,1),(7,1),(25,10)] [] (fun j6:Unit=>[])) (fun j6:Unit=>
     some (false)) fun k7=>
    grd (AU (a0.items.length)) (
     IJ N (Kc N D) k7 a0.items)) fun k2=>
  grd (AU (a0.keys.length)) (
   IE N k2 a0.keys (a0.text.length:Int))
def GM (N:Nat) (k4:((List Int)→Option ((List UInt8)×Int))):List UInt8→(List Int)→Option ((List UInt8)×Int)
  |[],s4=>
  k4 s4
  |xk7::xs,s4=>
  AA (d:=.a (1,33) [(6,1),(20,55)] [4] (fun j8:(List Int)=>[.slice 1 (List.map (AVal.int .u8) j8) true])) (fun j8:(List Int)=>
   GM N k4 xs j8) fun k9=>
  AA (d:=.a (11,1) [(28,6)] [27] (fun j12:Bool=>[.bool j12])) (fun j12:Bool=>
   if j12=true then
    grd (Ah (s4.length+2) 1) (
    k9 (s4++[92,(AX xk7)]))
   else
    if((AX xk7)==8)=true then
     grd (Ah (s4.length+([92,98]:List UInt8).length) 1) (
     k9 (s4++(List.map AX ([92,98]:List UInt8))))
    else
     if((AX xk7)==12)=true then
      grd (Ah (s4.length+([92,102]:List UInt8).length) 1) (
      k9 (s4++(List.map AX ([92,102]:List UInt8))))
     else
      if((AX xk7)==10)=true then
       grd (Ah (s4.length+([92,110]:List UInt8).length) 1) (
       k9 (s4++(List.map AX ([92,110]:List UInt8))))
      else
       if((AX xk7)==13)=true then
        grd (Ah (s4.length+([92,114]:List UInt8).length) 1) (
        k9 (s4++(List.map AX ([92,114]:List UInt8))))
       else
        if((AX xk7)==9)=true then
         grd (Ah (s4.length+([92,116]:List UInt8).length) 1) (
         k9 (s4++(List.map AX ([92,116]:List UInt8))))
        else
         if(decide ((AX xk7)<32))=true then
          Option.bind (idx ([48,49,50,51,52,53,54,55,56,57,97,98,99,100,101,102]:List UInt8) (wr .u8 ((AX xk7).tdiv 16))) fun x16=>
          Option.bind (idx ([48,49,50,51,52,53,54,55,56,57,97,98,99,100,101,102]:List UInt8) ((AX xk7).tmod 16)) fun x17=>
          grd (Ah (s4.length+6) 1) (
          k9 (s4++[92,117,48,48,(AX x16),(AX x17)]))
         else
          grd (Ah (s4.length+1) 1) (
          k9 (s4++[(AX xk7)]))) fun k13=>
  if((AX xk7)==34)=true then
   k13 true
  else
   k13 ((AX xk7)==92)
def NA (N:Nat) (a0:(List UInt8)):Option ((List UInt8)×Int):=
 if(decide ((a0.length:Int)>1048576))=true then
  some ([],5)
 else
  Option.bind (LJ N a0) fun y1=>
  if y1=true then
   AA (d:=.a (6,45) [(5,2),(14,61)] [4] (fun j3:(List Int)=>[.slice 1 (List.map (AVal.int .u8) j3) true])) (fun j3:(List Int)=>
    grd (Ah (j3.length+1) 1) (
    some ((List.map Ij (j3++[34])),0))) fun k4=>
   grd (AU (a0.length)) (
    GM N k4 a0 [34])
  else
   some ([],7)
def GL (N:Nat) (a0:ApiValue) (rec_ref15_write:(ApiValue→Option ((List UInt8)))) (k4:((List Int)→Option ((List UInt8)))):List ApiValue→Int→(List Int)→Option ((List UInt8))
  |[],s34,s5=>
  k4 s5
  |xk7::xs,s34,s5=>
  AA (d:=.a (17,5) [(39,5)] [5] (fun j8:(List Int)=>[.slice 1 (List.map (AVal.int .u8) j8) true])) (fun j8:(List Int)=>
   AA (d:=.a (19,7) [(8,2),(44,17)] [5] (fun j12:(List Int)=>[.slice 1 (List.map (AVal.int .u8) j12) true])) (fun j12:(List Int)=>
    Option.bind (rec_ref15_write xk7) fun y19=>
    grd (Ah (j12.length+y19.length) 1) (
    GL N a0 rec_ref15_write k4 xs (s34+1) (j12++(List.map AX y19)))) fun k13=>
   if(a0.kind==7)=true then
    Option.bind (idx a0.keys s34) fun x16=>
    Option.bind (NA N x16) fun y17=>
    grd (Ah (j8.length+y17.1.length) 1) (
    grd (Ah ((j8++(List.map AX y17.1)).length+1) 1) (
    k13 ((j8++(List.map AX y17.1))++[58])))
   else
    k13 j8) fun k9=>
  if(decide (s34>0))=true then
   grd (Ah (s5.length+1) 1) (
   k9 (s5++[44]))
  else
   k9 s5
def Jp (N:Nat):Nat→ApiValue→Option ((List UInt8))
  |0,_=>none
  |D+1,a0=>
  if(a0.kind==1)=true then
   some (([110,117,108,108]:List UInt8))
  else
   if(a0.kind==2)=true then
    some (([102,97,108,115,101]:List UInt8))
   else
    if(a0.kind==3)=true then
     some (([116,114,117,101]:List UInt8))
    else
     if(a0.kind==4)=true then
      some (a0.text)
     else
      if(a0.kind==5)=true then
       Option.bind (NA N a0.text) fun y1=>
       some (y1.1)
      else
       AA (d:=.a (14,30) [(6,4),(31,35)] [5] (fun j3:(List Int)=>[.slice 1 (List.map (AVal.int .u8) j3) true])) (fun j3:(List Int)=>
        if(a0.kind==7)=true then
         grd (AU (([123]:List UInt8).length+(List.map Ij j3).length)) (
         grd (AU ((([123]:List UInt8)++(List.map Ij j3)).length+([125]:List UInt8).length)) (
         some (((([123]:List UInt8)++(List.map Ij j3))++([125]:List UInt8)))))
        else
         grd (AU (([91]:List UInt8).length+(List.map Ij j3).length)) (
         grd (AU ((([91]:List UInt8)++(List.map Ij j3)).length+([93]:List UInt8).length)) (
         some (((([91]:List UInt8)++(List.map Ij j3))++([93]:List UInt8)))))) fun k4=>
       grd (AU (a0.items.length)) (
        GL N a0 (Jp N D) k4 a0.items 0 [])
def I9 (N:Nat) (a0:ApiValue) (a1:(List UInt8)) (k2:(Unit→Option (ApiValue×Bool))):List (List UInt8)→Int→Option (ApiValue×Bool)
  |[],s14=>
  k2 ()
  |xk5::xs,s14=>
  AA (d:=.a (6,1) [(17,13)] [30] (fun j6:Bool=>[.bool j6])) (fun j6:Bool=>
   if j6=true then
    Option.bind (idx a0.items s14) fun x10=>
    some (x10,true)
   else
    I9 N a0 a1 k2 xs (s14+1)) fun k7=>
  if(xk5==a1)=true then
   k7 (decide (s14<(a0.items.length:Int)))
  else
   k7 false
def MH (N:Nat) (a0:ApiValue) (a1:(List UInt8)):Option (ApiValue×Bool):=
 if(a0.kind !=7)=true then
  some ((ApiValue.mk 0 [] [] []),false)
 else
  AA (d:=.a (3,22) [(5,2),(11,26)] [] (fun j1:Unit=>[])) (fun j1:Unit=>
   some ((ApiValue.mk 0 [] [] []),false)) fun k2=>
  grd (AU (a0.keys.length)) (
   I9 N a0 a1 k2 a0.keys 0)
def Gj (N:Nat) (a0:ApiValue) (rec_ref15_order:(ApiValue→Option (ApiValue))) (k13:((List (List UInt8))×(List ApiValue)→Option (ApiValue))):List (List UInt8)→(List (List UInt8))→(List ApiValue)→Option (ApiValue)
  |[],bn2_keys,bn2_items=>
  k13 (bn2_keys,bn2_items)
  |xk18::xs,bn2_keys,bn2_items=>
  AA (d:=.b (3,6) [(7,3),(40,21)] [] (fun j19:(List ApiValue)=>[]) fun j19=>[.p [.k,.k,.v (.slice 1 (List.map AVal.str (bn2_keys++[xk18])) true),.v (.slice 4 (List.map AB j19) true)]]) (fun j19:(List ApiValue)=>
   Gj N a0 rec_ref15_order k13 xs (bn2_keys++[xk18]) j19) fun k20=>
  Option.bind (MH N a0 xk18) fun y23=>
  grd (Ah (bn2_keys.length+1) 16) (
  Option.bind (rec_ref15_order y23.1) fun y25=>
  grd (Ah (bn2_items.length+1) 72) (
  k20 (bn2_items++[y25])))
def Gw (N:Nat) (rec_ref15_order:(ApiValue→Option (ApiValue))) (k2:((List ApiValue)→Option (ApiValue))):List ApiValue→(List ApiValue)→Option (ApiValue)
  |[],bn2_items=>
  k2 bn2_items
  |xk5::xs,bn2_items=>
  AA (d:=.b (1,4) [(5,1),(23,9)] [] (fun j6:(List ApiValue)=>[]) fun j6=>[.p [.k,.k,.k,.v (.slice 4 (List.map AB j6) true)]]) (fun j6:(List ApiValue)=>
   Gw N rec_ref15_order k2 xs j6) fun k7=>
  Option.bind (rec_ref15_order xk5) fun y10=>
  grd (Ah (bn2_items.length+1) 72) (
  k7 (bn2_items++[y10]))
def Iw (N:Nat):Nat→ApiValue→Option (ApiValue)
  |0,_=>none
  |D+1,a0=>
  if(a0.kind==6)=true then
   AA (d:=.b (3,16) [(5,1),(18,15)] [] (fun j1:(List ApiValue)=>[]) fun j1=>[.p [.k,.k,.k,.v (.slice 4 (List.map AB j1) true)]]) (fun j1:(List ApiValue)=>
    some ((ApiValue.mk a0.kind a0.text [] j1))) fun k2=>
   grd (AU (a0.items.length)) (
    Gw N (Iw N D) k2 a0.items [])
  else
   AA (d:=.b (9,18) [(7,3),(34,28)] [] (fun j12:(List (List UInt8))×(List ApiValue)=>[]) fun j12=>[.p [.k,.k,.v (.slice 1 (List.map AVal.str j12.1) true),.v (.slice 4 (List.map AB j12.2) true)]]) (fun j12:(List (List UInt8))×(List ApiValue)=>
    some ((ApiValue.mk a0.kind a0.text j12.1 j12.2))) fun k13=>
   Option.bind (Fg N N a0.keys) fun y16=>
   grd (AU (y16.length)) (
    Gj N a0 (Iw N D) k13 y16 [] [])
def Mx (N:Nat) (a0:ApiValue):Option ((List UInt8)×Int):=
 Option.bind (Pv N a0) fun y1=>
 if y1=true then
  Option.bind (Kc N N a0) fun y3=>
  if y3=true then
   some ([],142)
  else
   Option.bind (Iw N N a0) fun y5=>
   Option.bind (Jp N N y5) fun y7=>
   if(decide ((y7.length:Int)>1048576))=true then
    some ([],142)
   else
    some (y7,0)
 else
  some ([],8)
def G8 (N:Nat) (a0:ApiValue) (a1:(List UInt8)) (a2:ApiValue):Option (ApiValue):=
 Option.bind (sub a0.keys 0 (a0.keys.length:Int)) fun x1=>
 grd (Ah (x1.length+1) 16) (
 Option.bind (sub a0.items 0 (a0.items.length:Int)) fun x2=>
 grd (Ah (x2.length+1) 72) (
 some ((ApiValue.mk a0.kind a0.text (x1++[a1]) (x2++[a2])))))
def Kh (N:Nat) (a0:(List UInt8)):Option (ApiValue):=
 some ((ApiValue.mk 5 a0 [] []))
def Kj (N:Nat) (a0:ApiValue) (a1:(List UInt8)) (a2:(List UInt8)):Option (ApiValue):=
 if(a2==[])=true then
  some (a0)
 else
  Option.bind (Kh N a2) fun y1=>
  Option.bind (G8 N a0 a1 y1) fun y3=>
  some (y3)
def Gu (N:Nat) (k2:((List ApiValue)→Option (ApiValue))):List (List UInt8)→(List ApiValue)→Option (ApiValue)
  |[],bn1_items=>
  k2 bn1_items
  |xk5::xs,bn1_items=>
  AA (d:=.b (1,4) [(5,1),(11,9)] [] (fun j6:(List ApiValue)=>[]) fun j6=>[.p [.k,.k,.k,.v (.slice 4 (List.map AB j6) true)]]) (fun j6:(List ApiValue)=>
   Gu N k2 xs j6) fun k7=>
  Option.bind (Kh N xk5) fun y10=>
  grd (Ah (bn1_items.length+1) 72) (
  k7 (bn1_items++[y10]))
def PO (N:Nat) (a0:(List (List UInt8))):Option (ApiValue):=
 AA (d:=.b (2,16) [(5,1),(7,14)] [] (fun j1:(List ApiValue)=>[]) fun j1=>[.p [.k,.k,.k,.v (.slice 4 (List.map AB j1) true)]]) (fun j1:(List ApiValue)=>
  some ((ApiValue.mk 6 [] [] j1))) fun k2=>
 grd (AU (a0.length)) (
  Gu N k2 a0 [])
def Eg (N:Nat) (k2:(Int×(List UInt8)×(List (List UInt8))×(List ApiValue)→Option (ApiValue))):List ApiProperty→Int→(List UInt8)→(List (List UInt8))→(List ApiValue)→Option (ApiValue)
  |[],bn2_kind,bn2_text,bn2_keys,bn2_items=>
  k2 (bn2_kind,bn2_text,bn2_keys,bn2_items)
  |xk5::xs,bn2_kind,bn2_text,bn2_keys,bn2_items=>
  AA (d:=.b (1,8) [(9,1),(19,16)] [] (fun j6:ApiValue=>[]) fun j6=>[.s ([.int .i64 j6.kind,.str j6.text,.slice 1 (List.map AVal.str j6.keys) false,.slice 4 (List.map AB j6.items) false])]) (fun j6:ApiValue=>
   Eg N k2 xs j6.kind j6.text j6.keys j6.items) fun k7=>
  if xk5.null=true then
   Option.bind (G8 N (ApiValue.mk bn2_kind bn2_text bn2_keys bn2_items) xk5.name (ApiValue.mk 1 [] [] [])) fun y10=>
   k7 y10
  else
   Option.bind (Kh N xk5.value) fun y12=>
   Option.bind (G8 N (ApiValue.mk bn2_kind bn2_text bn2_keys bn2_items) xk5.name y12) fun y14=>
   k7 y14
def Jb (N:Nat) (a0:ApiValue) (a1:(List UInt8)) (a2:(List ApiProperty)):Option (ApiValue):=
 if((a2.length:Int)==0)=true then
  some (a0)
 else
  AA (d:=.b (4,20) [(9,1),(15,21)] [] (fun j1:Int×(List UInt8)×(List (List UInt8))×(List ApiValue)=>[]) fun j1=>[.s ([.int .i64 j1.1,.str j1.2.1,.slice 1 (List.map AVal.str j1.2.2.1) false,.slice 4 (List.map AB j1.2.2.2) false])]) (fun j1:Int×(List UInt8)×(List (List UInt8))×(List ApiValue)=>
   Option.bind (G8 N a0 a1 (ApiValue.mk j1.1 j1.2.1 j1.2.2.1 j1.2.2.2)) fun y16=>
   some (y16)) fun k2=>
  grd (AU (a2.length)) (
   Eg N k2 a2 7 [] [] [])
def FX (N:Nat) (k14:((List ApiValue)→Option (ApiValue))):List ApiLink→(List ApiValue)→Option (ApiValue)
  |[],bn12_items=>
  k14 bn12_items
  |xk17::xs,bn12_items=>
  Option.bind (Kh N xk17.rel) fun y18=>
  Option.bind (G8 N (ApiValue.mk 7 [] [] []) ([114,101,108]:List UInt8) y18) fun y20=>
  Option.bind (Kj N y20 ([116,121,112,101]:List UInt8) xk17.type_) fun y22=>
  Option.bind (Kj N y22 ([104,114,101,102]:List UInt8) xk17.href) fun y24=>
  Option.bind (Kj N y24 ([116,101,109,112,108,97,116,101]:List UInt8) xk17.template) fun y26=>
  Option.bind (Jb N y26 ([116,105,116,108,101,115]:List UInt8) xk17.titles) fun y28=>
  Option.bind (Jb N y28 ([112,114,111,112,101,114,116,105,101,115]:List UInt8) xk17.properties) fun y30=>
  grd (Ah (bn12_items.length+1) 72) (
  FX N k14 xs (bn12_items++[y30]))
def Lx (N:Nat) (a0:ApiJRD):Option (ApiValue):=
 Option.bind (Kj N (ApiValue.mk 7 [] [] []) ([115,117,98,106,101,99,116]:List UInt8) a0.subject) fun y1=>
 AA (d:=.b (2,5) [(12,9)] [] (fun j3:ApiValue=>[]) fun j3=>[.s ([.int .i64 j3.kind,.str j3.text,.slice 1 (List.map AVal.str j3.keys) false,.slice 4 (List.map AB j3.items) false])]) (fun j3:ApiValue=>
  Option.bind (Jb N j3 ([112,114,111,112,101,114,116,105,101,115]:List UInt8) a0.properties) fun y11=>
  if((a0.links.length:Int)==0)=true then
   some (y11)
  else
   AA (d:=.b (8,22) [(6,2),(31,36)] [] (fun j13:(List ApiValue)=>[]) fun j13=>[.p [.k,.k,.k,.v (.slice 4 (List.map AB j13) true)]]) (fun j13:(List ApiValue)=>
    Option.bind (G8 N y11 ([108,105,110,107,115]:List UInt8) (ApiValue.mk 6 [] [] j13)) fun y32=>
    some (y32)) fun k14=>
   grd (AU (a0.links.length)) (
    FX N k14 a0.links [])) fun k4=>
 if(decide ((a0.aliases.length:Int)>0))=true then
  Option.bind (PO N a0.aliases) fun y7=>
  Option.bind (G8 N y1 ([97,108,105,97,115,101,115]:List UInt8) y7) fun y9=>
  k4 y9
 else
  k4 y1
def Ef (N:Nat) (k12:((List (List UInt8))×(List ApiLink)×MadeDice→Option ((List UInt8)×(List UInt8)×MadeDice))):List (List UInt8)→(List (List UInt8))→(List ApiLink)→MadeDice→Option ((List UInt8)×(List UInt8)×MadeDice)
  |[],bn41_aliases,bn41_links,bi0=>
  k12 (bn41_aliases,bn41_links,bi0)
  |xk15::xs,bn41_aliases,bn41_links,bi0=>
  AA (d:=.b (2,8) [(13,1),(54,18)] [] (fun j16:(List (List UInt8))×(List ApiLink)×MadeDice=>[]) fun j16=>[.p [.k,.v (.slice 1 (List.map AVal.str j16.1) true),.k,.v (.slice 6 (List.map BS j16.2.1) true)],.k,.k,.s ([.slice 1 (List.map (AVal.int .u8) j16.2.2.l) false])]) (fun j16:(List (List UInt8))×(List ApiLink)×MadeDice=>
   Ef N k12 xs j16.1 j16.2.1 j16.2.2) fun k17=>
  Option.bind (CY N bi0 2) fun y20=>
  if(y20.1==0)=true then
   grd (Ah (bn41_links.length+1) 112) (
   k17 (bn41_aliases,(bn41_links++[(ApiLink.mk ([115,101,108,102]:List UInt8) [] xk15 [] [] [])]),y20.2))
  else
   grd (Ah (bn41_aliases.length+1) 16) (
   k17 ((bn41_aliases++[xk15]),bn41_links,y20.2))
def Na (N:Nat) (a0:MadeDice) (a1:ApiID) (a2:(List (List UInt8))):Option ((List UInt8)×(List UInt8)×MadeDice):=
 AA (d:=.b (2,28) [(6,2),(18,14)] [8,9] (fun j1:(List UInt8)×(List UInt8)×MadeDice=>[.str j1.1,.str j1.2.1]) fun j1=>[.k,.s ([.slice 1 (List.map (AVal.int .u8) j1.2.2.l) false])]) (fun j1:(List UInt8)×(List UInt8)×MadeDice=>
  AA (d:=.b (14,40) [(11,1),(13,1),(32,53)] [9] (fun j7:ApiValue×MadeDice=>[.str j1.2.1]) fun j7=>[.s ([.int .i64 j7.1.kind,.str j7.1.text,.slice 1 (List.map AVal.str j7.1.keys) false,.slice 4 (List.map AB j7.1.items) false]),.k,.s ([.slice 1 (List.map (AVal.int .u8) j7.2.l) false])]) (fun j7:ApiValue×MadeDice=>
   Option.bind (Mx N j7.1) fun y30=>
   some (y30.1,j1.2.1,j7.2)) fun k8=>
  if(a1.kind==4)=true then
   (none:Option ((List UInt8)×(List UInt8)×MadeDice))
  else
   AA (d:=.b (19,20) [(13,1),(50,23)] [] (fun j11:(List (List UInt8))×(List ApiLink)×MadeDice=>[]) fun j11=>[.p [.k,.v (.slice 1 (List.map AVal.str j11.1) true),.k,.v (.slice 6 (List.map BS j11.2.1) true)],.k,.k,.s ([.slice 1 (List.map (AVal.int .u8) j11.2.2.l) false])]) (fun j11:(List (List UInt8))×(List ApiLink)×MadeDice=>
    AA (d:=.b (26,5) [(73,10)] [] (fun j22:(List UInt8)×(List (List UInt8))×MadeDice=>[]) fun j22=>[.s ([.str j22.1,.slice 1 (List.map AVal.str j22.2.1) true,.slice 3 (List.map BM []) true,.slice 6 (List.map BS j11.2.1) true]),.k,.k,.s ([.slice 1 (List.map (AVal.int .u8) j22.2.2.l) false])]) (fun j22:(List UInt8)×(List (List UInt8))×MadeDice=>
     Option.bind (Lx N (ApiJRD.mk j22.1 j22.2.1 [] j11.2.1)) fun y28=>
     k8 (y28,j22.2.2)) fun k23=>
    Option.bind (CY N j11.2.2 6) fun y26=>
    if(y26.1==0)=true then
     grd (Ah (j11.1.length+1) 16) (
     k23 (([104,116,116,112,115,58,47,47,120,46,101,120,97,109,112,108,101,47]:List UInt8),(j11.1++[j1.1]),y26.2))
    else
     k23 (j1.1,j11.1,y26.2)) fun k12=>
   grd (AU (a2.length)) (
    Ef N k12 a2 [] [] j1.2.2)) fun k2=>
 Option.bind (CY N a0 24) fun y5=>
 if(y5.1==1)=true then
  k2 (([97,99,99,116,58,111,116,104,101,114,64,97,46,101,120,97,109,112,108,101]:List UInt8),([97,112,112,108,105,99,97,116,105,111,110,47,106,114,100,43,106,115,111,110]:List UInt8),y5.2)
 else
  if(y5.1==2)=true then
   some (([123,34,115,117,98,106,101,99,116,34,58]:List UInt8),([97,112,112,108,105,99,97,116,105,111,110,47,106,114,100,43,106,115,111,110]:List UInt8),y5.2)
  else
   if(y5.1==3)=true then
    k2 (a1.text,([116,101,120,116,47,104,116,109,108]:List UInt8),y5.2)
   else
    if(y5.1==4)=true then
     some (([123,34,105,100,34,58,49,44,34,108,105,110,107,115,34,58,91,123,125,93,125]:List UInt8),([97,112,112,108,105,99,97,116,105,111,110,47,106,114,100,43,106,115,111,110]:List UInt8),y5.2)
    else
     if(y5.1==5)=true then
      k2 (a1.text,[],y5.2)
     else
      k2 (a1.text,([97,112,112,108,105,99,97,116,105,111,110,47,106,114,100,43,106,115,111,110]:List UInt8),y5.2)
def FL (N:Nat) (k8:((List UInt8)→Option ((List UInt8)))):List ApiField→(List UInt8)→Option ((List UInt8))
  |[],s4=>
  k8 s4
  |xk11::xs,s4=>
  grd (AU (xk11.name.length+([58,32]:List UInt8).length)) (
  grd (AU ((xk11.name++([58,32]:List UInt8)).length+xk11.value.length)) (
  grd (AU (((xk11.name++([58,32]:List UInt8))++xk11.value).length+([13,10]:List UInt8).length)) (
  grd (AU (s4.length+(((xk11.name++([58,32]:List UInt8))++xk11.value)++([13,10]:List UInt8)).length)) (
  FL N k8 xs (s4++(((xk11.name++([58,32]:List UInt8))++xk11.value)++([13,10]:List UInt8)))))))
def OU (N:Nat) (a0:ApiHead):Option ((List UInt8)):=
 AA (d:=.a (2,5) [(7,3)] [3] (fun j1:(List UInt8)=>[.str j1])) (fun j1:(List UInt8)=>
  grd (AU (([72,84,84,80,47,49,46]:List UInt8).length+j1.length)) (
  grd (AU ((([72,84,84,80,47,49,46]:List UInt8)++j1).length+([32]:List UInt8).length)) (
  Option.bind (Kv N a0.status) fun y5=>
  grd (AU (((([72,84,84,80,47,49,46]:List UInt8)++j1)++([32]:List UInt8)).length+y5.length)) (
  grd (AU ((((([72,84,84,80,47,49,46]:List UInt8)++j1)++([32]:List UInt8))++y5).length+([32,45,13,10]:List UInt8).length)) (
  AA (d:=.a (5,16) [(6,1),(18,17)] [4] (fun j7:(List UInt8)=>[.str j7])) (fun j7:(List UInt8)=>
   grd (AU (j7.length+([13,10]:List UInt8).length)) (
   some ((j7++([13,10]:List UInt8))))) fun k8=>
  grd (AU (a0.fields.length)) (
   FL N k8 a0.fields ((((([72,84,84,80,47,49,46]:List UInt8)++j1)++([32]:List UInt8))++y5)++([32,45,13,10]:List UInt8)))))))) fun k2=>
 if(a0.minor==0)=true then
  k2 ([48]:List UInt8)
 else
  k2 ([49]:List UInt8)
def JE (N:Nat):Nat→Int→(List UInt8)→Option ((List UInt8))
  |0,_,_=>none
  |k+1,s0,s3=>
  Option.bind (sub ([48,49,50,51,52,53,54,55,56,57,97,98,99,100,101,102]:List UInt8) (s0.tmod 16) (wr .i64 ((s0.tmod 16)+1))) fun x2=>
  grd (AU (x2.length+s3.length)) (
  if((wr .i64 (s0.tdiv 16))==0)=true then
   some ((x2++s3))
  else
   JE N k (wr .i64 (s0.tdiv 16)) (x2++s3))
def TY (N:Nat) (a0:Int):Option ((List UInt8)):=
 JE N N a0 []
def FJ (N:Nat) (a1:Int) (k2:((List UInt8)→Option ((List UInt8)))):Nat→(List UInt8)→(List UInt8)→Option ((List UInt8))
  |0,_,_=>none
  |k+1,s0,s5=>
  if(s0==[])=true then
   k2 s5
  else
   Option.bind (TY N (if(s0.length:Int)<(if a1>1 then a1 else 1)then(s0.length:Int)else(if a1>1 then a1 else 1))) fun y6=>
   grd (AU (s5.length+y6.length)) (
   grd (AU ((s5++y6).length+([13,10]:List UInt8).length)) (
   Option.bind (sub s0 0 (if(s0.length:Int)<(if a1>1 then a1 else 1)then(s0.length:Int)else(if a1>1 then a1 else 1))) fun x8=>
   grd (AU (((s5++y6)++([13,10]:List UInt8)).length+x8.length)) (
   grd (AU ((((s5++y6)++([13,10]:List UInt8))++x8).length+([13,10]:List UInt8).length)) (
   Option.bind (sub s0 (if(s0.length:Int)<(if a1>1 then a1 else 1)then(s0.length:Int)else(if a1>1 then a1 else 1)) (s0.length:Int)) fun x9=>
   FJ N a1 k2 k x9 ((((s5++y6)++([13,10]:List UInt8))++x8)++([13,10]:List UInt8))))))
def OX (N:Nat) (a0:(List UInt8)) (a1:Int):Option ((List UInt8)):=
 AA (d:=.a (0,12) [(0,1),(6,21)] [5] (fun j1:(List UInt8)=>[.str j1])) (fun j1:(List UInt8)=>
  grd (AU (j1.length+([48,13,10,13,10]:List UInt8).length)) (
  some ((j1++([48,13,10,13,10]:List UInt8))))) fun k2=>
 FJ N a1 k2 N a0 []
def WQ (N:Nat) (a0:Int) (a1:(List UInt8)) (a2:(List UInt8)) (a3:(List ApiField)) (a4:Bool):Option ((List UInt8)):=
 AA (d:=.b (2,5) [(14,9)] [] (fun j1:(List ApiField)=>[]) fun j1=>[.p [.k,.k,.v (.slice 2 (List.map Ae j1) true)]]) (fun j1:(List ApiField)=>
  grd (Ah (j1.length+a3.length) 32) (
  if a4=true then
   grd (Ah ((j1++a3).length+1) 32) (
   Option.bind (OU N (ApiHead.mk 1 a0 ((j1++a3)++[(ApiField.mk ([116,114,97,110,115,102,101,114,45,101,110,99,111,100,105,110,103]:List UInt8) ([99,104,117,110,107,101,100]:List UInt8))]))) fun y5=>
   Option.bind (OX N a2 50) fun y7=>
   grd (AU (y5.length+y7.length)) (
   some ((y5++y7))))
  else
   (none:Option ((List UInt8))))) fun k2=>
 if(a1==[])=true then
  k2 []
 else
  grd (Ah (([]:List ApiField).length+1) 32) (
  k2 [(ApiField.mk ([99,111,110,116,101,110,116,45,116,121,112,101]:List UInt8) a1)])
def OV (N:Nat) (a0:MadeDice):Option ((List ApiField)×MadeDice):=
 letL ([([109,97,120,45,97,103,101,61,49,48,48]:List UInt8),([109,97,120,45,97,103,101,61,49,48,48,48,44,32,112,117,98,108,105,99]:List UInt8),([109,97,120,45,97,103,101,61,53]:List UInt8),([109,97,120,45,97,103,101,61,57,57,57,57,57,57,57,57,57]:List UInt8),([110,111,45,115,116,111,114,101,44,32,109,97,120,45,97,103,101,61,57]:List UInt8),([112,114,105,118,97,116,101]:List UInt8),([109,97,120,45,97,103,101,61,120]:List UInt8)]:(List (List UInt8))) fun l1=>
 Option.bind (F6 N a0 l1) fun y2=>
 AA (d:=.b (2,5) [(9,10)] [3] (fun j4:(List ApiField)×MadeDice=>[.slice 2 (List.map Ae j4.1) true]) fun j4=>[.s ([.slice 1 (List.map (AVal.int .u8) j4.2.l) false])]) (fun j4:(List ApiField)×MadeDice=>
  some (j4.1,j4.2)) fun k5=>
 Option.bind (CY N y2.2 4) fun y8=>
 if(y8.1==0)=true then
  letL ([([52,48]:List UInt8),([51]:List UInt8),([49,48,48,48]:List UInt8),([121]:List UInt8)]:(List (List UInt8))) fun l10=>
  Option.bind (F6 N y8.2 l10) fun y11=>
  grd (Ah ([(ApiField.mk ([99,97,99,104,101,45,99,111,110,116,114,111,108]:List UInt8) y2.1)].length+1) 32) (
  k5 (([(ApiField.mk ([99,97,99,104,101,45,99,111,110,116,114,111,108]:List UInt8) y2.1)]++[(ApiField.mk ([97,103,101]:List UInt8) y11.1)]),y11.2))
 else
  k5 ([(ApiField.mk ([99,97,99,104,101,45,99,111,110,116,114,111,108]:List UInt8) y2.1)],y8.2)
def Ph (N:Nat) (a0:ApiURL) (a1:(List UInt8)):Option (ApiAnswer):=
 Option.bind (KX N a0) fun y1=>
 some ((ApiAnswer.mk a0.host a0.port y1 a1 0 0 0))
def OT (N:Nat) (a0:MadeDice) (a1:ApiURL) (a2:(List UInt8)):Option ((List ApiAnswer)×MadeDice):=
 AA (d:=.b (2,5) [(11,5)] [7] (fun j1:Int×MadeDice=>[.int .i64 j1.1]) fun j1=>[.k,.s ([.slice 1 (List.map (AVal.int .u8) j1.2.l) false])]) (fun j1:Int×MadeDice=>
  if(j1.1==0)=true then
   Option.bind (Ph N a1 a2) fun y9=>
   some ([y9],j1.2)
  else
   letL ([([97,46,101,120,97,109,112,108,101]:List UInt8),([101,46,101,120,97,109,112,108,101]:List UInt8)]:(List (List UInt8))) fun l11=>
   Option.bind (F6 N j1.2 l11) fun y12=>
   Option.bind (CY N y12.2 9) fun y14=>
   (none:Option ((List ApiAnswer)×MadeDice))) fun k2=>
 Option.bind (CY N a0 3) fun y5=>
 if(y5.1==0)=true then
  Option.bind (CY N y5.2 7) fun y7=>
  k2 (y7.1,y7.2)
 else
  k2 (0,y5.2)
def Pj (N:Nat) (a0:ApiID):Option (Bool):=
 Option.bind (Fw N a0.text) fun y1=>
 if(y1.2==0)=true then
  some ((y1.1.kind==a0.kind&&(y1.1.text==a0.text&&(y1.1.host==a0.host&&y1.1.port==a0.port))))
 else
  some (false)
def PL (N:Nat) (a0:ApiID) (a1:(List UInt8)):Option (ApiURL×Int):=
 Option.bind (Pj N a0) fun y1=>
 if y1=true then
  some ((ApiURL.mk a0.host a0.port a1 [] [] false false),0)
 else
  some ((ApiURL.mk [] 0 [] [] [] false false),8)
def NI (N:Nat) (a0:ApiID):Option (ApiURL×Int):=
 Option.bind (PL N a0 ([47,46,119,101,108,108,45,107,110,111,119,110,47,119,101,98,102,105,110,103,101,114]:List UInt8)) fun y1=>
 if(y1.2 !=0)=true then
  some ((ApiURL.mk [] 0 [] [] [] false false),y1.2)
 else
  Option.bind (Oi N a0.text []) fun y3=>
  grd (AU (([114,101,115,111,117,114,99,101,61]:List UInt8).length+y3.length)) (
  Option.bind (I7 N (ApiURL.mk y1.1.host y1.1.port y1.1.path (([114,101,115,111,117,114,99,101,61]:List UInt8)++y3) y1.1.fragment true y1.1.hasFrag)) fun y5=>
  if(decide ((y5.length:Int)>4096))=true then
   some ((ApiURL.mk [] 0 [] [] [] false false),5)
  else
   some ((ApiURL.mk y1.1.host y1.1.port y1.1.path (([114,101,115,111,117,114,99,101,61]:List UInt8)++y3) y1.1.fragment true y1.1.hasFrag),0))
def MV (N:Nat) (a0:ApiID):Option (ApiURL×Int):=
 Option.bind (PL N a0 ([47,46,119,101,108,108,45,107,110,111,119,110,47,104,111,115,116,45,109,101,116,97,46,106,115,111,110]:List UInt8)) fun y1=>
 some (y1.1,y1.2)
def Rc (N:Nat) (a0:ApiID):Option (ApiURL×Int):=
 Option.bind (PL N a0 ([47]:List UInt8)) fun y1=>
 some (y1.1,y1.2)
def IK (N:Nat) (a1:(List UInt8)) (k2:((List ApiLink)→Option ((List ApiLink)))):List ApiLink→(List ApiLink)→Option ((List ApiLink))
  |[],s5=>
  k2 s5
  |xk5::xs,s5=>
  AA (d:=.a (1,8) [(7,1),(13,10)] [5] (fun j6:(List ApiLink)=>[.slice 6 (List.map BS j6) true])) (fun j6:(List ApiLink)=>
   IK N a1 k2 xs j6) fun k7=>
  if(xk5.rel==a1)=true then
   grd (Ah (s5.length+1) 112) (
   k7 (s5++[xk5]))
  else
   k7 s5
def Qs (N:Nat) (a0:ApiJRD) (a1:(List UInt8)):Option ((List ApiLink)):=
 AA (d:=.a (2,20) [(7,17)] [5] (fun j1:(List ApiLink)=>[.slice 6 (List.map BS j1) true])) (fun j1:(List ApiLink)=>
  some (j1)) fun k2=>
 grd (AU (a0.links.length)) (
  IK N a1 k2 a0.links [])
def FI (N:Nat) (a1:(List UInt8)) (k2:((List (List UInt8))→Option ((List (List UInt8))))):List ApiField→(List (List UInt8))→Option ((List (List UInt8)))
  |[],s5=>
  k2 s5
  |xk5::xs,s5=>
  AA (d:=.a (1,8) [(7,1),(13,11)] [5] (fun j6:(List (List UInt8))=>[.slice 1 (List.map AVal.str j6) true])) (fun j6:(List (List UInt8))=>
   FI N a1 k2 xs j6) fun k7=>
  Option.bind (Jy N xk5.name a1) fun y10=>
  if y10=true then
   grd (Ah (s5.length+1) 16) (
   k7 (s5++[xk5.value]))
  else
   k7 s5
def Oa (N:Nat) (a0:ApiHead) (a1:(List UInt8)):Option ((List (List UInt8))):=
 AA (d:=.a (2,20) [(7,18)] [5] (fun j1:(List (List UInt8))=>[.slice 1 (List.map AVal.str j1) true])) (fun j1:(List (List UInt8))=>
  some (j1)) fun k2=>
 grd (AU (a0.fields.length)) (
  FI N a1 k2 a0.fields [])
def JI (N:Nat) (k4:((List UInt8)→Option ((List UInt8)×Bool))):List (List UInt8)→Int→(List UInt8)→Option ((List UInt8)×Bool)
  |[],s15,s7=>
  k4 s7
  |xk7::xs,s15,s7=>
  AA (d:=.a (6,5) [(20,4)] [7] (fun j8:(List UInt8)=>[.str j8])) (fun j8:(List UInt8)=>
   grd (AU (j8.length+xk7.length)) (
   JI N k4 xs (s15+1) (j8++xk7))) fun k9=>
  if(decide (s15>0))=true then
   grd (AU (s7.length+([44,32]:List UInt8).length)) (
   k9 (s7++([44,32]:List UInt8)))
  else
   k9 s7
def Kk (N:Nat) (a0:ApiHead) (a1:(List UInt8)):Option ((List UInt8)×Bool):=
 Option.bind (Oa N a0 a1) fun y1=>
 AA (d:=.a (3,22) [(8,2),(13,15)] [7] (fun j3:(List UInt8)=>[.str j3])) (fun j3:(List UInt8)=>
  some (j3,(decide ((y1.length:Int)>0)))) fun k4=>
 grd (AU (y1.length)) (
  JI N k4 y1 0 [])
def Lb (N:Nat) (a0:Int):Option (Bool):=
 if(a0==32)=true then
  some (true)
 else
  some ((a0==9))
def IW (N:Nat) (a0:(List UInt8)) (k2:(Int→Option (Int))):Nat→Int→Option (Int)
  |0,_=>none
  |k+1,s1=>
  AA (d:=.a (1,1) [(5,9)] [14] (fun j6:Bool=>[.bool j6])) (fun j6:Bool=>
   if j6=true then
    IW N a0 k2 k (wr .i64 (s1+1))
   else
    k2 s1) fun k7=>
  if(decide (s1<(a0.length:Int)))=true then
   Option.bind (idx a0 s1) fun x10=>
   Option.bind (Lb N (AX x10)) fun y11=>
   k7 y11
  else
   k7 false
def Jn (N:Nat) (a0:(List UInt8)) (a1:Int):Option (Int):=
 AA (d:=.a (0,10) [(5,12)] [1] (fun j1:Int=>[.int .i64 j1])) (fun j1:Int=>
  some (j1)) fun k2=>
 IW N a0 k2 N a1
def Lg (N:Nat) (a0:Int):Option (Bool):=
 if(a0==9)=true then
  some (true)
 else
  if(decide (a0≥32))=true then
   some ((a0 !=127))
  else
   some (false)
def LB (N:Nat) (a0:Int):Option (Bool):=
 Option.bind (Fz N a0) fun y1=>
 if y1=true then
  some (true)
 else
  Option.bind (Di N a0) fun y3=>
  if y3=true then
   some (true)
  else
   Option.bind (Jc N a0 ([33,35,36,37,38,39,42,43,45,46,94,95,96,124,126]:List UInt8)) fun y5=>
   some (y5)
def Gr (N:Nat) (a0:(List UInt8)) (k2:(Int→Option ((List UInt8)×Int×Bool))):Nat→Int→Option ((List UInt8)×Int×Bool)
  |0,_=>none
  |k+1,s7=>
  AA (d:=.a (2,1) [(9,9)] [18] (fun j6:Bool=>[.bool j6])) (fun j6:Bool=>
   if j6=true then
    Gr N a0 k2 k (wr .i64 (s7+1))
   else
    k2 s7) fun k7=>
  if(decide (s7<(a0.length:Int)))=true then
   Option.bind (idx a0 s7) fun x10=>
   Option.bind (LB N (AX x10)) fun y11=>
   k7 y11
  else
   k7 false
def Io (N:Nat) (a0:(List UInt8)) (a1:Int):Option ((List UInt8)×Int×Bool):=
 AA (d:=.a (0,10) [(9,12)] [7] (fun j1:Int=>[.int .i64 j1])) (fun j1:Int=>
  if(decide (j1≤a1))=true then
   some ([],0,false)
  else
   Option.bind (sub a0 a1 j1) fun x13=>
   some (x13,j1,true)) fun k2=>
 Gr N a0 k2 N a1
def NG (N:Nat) (a0:(List UInt8)) (a1:Int):Option ((List UInt8)×Int×Bool):=
 AA (d:=.a (1,1) [(7,9)] [16] (fun j1:Bool=>[.bool j1])) (fun j1:Bool=>
  if j1=true then
   (none:Option ((List UInt8)×Int×Bool))
  else
   Option.bind (Io N a0 a1) fun y6=>
   some (y6.1,y6.2.1,y6.2.2)) fun k2=>
 if(decide (a1<(a0.length:Int)))=true then
  Option.bind (idx a0 a1) fun x5=>
  k2 ((AX x5)==34)
 else
  k2 false
def Oc (N:Nat) (a0:MadeDice) (a1:ApiID) (a2:(List (List UInt8))):Option ((List ApiAnswer)×MadeDice):=
 Option.bind (Na N a0 a1 a2) fun y1=>
 Option.bind (OV N y1.2.2) fun y3=>
 Option.bind (CY N y3.2 3) fun y5=>
 Option.bind (WQ N 200 y1.2.1 y1.1 y3.1 (y5.1==0)) fun y7=>
 if(a1.kind==4)=true then
  (none:Option ((List ApiAnswer)×MadeDice))
 else
  Option.bind (NI N a1) fun y9=>
  Option.bind (MV N a1) fun y11=>
  Option.bind (Rc N a1) fun y13=>
  Option.bind (CY N y5.2 8) fun y15=>
  if(y15.1==1)=true then
   (none:Option ((List ApiAnswer)×MadeDice))
  else
   AA (d:=.a (15,5) [(96,2)] [95] (fun j17:Bool=>[.bool j17])) (fun j17:Bool=>
    if j17=true then
     letL ([([104,116,116,112,115,58,47,47,101,46,101,120,97,109,112,108,101,47,108,114,100,100,63,114,61,123,117,114,105,125]:List UInt8),([104,116,116,112,115,58,47,47,97,46,101,120,97,109,112,108,101,47,123,117,114,105,125]:List UInt8),([104,116,116,112,58,47,47,101,46,101,120,97,109,112,108,101,47,123,117,114,105,125]:List UInt8),([104,116,116,112,115,58,47,47,101,46,101,120,97,109,112,108,101,47,123,120,125]:List UInt8),[]]:(List (List UInt8))) fun l21=>
     Option.bind (F6 N y15.2 l21) fun y22=>
     letL ([(ApiLink.mk ([111,116,104,101,114]:List UInt8) [] [] ([104,116,116,112,115,58,47,47,122,46,101,120,97,109,112,108,101,47,123,117,114,105,125]:List UInt8) [] []),(ApiLink.mk ([108,114,100,100]:List UInt8) [] [] y22.1 [] [])]:(List ApiLink)) fun l24=>
     Option.bind (Lx N (ApiJRD.mk [] [] [] l24)) fun y25=>
     Option.bind (Mx N y25) fun y27=>
     (none:Option ((List ApiAnswer)×MadeDice))
    else
     if(y15.1==4)=true then
      letL ([([104,116,116,112,115,58,47,47,101,46,101,120,97,109,112,108,101,47,108,105,110,107]:List UInt8),([47,104,101,114,101]:List UInt8),([120,63,121]:List UInt8),([104,116,116,112,58,47,47,101,46,101,120,97,109,112,108,101,47]:List UInt8)]:(List (List UInt8))) fun l29=>
      Option.bind (F6 N y15.2 l29) fun y30=>
      grd (AU (([60]:List UInt8).length+y30.1.length)) (
      grd (AU ((([60]:List UInt8)++y30.1).length+([62,59,32,114,101,108,61,34,108,114,100,100,32,120,34]:List UInt8).length)) (
      (none:Option ((List ApiAnswer)×MadeDice))))
     else
      Option.bind (OT N y15.2 y9.1 y7) fun y32=>
      some (y32.1,y32.2)) fun k18=>
   if(y15.1==2)=true then
    k18 (y15.1==2)
   else
    k18 (y15.1==3)
def MN (N:Nat):Option ((List UInt8)×(List ApiAnswer)):=
 Option.bind (SV N []) fun y1=>
 Option.bind (Fw N ([97,99,99,116,58,98,111,98,64,97,46,101,120,97,109,112,108,101]:List UInt8)) fun y4=>
 Option.bind (Fw N ([104,116,116,112,115,58,47,47,98,46,101,120,97,109,112,108,101,47,98,111,98]:List UInt8)) fun y6=>
 Option.bind (Oc N y1 y4.1 [y6.1.text]) fun y8=>
 Option.bind (Oc N y8.2 y6.1 [y4.1.text]) fun y10=>
 grd (Ah (y8.1.length+y10.1.length) 80) (
 some (y4.1.text,(y8.1++y10.1)))
def Qz (N:Nat) (a0:ApiURL):Option (ApiURL):=
 some ((ApiURL.mk a0.host a0.port a0.path a0.query [] a0.hasQuery false))
def Pm (N:Nat) (a0:ApiURL):Option (ApiFetch):=
 Option.bind (NK N a0) fun y1=>
 if y1=true then
  Option.bind (Qz N a0) fun y3=>
  some ((ApiFetch.mk y3 0 false 0 (ApiResponse.mk (ApiURL.mk [] 0 [] [] [] false false) (ApiHead.mk 0 0 []) [] []) [y3]))
 else
  some ((ApiFetch.mk (ApiURL.mk [] 0 [] [] [] false false) 0 true 8 (ApiResponse.mk (ApiURL.mk [] 0 [] [] [] false false) (ApiHead.mk 0 0 []) [] []) []))
def Em (N:Nat) (a0:Int):Option (Bool):=
 if(decide (a0≥301))=true then
  if(decide (a0≤303))=true then
   some (true)
  else
   if(a0==307)=true then
    some (true)
   else
    some ((a0==308))
 else
  if(a0==307)=true then
   some (true)
  else
   some ((a0==308))
def Qr (N:Nat) (a0:ApiAnswer) (a1:ApiURL) (a2:Int):Option (Bool):=
 if (a0.host==a1.host)=true then
  if (a0.port==a1.port)=true then
   Option.bind (KX N a1) fun y1=>
   if(a0.target==y1)=true then
    if(decide (a0.from_≤a2))=true then
     if(a0.until_==0)=true then
      some (true)
     else
      some ((decide (a0.until_>a2)))
    else
     some (false)
   else
    some (false)
  else
   some (false)
 else
  some (false)
def JC (N:Nat) (a1:ApiURL) (a2:Int) (k4:(Unit→Option ((List UInt8)×Int))):List ApiAnswer→Option ((List UInt8)×Int)
  |[]=>
  k4 ()
  |xk7::xs=>
  Option.bind (Qr N xk7 a1 a2) fun y8=>
  if y8=true then
   if(xk7.fail==1)=true then
    some ([],240)
   else
    if(xk7.fail==2)=true then
     some ([],241)
    else
     if(xk7.fail==3)=true then
      some ([],242)
     else
      if(xk7.fail==4)=true then
       some ([],243)
      else
       some (xk7.raw,0)
  else
   JC N a1 a2 k4 xs
def Tg (N:Nat) (a0:(List ApiAnswer)) (a1:ApiURL) (a2:Int):Option ((List UInt8)×Int):=
 Option.bind (NK N a1) fun y1=>
 if y1=true then
  AA (d:=.a (3,53) [(6,2),(9,1),(13,24)] [] (fun j3:Unit=>[])) (fun j3:Unit=>
   some ([],241)) fun k4=>
  grd (AU (a0.length)) (
   JC N a1 a2 k4 a0)
 else
  some ([],8)
def La (N:Nat) (a0:ApiFetch) (a1:Int) (a2:Int) (a3:Int):Option (ApiFetch):=
 Option.bind (sub a0.final.trace 0 (a0.final.trace.length:Int)) fun x1=>
 grd (Ah (x1.length+1) 96) (
 AA (d:=.b (2,5) [(30,5)] [] (fun j2:Bool×Int=>[]) fun j2=>[.k,.p [.k,.k,.k,.k,.k,.k,.k,.k,.v (.bool j2.1),.v (.int .i64 j2.2)]]) (fun j2:Bool×Int=>
  some ((ApiFetch.mk a0.next a0.hops j2.1 j2.2 (ApiResponse.mk (ApiURL.mk [] 0 [] [] [] false false) (ApiHead.mk 0 0 []) [] (x1++[(ApiExchange.mk a0.next a1 a2)])) a0.seen))) fun k3=>
 if(a3 !=0)=true then
  k3 (true,a3)
 else
  k3 (a0.done,a0.err))
def Hu (N:Nat) (a0:(List UInt8)) (a1:(List UInt8)) (k2:(Unit→Option (Int))):Nat→Int→Option (Int)
  |0,_=>none
  |k+1,s5=>
  if(decide ((wr .i64 (s5+(a1.length:Int)))≤(a0.length:Int)))=true then
   Option.bind (sub a0 s5 (wr .i64 (s5+(a1.length:Int)))) fun x6=>
   if(x6==a1)=true then
    some (s5)
   else
    Hu N a0 a1 k2 k (wr .i64 (s5+1))
  else
   k2 ()
def Me (N:Nat) (a0:(List UInt8)) (a1:(List UInt8)):Option (Int):=
 AA (d:=.a (1,20) [(4,21)] [] (fun j1:Unit=>[])) (fun j1:Unit=>
  some ((-1))) fun k2=>
 Hu N a0 a1 k2 N 0
def NE (N:Nat) (a0:(List UInt8)) (a1:Int):Option (Int×Int):=
 Option.bind (LV N a0 10 a1) fun y1=>
 some (y1.1,y1.2)
def Dp (N:Nat) (k2:(Unit→Option (Bool))):List UInt8→Option (Bool)
  |[]=>
  k2 ()
  |xk5::xs=>
  Option.bind (Lg N (AX xk5)) fun y6=>
  if y6=true then
   Dp N k2 xs
  else
   some (false)
def Gx (N:Nat) (a0:(List UInt8)):Option (Bool):=
 AA (d:=.a (1,20) [(2,13)] [] (fun j1:Unit=>[])) (fun j1:Unit=>
  some (true)) fun k2=>
 grd (AU (a0.length)) (
  Dp N k2 a0)
def OW (N:Nat) (a0:(List UInt8)):Option (ApiHead×Bool):=
 AA (d:=.a (1,1) [(6,39)] [45] (fun j1:Bool=>[.bool j1])) (fun j1:Bool=>
  if j1=true then
   some ((ApiHead.mk 0 0 []),false)
  else
   Option.bind (sub a0 9 12) fun x23=>
   Option.bind (NE N x23 999) fun y24=>
   Option.bind (idx a0 7) fun x26=>
   if(decide (y24.1≥100))=true then
    some ((ApiHead.mk (wr .i64 (wr .u8 ((AX x26)-48))) (wr .i64 y24.1) []),(decide (y24.1≤599)))
   else
    some ((ApiHead.mk (wr .i64 (wr .u8 ((AX x26)-48))) (wr .i64 y24.1) []),false)) fun k2=>
 if(decide ((a0.length:Int)<13))=true then
  k2 true
 else
  Option.bind (sub a0 0 7) fun x5=>
  if (x5==([72,84,84,80,47,49,46]:List UInt8))=true then
   Option.bind (idx a0 7) fun x6=>
   if ((AX x6) !=48)=true then
    if((AX x6) !=49)=true then
     k2 true
    else
     Option.bind (idx a0 8) fun x7=>
     if((AX x7) !=32)=true then
      k2 true
     else
      Option.bind (idx a0 12) fun x8=>
      if((AX x8) !=32)=true then
       k2 true
      else
       Option.bind (sub a0 9 12) fun x9=>
       Option.bind (KO N x9) fun y10=>
       if y10=true then
        Option.bind (sub a0 13 (a0.length:Int)) fun x12=>
        Option.bind (Gx N x12) fun y13=>
        k2 (!y13)
       else
        k2 true
   else
    Option.bind (idx a0 8) fun x15=>
    if((AX x15) !=32)=true then
     k2 true
    else
     Option.bind (idx a0 12) fun x16=>
     if((AX x16) !=32)=true then
      k2 true
     else
      Option.bind (sub a0 9 12) fun x17=>
      Option.bind (KO N x17) fun y18=>
      if y18=true then
       Option.bind (sub a0 13 (a0.length:Int)) fun x20=>
       Option.bind (Gx N x20) fun y21=>
       k2 (!y21)
      else
       k2 true
  else
   k2 true
def FD (N:Nat) (k2:(Unit→Option (Bool))):List UInt8→Option (Bool)
  |[]=>
  k2 ()
  |xk5::xs=>
  Option.bind (LB N (AX xk5)) fun y6=>
  if y6=true then
   FD N k2 xs
  else
   some (false)
def N9 (N:Nat) (a0:(List UInt8)):Option (Bool):=
 AA (d:=.a (1,20) [(2,13)] [] (fun j1:Unit=>[])) (fun j1:Unit=>
  some ((!(a0==[])))) fun k2=>
 grd (AU (a0.length)) (
  FD N k2 a0)
def Hl (N:Nat) (k15:((List UInt8)→Option ((List UInt8)))):Nat→(List UInt8)→Option ((List UInt8))
  |0,_=>none
  |k+1,s0=>
  AA (d:=.a (3,1) [(13,10)] [23] (fun j19:Bool=>[.bool j19])) (fun j19:Bool=>
   if j19=true then
    Option.bind (sub s0 0 (wr .i64 ((s0.length:Int)-1))) fun x26=>
    Hl N k15 k x26
   else
    k15 s0) fun k20=>
  if(decide ((s0.length:Int)>0))=true then
   Option.bind (idx s0 (wr .i64 ((s0.length:Int)-1))) fun x23=>
   Option.bind (Lb N (AX x23)) fun y24=>
   k20 y24
  else
   k20 false
def H7 (N:Nat) (k2:((List UInt8)→Option ((List UInt8)))):Nat→(List UInt8)→Option ((List UInt8))
  |0,_=>none
  |k+1,s0=>
  AA (d:=.a (1,1) [(3,7)] [10] (fun j6:Bool=>[.bool j6])) (fun j6:Bool=>
   if j6=true then
    Option.bind (sub s0 1 (s0.length:Int)) fun x13=>
    H7 N k2 k x13
   else
    k2 s0) fun k7=>
  if(decide ((s0.length:Int)>0))=true then
   Option.bind (idx s0 0) fun x10=>
   Option.bind (Lb N (AX x10)) fun y11=>
   k7 y11
  else
   k7 false
def Q8 (N:Nat) (a0:(List UInt8)):Option ((List UInt8)):=
 AA (d:=.a (0,10) [(3,10)] [0] (fun j1:(List UInt8)=>[.str j1])) (fun j1:(List UInt8)=>
  AA (d:=.a (2,10) [(13,16)] [0] (fun j14:(List UInt8)=>[.str j14])) (fun j14:(List UInt8)=>
   some (j14)) fun k15=>
  Hl N k15 N j1) fun k2=>
 H7 N k2 N a0
def Gp (N:Nat) (k11:((List ApiField)→Option (ApiHead×Int×Int))):Nat→(List UInt8)→(List ApiField)→Option (ApiHead×Int×Int)
  |0,_,_=>none
  |k+1,s7,bn9_fields=>
  if(s7==[])=true then
   k11 bn9_fields
  else
   AA (d:=.b (1,24) [(3,2),(11,2),(53,47)] [8] (fun j16:Int×(List ApiField)=>[.int .i64 j16.1]) fun j16=>[.p [.k,.k,.v (.slice 2 (List.map Ae j16.2) true)]]) (fun j16:Int×(List ApiField)=>
    Option.bind (sub s7 (wr .i64 (j16.1+2)) (s7.length:Int)) fun x41=>
    Gp N k11 k x41 j16.2) fun k17=>
   if(decide ((bn9_fields.length:Int)≥64))=true then
    some ((ApiHead.mk 0 0 []),0,161)
   else
    Option.bind (Me N s7 ([13,10]:List UInt8)) fun y20=>
    Option.bind (sub s7 0 y20) fun x22=>
    Option.bind (Du N x22 ([58]:List UInt8)) fun y23=>
    AA (d:=.a (20,1) [(65,18)] [83] (fun j25:Bool=>[.bool j25])) (fun j25:Bool=>
     if j25=true then
      some ((ApiHead.mk 0 0 []),0,180)
     else
      Option.bind (sub x22 0 y23) fun x35=>
      Option.bind (Dv N x35) fun y36=>
      Option.bind (sub x22 (wr .i64 (y23+1)) (x22.length:Int)) fun x38=>
      Option.bind (Q8 N x38) fun y39=>
      grd (Ah (bn9_fields.length+1) 32) (
      k17 (y20,(bn9_fields++[(ApiField.mk y36 y39)])))) fun k26=>
    if(y23==(x22.length:Int))=true then
     k26 true
    else
     Option.bind (sub x22 0 y23) fun x29=>
     Option.bind (N9 N x29) fun y30=>
     if y30=true then
      Option.bind (sub x22 (wr .i64 (y23+1)) (x22.length:Int)) fun x32=>
      Option.bind (Gx N x32) fun y33=>
      k26 (!y33)
     else
      k26 true
def Px (N:Nat) (a0:(List UInt8)):Option (ApiHead×Int×Int):=
 Option.bind (sub a0 0 (if 16384<(a0.length:Int)then 16384 else(a0.length:Int))) fun x1=>
 Option.bind (Me N x1 ([13,10,13,10]:List UInt8)) fun y2=>
 if(decide (y2<0))=true then
  if(decide ((a0.length:Int)>16384))=true then
   some ((ApiHead.mk 0 0 []),0,142)
  else
   some ((ApiHead.mk 0 0 []),0,191)
 else
  Option.bind (sub x1 0 (wr .i64 (y2+2))) fun x4=>
  Option.bind (Me N x4 ([13,10]:List UInt8)) fun y5=>
  Option.bind (sub x4 0 y5) fun x7=>
  Option.bind (OW N x7) fun y8=>
  if y8.2=true then
   AA (d:=.b (12,36) [(3,2),(7,2),(11,2),(43,57)] [] (fun j10:(List ApiField)=>[]) fun j10=>[.p [.k,.k,.v (.slice 2 (List.map Ae j10) true)]]) (fun j10:(List ApiField)=>
    some ((ApiHead.mk y8.1.minor y8.1.status j10),(wr .i64 (y2+4)),0)) fun k11=>
   Option.bind (sub x4 (wr .i64 (y5+2)) (x4.length:Int)) fun x14=>
   Gp N k11 N x14 y8.1.fields
  else
   some ((ApiHead.mk 0 0 []),0,180)
def Hq (N:Nat) (a0:(List UInt8)) (a1:Int) (k2:(Unit→Option ((List UInt8)×Int×Int))):Nat→Int→Option ((List UInt8)×Int×Int)
  |0,s7=>
  k2 ()
  |k+1,s7=>
  Option.bind (idx a0 s7) fun x6=>
  if((AX x6)==10)=true then
   some ([],0,190)
  else
   if((AX x6)==13)=true then
    if((s7+1)==(a0.length:Int))=true then
     some ([],0,191)
    else
     Option.bind (idx a0 (s7+1)) fun x7=>
     if((AX x7) !=10)=true then
      some ([],0,190)
     else
      Option.bind (sub a0 a1 s7) fun x8=>
      some (x8,(wr .i64 (s7+2)),0)
   else
    Hq N a0 a1 k2 k (s7+1)
def MW (N:Nat) (a0:(List UInt8)) (a1:Int):Option ((List UInt8)×Int×Int):=
 AA (d:=.a (1,44) [(4,35)] [] (fun j1:Unit=>[])) (fun j1:Unit=>
  some ([],0,191)) fun k2=>
 grd ((-4611686018427387904:Int)≤a1∧((a0.length:Int):Int)≤4611686018427387904) (
  Hq N a0 a1 k2 (((a0.length:Int):Int)-a1).toNat a1)
def TN (N:Nat) (a0:(List UInt8)) (a1:Int):Option (Int×Int):=
 Option.bind (LV N a0 16 a1) fun y1=>
 some (y1.1,y1.2)
def IR (N:Nat) (a0:(List UInt8)) (k2:(Int→Option (Int×Int×Int))):Nat→Int→Option (Int×Int×Int)
  |0,_=>none
  |k+1,s7=>
  AA (d:=.a (2,1) [(13,9)] [22] (fun j6:Bool=>[.bool j6])) (fun j6:Bool=>
   if j6=true then
    IR N a0 k2 k (wr .i64 (s7+1))
   else
    k2 s7) fun k7=>
  if(decide (s7<(a0.length:Int)))=true then
   Option.bind (idx a0 s7) fun x10=>
   Option.bind (Iy N (AX x10)) fun y11=>
   k7 y11
  else
   k7 false
def Q0 (N:Nat) (a0:(List UInt8)) (a1:Int):Option (Int×Int×Int):=
 AA (d:=.a (0,10) [(13,12)] [7] (fun j1:Int=>[.int .i64 j1])) (fun j1:Int=>
  if(j1==(a0.length:Int))=true then
   some (0,0,191)
  else
   AA (d:=.a (6,1) [(29,14)] [43] (fun j13:Bool=>[.bool j13])) (fun j13:Bool=>
    if j13=true then
     some (0,0,190)
    else
     Option.bind (MW N a0 j1) fun y18=>
     if(y18.2.2 !=0)=true then
      some (0,0,y18.2.2)
     else
      Option.bind (sub a0 a1 j1) fun x20=>
      Option.bind (TN N x20 4611686018427387904) fun y21=>
      AA (d:=.a (12,5) [(62,2)] [11] (fun j23:Int=>[.int .u64 j23])) (fun j23:Int=>
       some (j23,y18.2.1,0)) fun k24=>
      if(y21.2 !=0)=true then
       k24 4611686018427387904
      else
       k24 y21.1) fun k14=>
   if(j1==a1)=true then
    k14 true
   else
    Option.bind (idx a0 j1) fun x17=>
    if((AX x17) !=59)=true then
     k14 ((AX x17) !=13)
    else
     k14 false) fun k2=>
 IR N a0 k2 N a1
def Ej (N:Nat) (a0:(List UInt8)):Nat→Int→Option (Int)
  |0,_=>none
  |k+1,s1=>
  Option.bind (MW N a0 s1) fun y2=>
  AA (d:=.a (2,1) [(15,5)] [20] (fun j4:Bool=>[.bool j4])) (fun j4:Bool=>
   if j4=true then
    some (y2.2.2)
   else
    Ej N a0 k y2.2.1) fun k5=>
  if(y2.2.2 !=0)=true then
   k5 true
  else
   k5 (y2.1==[])
def NT (N:Nat) (a0:(List UInt8)) (a1:Int):Option (Int):=
 Ej N a0 N a1
def Eh (N:Nat) (a0:(List UInt8)) (a1:Int):Nat→(List UInt8)→Int→Option ((List UInt8)×Int)
  |0,_,_=>none
  |k+1,s6,s7=>
  Option.bind (Q0 N a0 s7) fun y2=>
  if(y2.2.2 !=0)=true then
   some ([],y2.2.2)
  else
   AA (d:=.a (6,1) [(26,10)] [36] (fun j4:Bool=>[.bool j4])) (fun j4:Bool=>
    if j4=true then
     some ([],142)
    else
     if(y2.1==0)=true then
      Option.bind (NT N a0 y2.2.1) fun y8=>
      if(y8 !=0)=true then
       some ([],y8)
      else
       some (s6,0)
     else
      if(decide ((wr .i64 ((a0.length:Int)-y2.2.1))<(wr .i64 y2.1)))=true then
       some ([],191)
      else
       Option.bind (sub a0 y2.2.1 (wr .i64 (y2.2.1+(wr .i64 y2.1)))) fun x10=>
       grd (AU (s6.length+x10.length)) (
       Option.bind (MW N a0 (wr .i64 (y2.2.1+(wr .i64 y2.1)))) fun y11=>
       AA (d:=.a (18,1) [(71,5)] [76] (fun j13:Bool=>[.bool j13])) (fun j13:Bool=>
        if j13=true then
         Eh N a0 a1 k (s6++x10) y11.2.1
        else
         Option.bind (sub a0 (wr .i64 (y2.2.1+(wr .i64 y2.1))) (a0.length:Int)) fun x17=>
         AA (d:=.a (21,1) [(83,5)] [88] (fun j18:Bool=>[.bool j18])) (fun j18:Bool=>
          if j18=true then
           some ([],191)
          else
           some ([],190)) fun k19=>
         if(x17==[])=true then
          k19 true
         else
          k19 (x17==([13]:List UInt8))) fun k14=>
       if(y11.2.2==0)=true then
        k14 (y11.1==[])
       else
        k14 false)) fun k5=>
   if(decide (a1<0))=true then
    k5 true
   else
    k5 (decide (y2.1>(wr .u64 (wr .i64 (a1-(s6.length:Int))))))
def Nh (N:Nat) (a0:(List UInt8)) (a1:Int):Option ((List UInt8)×Int):=
 Eh N a0 a1 N [] 0
def Qy (N:Nat) (a0:ApiHead) (a1:(List UInt8)) (a2:Int):Option ((List UInt8)×Int):=
 if(decide (a2<0))=true then
  some ([],4)
 else
  AA (d:=.a (3,1) [(18,17)] [35] (fun j1:Bool=>[.bool j1])) (fun j1:Bool=>
   if j1=true then
    some ([],0)
   else
    Option.bind (Kk N a0 ([116,114,97,110,115,102,101,114,45,101,110,99,111,100,105,110,103]:List UInt8)) fun y5=>
    Option.bind (Kk N a0 ([99,111,110,116,101,110,116,45,108,101,110,103,116,104]:List UInt8)) fun y7=>
    if y5.2=true then
     AA (d:=.a (8,1) [(47,5)] [52] (fun j9:Bool=>[.bool j9])) (fun j9:Bool=>
      if j9=true then
       some ([],190)
      else
       Option.bind (Nh N a1 a2) fun y15=>
       if(y15.2 !=0)=true then
        some ([],y15.2)
       else
        some (y15.1,0)) fun k10=>
     if y7.2=true then
      k10 true
     else
      Option.bind (Dv N y5.1) fun y13=>
      k10 (!(y13==([99,104,117,110,107,101,100]:List UInt8)))
    else
     if y7.2=true then
      (none:Option ((List UInt8)×Int))
     else
      if(decide ((a1.length:Int)>a2))=true then
       some ([],142)
      else
       some (a1,0)) fun k2=>
  if(decide (a0.status≥100))=true then
   if(decide (a0.status≤199))=true then
    k2 true
   else
    if(a0.status==204)=true then
     k2 true
    else
     k2 (a0.status==304)
  else
   if(a0.status==204)=true then
    k2 true
   else
    k2 (a0.status==304)
def RP (N:Nat) (a0:(List ApiAnswer)) (a1:Int) (a2:ApiFetch):Option (ApiFetch):=
 if a2.done=true then
  some (a2)
 else
  Option.bind (Tg N a0 a2.next a1) fun y1=>
  if(y1.2 !=0)=true then
   Option.bind (La N a2 0 y1.2 y1.2) fun y3=>
   some (y3)
  else
   Option.bind (Px N y1.1) fun y5=>
   if(y5.2.2 !=0)=true then
    Option.bind (La N a2 0 y5.2.2 y5.2.2) fun y7=>
    some (y7)
   else
    Option.bind (Em N y5.1.status) fun y9=>
    if y9=true then
     (none:Option (ApiFetch))
    else
     AA (d:=.a (15,1) [(84,8)] [8,13] (fun j11:Int×(List UInt8)=>[.int .i64 j11.1,.str j11.2])) (fun j11:Int×(List UInt8)=>
      Option.bind (La N a2 y5.1.status j11.1 j11.1) fun y18=>
      AA (d:=.b (17,5) [(98,13)] [] (fun j20:Bool×ApiURL×ApiHead×(List UInt8)=>[]) fun j20=>[.k,.k,.p [.k,.k,.k,.k,.k,.k,.k,.k,.v (.bool j20.1),.k,.v (.str j20.2.1.host),.v (.int .i64 j20.2.1.port),.v (.str j20.2.1.path),.v (.str j20.2.1.query),.v (.str j20.2.1.fragment),.v (.bool j20.2.1.hasQuery),.v (.bool j20.2.1.hasFrag),.v (.int .i64 j20.2.2.1.minor),.v (.int .i64 j20.2.2.1.status),.v (.slice 2 (List.map Ae j20.2.2.1.fields) false),.v (.str j20.2.2.2)]]) (fun j20:Bool×ApiURL×ApiHead×(List UInt8)=>
       some ((ApiFetch.mk y18.next y18.hops j20.1 y18.err (ApiResponse.mk j20.2.1 j20.2.2.1 j20.2.2.2 y18.final.trace) y18.seen))) fun k21=>
      if(j11.1==0)=true then
       k21 (true,y18.next,y5.1,j11.2)
      else
       k21 (y18.done,y18.final.uRL,y18.final.head,y18.final.body)) fun k12=>
     Option.bind (sub y1.1 y5.2.1 (y1.1.length:Int)) fun x15=>
     Option.bind (Qy N y5.1 x15 1048576) fun y16=>
     k12 (y16.2,y16.1)
def Iz (N:Nat) (a0:(List ApiAnswer)) (a1:Int) (k4:(ApiFetch→Option (ApiResponse×Int))):Nat→ApiFetch→Option (ApiResponse×Int)
  |0,_=>none
  |k+1,bn2=>
  if bn2.done=true then
   k4 bn2
  else
   Option.bind (RP N a0 a1 bn2) fun y8=>
   Iz N a0 a1 k4 k y8
def T9 (N:Nat) (a0:(List ApiAnswer)) (a1:Int) (a2:ApiURL):Option (ApiResponse×Int):=
 Option.bind (Pm N a2) fun y1=>
 AA (d:=.b (0,10) [(11,7)] [] (fun j3:ApiFetch=>[]) fun j3=>[.s ([.str j3.next.host,.int .i64 j3.next.port,.str j3.next.path,.str j3.next.query,.str j3.next.fragment,.bool j3.next.hasQuery,.bool j3.next.hasFrag,.int .i64 j3.hops,.bool j3.done,.int .i64 j3.err,.str j3.final.uRL.host,.int .i64 j3.final.uRL.port,.str j3.final.uRL.path,.str j3.final.uRL.query,.str j3.final.uRL.fragment,.bool j3.final.uRL.hasQuery,.bool j3.final.uRL.hasFrag,.int .i64 j3.final.head.minor,.int .i64 j3.final.head.status,.slice 2 (List.map Ae j3.final.head.fields) false,.str j3.final.body,.slice 9 (List.map AL j3.final.trace) false,.slice 7 (List.map A7 j3.seen) false])]) (fun j3:ApiFetch=>
  some (j3.final,j3.err)) fun k4=>
 Iz N a0 a1 k4 N y1
def Nw (N:Nat) (a0:(List UInt8)) (a1:(List UInt8)):Option (Bool):=
 Option.bind (Fw N a0) fun y1=>
 Option.bind (Fw N a1) fun y3=>
 if(y1.2==0)=true then
  if(y3.2==0)=true then
   some ((y1.1.kind==y3.1.kind&&(y1.1.text==y3.1.text&&(y1.1.host==y3.1.host&&y1.1.port==y3.1.port))))
  else
   some (false)
 else
  some (false)
def NU (N:Nat) (a0:Int):Option (Int):=
 if(a0==200)=true then
  some (0)
 else
  AA (d:=.a (4,5) [(7,2)] [6] (fun j1:Bool=>[.bool j1])) (fun j1:Bool=>
   if j1=true then
    some (261)
   else
    some (260)) fun k2=>
  if(a0==404)=true then
   k2 (a0==404)
  else
   k2 (a0==410)
def Gn (N:Nat) (a0:(List UInt8)) (y12:(List UInt8)) (y14:(List UInt8)):Nat→Int→(List ApiField)→Option (ApiMedia×Bool)
  |0,_,_=>none
  |k+1,s5,bn15_params=>
  Option.bind (Jn N a0 s5) fun y17=>
  if(y17==(a0.length:Int))=true then
   some ((ApiMedia.mk y12 y14 bn15_params),true)
  else
   Option.bind (idx a0 y17) fun x19=>
   if((AX x19) !=59)=true then
    some ((ApiMedia.mk [] [] []),false)
   else
    Option.bind (Jn N a0 (wr .i64 (y17+1))) fun y20=>
    Option.bind (Io N a0 y20) fun y22=>
    AA (d:=.a (14,1) [(75,13)] [88] (fun j24:Bool=>[.bool j24])) (fun j24:Bool=>
     if j24=true then
      some ((ApiMedia.mk [] [] []),false)
     else
      Option.bind (NG N a0 (wr .i64 (y22.2.1+1))) fun y29=>
      if y29.2.2=true then
       Option.bind (Dv N y22.1) fun y31=>
       grd (Ah (bn15_params.length+1) 32) (
       Gn N a0 y12 y14 k y29.2.1 (bn15_params++[(ApiField.mk y31 y29.1)]))
      else
       some ((ApiMedia.mk [] [] []),false)) fun k25=>
    if y22.2.2=true then
     if(y22.2.1==(a0.length:Int))=true then
      k25 true
     else
      Option.bind (idx a0 y22.2.1) fun x28=>
      k25 ((AX x28) !=61)
    else
     k25 true
def QF (N:Nat) (a0:(List UInt8)):Option (ApiMedia×Bool):=
 Option.bind (Jn N a0 0) fun y1=>
 Option.bind (Io N a0 y1) fun y3=>
 AA (d:=.a (2,1) [(21,13)] [34] (fun j5:Bool=>[.bool j5])) (fun j5:Bool=>
  if j5=true then
   some ((ApiMedia.mk [] [] []),false)
  else
   Option.bind (Io N a0 (wr .i64 (y3.2.1+1))) fun y10=>
   if y10.2.2=true then
    Option.bind (Dv N y3.1) fun y12=>
    Option.bind (Dv N y10.1) fun y14=>
    Gn N a0 y12 y14 N y10.2.1 []
   else
    some ((ApiMedia.mk [] [] []),false)) fun k6=>
 if y3.2.2=true then
  if(y3.2.1==(a0.length:Int))=true then
   k6 true
  else
   Option.bind (idx a0 y3.2.1) fun x9=>
   k6 ((AX x9) !=47)
 else
  k6 true
def O9 (N:Nat) (a0:(List UInt8)):Option (ApiMedia×Int):=
 Option.bind (QF N a0) fun y1=>
 if y1.2=true then
  some (y1.1,0)
 else
  some ((ApiMedia.mk [] [] []),200)
def Gi (N:Nat) (k2:(Unit→Option (Bool))):List ApiField→Option (Bool)
  |[]=>
  k2 ()
  |xk5::xs=>
  AA (d:=.a (4,1) [(12,8)] [20] (fun j6:Bool=>[.bool j6])) (fun j6:Bool=>
   if j6=true then
    some (false)
   else
    Gi N k2 xs) fun k7=>
  if(xk5.name==([99,104,97,114,115,101,116]:List UInt8))=true then
   Option.bind (Jy N xk5.value ([117,116,102,45,56]:List UInt8)) fun y10=>
   k7 (!y10)
  else
   k7 false
def Mw (N:Nat) (a0:ApiMedia):Option (Bool):=
 AA (d:=.a (1,22) [(2,1),(4,18)] [] (fun j1:Unit=>[])) (fun j1:Unit=>
  some (true)) fun k2=>
 grd (AU (a0.params.length)) (
  Gi N k2 a0.params)
def GN (N:Nat) (a0:ApiToken) (a1:(List UInt8)):Option (Bool):=
 if(a0.kind==2)=true then
  some ((a0.text==a1))
 else
  some (false)
def Pn (N:Nat) (a0:Int):Option (Bool):=
 Option.bind (Jc N a0 ([32,9,10,13]:List UInt8)) fun y1=>
 some (y1)
def IU (N:Nat) (a0:(List UInt8)) (k2:(Unit→Option ((List UInt8)×Int×Int))):Nat→(List UInt8)→Int→Option ((List UInt8)×Int×Int)
  |0,_,_=>none
  |k+1,s7,s8=>
  if (decide (s8<(a0.length:Int)))=true then
   Option.bind (idx a0 s8) fun x6=>
   if((AX x6)==34)=true then
    some (s7,(wr .i64 (s8+1)),0)
   else
    if((AX x6)==92)=true then
     (none:Option ((List UInt8)×Int×Int))
    else
     if(decide ((AX x6)<32))=true then
      some ([],0,130)
     else
      Option.bind (MF N a0 s8) fun y7=>
      if(y7.2.2 !=0)=true then
       some ([],0,y7.2.2)
      else
       Option.bind (sub a0 s8 y7.2.1) fun x9=>
       grd (AU (s7.length+x9.length)) (
       IU N a0 k2 k (s7++x9) y7.2.1)
  else
   k2 ()
def Qt (N:Nat) (a0:(List UInt8)) (a1:Int):Option ((List UInt8)×Int×Int):=
 AA (d:=.a (2,49) [(4,66)] [] (fun j1:Unit=>[])) (fun j1:Unit=>
  some ([],0,130)) fun k2=>
 IU N a0 k2 N [] (wr .i64 (a1+1))
def IB (N:Nat) (a0:(List UInt8)) (j5:Int) (k31:(Int→Option (ApiToken×Int×Int))):Nat→Int→Option (ApiToken×Int×Int)
  |0,_=>none
  |k+1,s12=>
  AA (d:=.a (21,1) [(100,13)] [113] (fun j35:Bool=>[.bool j35])) (fun j35:Bool=>
   if j35=true then
    IB N a0 j5 k31 k (wr .i64 (s12+1))
   else
    k31 s12) fun k36=>
  if(decide ((wr .i64 (j5+s12))<(a0.length:Int)))=true then
   Option.bind (idx a0 (wr .i64 (j5+s12))) fun x39=>
   Option.bind (Fz N (AX x39)) fun y40=>
   k36 y40
  else
   k36 false
def Hw (N:Nat) (a0:(List UInt8)) (k6:(Int→Option (ApiToken×Int×Int))):Nat→Int→Option (ApiToken×Int×Int)
  |0,_=>none
  |k+1,s1=>
  AA (d:=.a (3,1) [(23,9)] [32] (fun j10:Bool=>[.bool j10])) (fun j10:Bool=>
   if j10=true then
    Hw N a0 k6 k (wr .i64 (s1+1))
   else
    k6 s1) fun k11=>
  if(decide (s1<(a0.length:Int)))=true then
   Option.bind (idx a0 s1) fun x14=>
   Option.bind (Pn N (AX x14)) fun y15=>
   k11 y15
  else
   k11 false
def RJ (N:Nat) (a0:(List UInt8)) (a1:Int):Option (ApiToken×Int×Int):=
 AA (d := .a (1,1) [(14,7)] [21] (fun j1:Bool=>[.bool j1])) (fun j1:Bool=>
  if j1=true then
   some ((ApiToken.mk 0 [] 0),0,4)
  else
   AA (d := .a (0,10) [(23,12)] [1] (fun j5:Int=>[.int .i64 j5])) (fun j5:Int=>
    if(j5==(a0.length:Int))=true then
     some ((ApiToken.mk 1 [] j5),j5,0)
    else
     Option.bind (idx a0 j5) fun x17=>
     Option.bind (Jc N (AX x17) ([123,125,91,93,58,44]:List UInt8)) fun y18=>
     if y18=true then
      Option.bind (sub a0 j5 (wr .i64 (j5+1))) fun x20=>
      some ((ApiToken.mk 2 x20 j5),(wr .i64 (j5+1)),0)
     else
      if((AX x17)==34)=true then
       Option.bind (Qt N a0 j5) fun y21=>
       if(y21.2.2 !=0)=true then
        some ((ApiToken.mk 0 [] 0),0,y21.2.2)
       else
        some ((ApiToken.mk 3 y21.1 j5),y21.2.1,0)
      else
       AA (d:=.a (15,1) [(76,6)] [75] (fun j23:Bool=>[.bool j23])) (fun j23:Bool=>
        if j23=true then
         Option.bind (sub a0 j5 (a0.length:Int)) fun x29=>
         (none:Option (ApiToken×Int×Int))
        else
         AA (d:=.a (3,10) [(100,16)] [12] (fun j30:Int=>[.int .i64 j30])) (fun j30:Int=>
          Option.bind (sub a0 j5 (wr .i64 (j5+j30))) fun x42=>
          AA (d:=.a (24,1) [(122,9)] [131] (fun j43:Bool=>[.bool j43])) (fun j43:Bool=>
           if j43=true then
            some ((ApiToken.mk 5 x42 j5),(wr .i64 (j5+j30)),0)
           else
            some ((ApiToken.mk 0 [] 0),0,130)) fun k44=>
          if(x42==([116,114,117,101]:List UInt8))=true then
           k44 true
          else
           if(x42==([102,97,108,115,101]:List UInt8))=true then
            k44 true
           else
            k44 (x42==([110,117,108,108]:List UInt8))) fun k31=>
         IB N a0 j5 k31 N 0) fun k24=>
       if((AX x17)==45)=true then
        k24 true
       else
        Option.bind (Di N (AX x17)) fun y27=>
        k24 y27) fun k6=>
   Hw N a0 k6 N a1) fun k2=>
 if(decide (a1<0))=true then
  k2 true
 else
  k2 (decide (a1>(a0.length:Int)))
def Bd (N:Nat) (a0:Ref14Parser):Option (ApiToken×Ref14Parser):=
 if(a0.fail !=0)=true then
  some ((ApiToken.mk 0 [] 0),a0)
 else
  AA (d:=.n (3,1) [(12,13)] [3,4,5] 3 (fun(j2:Int×Int×ApiToken) g=>[.ptr g 0,.int .i64 j2.1,.int .i64 j2.2.1]) (fun j2 g=>[]) (fun j2 g=>[.int .i64 j2.2.2.kind,.str j2.2.2.text,.int .i64 j2.2.2.at_])) (fun j2:Int×Int×ApiToken=>
   if(j2.2.1 !=0)=true then
    (none:Option (ApiToken×Ref14Parser))
   else
    some (j2.2.2,(Ref14Parser.mk a0.s j2.1 a0.nodes a0.fail a0.where_))) fun k3=>
  Option.bind (RJ N a0.s a0.at_) fun y6=>
  k3 (y6.2.1,y6.2.2,y6.1)
def DI (N:Nat) (a1:Int) (rec_ref14_parser_value:(Ref14Parser→ApiToken→Int→Option (ApiValue×Ref14Parser))) (k6:(ApiToken×(List ApiValue)×Ref14Parser→Option (ApiValue×Ref14Parser))):Nat→ApiToken→(List ApiValue)→Ref14Parser→Option (ApiValue×Ref14Parser)
  |0,_,_,_=>none
  |k+1,bn2,bn1_items,bi0=>
  if (bi0.fail==0)=true then
   AA (d:=.b (6,1) [(18,9)] [] (fun j10:(List ApiValue)×Ref14Parser=>[]) fun j10=>[.k,.p [.k,.k,.k,.v (.slice 4 (List.map AB j10.1) true)],.k,.s ([.str j10.2.s,.int .i64 j10.2.at_,.int .i64 j10.2.nodes,.int .i64 j10.2.fail,.int .i64 j10.2.where_])]) (fun j10:(List ApiValue)×Ref14Parser=>
    Option.bind (Bd N j10.2) fun y16=>
    Option.bind (GN N y16.1 ([93]:List UInt8)) fun y18=>
    if y18=true then
     some ((ApiValue.mk 6 [] [] j10.1),y16.2)
    else
     AA (d:=.a (10,5) [(32,14)] [] (fun j20:Unit=>[])) (fun j20:Unit=>
      Option.bind (Bd N y16.2) fun y30=>
      DI N a1 rec_ref14_parser_value k6 k y30.1 j10.1 y30.2) fun k21=>
     AA (d:=.a (10,1) [(32,9)] [41] (fun j24:Bool=>[.bool j24])) (fun j24:Bool=>
      if j24=true then
       (none:Option (ApiValue×Ref14Parser))
      else
       k21 ()) fun k25=>
     if(y16.2.fail==0)=true then
      Option.bind (GN N y16.1 ([44]:List UInt8)) fun y28=>
      k25 (!y28)
     else
      k25 false) fun k11=>
   Option.bind (rec_ref14_parser_value bi0 bn2 a1) fun y14=>
   grd (Ah (bn1_items.length+1) 72) (
   k11 ((bn1_items++[y14.1]),y14.2))
  else
   k6 (bn2,bn1_items,bi0)
def Cr (N:Nat) (a1:Int) (rec_ref14_parser_value:(Ref14Parser→ApiToken→Int→Option (ApiValue×Ref14Parser))) (k6:(ApiToken×(List (List UInt8))×(List ApiValue)×Ref14Parser→Option (ApiValue×Ref14Parser))):Nat→ApiToken→(List (List UInt8))→(List ApiValue)→Ref14Parser→Option (ApiValue×Ref14Parser)
  |0,_,_,_,_=>none
  |k+1,bn2,bn1_keys,bn1_items,bi0=>
  if (bi0.fail==0)=true then
   AA (d:=.a (6,5) [(22,7)] [] (fun j10:Unit=>[])) (fun j10:Unit=>
    AA (d:=.a (8,7) [(7,2),(29,12)] [] (fun j14:Unit=>[])) (fun j14:Unit=>
     AA (d:=.b (12,7) [(43,16)] [] (fun j20:ApiToken×Ref14Parser=>[]) fun j20=>[.s ([.int .i64 j20.1.kind,.str j20.1.text,.int .i64 j20.1.at_]),.k,.k,.s ([.str j20.2.s,.int .i64 j20.2.at_,.int .i64 j20.2.nodes,.int .i64 j20.2.fail,.int .i64 j20.2.where_])]) (fun j20:ApiToken×Ref14Parser=>
      Option.bind (Bd N j20.2) fun y32=>
      Option.bind (rec_ref14_parser_value y32.2 y32.1 a1) fun y34=>
      grd (Ah (bn1_keys.length+1) 16) (
      grd (Ah (bn1_items.length+1) 72) (
      Option.bind (Bd N y34.2) fun y36=>
      Option.bind (GN N y36.1 ([125]:List UInt8)) fun y38=>
      if y38=true then
       some ((ApiValue.mk 7 [] (bn1_keys++[bn2.text]) (bn1_items++[y34.1])),y36.2)
      else
       AA (d:=.a (20,5) [(81,14)] [] (fun j40:Unit=>[])) (fun j40:Unit=>
        Option.bind (Bd N y36.2) fun y50=>
        Cr N a1 rec_ref14_parser_value k6 k y50.1 (bn1_keys++[bn2.text]) (bn1_items++[y34.1]) y50.2) fun k41=>
       AA (d:=.a (20,1) [(81,9)] [90] (fun j44:Bool=>[.bool j44])) (fun j44:Bool=>
        if j44=true then
         (none:Option (ApiValue×Ref14Parser))
        else
         k41 ()) fun k45=>
       if(y36.2.fail==0)=true then
        Option.bind (GN N y36.1 ([44]:List UInt8)) fun y48=>
        k45 (!y48)
       else
        k45 false))) fun k21=>
     Option.bind (Bd N bi0) fun y24=>
     AA (d:=.a (13,1) [(45,9)] [54] (fun j26:Bool=>[.bool j26])) (fun j26:Bool=>
      if j26=true then
       (none:Option (ApiValue×Ref14Parser))
      else
       k21 (y24.1,y24.2)) fun k27=>
     if(y24.2.fail==0)=true then
      Option.bind (GN N y24.1 ([58]:List UInt8)) fun y30=>
      k27 (!y30)
     else
      k27 false) fun k15=>
    Option.bind (MH N (ApiValue.mk 7 [] bn1_keys bn1_items) bn2.text) fun y18=>
    if y18.2=true then
     (none:Option (ApiValue×Ref14Parser))
    else
     k15 ()) fun k11=>
   if(bn2.kind !=3)=true then
    (none:Option (ApiValue×Ref14Parser))
   else
    k11 ()
  else
   k6 (bn2,bn1_keys,bn1_items,bi0)
mutual
def Ep (N:Nat):Nat→Ref14Parser→Int→Option (ApiValue×Ref14Parser)
  |0,_,_=>none
  |D+1,a0,a1=>
  Option.bind (Bd N a0) fun y1=>
  Option.bind (GN N y1.1 ([93]:List UInt8)) fun y3=>
  if y3=true then
   some ((ApiValue.mk 6 [] [] []),y1.2)
  else
   AA (d:=.b (0,28) [(13,35)] [] (fun j5:ApiToken×(List ApiValue)×Ref14Parser=>[]) fun j5=>[.s ([.int .i64 j5.1.kind,.str j5.1.text,.int .i64 j5.1.at_]),.p [.k,.k,.k,.v (.slice 4 (List.map AB j5.2.1) true)],.k,.s ([.str j5.2.2.s,.int .i64 j5.2.2.at_,.int .i64 j5.2.2.nodes,.int .i64 j5.2.2.fail,.int .i64 j5.2.2.where_])]) (fun j5:ApiToken×(List ApiValue)×Ref14Parser=>
    some ((ApiValue.mk 6 [] [] j5.2.1),j5.2.2)) fun k6=>
   DI N a1 (DV N D) k6 N y1.1 [] y1.2
def ER (N:Nat):Nat→Ref14Parser→Int→Option (ApiValue×Ref14Parser)
  |0,_,_=>none
  |D+1,a0,a1=>
  Option.bind (Bd N a0) fun y1=>
  Option.bind (GN N y1.1 ([125]:List UInt8)) fun y3=>
  if y3=true then
   some ((ApiValue.mk 7 [] [] []),y1.2)
  else
   AA (d:=.b (0,54) [(7,4),(17,80)] [] (fun j5:ApiToken×(List (List UInt8))×(List ApiValue)×Ref14Parser=>[]) fun j5=>[.s ([.int .i64 j5.1.kind,.str j5.1.text,.int .i64 j5.1.at_]),.p [.k,.k,.v (.slice 1 (List.map AVal.str j5.2.1) true),.v (.slice 4 (List.map AB j5.2.2.1) true)],.k,.s ([.str j5.2.2.2.s,.int .i64 j5.2.2.2.at_,.int .i64 j5.2.2.2.nodes,.int .i64 j5.2.2.2.fail,.int .i64 j5.2.2.2.where_])]) (fun j5:ApiToken×(List (List UInt8))×(List ApiValue)×Ref14Parser=>
    some ((ApiValue.mk 7 [] j5.2.1 j5.2.2.1),j5.2.2.2)) fun k6=>
   Cr N a1 (DV N D) k6 N y1.1 [] [] y1.2
def DV (N:Nat):Nat→Ref14Parser→ApiToken→Int→Option (ApiValue×Ref14Parser)
  |0,_,_,_=>none
  |D+1,a0,a1,a2=>
  AA (d := .a (1,1) [(11,21)] [7] (fun j1:Bool=>[.bool j1])) (fun j1:Bool=>
   if(a0.fail !=0)=true then
    some ((ApiValue.mk 0 [] [] []),a0)
   else
    if j1=true then
     AA (d:=.a (7,1) [(45,6)] [51] (fun j9:Bool=>[.bool j9])) (fun j9:Bool=>
      if j9=true then
       (none:Option (ApiValue×Ref14Parser))
      else
       AA (d:=.a (11,13) [(9,2),(60,18)] [] (fun j13:Unit=>[])) (fun j13:Unit=>
        AA (d:=.b (16,7) [(78,16)] [] (fun j17:Unit=>[]) fun j17=>[.k,.k,.k,.p [.k,.k,.v (.int .i64 (wr .i64 (a0.nodes+1)))]]) (fun j17:Unit=>
         if(a1.kind==5)=true then
          (none:Option (ApiValue×Ref14Parser))
         else
          Option.bind (GN N a1 ([91]:List UInt8)) fun y21=>
          if y21=true then
           Option.bind ((Ep N D) (Ref14Parser.mk a0.s a0.at_ (wr .i64 (a0.nodes+1)) a0.fail a0.where_) (wr .i64 (a2+1))) fun y23=>
           some (y23.1,y23.2)
          else
           Option.bind (GN N a1 ([123]:List UInt8)) fun y25=>
           if y25=true then
            Option.bind ((ER N D) (Ref14Parser.mk a0.s a0.at_ (wr .i64 (a0.nodes+1)) a0.fail a0.where_) (wr .i64 (a2+1))) fun y27=>
            some (y27.1,y27.2)
           else
            some ((ApiValue.mk 5 a1.text [] []),(Ref14Parser.mk a0.s a0.at_ (wr .i64 (a0.nodes+1)) a0.fail a0.where_))) fun k18=>
        if(decide ((wr .i64 (a0.nodes+1))>20000))=true then
         (none:Option (ApiValue×Ref14Parser))
        else
         k18 ()) fun k14=>
       if(a1.kind==4)=true then
        (none:Option (ApiValue×Ref14Parser))
       else
        k14 ()) fun k10=>
     if(a1.kind==2)=true then
      k10 (a2==64)
     else
      k10 false
    else
     (none:Option (ApiValue×Ref14Parser))) fun k2=>
  if(a1.kind==3)=true then
   k2 true
  else
   if(a1.kind==4)=true then
    k2 true
   else
    if(a1.kind==5)=true then
     k2 true
    else
     Option.bind (GN N a1 ([91]:List UInt8)) fun y5=>
     if y5=true then
      k2 true
     else
      Option.bind (GN N a1 ([123]:List UInt8)) fun y7=>
      k2 y7
end
def O4 (N:Nat) (a0:(List UInt8)):Option (ApiValue×Int×Int):=
 if(decide ((a0.length:Int)>1048576))=true then
  some ((ApiValue.mk 0 [] [] []),0,142)
 else
  Option.bind (Bd N (Ref14Parser.mk a0 0 0 0 0)) fun y1=>
  Option.bind (DV N N y1.2 y1.1 0) fun y3=>
  AA (d:=.b (5,7) [(7,1),(19,16)] [] (fun j5:Ref14Parser=>[]) fun j5=>[.k,.s ([.str j5.s,.int .i64 j5.at_,.int .i64 j5.nodes,.int .i64 j5.fail,.int .i64 j5.where_])]) (fun j5:Ref14Parser=>
   if(j5.fail !=0)=true then
    some ((ApiValue.mk 0 [] [] []),j5.where_,j5.fail)
   else
    some (y3.1,(a0.length:Int),0)) fun k6=>
  Option.bind (Bd N y3.2) fun y9=>
  AA (d:=.a (6,1) [(21,9)] [30] (fun j11:Bool=>[.bool j11])) (fun j11:Bool=>
   if j11=true then
    (none:Option (ApiValue×Int×Int))
   else
    k6 y9.2) fun k12=>
  if(y9.2.fail==0)=true then
   k12 (y9.1.kind !=1)
  else
   k12 false
def Eb (N:Nat) (y10:ApiID×Int) (k17:(Bool→Option ((List ApiID)))):List ApiID→Bool→Option ((List ApiID))
  |[],s10=>
  k17 s10
  |xk20::xs,s10=>
  AA (d:=.a (3,4) [(12,1),(35,8)] [10] (fun j21:Bool=>[.bool j21])) (fun j21:Bool=>
   Eb N y10 k17 xs j21) fun k22=>
  if s10=true then
   k22 true
  else
   k22 (y10.1.kind==xk20.kind&&(y10.1.text==xk20.text&&(y10.1.host==xk20.host&&y10.1.port==xk20.port)))
def Ec (N:Nat) (a1:ApiID) (k2:((List ApiID)→Option ((List ApiID)))):List (List UInt8)→(List ApiID)→Option ((List ApiID))
  |[],s5=>
  k2 s5
  |xk5::xs,s5=>
  AA (d:=.a (1,29) [(7,4),(12,1),(17,38)] [5] (fun j6:(List ApiID)=>[.slice 4 (List.map Aj j6) true])) (fun j6:(List ApiID)=>
   Ec N a1 k2 xs j6) fun k7=>
  Option.bind (Fw N xk5) fun y10=>
  AA (d:=.a (6,1) [(24,7)] [10] (fun j12:Bool=>[.bool j12])) (fun j12:Bool=>
   AA (d:=.a (7,16) [(12,1),(31,13)] [10] (fun j16:Bool=>[.bool j16])) (fun j16:Bool=>
    AA (d:=.a (12,1) [(44,6)] [50] (fun j25:Bool=>[.bool j25])) (fun j25:Bool=>
     if j25=true then
      grd (Ah (s5.length+1) 48) (
      k7 (s5++[y10.1]))
     else
      k7 s5) fun k26=>
    if j16=true then
     k26 false
    else
     k26 (decide ((s5.length:Int)<64))) fun k17=>
   grd (AU (s5.length)) (
    Eb N y10 k17 s5 j12)) fun k13=>
  if(y10.2 !=0)=true then
   k13 true
  else
   k13 (y10.1.kind==a1.kind&&(y10.1.text==a1.text&&(y10.1.host==a1.host&&y10.1.port==a1.port)))
def NR (N:Nat) (a0:(List (List UInt8))) (a1:ApiID):Option ((List ApiID)):=
 AA (d:=.a (2,41) [(7,4),(12,44)] [5] (fun j1:(List ApiID)=>[.slice 4 (List.map Aj j1) true])) (fun j1:(List ApiID)=>
  some (j1)) fun k2=>
 grd (AU (a0.length)) (
  Ec N a1 k2 a0 [])
def Dq (N:Nat) (a0:(List UInt8)):Nat→(List ApiField)→Int→Option ((List ApiField)×Bool)
  |0,_,_=>none
  |k+1,s4,s5=>
  AA (d:=.a (4,33) [(2,2),(6,4),(12,53)] [4,5] (fun j2:(List ApiField)×Int=>[.slice 2 (List.map Ae j2.1) true,.int .i64 j2.2])) (fun j2:(List ApiField)×Int=>
   if(j2.2==(a0.length:Int))=true then
    some (j2.1,true)
   else
    Option.bind (idx a0 j2.2) fun x30=>
    if((AX x30) !=44)=true then
     some ([],false)
    else
     Dq N a0 k j2.1 (wr .i64 (j2.2+1))) fun k3=>
  Option.bind (Jn N a0 s5) fun y6=>
  AA (d:=.a (5,1) [(15,9)] [24] (fun j8:Bool=>[.bool j8])) (fun j8:Bool=>
   if j8=true then
    Option.bind (Io N a0 y6) fun y13=>
    if y13.2.2=true then
     Option.bind (Dv N y13.1) fun y15=>
     AA (d:=.b (10,13) [(2,2),(8,1),(37,21)] [7] (fun j17:Int×(List UInt8)=>[.int .i64 j17.1]) fun j17=>[.p [.k,.v (.str j17.2)]]) (fun j17:Int×(List UInt8)=>
      grd (Ah (s4.length+1) 32) (
      Option.bind (Jn N a0 j17.1) fun y28=>
      k3 ((s4++[(ApiField.mk y15 j17.2)]),y28))) fun k18=>
     AA (d:=.a (10,1) [(37,9)] [46] (fun j21:Bool=>[.bool j21])) (fun j21:Bool=>
      if j21=true then
       Option.bind (NG N a0 (wr .i64 (y13.2.1+1))) fun y26=>
       if y26.2.2=true then
        k18 (y26.2.1,y26.1)
       else
        some ([],false)
      else
       k18 (y13.2.1,[])) fun k22=>
     if(decide (y13.2.1<(a0.length:Int)))=true then
      Option.bind (idx a0 y13.2.1) fun x25=>
      k22 ((AX x25)==61)
     else
      k22 false
    else
     some ([],false)
   else
    k3 (s4,y6)) fun k9=>
  if(decide (y6<(a0.length:Int)))=true then
   Option.bind (idx a0 y6) fun x12=>
   k9 ((AX x12) !=44)
  else
   k9 false
def Ko (N:Nat) (a0:(List UInt8)):Option ((List ApiField)×Bool):=
 Dq N a0 N [] 0
def LH (N:Nat) (a0:(List UInt8)):Option (Int×Bool):=
 Option.bind (NE N a0 18446744073709551615) fun y1=>
 if(y1.2==4)=true then
  some (18446744073709551615,true)
 else
  some (y1.1,(y1.2==0))
def TC (N:Nat) (a0:Int) (a1:Int):Option (Int):=
 if(decide (a1>a0))=true then
  some (0)
 else
  some ((wr .u64 (a0-a1)))
def J6 (N:Nat) (k10:(Int×Bool→Option (ApiFresh))):List ApiField→Int→Bool→Option (ApiFresh)
  |[],s7,s8=>
  k10 (s7,s8)
  |xk13::xs,s7,s8=>
  AA (d:=.a (1,31) [(10,3),(38,22)] [7,8] (fun j14:Int×Bool=>[.int .u64 j14.1,.bool j14.2])) (fun j14:Int×Bool=>
   J6 N k10 xs j14.1 j14.2) fun k15=>
  AA (d:=.a (10,5) [(43,2)] [42] (fun j18:Bool=>[.bool j18])) (fun j18:Bool=>
   if j18=true then
    some ((ApiFresh.mk false 0))
   else
    if(xk13.name==([109,97,120,45,97,103,101]:List UInt8))=true then
     Option.bind (LH N xk13.value) fun y22=>
     if y22.2=true then
      k15 ((if y22.1<s7 then y22.1 else s7),true)
     else
      some ((ApiFresh.mk false 0))
    else
     k15 (s7,s8)) fun k19=>
  if(xk13.name==([110,111,45,115,116,111,114,101]:List UInt8))=true then
   k19 (xk13.name==([110,111,45,115,116,111,114,101]:List UInt8))
  else
   k19 (xk13.name==([110,111,45,99,97,99,104,101]:List UInt8))
def WC (N:Nat) (a0:ApiHead):Option (ApiFresh):=
 Option.bind (Kk N a0 ([99,97,99,104,101,45,99,111,110,116,114,111,108]:List UInt8)) fun y1=>
 Option.bind (Ko N y1.1) fun y3=>
 AA (d:=.a (3,1) [(27,5)] [32] (fun j5:Bool=>[.bool j5])) (fun j5:Bool=>
  if j5=true then
   some ((ApiFresh.mk false 0))
  else
   AA (d:=.a (6,43) [(10,3),(34,27)] [7,8] (fun j9:Int×Bool=>[.int .u64 j9.1,.bool j9.2])) (fun j9:Int×Bool=>
    AA (d:=.a (20,15) [(14,2),(61,14)] [13] (fun j24:Int=>[.int .u64 j24])) (fun j24:Int=>
     Option.bind (TC N j9.1 j24) fun y32=>
     AA (d:=.a (26,1) [(79,5)] [84] (fun j34:Bool=>[.bool j34])) (fun j34:Bool=>
      if j34=true then
       some ((ApiFresh.mk false 0))
      else
       some ((ApiFresh.mk true (if 86400<y32 then 86400 else y32)))) fun k35=>
     if j9.2=true then
      k35 ((if 86400<y32 then 86400 else y32)==0)
     else
      k35 true) fun k25=>
    Option.bind (Kk N a0 ([97,103,101]:List UInt8)) fun y28=>
    if y28.2=true then
     Option.bind (LH N y28.1) fun y30=>
     if y30.2=true then
      k25 y30.1
     else
      some ((ApiFresh.mk false 0))
    else
     k25 0) fun k10=>
   grd (AU (y3.1.length)) (
    J6 N k10 y3.1 18446744073709551615 false)) fun k6=>
 if y1.2=true then
  k6 (!y3.2)
 else
  k6 true
def Kg (N:Nat) (a0:Ref27Lookup) (a1:ApiURL):Option (ApiResponse×Int×Ref27Lookup):=
 AA (d:=.n (1,1) [(8,13)] [6,7] 6 (fun(j2:Int×ApiResponse) g=>[.ptr g 0,.int .i64 j2.1]) (fun j2 g=>[]) (fun j2 g=>[.str j2.2.uRL.host,.int .i64 j2.2.uRL.port,.str j2.2.uRL.path,.str j2.2.uRL.query,.str j2.2.uRL.fragment,.bool j2.2.uRL.hasQuery,.bool j2.2.uRL.hasFrag,.int .i64 j2.2.head.minor,.int .i64 j2.2.head.status,.slice 2 (List.map Ae j2.2.head.fields) false,.str j2.2.body,.slice 9 (List.map AL j2.2.trace) false])) (fun j2:Int×ApiResponse=>
  grd (Ah (a0.trace.length+j2.2.trace.length) 96) (
  some (j2.2,j2.1,(Ref27Lookup.mk a0.l a0.now a0.id (a0.trace++j2.2.trace))))) fun k3=>
 Option.bind (T9 N a0.l a0.now a1) fun y6=>
 k3 (y6.2,y6.1)
def Pf (N:Nat) (a0:ApiMedia):Option (Bool):=
 if(a0.type_==([97,112,112,108,105,99,97,116,105,111,110]:List UInt8))=true then
  if(a0.sub==([106,114,100,43,106,115,111,110]:List UInt8))=true then
   Option.bind (Mw N a0) fun y1=>
   some (y1)
  else
   if(a0.sub==([106,115,111,110]:List UInt8))=true then
    Option.bind (Mw N a0) fun y3=>
    some (y3)
   else
    some (false)
 else
  some (false)
def Dk (N:Nat) (a0:Ref16Reader) (a1:ApiValue) (a2:(List UInt8)) (a3:Bool):Option ((List UInt8)×Ref16Reader):=
 Option.bind (MH N a1 a2) fun y1=>
 AA (d:=.a (2,5) [(17,15)] [] (fun j3:Unit=>[])) (fun j3:Unit=>
  if(y1.1.kind !=5)=true then
   some ([],a0)
  else
   some (y1.1.text,a0)) fun k4=>
 AA (d:=.a (2,1) [(17,12)] [29] (fun j7:Bool=>[.bool j7])) (fun j7:Bool=>
  if j7=true then
   (none:Option ((List UInt8)×Ref16Reader))
  else
   k4 ()) fun k8=>
 if y1.2=true then
  if(y1.1.kind !=5)=true then
   k8 true
  else
   k8 false
 else
  k8 a3
def Ev (N:Nat) (a0:Ref16Reader) (a1:ApiValue) (a2:(List UInt8)) (a3:Int) (a4:Int):Option (ApiValue×Ref16Reader):=
 Option.bind (MH N a1 a2) fun y1=>
 if y1.2=true then
  if(y1.1.kind !=a3)=true then
   (none:Option (ApiValue×Ref16Reader))
  else
   AA (d:=.b (7,7) [(13,1),(32,19)] [] (fun j3:(List (List UInt8))×(List ApiValue)=>[]) fun j3=>[.p [.k,.k,.v (.slice 1 (List.map AVal.str j3.1) false),.v (.slice 4 (List.map AB j3.2) false)]]) (fun j3:(List (List UInt8))×(List ApiValue)=>
    if(decide ((j3.2.length:Int)>a4))=true then
     (none:Option (ApiValue×Ref16Reader))
    else
     some ((ApiValue.mk y1.1.kind y1.1.text j3.1 j3.2),a0)) fun k4=>
   if(a3==7)=true then
    Option.bind (sub y1.1.keys 0 (if(y1.1.items.length:Int)<(y1.1.keys.length:Int)then(y1.1.items.length:Int)else(y1.1.keys.length:Int))) fun x7=>
    Option.bind (sub y1.1.items 0 (if(y1.1.items.length:Int)<(y1.1.keys.length:Int)then(y1.1.items.length:Int)else(y1.1.keys.length:Int))) fun x8=>
    k4 (x7,x8)
   else
    k4 (y1.1.keys,y1.1.items)
 else
  some ((ApiValue.mk 0 [] [] []),a0)
def DF (N:Nat) (k2:((List (List UInt8))×Ref16Reader→Option ((List (List UInt8))×Ref16Reader))) (y5:ApiValue×Ref16Reader):List ApiValue→(List (List UInt8))→Option ((List (List UInt8))×Ref16Reader)
  |[],s7=>
  k2 (s7,y5.2)
  |xk7::xs,s7=>
  AA (d:=.a (5,5) [(20,5)] [] (fun j8:Unit=>[])) (fun j8:Unit=>
   grd (Ah (s7.length+1) 16) (
   DF N k2 y5 xs (s7++[xk7.text]))) fun k9=>
  if(xk7.kind !=5)=true then
   (none:Option ((List (List UInt8))×Ref16Reader))
  else
   k9 ()
def Ji (N:Nat) (a0:Ref16Reader) (a1:ApiValue) (a2:(List UInt8)):Option ((List (List UInt8))×Ref16Reader):=
 AA (d:=.b (2,22) [(9,22)] [7] (fun j1:(List (List UInt8))×Ref16Reader=>[.slice 1 (List.map AVal.str j1.1) true]) fun j1=>[.k,.s ([.int .i64 j1.2.fail])]) (fun j1:(List (List UInt8))×Ref16Reader=>
  some (j1.1,j1.2)) fun k2=>
 Option.bind (Ev N a0 a1 a2 6 64) fun y5=>
 grd (AU (y5.1.items.length)) (
  DF N k2 y5 y5.1.items [])
def CG (N:Nat) (a3:Bool) (y1:ApiValue×Ref16Reader) (k4:((List ApiProperty)→Option ((List ApiProperty)×Ref16Reader))):List ApiValue→Int→(List ApiProperty)→Option ((List ApiProperty)×Ref16Reader)
  |[],s21,s10=>
  k4 s10
  |xk7::xs,s21,s10=>
  AA (d:=.a (6,5) [(26,14)] [] (fun j8:Unit=>[])) (fun j8:Unit=>
   Option.bind (idx y1.1.keys s21) fun x16=>
   AA (d:=.b (9,5) [(48,5)] [] (fun j17:(List UInt8)×Bool=>[]) fun j17=>[.p [.k,.v (.str j17.1),.v (.bool j17.2)]]) (fun j17:(List UInt8)×Bool=>
    grd (Ah (s10.length+1) 40) (
    CG N a3 y1 k4 xs (s21+1) (s10++[(ApiProperty.mk x16 j17.1 j17.2)]))) fun k18=>
   if(xk7.kind==1)=true then
    k18 ([],true)
   else
    k18 (xk7.text,false)) fun k9=>
  AA (d:=.a (6,1) [(26,11)] [37] (fun j12:Bool=>[.bool j12])) (fun j12:Bool=>
   if j12=true then
    (none:Option ((List ApiProperty)×Ref16Reader))
   else
    k9 ()) fun k13=>
  if(xk7.kind !=5)=true then
   if(xk7.kind !=1)=true then
    k13 true
   else
    k13 (!a3)
  else
   k13 false
def DZ (N:Nat) (a0:Ref16Reader) (a1:ApiValue) (a2:(List UInt8)) (a3:Bool):Option ((List ApiProperty)×Ref16Reader):=
 Option.bind (Ev N a0 a1 a2 7 64) fun y1=>
 AA (d:=.a (3,30) [(11,3),(18,40)] [10] (fun j3:(List ApiProperty)=>[.slice 3 (List.map BM j3) true])) (fun j3:(List ApiProperty)=>
  some (j3,y1.2)) fun k4=>
 grd (AU (y1.1.items.length)) (
  CG N a3 y1 k4 y1.1.items 0 [])
def E9 (N:Nat) (k13:((List ApiLink)×Ref16Reader→Option (ApiJRD×Int))):List ApiValue→(List ApiLink)→Ref16Reader→Option (ApiJRD×Int)
  |[],bq1_links,bn2=>
  k13 (bq1_links,bn2)
  |xk18::xs,bq1_links,bn2=>
  AA (d:=.b (1,24) [(7,2),(33,37)] [] (fun j19:(List ApiLink)×Ref16Reader=>[]) fun j19=>[.p [.k,.k,.k,.v (.slice 6 (List.map BS j19.1) true)],.s ([.int .i64 j19.2.fail])]) (fun j19:(List ApiLink)×Ref16Reader=>
   E9 N k13 xs j19.1 j19.2) fun k20=>
  if(xk18.kind !=7)=true then
   (none:Option (ApiJRD×Int))
  else
   Option.bind (Dk N bn2 xk18 ([114,101,108]:List UInt8) true) fun y23=>
   Option.bind (Dk N y23.2 xk18 ([116,121,112,101]:List UInt8) false) fun y25=>
   Option.bind (Dk N y25.2 xk18 ([104,114,101,102]:List UInt8) false) fun y27=>
   Option.bind (Dk N y27.2 xk18 ([116,101,109,112,108,97,116,101]:List UInt8) false) fun y29=>
   Option.bind (DZ N y29.2 xk18 ([116,105,116,108,101,115]:List UInt8) false) fun y31=>
   Option.bind (DZ N y31.2 xk18 ([112,114,111,112,101,114,116,105,101,115]:List UInt8) true) fun y33=>
   grd (Ah (bq1_links.length+1) 112) (
   k20 ((bq1_links++[(ApiLink.mk y23.1 y25.1 y27.1 y29.1 y31.1 y33.1)]),y33.2))
def OI (N:Nat) (a0:ApiValue):Option (ApiJRD×Int):=
 if(a0.kind !=7)=true then
  some ((ApiJRD.mk [] [] [] []),160)
 else
  AA (d:=.n (4,1) [(15,7)] [5] 5 (fun(j2:(List UInt8)×(List (List UInt8))×Ref16Reader) g=>[.ptr g 0]) (fun j2 g=>[.s ([.int .i64 j2.2.2.fail])]) (fun j2 g=>[.str j2.1,.slice 1 (List.map AVal.str j2.2.1) false,.slice 3 (List.map BM []) true,.slice 6 (List.map BS []) true])) (fun j2:(List UInt8)×(List (List UInt8))×Ref16Reader=>
   Option.bind (DZ N j2.2.2 a0 ([112,114,111,112,101,114,116,105,101,115]:List UInt8) true) fun y10=>
   AA (d:=.b (6,36) [(7,2),(26,45)] [] (fun j12:(List ApiLink)×Ref16Reader=>[]) fun j12=>[.p [.k,.k,.k,.v (.slice 6 (List.map BS j12.1) true)],.s ([.int .i64 j12.2.fail])]) (fun j12:(List ApiLink)×Ref16Reader=>
    if(j12.2.fail !=0)=true then
     some ((ApiJRD.mk [] [] [] []),j12.2.fail)
    else
     some ((ApiJRD.mk j2.1 j2.2.1 y10.1 j12.1),0)) fun k13=>
   Option.bind (Ev N y10.2 a0 ([108,105,110,107,115]:List UInt8) 6 64) fun y16=>
   grd (AU (y16.1.items.length)) (
    E9 N k13 y16.1.items [] y16.2)) fun k3=>
  Option.bind (Dk N (Ref16Reader.mk 0) a0 ([115,117,98,106,101,99,116]:List UInt8) false) fun y6=>
  Option.bind (Ji N y6.2 a0 ([97,108,105,97,115,101,115]:List UInt8)) fun y8=>
  k3 (y6.1,y8.1,y8.2)
def OY (N:Nat) (a0:ApiResponse):Option (ApiJRD×Int):=
 Option.bind (Kk N a0.head ([99,111,110,116,101,110,116,45,116,121,112,101]:List UInt8)) fun y1=>
 Option.bind (O9 N y1.1) fun y3=>
 AA (d:=.a (3,1) [(21,10)] [31] (fun j5:Bool=>[.bool j5])) (fun j5:Bool=>
  if j5=true then
   some ((ApiJRD.mk [] [] [] []),200)
  else
   Option.bind (O4 N a0.body) fun y11=>
   if(y11.2.2 !=0)=true then
    some ((ApiJRD.mk [] [] [] []),y11.2.2)
   else
    Option.bind (OI N y11.1) fun y13=>
    some (y13.1,y13.2)) fun k6=>
 if y1.2=true then
  if(y3.2 !=0)=true then
   k6 true
  else
   Option.bind (Pf N y3.1) fun y9=>
   k6 (!y9)
 else
  k6 true
def GX (N:Nat) (k2:((List (List UInt8))→Option ((List ApiID)))):List ApiLink→(List (List UInt8))→Option ((List ApiID))
  |[],s5=>
  k2 s5
  |xk7::xs,s5=>
  grd (Ah (s5.length+1) 16) (
  GX N k2 xs (s5++[xk7.href]))
def PP (N:Nat) (a0:ApiJRD) (a1:ApiID):Option ((List ApiID)):=
 AA (d:=.a (2,16) [(7,14)] [5] (fun j1:(List (List UInt8))=>[.slice 1 (List.map AVal.str j1) true])) (fun j1:(List (List UInt8))=>
  grd (Ah (j1.length+1) 16) (
  grd (Ah ((j1++[a0.subject]).length+a0.aliases.length) 16) (
  Option.bind (NR N ((j1++[a0.subject])++a0.aliases) a1) fun y8=>
  some (y8)))) fun k2=>
 Option.bind (Qs N a0 ([115,101,108,102]:List UInt8)) fun y5=>
 grd (AU (y5.length)) (
  GX N k2 y5 [])
def Ht (N:Nat) (a1:ApiID) (k8:(Bool→Option (ApiFinding×Int))):List (List UInt8)→Bool→Option (ApiFinding×Int)
  |[],s9=>
  k8 s9
  |xk11::xs,s9=>
  AA (d:=.a (1,4) [(11,1),(39,9)] [9] (fun j12:Bool=>[.bool j12])) (fun j12:Bool=>
   Ht N a1 k8 xs j12) fun k13=>
  if s9=true then
   k13 true
  else
   Option.bind (Nw N xk11 a1.text) fun y16=>
   k13 y16
def Rl (N:Nat) (a0:ApiResponse) (a1:ApiID):Option (ApiFinding×Int):=
 Option.bind (NU N a0.head.status) fun y1=>
 if(y1 !=0)=true then
  some ((ApiFinding.mk (ApiID.mk 0 [] [] 0) [] 0 (ApiFresh.mk false 0) []),y1)
 else
  Option.bind (OY N a0) fun y3=>
  if(y3.2 !=0)=true then
   some ((ApiFinding.mk (ApiID.mk 0 [] [] 0) [] 0 (ApiFresh.mk false 0) []),y3.2)
  else
   Option.bind (Nw N y3.1.subject a1.text) fun y5=>
   AA (d:=.a (8,16) [(11,1),(34,15)] [9] (fun j7:Bool=>[.bool j7])) (fun j7:Bool=>
    if j7=true then
     Option.bind (PP N y3.1 a1) fun y18=>
     Option.bind (WC N a0.head) fun y20=>
     some ((ApiFinding.mk a1 y18 0 y20 []),0)
    else
     some ((ApiFinding.mk (ApiID.mk 0 [] [] 0) [] 0 (ApiFresh.mk false 0) []),270)) fun k8=>
   grd (AU (y3.1.aliases.length)) (
    Ht N a1 k8 y3.1.aliases y5)
def Oe (N:Nat) (a0:(List ApiAnswer)) (a1:Int) (a2:ApiID):Option (ApiFinding×Int):=
 Option.bind (NI N a2) fun y1=>
 if(y1.2 !=0)=true then
  some ((ApiFinding.mk (ApiID.mk 0 [] [] 0) [] 0 (ApiFresh.mk false 0) []),y1.2)
 else
  Option.bind (Kg N (Ref27Lookup.mk a0 a1 a2 []) y1.1) fun y3=>
  AA (d:=.b (7,15) [(33,18)] [9] (fun j5:Int×Int×(List UInt8)×(List UInt8)×Int×(List ApiID)×Int×Bool×Int×(List ApiExchange)=>[.int .i64 j5.1]) fun j5=>[.k,.s ([.int .i64 j5.2.1,.str j5.2.2.1,.str j5.2.2.2.1,.int .i64 j5.2.2.2.2.1,.slice 4 (List.map Aj j5.2.2.2.2.2.1) false,.int .i64 j5.2.2.2.2.2.2.1,.bool j5.2.2.2.2.2.2.2.1,.int .u64 j5.2.2.2.2.2.2.2.2.1,.slice 9 (List.map AL j5.2.2.2.2.2.2.2.2.2) false])]) (fun j5:Int×Int×(List UInt8)×(List UInt8)×Int×(List ApiID)×Int×Bool×Int×(List ApiExchange)=>
   some ((ApiFinding.mk (ApiID.mk j5.2.1 j5.2.2.1 j5.2.2.2.1 j5.2.2.2.2.1) j5.2.2.2.2.2.1 j5.2.2.2.2.2.2.1 (ApiFresh.mk j5.2.2.2.2.2.2.2.1 j5.2.2.2.2.2.2.2.2.1) y3.2.2.trace),j5.1)) fun k6=>
  if(y3.2.1==0)=true then
   Option.bind (Rl N y3.1 a2) fun y9=>
   if(y9.2==0)=true then
    k6 (y9.2,y9.1.subject.kind,y9.1.subject.text,y9.1.subject.host,y9.1.subject.port,y9.1.names,1,y9.1.fresh.store,y9.1.fresh.seconds,y9.1.trace)
   else
    if(y9.2==261)=true then
     (none:Option (ApiFinding×Int))
    else
     k6 (y9.2,y9.1.subject.kind,y9.1.subject.text,y9.1.subject.host,y9.1.subject.port,y9.1.names,y9.1.via,y9.1.fresh.store,y9.1.fresh.seconds,y9.1.trace)
  else
   k6 (y3.2.1,0,[],[],0,[],0,false,0,[])
def LA (N:Nat) (a0:(List ApiAnswer)) (a1:Int) (a2:ApiID):Option (ApiFinding×Int):=
 if(a2.kind==4)=true then
  (none:Option (ApiFinding×Int))
 else
  Option.bind (Oe N a0 a1 a2) fun y1=>
  some (y1.1,y1.2)
def P5 (N:Nat) (a0:ApiFresh) (a1:ApiFresh):Option (ApiFresh):=
 AA (d:=.a (1,1) [(5,7)] [12] (fun j1:Bool=>[.bool j1])) (fun j1:Bool=>
  if j1=true then
   some ((ApiFresh.mk false 0))
  else
   some ((ApiFresh.mk true (if a1.seconds<a0.seconds then a1.seconds else a0.seconds)))) fun k2=>
 if a0.store=true then
  k2 (!a1.store)
 else
  k2 true
def Ei (N:Nat) (y1:ApiID×Int) (y3:ApiFinding×Int) (y6:ApiFinding×Int) (k9:(Int×Bool×Int→Option (ApiVerdict))):List ApiID→Int→Bool→Int→Option (ApiVerdict)
  |[],bn41_err,bn41_fresh_store,bn41_fresh_seconds=>
  k9 (bn41_err,bn41_fresh_store,bn41_fresh_seconds)
  |xk12::xs,bn41_err,bn41_fresh_store,bn41_fresh_seconds=>
  AA (d:=.b (1,8) [(13,1),(75,12)] [] (fun j13:Int×Bool×Int=>[]) fun j13=>[.k,.p [.v (.int .i64 j13.1),.k,.k,.k,.k,.k,.k,.k,.k,.v (.bool j13.2.1),.v (.int .u64 j13.2.2)]]) (fun j13:Int×Bool×Int=>
   Ei N y1 y3 y6 k9 xs j13.1 j13.2.1 j13.2.2) fun k14=>
  if(xk12.kind==y1.1.kind&&(xk12.text==y1.1.text&&(xk12.host==y1.1.host&&xk12.port==y1.1.port)))=true then
   Option.bind (P5 N y3.1.fresh y6.1.fresh) fun y17=>
   k14 (0,y17.store,y17.seconds)
  else
   k14 (bn41_err,bn41_fresh_store,bn41_fresh_seconds)
def Ng (N:Nat) (a0:(List ApiAnswer)) (a1:Int) (a2:(List UInt8)):Option (ApiVerdict):=
 Option.bind (Fw N a2) fun y1=>
 if(y1.2 !=0)=true then
  some ((ApiVerdict.mk y1.2 (ApiID.mk 0 [] [] 0) (ApiID.mk 0 [] [] 0) (ApiFresh.mk false 0) []))
 else
  Option.bind (LA N a0 a1 y1.1) fun y3=>
  if(y3.2 !=0)=true then
   some ((ApiVerdict.mk y3.2 y1.1 (ApiID.mk 0 [] [] 0) (ApiFresh.mk false 0) y3.1.trace))
  else
   if((y3.1.names.length:Int)==0)=true then
    some ((ApiVerdict.mk 300 y1.1 (ApiID.mk 0 [] [] 0) (ApiFresh.mk false 0) y3.1.trace))
   else
    Option.bind (idx y3.1.names 0) fun x5=>
    Option.bind (LA N a0 a1 x5) fun y6=>
    grd (Ah (([]:List ApiExchange).length+y3.1.trace.length) 96) (
    grd (Ah (y3.1.trace.length+y6.1.trace.length) 96) (
    if(y6.2 !=0)=true then
     some ((ApiVerdict.mk y6.2 y1.1 x5 (ApiFresh.mk false 0) (y3.1.trace++y6.1.trace)))
    else
     AA (d:=.b (18,20) [(13,1),(70,18)] [] (fun j8:Int×Bool×Int=>[]) fun j8=>[.k,.p [.v (.int .i64 j8.1),.k,.k,.k,.k,.k,.k,.k,.k,.v (.bool j8.2.1),.v (.int .u64 j8.2.2)]]) (fun j8:Int×Bool×Int=>
      some ((ApiVerdict.mk j8.1 y1.1 x5 (ApiFresh.mk j8.2.1 j8.2.2) (y3.1.trace++y6.1.trace)))) fun k9=>
     grd (AU (y6.1.names.length)) (
      Ei N y1 y3 y6 k9 y6.1.names 301 false 0)))
def D8 (N:Nat) (a0:(List UInt8)) (a1:Int):Option (Int):=
 some ((Go.Lib.indexByte a0 (Ij a1)))
def Co (N:Nat) (a0:(List UInt8)) (a1:(List UInt8)):Option (Int):=
 if((a1.length:Int)==1)=true then
  some (Go.Lib.indexByte a0 (a1.headD 0))
 else
  grd (a0.length<4294967281) (
  some (Go.Lib.index a0 a1))
def F5 (N:Nat) (a0:(List UInt8)) (a1:(List UInt8)):Option ((List UInt8)×(List UInt8)×Bool):=
 Option.bind (Co N a0 a1) fun y1=>
 if(decide (y1≥0))=true then
  Option.bind (sub a0 0 y1) fun x3=>
  Option.bind (sub a0 (wr .i64 (y1+(a1.length:Int))) (a0.length:Int)) fun x4=>
  some (x3,x4,true)
 else
  some (a0,[],false)
def strings_Cut (N:Nat) (a0:(List UInt8)) (a1:(List UInt8)):Option ((List UInt8)×(List UInt8)×Bool):=
 Option.bind (F5 N a0 a1) fun y1=>
 some (y1.1,y1.2.1,y1.2.2)
def strings_IndexByte (N:Nat) (a0:(List UInt8)) (a1:Int):Option (Int):=
 Option.bind (D8 N a0 a1) fun y1=>
 some (y1)
def Cq (N:Nat) (a0:Int):Option (Bool):=
 if(decide (48≤a0))=true then
  some ((decide (a0≤57)))
 else
  some (false)
def F7 (N:Nat) (a0:Int):Option (Bool):=
 if(decide (97≤(Mt .u8 a0 32)))=true then
  some ((decide ((Mt .u8 a0 32)≤122)))
 else
  some (false)
def NF (N:Nat) (a0:Int):Option (Bool):=
 Option.bind (F7 N a0) fun y1=>
 if y1=true then
  some (true)
 else
  Option.bind (Cq N a0) fun y3=>
  some (y3)
def NL (N:Nat) (a0:Int) (a1:(List UInt8)):Option (Bool):=
 Option.bind (strings_IndexByte N a1 a0) fun y1=>
 some ((decide (y1≥0)))
def HV (N:Nat) (a0:Int):Option (Bool):=
 Option.bind (NF N a0) fun y1=>
 if y1=true then
  some (true)
 else
  Option.bind (NL N a0 ([45,46,95,126]:List UInt8)) fun y3=>
  some (y3)
def Jw (N:Nat) (a0:Int):Option (Bool):=
 Option.bind (Cq N a0) fun y1=>
 if y1=true then
  some (true)
 else
  if(decide (97≤(Mt .u8 a0 32)))=true then
   some ((decide ((Mt .u8 a0 32)≤102)))
  else
   some (false)
def LD (N:Nat) (a0:Int):Option (Int):=
 Option.bind (Cq N a0) fun y1=>
 if y1=true then
  some ((wr .u8 (a0-48)))
 else
  some ((wr .u8 ((wr .u8 ((Mt .u8 a0 32)-97))+10)))
def Le (N:Nat) (a0:(List UInt8)) (a1:Int):Option (Int×Bool):=
 AA (d:=.a (1,1) [(6,20)] [26] (fun j1:Bool=>[.bool j1])) (fun j1:Bool=>
  if j1=true then
   some (0,false)
  else
   Option.bind (idx a0 (wr .i64 (a1+1))) fun x11=>
   Option.bind (LD N (AX x11)) fun y12=>
   Option.bind (idx a0 (wr .i64 (a1+2))) fun x14=>
   Option.bind (LD N (AX x14)) fun y15=>
   some ((Mt .u8 (ASD .u8 y12 4) y15),true)) fun k2=>
 if(decide ((wr .i64 ((a0.length:Int)-a1))<3))=true then
  k2 true
 else
  Option.bind (idx a0 (wr .i64 (a1+1))) fun x5=>
  Option.bind (Jw N (AX x5)) fun y6=>
  if y6=true then
   Option.bind (idx a0 (wr .i64 (a1+2))) fun x8=>
   Option.bind (Jw N (AX x8)) fun y9=>
   k2 (!y9)
  else
   k2 true
def JO (N:Nat) (a0:(List Int)) (a1:Int):Option ((List Int)):=
 Option.bind (idx ([48,49,50,51,52,53,54,55,56,57,65,66,67,68,69,70]:List UInt8) (ABY .u8 a1 4)) fun x1=>
 Option.bind (idx ([48,49,50,51,52,53,54,55,56,57,65,66,67,68,69,70]:List UInt8) (LM .u8 a1 15)) fun x2=>
 grd (Ah (a0.length+3) 1) (
 some ((a0++[37,(AX x1),(AX x2)])))
def De (N:Nat) (a0:(List UInt8)) (a1:(List UInt8)) (k2:((List Int)→Option ((List UInt8)×Int))):Nat→Int→(List Int)→Option ((List UInt8)×Int)
  |0,_,_=>none
  |k+1,s7,bn=>
  if (decide (s7<(a0.length:Int)))=true then
   AA (d:=.b (1,31) [(4,2),(8,3),(20,37)] [7] (fun j6:Int×(List Int)=>[.int .i64 j6.1]) fun j6=>[.s ([.slice 1 (List.map (AVal.int .u8) j6.2) true])]) (fun j6:Int×(List Int)=>
    De N a0 a1 k2 k (wr .i64 (j6.1+1)) j6.2) fun k7=>
   Option.bind (idx a0 s7) fun x10=>
   if((AX x10)==37)=true then
    Option.bind (Le N a0 s7) fun y11=>
    if y11.2=true then
     Option.bind (HV N y11.1) fun y13=>
     if y13=true then
      grd (Ah (bn.length+1) 1) (
      k7 ((wr .i64 (s7+2)),(bn++[y11.1])))
     else
      Option.bind (JO N bn y11.1) fun y15=>
      k7 ((wr .i64 (s7+2)),y15)
    else
     some ([],2)
   else
    AA (d:=.a (17,1) [(45,8)] [44] (fun j17:Bool=>[.bool j17])) (fun j17:Bool=>
     if j17=true then
      grd (Ah (bn.length+1) 1) (
      k7 (s7,(bn++[(AX x10)])))
     else
      some ([],1)) fun k18=>
    Option.bind (HV N (AX x10)) fun y21=>
    if y21=true then
     k18 true
    else
     Option.bind (strings_IndexByte N a1 (AX x10)) fun y23=>
     k18 (decide (y23≥0))
  else
   k2 bn
def EJ (N:Nat) (a0:(List UInt8)) (a1:(List UInt8)):Option ((List UInt8)×Int):=
 if(decide ((a0.length:Int)>16384))=true then
  some ([],5)
 else
  AA (d:=.b (4,43) [(4,2),(7,4),(14,43)] [] (fun j1:(List Int)=>[]) fun j1=>[.s ([.slice 1 (List.map (AVal.int .u8) j1) true])]) (fun j1:(List Int)=>
   some ((List.map Ij j1),0)) fun k2=>
  De N a0 a1 k2 N 0 []
def GY (N:Nat) (a0:(List UInt8)) (k2:((List Int)→Option ((List UInt8)))):List UInt8→Int→(List Int)→Option ((List UInt8))
  |[],s10,bn=>
  k2 bn
  |xk5::xs,s10,bn=>
  AA (d:=.b (1,8) [(4,2),(12,14)] [] (fun j6:(List Int)=>[]) fun j6=>[.s (List.map (AVal.int .u8) j6)]) (fun j6:(List Int)=>
   GY N a0 k2 xs (s10+1) j6) fun k7=>
  grd (0≤s10∧s10<(a0.length:Int)) (
  Option.bind (idx bn s10) fun x10=>
  AA (d:=.a (5,1) [(15,5)] [20] (fun j11:Bool=>[.bool j11])) (fun j11:Bool=>
   if j11=true then
    grd (s10.toNat+1≤bn.length) (
    k7 (bn.set s10.toNat (wr .u8 (x10+32))))
   else
    k7 bn) fun k12=>
  if(decide (65≤x10))=true then
   k12 (decide (x10≤90))
  else
   k12 false)
def ED (N:Nat) (a0:(List UInt8)):Option ((List UInt8)):=
 AA (d:=.b (2,20) [(4,2),(8,19)] [] (fun j1:(List Int)=>[]) fun j1=>[.s (List.map (AVal.int .u8) j1)]) (fun j1:(List Int)=>
  grd (a0.length≤j1.length∧AU a0.length) (
  some ((List.map Ij (List.take a0.length j1))))) fun k2=>
 grd (AU (a0.length)) (
  GY N a0 k2 a0 0 (List.map AX a0))
def Gy (N:Nat) (a0:(List UInt8)) (a1:(List UInt8)):Option (Bool):=
 Option.bind (ED N a0) fun y1=>
 Option.bind (ED N a1) fun y3=>
 some ((y1==y3))
def WV (N:Nat) (a0:(List UInt8)):Option ((List UInt8)×(List UInt8)×Int):=
 if(decide ((a0.length:Int)>4096))=true then
  some ([],[],5)
 else
  AA (d:=.a (3,1) [(9,8)] [17] (fun j1:Bool=>[.bool j1])) (fun j1:Bool=>
   if j1=true then
    some ([],[],60)
   else
    Option.bind (sub a0 5 (a0.length:Int)) fun x8=>
    Option.bind (strings_Cut N x8 ([64]:List UInt8)) fun y9=>
    if y9.2.2=true then
     some (y9.1,y9.2.1,0)
    else
     some ([],[],6)) fun k2=>
  if(decide ((a0.length:Int)<5))=true then
   k2 true
  else
   Option.bind (sub a0 0 5) fun x5=>
   Option.bind (Gy N x5 ([97,99,99,116,58]:List UInt8)) fun y6=>
   k2 (!y6)
def Bh (N:Nat) (k2:(Unit→Option (Bool))):List UInt8→Option (Bool)
  |[]=>
  k2 ()
  |xk5::xs=>
  Option.bind (Cq N (AX xk5)) fun y6=>
  if y6=true then
   Bh N k2 xs
  else
   some (false)
def Eo (N:Nat) (a0:(List UInt8)):Option (Bool):=
 AA (d:=.a (1,22) [(4,14)] [] (fun j1:Unit=>[])) (fun j1:Unit=>
  some (true)) fun k2=>
 grd (AU (a0.length)) (
  Bh N k2 a0)
def L8 (N:Nat) (a0:(List UInt8)):Option (Bool):=
 if(a0==[])=true then
  some (false)
 else
  Option.bind (Eo N a0) fun y1=>
  some (y1)
def L9 (N:Nat) (a0:Int):Option (Int):=
 Option.bind (Cq N a0) fun y1=>
 if y1=true then
  some ((wr .u64 (wr .u8 (a0-48))))
 else
  some ((wr .u64 ((wr .u64 (wr .u8 ((Mt .u8 a0 32)-97)))+10)))
def BV (N:Nat) (a1:Int) (a2:Int) (k9:(Int→Option (Int×Int))):List UInt8→Int→Option (Int×Int)
  |[],s11=>
  k9 s11
  |xk12::xs,s11=>
  Option.bind (L9 N (AX xk12)) fun y13=>
  AA (d:=.a (14,1) [(37,14)] [51] (fun j15:Bool=>[.bool j15])) (fun j15:Bool=>
   if j15=true then
    some (0,4)
   else
    BV N a1 a2 k9 xs (wr .u64 ((wr .u64 (s11 * a1))+y13))) fun k16=>
  grd (a1≠0) (
  if(decide (s11>(wr .u64 ((wr .u64 (18446744073709551615-y13)).tdiv a1))))=true then
   k16 true
  else
   k16 (decide ((wr .u64 ((wr .u64 (s11 * a1))+y13))>a2)))
def BZ (N:Nat) (k2:(Unit→Option (Int×Int))):List UInt8→Option (Int×Int)
  |[]=>
  k2 ()
  |xk5::xs=>
  Option.bind (Cq N (AX xk5)) fun y6=>
  if y6=true then
   BZ N k2 xs
  else
   some (0,1)
def EW (N:Nat) (a0:(List UInt8)) (a1:Int) (a2:Int):Option (Int×Int):=
 if(a0==[])=true then
  some (0,3)
 else
  AA (d:=.a (3,22) [(8,3),(16,12)] [] (fun j1:Unit=>[])) (fun j1:Unit=>
   AA (d:=.a (10,26) [(8,2),(12,2),(28,30)] [11] (fun j8:Int=>[.int .u64 j8])) (fun j8:Int=>
    some (j8,0)) fun k9=>
   grd (AU (a0.length)) (
    BV N a1 a2 k9 a0 0)) fun k2=>
  grd (AU (a0.length)) (
   BZ N k2 a0)
def KU (N:Nat) (a0:(List UInt8)) (a1:Int):Option (Int×Int):=
 Option.bind (EW N a0 10 a1) fun y1=>
 some (y1.1,y1.2)
def K4 (N:Nat) (a0:(List UInt8)) (a1:Int):Option (Int×Int):=
 AA (d:=.a (1,1) [(6,11)] [17] (fun j1:Bool=>[.bool j1])) (fun j1:Bool=>
  if j1=true then
   some (0,6)
  else
   Option.bind (KU N a0 a1) fun y8=>
   some (y8.1,y8.2)) fun k2=>
 Option.bind (L8 N a0) fun y5=>
 if y5=true then
  if(decide ((a0.length:Int)>1))=true then
   Option.bind (idx a0 0) fun x7=>
   k2 ((AX x7)==48)
  else
   k2 false
 else
  k2 false
def strings_Index (N:Nat) (a0:(List UInt8)) (a1:(List UInt8)):Option (Int):=
 Option.bind (Co N a0 a1) fun y1=>
 some (y1)
def DK (N:Nat) (a0:(List UInt8)):Option (Int×Int):=
 if(decide ((a0.length:Int)<1))=true then
  some (65533,0)
 else
  Option.bind (idx a0 0) fun x1=>
  (none:Option (Int×Int))
def Cj (N:Nat) (a0:(List UInt8)):Option (Int×Int):=
 AA (d:=.a (1,1) [(4,6)] [10] (fun j1:Bool=>[.bool j1])) (fun j1:Bool=>
  if j1=true then
   Option.bind (idx a0 0) fun x6=>
   some ((wr .i32 (AX x6)),1)
  else
   Option.bind (DK N a0) fun y7=>
   some (y7.1,y7.2)) fun k2=>
 if(a0==[])=true then
  k2 false
 else
  Option.bind (idx a0 0) fun x5=>
  k2 (decide ((AX x5)<128))
def Ee (N:Nat) (a1:(List UInt8)):Nat→(List UInt8)→Int→Option (Int)
  |0,_,_=>none
  |k+1,s0,s5=>
  Option.bind (strings_Index N s0 a1) fun y3=>
  if(y3==(-1))=true then
   some (s5)
  else
   Option.bind (sub s0 (wr .i64 (y3+(a1.length:Int))) (s0.length:Int)) fun x5=>
   Ee N a1 k x5 (wr .i64 (s5+1))
def strings_Count (N:Nat) (a0:(List UInt8)) (a1:(List UInt8)):Option (Int):=
 if((a1.length:Int)==0)=true then
  (none:Option (Int))
 else
  if((a1.length:Int)==1)=true then
   Option.bind (idx a1 0) fun x1=>
   some (((Go.Lib.countByte a0 (Ij (AX x1)):Nat):Int))
  else
   Ee N a1 N a0 0
def Cz (N:Nat) (a0:(List UInt8)) (a1:(List UInt8)) (a2:Int) (j1:Int) (k8:((List UInt8)×Int×(List (List UInt8))→Option ((List (List UInt8))))):Nat→Int→(List UInt8)→(List (List UInt8))→Option ((List (List UInt8)))
  |0,s10,s0,bn4=>
  k8 (s0,s10,bn4)
  |k+1,s10,s0,bn4=>
  Option.bind (strings_Index N s0 a1) fun y12=>
  if(decide (y12<0))=true then
   k8 (s0,s10,bn4)
  else
   Option.bind (sub s0 0 (wr .i64 (y12+a2))) fun x14=>
   grd (0≤s10∧s10<((if(wr .i64 ((a0.length:Int)+1))<j1 then(wr .i64 ((a0.length:Int)+1))else j1).toNat:Int)) (
   grd (s10.toNat+1≤bn4.length) (
   Option.bind (sub s0 (wr .i64 (y12+(a1.length:Int))) (s0.length:Int)) fun x15=>
   Cz N a0 a1 a2 j1 k8 k (s10+1) x15 (bn4.set s10.toNat x14)))
def strings_genSplit (N:Nat) (a0:(List UInt8)) (a1:(List UInt8)) (a2:Int) (a3:Int):Option ((List (List UInt8))):=
 if(a3==0)=true then
  (none:Option ((List (List UInt8))))
 else
  if(a1==[])=true then
   (none:Option ((List (List UInt8))))
  else
   AA (d:=.a (5,5) [(19,6)] [3] (fun j1:Int=>[.int .i64 j1])) (fun j1:Int=>
    grd (WB (if(wr .i64 ((a0.length:Int)+1))<j1 then(wr .i64 ((a0.length:Int)+1))else j1) 16) (
    AA (d:=.b (0,22) [(11,1),(34,24)] [0,10] (fun j7:(List UInt8)×Int×(List (List UInt8))=>[.str j7.1,.int .i64 j7.2.1]) fun j7=>[.s (List.map AVal.str j7.2.2)]) (fun j7:(List UInt8)×Int×(List (List UInt8))=>
     grd (0≤j7.2.1∧j7.2.1<((if(wr .i64 ((a0.length:Int)+1))<j1 then(wr .i64 ((a0.length:Int)+1))else j1).toNat:Int)) (
     grd (j7.2.1.toNat+1≤j7.2.2.length) (
     grd (0≤(wr .i64 (j7.2.1+1))∧(wr .i64 (j7.2.1+1))≤((if(wr .i64 ((a0.length:Int)+1))<j1 then(wr .i64 ((a0.length:Int)+1))else j1).toNat:Int)) (
     grd ((wr .i64 (j7.2.1+1)).toNat≤j7.2.2.length) (
     some (List.take ((wr .i64 (j7.2.1+1)).toNat) (j7.2.2.set j7.2.1.toNat j7.1))))))) fun k8=>
    grd ((-4611686018427387904:Int)≤0∧((wr .i64 ((if(wr .i64 ((a0.length:Int)+1))<j1 then(wr .i64 ((a0.length:Int)+1))else j1)-1)):Int)≤4611686018427387904) (
     Cz N a0 a1 a2 j1 k8 (((wr .i64 ((if(wr .i64 ((a0.length:Int)+1))<j1 then(wr .i64 ((a0.length:Int)+1))else j1)-1)):Int)-0).toNat 0 a0 (List.replicate (if(wr .i64 ((a0.length:Int)+1))<j1 then(wr .i64 ((a0.length:Int)+1))else j1).toNat ([]:List UInt8))))) fun k2=>
   if(decide (a3<0))=true then
    Option.bind (strings_Count N a0 a1) fun y5=>
    k2 (wr .i64 (y5+1))
   else
    k2 a3
def strings_Split (N:Nat) (a0:(List UInt8)) (a1:(List UInt8)):Option ((List (List UInt8))):=
 Option.bind (strings_genSplit N a0 a1 0 (-1)) fun y1=>
 some (y1)
def Gq (N:Nat) (k4:(Unit→Option (Bool))):List (List UInt8)→Option (Bool)
  |[]=>
  k4 ()
  |xk7::xs=>
  Option.bind (K4 N xk7 255) fun y8=>
  if(y8.2 !=0)=true then
   some (false)
  else
   Gq N k4 xs
def P6 (N:Nat) (a0:(List UInt8)):Option (Bool):=
 Option.bind (strings_Split N a0 ([46]:List UInt8)) fun y1=>
 if((y1.length:Int) !=4)=true then
  some (false)
 else
  AA (d:=.a (4,24) [(2,1),(5,3),(13,14)] [] (fun j3:Unit=>[])) (fun j3:Unit=>
   some (true)) fun k4=>
  grd (AU (y1.length)) (
   Gq N k4 y1)
def H5 (N:Nat) (k8:(Unit→Option (Bool))):List UInt8→Option (Bool)
  |[]=>
  k8 ()
  |xk11::xs=>
  AA (d:=.a (6,1) [(29,17)] [46] (fun j12:Bool=>[.bool j12])) (fun j12:Bool=>
   if j12=true then
    some (false)
   else
    H5 N k8 xs) fun k13=>
  Option.bind (F7 N (AX xk11)) fun y16=>
  if y16=true then
   k13 false
  else
   Option.bind (Cq N (AX xk11)) fun y18=>
   if y18=true then
    k13 false
   else
    k13 ((AX xk11) !=45)
def RQ (N:Nat) (a0:(List UInt8)):Option (Bool):=
 AA (d:=.a (1,1) [(4,19)] [23] (fun j1:Bool=>[.bool j1])) (fun j1:Bool=>
  if j1=true then
   some (false)
  else
   AA (d:=.a (3,22) [(2,2),(24,24)] [] (fun j7:Unit=>[])) (fun j7:Unit=>
    some (true)) fun k8=>
   grd (AU (a0.length)) (
    H5 N k8 a0)) fun k2=>
 if(a0==[])=true then
  k2 true
 else
  if(decide ((a0.length:Int)>63))=true then
   k2 true
  else
   Option.bind (idx a0 0) fun x5=>
   if((AX x5)==45)=true then
    k2 true
   else
    Option.bind (idx a0 (wr .i64 ((a0.length:Int)-1))) fun x6=>
    k2 ((AX x6)==45)
def JH (N:Nat):Nat→(List UInt8)→Option (Bool)
  |0,_=>none
  |k+1,s0=>
  Option.bind (strings_Cut N s0 ([46]:List UInt8)) fun y2=>
  Option.bind (RQ N y2.1) fun y4=>
  if y4=true then
   if y2.2.2=true then
    JH N k y2.2.1
   else
    Option.bind (L8 N y2.1) fun y6=>
    some ((!y6))
  else
   some (false)
def TJ (N:Nat) (a0:(List UInt8)):Option (Bool):=
 JH N N a0
def QH (N:Nat) (a0:(List UInt8)):Option ((List UInt8)×Int):=
 if(a0==[])=true then
  some ([],3)
 else
  if(decide ((a0.length:Int)>253))=true then
   some ([],5)
  else
   AA (d:=.a (5,1) [(12,8)] [11] (fun j1:Bool=>[.bool j1])) (fun j1:Bool=>
    if j1=true then
     some ([],50)
    else
     Option.bind (ED N a0) fun y9=>
     some (y9,0)) fun k2=>
   Option.bind (P6 N a0) fun y5=>
   if y5=true then
    k2 false
   else
    Option.bind (TJ N a0) fun y7=>
    k2 (!y7)
def Rb (N:Nat) (a0:(List UInt8)):Option (ApiAcct×Int):=
 Option.bind (WV N a0) fun y1=>
 if(y1.2.2 !=0)=true then
  some ((ApiAcct.mk [] []),y1.2.2)
 else
  Option.bind (EJ N y1.1 ([33,36,38,39,40,41,42,43,44,59,61]:List UInt8)) fun y3=>
  AA (d:=.a (5,1) [(23,10)] [33] (fun j5:Bool=>[.bool j5])) (fun j5:Bool=>
   if j5=true then
    some ((ApiAcct.mk [] []),80)
   else
    Option.bind (QH N y1.2.1) fun y10=>
    if(y10.2 !=0)=true then
     some ((ApiAcct.mk [] []),y10.2)
    else
     some ((ApiAcct.mk y3.1 y10.1),0)) fun k6=>
  if(y3.2 !=0)=true then
   k6 true
  else
   if(y3.1==[])=true then
    k6 true
   else
    Option.bind (idx y3.1 0) fun x9=>
    k6 ((AX x9)==37)
def Pz (N:Nat) (a0:ApiAcct):Option ((List UInt8)):=
 grd (AU (([97,99,99,116,58]:List UInt8).length+a0.user.length)) (
 grd (AU ((([97,99,99,116,58]:List UInt8)++a0.user).length+([64]:List UInt8).length)) (
 grd (AU (((([97,99,99,116,58]:List UInt8)++a0.user)++([64]:List UInt8)).length+a0.host.length)) (
 some ((((([97,99,99,116,58]:List UInt8)++a0.user)++([64]:List UInt8))++a0.host)))))
def KN (N:Nat) (a0:(List UInt8)):Option (ApiID×Int):=
 Option.bind (Rb N a0) fun y1=>
 if(y1.2 !=0)=true then
  some ((ApiID.mk 0 [] [] 0),y1.2)
 else
  Option.bind (Pz N y1.1) fun y3=>
  some ((ApiID.mk 1 y3 y1.1.host 0),0)
def Dc (N:Nat) (a0:(List UInt8)) (k8:(Unit→Option (Int))):Nat→Nat→Option (Int)
  |0,_=>none
  |k+1,s175=>
  if(decide (s175<a0.length))=true then
   if(((ET a0 s175).1:Int)==65533)=true then
    some (((s175:Nat):Int))
   else
    Dc N a0 k8 k (s175+(ET a0 s175).2)
  else
   k8 ()
def Fh (N:Nat) (a0:(List UInt8)) (a1:Int):Option (Int):=
 AA (d:=.a (34,1) [(161,6)] [160] (fun j1:Bool=>[.bool j1])) (fun j1:Bool=>
  if j1=true then
   Option.bind (strings_IndexByte N a0 (wr .u8 a1)) fun y5=>
   some (y5)
  else
   if(a1==65533)=true then
    AA (d:=.a (37,20) [(4,3),(174,9)] [] (fun j7:Unit=>[])) (fun j7:Unit=>
     some ((-1))) fun k8=>
    Dc N a0 k8 N 0
   else
    (none:Option (Int))) fun k2=>
 if(decide (0≤a1))=true then
  k2 (decide (a1<128))
 else
  k2 false
def strings_shouldUseASCIISet (N:Nat) (a0:Int):Option (Bool):=
 some ((decide (a0>8)))
def Ch (N:Nat) (k2:((List Bool)→Option ((List Bool)×Bool))):List UInt8→(List Bool)→Option ((List Bool)×Bool)
  |[],bn=>
  k2 bn
  |xk5::xs,bn=>
  if(decide ((AX xk5)≥128))=true then
   grd (bn.length=256) (
   some (bn,false))
  else
   grd (0≤(AX xk5)∧(AX xk5)<256) (
   grd ((AX xk5).toNat+1≤bn.length) (
   Ch N k2 xs (bn.set ((AX xk5).toNat) true)))
def strings_makeASCIISet (N:Nat) (a0:(List UInt8)):Option ((List Bool)×Bool):=
 AA (d:=.b (1,24) [(3,17)] [] (fun j1:(List Bool)=>[]) fun j1=>[.s (List.map AVal.bool j1)]) (fun j1:(List Bool)=>
  grd (j1.length=256) (
  some (j1,true))) fun k2=>
 grd (AU (a0.length)) (
  Ch N k2 a0 (AQp 256))
def Cx (N:Nat) (a0:(List Bool)) (a1:Int):Option (Bool×(List Bool)):=
 grd (0≤a1∧a1<256) (
 Option.bind (idx a0 a1) fun x1=>
 some (x1,a0))
def Dr (N:Nat) (a0:(List UInt8)) (a1:(List UInt8)) (k24:(Unit→Option (Int))):Nat→Nat→Option (Int)
  |0,_=>none
  |k+1,s45=>
  if(decide (s45<a0.length))=true then
   Option.bind (Fh N a1 ((ET a0 s45).1:Int)) fun y28=>
   if(decide (y28≥0))=true then
    some (((s45:Nat):Int))
   else
    Dr N a0 a1 k24 k (s45+(ET a0 s45).2)
  else
   k24 ()
def Dt (N:Nat) (k17:((List Bool)→Option (Int))):List UInt8→Int→(List Bool)→Option (Int)
  |[],s8,bn15=>
  k17 bn15
  |xk20::xs,s8,bn15=>
  Option.bind (Cx N bn15 (AX xk20)) fun y21=>
  if y21.1=true then
   some (s8)
  else
   Dt N k17 xs (s8+1) y21.2
def strings_IndexAny (N:Nat) (a0:(List UInt8)) (a1:(List UInt8)):Option (Int):=
 if(a1==[])=true then
  some ((-1))
 else
  if((a1.length:Int)==1)=true then
   Option.bind (idx a1 0) fun x1=>
   AA (d:=.a (5,5) [(19,2)] [5] (fun j2:Int=>[.int .i32 j2])) (fun j2:Int=>
    Option.bind (Fh N a0 j2) fun y6=>
    some (y6)) fun k3=>
   if(decide ((wr .i32 (AX x1))≥128))=true then
    k3 65533
   else
    k3 (wr .i32 (AX x1))
  else
   AA (d:=.a (8,34) [(4,1),(6,3),(24,20)] [] (fun j8:Unit=>[])) (fun j8:Unit=>
    AA (d:=.a (17,20) [(4,1),(9,2),(44,11)] [] (fun j23:Unit=>[])) (fun j23:Unit=>
     some ((-1))) fun k24=>
    Dr N a0 a1 k24 N 0) fun k9=>
   Option.bind (strings_shouldUseASCIISet N (a0.length:Int)) fun y12=>
   if y12=true then
    Option.bind (strings_makeASCIISet N a1) fun y14=>
    grd ((AQp 256).length=256) (
    grd (y14.1.length=256) (
    if y14.2=true then
     AA (d:=.b (11,20) [(4,1),(8,1),(33,11)] [] (fun j16:(List Bool)=>[]) fun j16=>[.s (List.map AVal.bool j16)]) (fun j16:(List Bool)=>
      some ((-1))) fun k17=>
     grd (AU (a0.length)) (
      Dt N k17 a0 0 y14.1)
    else
     k9 ()))
   else
    k9 ()
def IA (N:Nat) (a0:ApiURL):Option (ApiHostPort):=
 some ((ApiHostPort.mk a0.host a0.port))
def K8 (N:Nat) (a0:ApiURL):Option ((List UInt8)):=
 if a0.hasQuery=true then
  grd (AU (a0.path.length+([63]:List UInt8).length)) (
  grd (AU ((a0.path++([63]:List UInt8)).length+a0.query.length)) (
  some (((a0.path++([63]:List UInt8))++a0.query))))
 else
  some (a0.path)
def El (N:Nat) (k2:(Int×Int×(List Int)→Option ((List UInt8)))):Nat→Int→Int→(List Int)→Option ((List UInt8))
  |0,_,_,_=>none
  |k+1,s0,s4,bn=>
  if(decide (s0≥10))=true then
   grd (0≤s4∧s4<20) (
   grd (s4.toNat+1≤bn.length) (
   El N k2 k (wr .u64 (s0.tdiv 10)) (wr .i64 (s4-1)) (bn.set s4.toNat (wr .u8 (wr .u64 (48+(s0.tmod 10)))))))
  else
   k2 (s0,s4,bn)
def H6 (N:Nat) (a0:Int):Option ((List UInt8)):=
 AA (d:=.b (0,14) [(5,12)] [0,4] (fun j1:Int×Int×(List Int)=>[.int .u64 j1.1,.int .i64 j1.2.1]) fun j1=>[.s (List.map (AVal.int .u8) j1.2.2)]) (fun j1:Int×Int×(List Int)=>
  grd (0≤j1.2.1∧j1.2.1<20) (
  grd (j1.2.1.toNat+1≤j1.2.2.length) (
  grd (0≤j1.2.1∧j1.2.1≤20) (
  grd ((20-j1.2.1.toNat)≤j1.2.2.length-j1.2.1.toNat∧AU (20-j1.2.1.toNat)) (
  some ((List.map Ij (List.take (20-j1.2.1.toNat) (List.drop j1.2.1.toNat (j1.2.2.set j1.2.1.toNat (wr .u8 (wr .u64 (48+j1.1))))))))))))) fun k2=>
 El N k2 N a0 19 (List.replicate 20 0)
def P9 (N:Nat) (a0:ApiHostPort):Option ((List UInt8)):=
 if(a0.port==0)=true then
  some (a0.host)
 else
  if(decide (a0.port<0))=true then
   grd (AU (a0.host.length+([58,45]:List UInt8).length)) (
   Option.bind (H6 N (wr .u64 (0-(wr .u64 a0.port)))) fun y1=>
   grd (AU ((a0.host++([58,45]:List UInt8)).length+y1.length)) (
   some (((a0.host++([58,45]:List UInt8))++y1))))
  else
   grd (AU (a0.host.length+([58]:List UInt8).length)) (
   Option.bind (H6 N (wr .u64 a0.port)) fun y3=>
   grd (AU ((a0.host++([58]:List UInt8)).length+y3.length)) (
   some (((a0.host++([58]:List UInt8))++y3))))
def IL (N:Nat) (a0:ApiURL):Option ((List UInt8)):=
 Option.bind (IA N a0) fun y1=>
 Option.bind (P9 N y1) fun y3=>
 grd (AU (([104,116,116,112,115,58,47,47]:List UInt8).length+y3.length)) (
 Option.bind (K8 N a0) fun y5=>
 grd (AU ((([104,116,116,112,115,58,47,47]:List UInt8)++y3).length+y5.length)) (
 AA (d:=.a (2,5) [(11,7)] [3] (fun j7:(List UInt8)=>[.str j7])) (fun j7:(List UInt8)=>
  some (j7)) fun k8=>
 if a0.hasFrag=true then
  grd (AU (([35]:List UInt8).length+a0.fragment.length)) (
  grd (AU (((([104,116,116,112,115,58,47,47]:List UInt8)++y3)++y5).length+(([35]:List UInt8)++a0.fragment).length)) (
  k8 (((([104,116,116,112,115,58,47,47]:List UInt8)++y3)++y5)++(([35]:List UInt8)++a0.fragment))))
 else
  k8 ((([104,116,116,112,115,58,47,47]:List UInt8)++y3)++y5)))
def Cw (N:Nat) (a0:(List UInt8)) (a1:(List UInt8)):Option (Bool):=
 if(decide ((a0.length:Int)≥(a1.length:Int)))=true then
  Option.bind (sub a0 0 (a1.length:Int)) fun x1=>
  some ((x1==a1))
 else
  some (false)
def D5 (N:Nat) (a0:(List UInt8)) (a1:(List UInt8)):Option ((List UInt8)×Bool):=
 Option.bind (Cw N a0 a1) fun y1=>
 if y1=true then
  Option.bind (sub a0 (a1.length:Int) (a0.length:Int)) fun x3=>
  some (x3,true)
 else
  some (a0,false)
def strings_CutPrefix (N:Nat) (a0:(List UInt8)) (a1:(List UInt8)):Option ((List UInt8)×Bool):=
 Option.bind (D5 N a0 a1) fun y1=>
 some (y1.1,y1.2)
def II (N:Nat) (k2:(Unit→Option (Bool))):List UInt8→Int→Option (Bool)
  |[],s6=>
  k2 ()
  |xk5::xs,s6=>
  AA (d:=.a (4,1) [(9,22)] [31] (fun j6:Bool=>[.bool j6])) (fun j6:Bool=>
   if j6=true then
    some (false)
   else
    II N k2 xs (s6+1)) fun k7=>
  Option.bind (F7 N (AX xk5)) fun y10=>
  if y10=true then
   k7 false
  else
   if(s6==0)=true then
    k7 true
   else
    Option.bind (Cq N (AX xk5)) fun y12=>
    if y12=true then
     k7 false
    else
     Option.bind (strings_IndexByte N ([43,45,46]:List UInt8) (AX xk5)) fun y14=>
     k7 (decide (y14<0))
def RU (N:Nat) (a0:(List UInt8)):Option (Bool):=
 AA (d:=.a (1,22) [(2,31)] [] (fun j1:Unit=>[])) (fun j1:Unit=>
  some ((!(a0==[])))) fun k2=>
 grd (AU (a0.length)) (
  II N k2 a0 0)
def Nl (N:Nat) (a0:(List UInt8)):Option (ApiURI×Int):=
 if(decide ((a0.length:Int)>16384))=true then
  some ((ApiURI.mk [] [] [] [] [] false false false false),5)
 else
  Option.bind (strings_Cut N a0 ([35]:List UInt8)) fun y1=>
  Option.bind (strings_Cut N y1.1 ([63]:List UInt8)) fun y3=>
  AA (d:=.b (6,15) [(3,1),(5,1),(29,25)] [0] (fun j5:(List UInt8)×(List UInt8)×Bool=>[.str j5.1]) fun j5=>[.p [.v (.str j5.2.1),.k,.k,.k,.k,.v (.bool j5.2.2)]]) (fun j5:(List UInt8)×(List UInt8)×Bool=>
   AA (d:=.b (11,17) [(6,3),(54,20)] [0] (fun j20:(List UInt8)×(List UInt8)×Bool=>[.str j20.1]) fun j20=>[.p [.k,.v (.str j20.2.1),.k,.k,.k,.k,.v (.bool j20.2.2)]]) (fun j20:(List UInt8)×(List UInt8)×Bool=>
    some ((ApiURI.mk j5.2.1 j20.2.1 j20.1 y3.2.1 y1.2.1 j5.2.2 j20.2.2 y3.2.2 y1.2.2),0)) fun k21=>
   Option.bind (strings_CutPrefix N j5.1 ([47,47]:List UInt8)) fun y24=>
   if y24.2=true then
    Option.bind (strings_IndexByte N y24.1 47) fun y26=>
    AA (d:=.a (15,5) [(63,4)] [8] (fun j28:Int=>[.int .i64 j28])) (fun j28:Int=>
     Option.bind (sub y24.1 0 j28) fun x32=>
     Option.bind (sub y24.1 j28 (y24.1.length:Int)) fun x33=>
     k21 (x33,x32,true)) fun k29=>
    if(decide (y26<0))=true then
     k29 (y24.1.length:Int)
    else
     k29 y26
   else
    k21 (j5.1,[],false)) fun k6=>
  Option.bind (strings_IndexAny N y3.1 ([58,47]:List UInt8)) fun y9=>
  AA (d:=.a (7,1) [(31,7)] [38] (fun j11:Bool=>[.bool j11])) (fun j11:Bool=>
   if j11=true then
    Option.bind (sub y3.1 0 y9) fun x16=>
    Option.bind (RU N x16) fun y17=>
    if y17=true then
     Option.bind (sub y3.1 (wr .i64 (y9+1)) (y3.1.length:Int)) fun x19=>
     k6 (x19,x16,true)
    else
     some ((ApiURI.mk [] [] [] [] [] false false false false),6)
   else
    k6 (y3.1,[],false)) fun k12=>
  if(decide (y9≥0))=true then
   Option.bind (idx y3.1 y9) fun x15=>
   k12 ((AX x15)==58)
  else
   k12 false
def strings_Contains (N:Nat) (a0:(List UInt8)) (a1:(List UInt8)):Option (Bool):=
 Option.bind (strings_Index N a0 a1) fun y1=>
 some ((decide (y1≥0)))
def Rn (N:Nat) (a0:(List UInt8)):Option (ApiHostPort×Int):=
 Option.bind (strings_Cut N a0 ([58]:List UInt8)) fun y1=>
 Option.bind (QH N y1.1) fun y3=>
 if(y3.2 !=0)=true then
  some ((ApiHostPort.mk [] 0),y3.2)
 else
  AA (d:=.a (6,13) [(3,1),(8,1),(27,11)] [] (fun j5:Unit=>[])) (fun j5:Unit=>
   AA (d:=.a (10,5) [(38,4)] [] (fun j9:Unit=>[])) (fun j9:Unit=>
    some ((ApiHostPort.mk y3.1 0),0)) fun k10=>
   if(0==443)=true then
    k10 ()
   else
    k10 ()) fun k6=>
  if y1.2.2=true then
   (none:Option (ApiHostPort×Int))
  else
   k6 ()
def strings_HasPrefix (N:Nat) (a0:(List UInt8)) (a1:(List UInt8)):Option (Bool):=
 Option.bind (Cw N a0 a1) fun y1=>
 some (y1)
def CL (N:Nat):Nat→(List UInt8)→Nat→(List Int)→Option ((List UInt8))
  |0,_,_,_=>none
  |k+1,s0,s3_len,bq3=>
  if(s0==[])=true then
   grd (s3_len≤bq3.length∧AU s3_len) (
   some ((List.map Ij (List.take s3_len bq3))))
  else
   Option.bind (strings_HasPrefix N s0 ([46,46,47]:List UInt8)) fun y2=>
   if y2=true then
    Option.bind (sub s0 3 (s0.length:Int)) fun x4=>
    CL N k x4 s3_len bq3
   else
    Option.bind (strings_HasPrefix N s0 ([46,47]:List UInt8)) fun y5=>
    if y5=true then
     Option.bind (sub s0 2 (s0.length:Int)) fun x7=>
     CL N k x7 s3_len bq3
    else
     Option.bind (strings_HasPrefix N s0 ([47,46,47]:List UInt8)) fun y8=>
     if y8=true then
      Option.bind (sub s0 2 (s0.length:Int)) fun x10=>
      CL N k x10 s3_len bq3
     else
      if(s0==([47,46]:List UInt8))=true then
       CL N k ([47]:List UInt8) s3_len bq3
      else
       AA (d:=.a (16,1) [(45,6)] [44] (fun j11:Bool=>[.bool j11])) (fun j11:Bool=>
        if j11=true then
         Option.bind (sub s0 3 (s0.length:Int)) fun x17=>
         (none:Option ((List UInt8)))
        else
         AA (d:=.a (19,1) [(62,6)] [61] (fun j18:Bool=>[.bool j18])) (fun j18:Bool=>
          if j18=true then
           CL N k [] s3_len bq3
          else
           Option.bind (sub s0 1 (s0.length:Int)) fun x22=>
           Option.bind (strings_IndexByte N x22 47) fun y23=>
           AA (d:=.a (4,5) [(14,4)] [4] (fun j25:Int=>[.int .i64 j25])) (fun j25:Int=>
            Option.bind (sub s0 0 j25) fun x29=>
            grd (s3_len≤bq3.length∧Ah (s3_len+x29.length) 1) (
            Option.bind (sub s0 j25 (s0.length:Int)) fun x31=>
            CL N k x31 (s3_len+x29.length) (List.take s3_len bq3++List.map AX x29))) fun k26=>
           if((wr .i64 (1+y23))==0)=true then
            k26 (s0.length:Int)
           else
            k26 (wr .i64 (1+y23))) fun k19=>
         if(s0==([46]:List UInt8))=true then
          k19 true
         else
          k19 (s0==([46,46]:List UInt8))) fun k12=>
       Option.bind (strings_HasPrefix N s0 ([47,46,46,47]:List UInt8)) fun y15=>
       if y15=true then
        k12 true
       else
        k12 (s0==([47,46,46]:List UInt8))
def GH (N:Nat) (a0:(List UInt8)):Option ((List UInt8)):=
 grd (Qp 0 (a0.length:Int) 1) (
 CL N N a0 ((0:Int).toNat) (List.replicate (0:Int).toNat 0))
def KM (N:Nat) (a0:(List UInt8)):Option (ApiURL×Int):=
 if(decide ((a0.length:Int)>4096))=true then
  some ((ApiURL.mk [] 0 [] [] [] false false),5)
 else
  Option.bind (Nl N a0) fun y1=>
  if(y1.2 !=0)=true then
   some ((ApiURL.mk [] 0 [] [] [] false false),y1.2)
  else
   AA (d := .a (6,1) [(23,9)] [22] (fun j3:Bool=>[.bool j3])) (fun j3:Bool=>
    if j3=true then
     some ((ApiURL.mk [] 0 [] [] [] false false),60)
    else
     if y1.1.hasAuthority=true then
      Option.bind (strings_Contains N y1.1.authority ([64]:List UInt8)) fun y9=>
      if y9=true then
       some ((ApiURL.mk [] 0 [] [] [] false false),70)
      else
       Option.bind (Rn N y1.1.authority) fun y11=>
       if(y11.2 !=0)=true then
        some ((ApiURL.mk [] 0 [] [] [] false false),y11.2)
       else
        Option.bind (EJ N y1.1.path ([33,36,38,39,40,41,42,43,44,59,61,58,64,47]:List UInt8)) fun y13=>
        if(y13.2 !=0)=true then
         some ((ApiURL.mk [] 0 [] [] [] false false),y13.2)
        else
         Option.bind (EJ N y1.1.query ([33,36,38,39,40,41,42,43,44,59,61,58,64,47,63]:List UInt8)) fun y15=>
         if(y15.2 !=0)=true then
          some ((ApiURL.mk [] 0 [] [] [] false false),y15.2)
         else
          Option.bind (EJ N y1.1.fragment ([33,36,38,39,40,41,42,43,44,59,61,58,64,47,63]:List UInt8)) fun y17=>
          if(y17.2 !=0)=true then
           some ((ApiURL.mk [] 0 [] [] [] false false),y17.2)
          else
           AA (d:=.b (25,7) [(95,8)] [] (fun j19:(List UInt8)=>[]) fun j19=>[.p [.k,.k,.v (.str j19)]]) (fun j19:(List UInt8)=>
            Option.bind (IL N (ApiURL.mk y11.1.host y11.1.port j19 y15.1 y17.1 y1.1.hasQuery y1.1.hasFrag)) fun y25=>
            if(decide ((y25.length:Int)>4096))=true then
             some ((ApiURL.mk [] 0 [] [] [] false false),5)
            else
             some ((ApiURL.mk y11.1.host y11.1.port j19 y15.1 y17.1 y1.1.hasQuery y1.1.hasFrag),0)) fun k20=>
           Option.bind (GH N y13.1) fun y23=>
           if(y23==[])=true then
            k20 ([47]:List UInt8)
           else
            k20 y23
     else
      some ((ApiURL.mk [] 0 [] [] [] false false),71)) fun k4=>
   if y1.1.hasScheme=true then
    Option.bind (Gy N y1.1.scheme ([104,116,116,112,115]:List UInt8)) fun y7=>
    k4 (!y7)
   else
    k4 true
def Kl (N:Nat) (a0:(List UInt8)):Option (ApiID×Int):=
 Option.bind (KM N a0) fun y1=>
 if(y1.2 !=0)=true then
  some ((ApiID.mk 0 [] [] 0),y1.2)
 else
  Option.bind (IL N y1.1) fun y3=>
  some ((ApiID.mk 3 y3 y1.1.host y1.1.port),0)
def E8 (N:Nat) (a0:StringsBuilder):Option (StringsBuilder):=
 if a0.addr=true then
  some (a0)
 else
  some ((StringsBuilder.mk true a0.buf))
def BG (N:Nat) (a0:StringsBuilder) (a1:(List UInt8)):Option (Int×Unit×StringsBuilder):=
 Option.bind (E8 N a0) fun y1=>
 grd (Ah (y1.buf.length+a1.length) 1) (
 some ((a1.length:Int),(),(StringsBuilder.mk y1.addr (y1.buf++a1))))
def Cs (N:Nat) (a0:StringsBuilder):Option ((List UInt8)×StringsBuilder):=
 some (a0.buf,a0)
def Lt (N:Nat) (a0:(List UInt8)):Option (ApiDID×Int):=
 if(decide ((a0.length:Int)>4096))=true then
  some ((ApiDID.mk [] []),5)
 else
  Option.bind (strings_CutPrefix N a0 ([100,105,100,58]:List UInt8)) fun y1=>
  if y1.2=true then
   Option.bind (strings_Cut N y1.1 ([58]:List UInt8)) fun y3=>
   if y3.2.2=true then
    (none:Option (ApiDID×Int))
   else
    some ((ApiDID.mk [] []),6)
  else
   some ((ApiDID.mk [] []),60)
def ME (N:Nat) (a0:ApiURL):Option (Bool):=
 Option.bind (IL N a0) fun y1=>
 Option.bind (KM N y1) fun y3=>
 if(y3.2==0)=true then
  some ((a0.host==y3.1.host&&(a0.port==y3.1.port&&(a0.path==y3.1.path&&(a0.query==y3.1.query&&(a0.fragment==y3.1.fragment&&(a0.hasQuery==y3.1.hasQuery&&a0.hasFrag==y3.1.hasFrag)))))))
 else
  some (false)
def M8 (N:Nat):Option (Unit):=
 some ()
def J7 (N:Nat) (a0:(List UInt8)):Option (ApiID×Int):=
 if(decide ((a0.length:Int)>4096))=true then
  some ((ApiID.mk 0 [] [] 0),5)
 else
  Option.bind (strings_Cut N a0 ([58]:List UInt8)) fun y1=>
  Option.bind (M8 N) fun y3=>
  Option.bind (ED N y1.1) fun y6=>
  if(y6==([97,99,99,116]:List UInt8))=true then
   AA (d:=.a (5,1) [(22,5)] [27] (fun j8:Bool=>[.bool j8])) (fun j8:Bool=>
    if j8=true then
     some ((ApiID.mk 0 [] [] 0),60)
    else
     Option.bind (KN N a0) fun y12=>
     some (y12.1,y12.2)) fun k9=>
   if y1.2.2=true then
    k9 false
   else
    k9 true
  else
   if(y6==([109,97,105,108,116,111]:List UInt8))=true then
    AA (d:=.a (5,1) [(22,5)] [27] (fun j14:Bool=>[.bool j14])) (fun j14:Bool=>
     if j14=true then
      some ((ApiID.mk 0 [] [] 0),60)
     else
      (none:Option (ApiID×Int))) fun k15=>
    if y1.2.2=true then
     k15 false
    else
     k15 true
   else
    if(y6==([104,116,116,112,115]:List UInt8))=true then
     AA (d:=.a (5,1) [(22,5)] [27] (fun j18:Bool=>[.bool j18])) (fun j18:Bool=>
      if j18=true then
       some ((ApiID.mk 0 [] [] 0),60)
      else
       Option.bind (Kl N a0) fun y22=>
       some (y22.1,y22.2)) fun k19=>
     if y1.2.2=true then
      k19 false
     else
      k19 true
    else
     if(y6==([100,105,100]:List UInt8))=true then
      AA (d:=.a (5,1) [(22,5)] [27] (fun j24:Bool=>[.bool j24])) (fun j24:Bool=>
       if j24=true then
        some ((ApiID.mk 0 [] [] 0),60)
       else
        (none:Option (ApiID×Int))) fun k25=>
      if y1.2.2=true then
       k25 false
      else
       k25 true
     else
      AA (d:=.a (5,1) [(22,5)] [27] (fun j28:Unit=>[.bool true])) (fun j28:Unit=>
       some ((ApiID.mk 0 [] [] 0),60)) fun k29=>
      if y1.2.2=true then
       k29 ()
      else
       k29 ()
def M0 (N:Nat) (a0:ApiID):Option (Bool):=
 Option.bind (J7 N a0.text) fun y1=>
 if(y1.2==0)=true then
  some ((y1.1.kind==a0.kind&&(y1.1.text==a0.text&&(y1.1.host==a0.host&&y1.1.port==a0.port))))
 else
  some (false)
def OJ (N:Nat) (a0:ApiAnswer):Option (ApiHostPort):=
 some ((ApiHostPort.mk a0.host a0.port))
def Jm (N:Nat) (a0:WorldRequest) (a1:ApiAnswer):Option (Bool):=
 Option.bind (OJ N a1) fun y1=>
 if (y1.host==a0.origin.host&&y1.port==a0.origin.port)=true then
  if(a1.target==a0.target)=true then
   if(decide (a1.from_≤a0.now))=true then
    if(a1.until_==0)=true then
     some (true)
    else
     some ((decide (a1.until_>a0.now)))
   else
    some (false)
  else
   some (false)
 else
  some (false)
def AY (N:Nat) (v1_0:WorldRequest) (k2:(Unit→Option (Int))):List ApiAnswer→Int→Option (Int)
  |[],s8_0=>
  k2 ()
  |xk5::xs,s8_0=>
  Option.bind (Jm N v1_0 xk5) fun y6=>
  if y6=true then
   some (s8_0)
  else
   AY N v1_0 k2 xs (s8_0+1)
def BH (N:Nat) (a0:(List ApiAnswer)) (v1_0:WorldRequest):Option (Int):=
 AA (d:=.a (1,22) [(4,15)] [] (fun j1:Unit=>[])) (fun j1:Unit=>
  some ((-1))) fun k2=>
 grd (AU (a0.length)) (
  AY N v1_0 k2 a0 0)
def TH (N:Nat) (a0:(List ApiAnswer)) (a1:ApiURL) (a2:Int):Option ((List UInt8)×Int):=
 Option.bind (ME N a1) fun y1=>
 if y1=true then
  AA (d:=.n (3,1) [(13,6)] [8] 8 (fun(j4:ApiHostPort×(List UInt8)) g=>[.ptr g 0]) (fun j4 g=>[]) (fun j4 g=>[.str j4.1.host,.int .i64 j4.1.port,.str j4.2,.int .u64 a2])) (fun j4:ApiHostPort×(List UInt8)=>
   Option.bind (BH N a0 (WorldRequest.mk j4.1 j4.2 a2)) fun y12=>
   if(decide (y12<0))=true then
    some ([],241)
   else
    Option.bind (idx a0 y12) fun x14=>
    if(x14.fail==1)=true then
     some ([],240)
    else
     if(x14.fail==2)=true then
      some ([],241)
     else
      if(x14.fail==3)=true then
       some ([],242)
      else
       if(x14.fail==4)=true then
        some ([],243)
       else
        some (x14.raw,0)) fun k5=>
  Option.bind (IA N a1) fun y8=>
  Option.bind (K8 N a1) fun y10=>
  k5 (y8,y10)
 else
  some ([],8)
def IM (N:Nat) (k2:(Unit→Option (Bool))):List UInt8→Option (Bool)
  |[]=>
  k2 ()
  |xk5::xs=>
  AA (d:=.a (5,1) [(13,9)] [22] (fun j6:Bool=>[.bool j6])) (fun j6:Bool=>
   if j6=true then
    some (false)
   else
    IM N k2 xs) fun k7=>
  if(decide ((AX xk5)<32))=true then
   if((AX xk5) !=9)=true then
    k7 true
   else
    k7 ((AX xk5)==127)
  else
   k7 ((AX xk5)==127)
def MQ (N:Nat) (a0:(List UInt8)):Option (Bool):=
 AA (d:=.a (1,24) [(2,22)] [] (fun j1:Unit=>[])) (fun j1:Unit=>
  some (true)) fun k2=>
 grd (AU (a0.length)) (
  IM N k2 a0)
def Pq (N:Nat) (a0:(List UInt8)):Option (ApiHead×Bool):=
 Option.bind (strings_CutPrefix N a0 ([72,84,84,80,47,49,46]:List UInt8)) fun y1=>
 AA (d:=.a (2,1) [(13,32)] [45] (fun j3:Bool=>[.bool j3])) (fun j3:Bool=>
  if j3=true then
   some ((ApiHead.mk 0 0 []),false)
  else
   Option.bind (sub y1.1 2 5) fun x18=>
   Option.bind (K4 N x18 599) fun y19=>
   AA (d:=.a (5,1) [(53,5)] [58] (fun j21:Bool=>[.bool j21])) (fun j21:Bool=>
    if j21=true then
     some ((ApiHead.mk 0 0 []),false)
    else
     Option.bind (idx y1.1 0) fun x25=>
     some ((ApiHead.mk (wr .i64 (wr .u8 ((AX x25)-48))) (wr .i64 y19.1) []),true)) fun k22=>
   if(y19.2 !=0)=true then
    k22 true
   else
    k22 (decide (y19.1<100))) fun k4=>
 if y1.2=true then
  if(decide ((y1.1.length:Int)<6))=true then
   k4 true
  else
   Option.bind (idx y1.1 0) fun x7=>
   if ((AX x7) !=48)=true then
    if((AX x7) !=49)=true then
     k4 true
    else
     Option.bind (idx y1.1 1) fun x8=>
     if((AX x8) !=32)=true then
      k4 true
     else
      Option.bind (idx y1.1 5) fun x9=>
      if((AX x9) !=32)=true then
       k4 true
      else
       Option.bind (sub y1.1 6 (y1.1.length:Int)) fun x10=>
       Option.bind (MQ N x10) fun y11=>
       k4 (!y11)
   else
    Option.bind (idx y1.1 1) fun x13=>
    if((AX x13) !=32)=true then
     k4 true
    else
     Option.bind (idx y1.1 5) fun x14=>
     if((AX x14) !=32)=true then
      k4 true
     else
      Option.bind (sub y1.1 6 (y1.1.length:Int)) fun x15=>
      Option.bind (MQ N x15) fun y16=>
      k4 (!y16)
 else
  k4 true
def Je (N:Nat) (a0:HeadLines):Option ((List UInt8)×HeadLines):=
 Option.bind (strings_Cut N a0.rest ([13,10]:List UInt8)) fun y1=>
 some (y1.1,(HeadLines.mk y1.2.1 y1.2.2))
def LG (N:Nat) (a0:Int):Option (Bool):=
 Option.bind (NF N a0) fun y1=>
 if y1=true then
  some (true)
 else
  Option.bind (NL N a0 ([33,35,36,37,38,39,42,43,45,46,94,95,96,124,126]:List UInt8)) fun y3=>
  some (y3)
def JB (N:Nat) (k2:(Unit→Option (Bool))):List UInt8→Option (Bool)
  |[]=>
  k2 ()
  |xk5::xs=>
  Option.bind (LG N (AX xk5)) fun y6=>
  if y6=true then
   JB N k2 xs
  else
   some (false)
def Tu (N:Nat) (a0:(List UInt8)):Option (Bool):=
 AA (d:=.a (1,22) [(2,13)] [] (fun j1:Unit=>[])) (fun j1:Unit=>
  some ((!(a0==[])))) fun k2=>
 grd (AU (a0.length)) (
  JB N k2 a0)
def NH (N:Nat) (a0:Int):Option (Bool):=
 if(a0==32)=true then
  some (true)
 else
  some ((a0==9))
def IG (N:Nat) (k15:((List UInt8)→Option ((List UInt8)))):Nat→(List UInt8)→Option ((List UInt8))
  |0,_=>none
  |k+1,s0=>
  AA (d:=.a (3,1) [(13,10)] [23] (fun j19:Bool=>[.bool j19])) (fun j19:Bool=>
   if j19=true then
    Option.bind (sub s0 0 (wr .i64 ((s0.length:Int)-1))) fun x26=>
    IG N k15 k x26
   else
    k15 s0) fun k20=>
  if(decide ((s0.length:Int)>0))=true then
   Option.bind (idx s0 (wr .i64 ((s0.length:Int)-1))) fun x23=>
   Option.bind (NH N (AX x23)) fun y24=>
   k20 y24
  else
   k20 false
def H8 (N:Nat) (k2:((List UInt8)→Option ((List UInt8)))):Nat→(List UInt8)→Option ((List UInt8))
  |0,_=>none
  |k+1,s0=>
  AA (d:=.a (1,1) [(3,7)] [10] (fun j6:Bool=>[.bool j6])) (fun j6:Bool=>
   if j6=true then
    Option.bind (sub s0 1 (s0.length:Int)) fun x13=>
    H8 N k2 k x13
   else
    k2 s0) fun k7=>
  if(decide ((s0.length:Int)>0))=true then
   Option.bind (idx s0 0) fun x10=>
   Option.bind (NH N (AX x10)) fun y11=>
   k7 y11
  else
   k7 false
def RY (N:Nat) (a0:(List UInt8)):Option ((List UInt8)):=
 AA (d:=.a (0,10) [(3,10)] [0] (fun j1:(List UInt8)=>[.str j1])) (fun j1:(List UInt8)=>
  AA (d:=.a (2,10) [(13,16)] [0] (fun j14:(List UInt8)=>[.str j14])) (fun j14:(List UInt8)=>
   some (j14)) fun k15=>
  IG N k15 N j1) fun k2=>
 H8 N k2 N a0
def Hy (N:Nat) (k14:((List ApiField)×HeadLines→Option (ApiHead×Int×Int))):Nat→(List ApiField)→HeadLines→Option (ApiHead×Int×Int)
  |0,_,_=>none
  |k+1,bn12_fields,bn7=>
  if bn7.more=true then
   if(decide ((bn12_fields.length:Int)≥64))=true then
    some ((ApiHead.mk 0 0 []),0,161)
   else
    Option.bind (Je N bn7) fun y18=>
    Option.bind (strings_Cut N y18.1 ([58]:List UInt8)) fun y20=>
    AA (d:=.a (14,1) [(61,11)] [72] (fun j22:Bool=>[.bool j22])) (fun j22:Bool=>
     if j22=true then
      some ((ApiHead.mk 0 0 []),0,180)
     else
      Option.bind (ED N y20.1) fun y30=>
      Option.bind (RY N y20.2.1) fun y32=>
      grd (Ah (bn12_fields.length+1) 32) (
      Hy N k14 k (bn12_fields++[(ApiField.mk y30 y32)]) y18.2)) fun k23=>
    if y20.2.2=true then
     Option.bind (Tu N y20.1) fun y26=>
     if y26=true then
      Option.bind (MQ N y20.2.1) fun y28=>
      k23 (!y28)
     else
      k23 true
    else
     k23 true
  else
   k14 (bn12_fields,bn7)
def RV (N:Nat) (a0:(List UInt8)):Option (ApiHead×Int×Int):=
 Option.bind (sub a0 0 (if 16384<(a0.length:Int)then 16384 else(a0.length:Int))) fun x1=>
 Option.bind (strings_Index N x1 ([13,10,13,10]:List UInt8)) fun y2=>
 AA (d:=.a (2,1) [(19,7)] [18] (fun j4:Bool=>[.bool j4])) (fun j4:Bool=>
  if j4=true then
   some ((ApiHead.mk 0 0 []),0,142)
  else
   if(decide (y2<0))=true then
    some ((ApiHead.mk 0 0 []),0,191)
   else
    Option.bind (sub a0 0 y2) fun x8=>
    Option.bind (Je N (HeadLines.mk x8 false)) fun y9=>
    Option.bind (Pq N y9.1) fun y11=>
    if y11.2=true then
     AA (d:=.b (1,28) [(3,2),(9,3),(45,39)] [] (fun j13:(List ApiField)×HeadLines=>[]) fun j13=>[.p [.k,.k,.v (.slice 2 (List.map Ae j13.1) true)],.s ([.str j13.2.rest,.bool j13.2.more])]) (fun j13:(List ApiField)×HeadLines=>
      some ((ApiHead.mk y11.1.minor y11.1.status j13.1),(wr .i64 (y2+4)),0)) fun k14=>
     Hy N k14 N y11.1.fields y9.2
    else
     some ((ApiHead.mk 0 0 []),0,180)) fun k5=>
 if(decide (y2<0))=true then
  k5 (decide ((a0.length:Int)>16384))
 else
  k5 false
def Gv (N:Nat) (a1:(List UInt8)) (k2:((List (List UInt8))→Option ((List (List UInt8))))):List ApiField→(List (List UInt8))→Option ((List (List UInt8)))
  |[],s5=>
  k2 s5
  |xk5::xs,s5=>
  AA (d:=.a (1,8) [(7,1),(13,11)] [5] (fun j6:(List (List UInt8))=>[.slice 1 (List.map AVal.str j6) true])) (fun j6:(List (List UInt8))=>
   Gv N a1 k2 xs j6) fun k7=>
  Option.bind (Gy N xk5.name a1) fun y10=>
  if y10=true then
   grd (Ah (s5.length+1) 16) (
   k7 (s5++[xk5.value]))
  else
   k7 s5
def PR (N:Nat) (a0:ApiHead) (a1:(List UInt8)):Option ((List (List UInt8))):=
 AA (d:=.a (2,20) [(7,18)] [5] (fun j1:(List (List UInt8))=>[.slice 1 (List.map AVal.str j1) true])) (fun j1:(List (List UInt8))=>
  some (j1)) fun k2=>
 grd (AU (a0.fields.length)) (
  Gv N a1 k2 a0.fields [])
def Fv (N:Nat) (n:Int):Option Unit:=grd (0<n∧n≤140737488355328) (some ())
def FU (N:Nat) (a1:(List UInt8)) (k25:(StringsBuilder→Option ((List UInt8)))):List (List UInt8)→StringsBuilder→Option ((List UInt8))
  |[],bn13=>
  k25 bn13
  |xk29::xs,bn13=>
  Option.bind (BG N bn13 a1) fun y30=>
  Option.bind (BG N y30.2.2 xk29) fun y32=>
  FU N a1 k25 xs y32.2.2
def FP (N:Nat) (k11:(Int→Option ((List UInt8)))):List (List UInt8)→Int→Option ((List UInt8))
  |[],s5=>
  k11 s5
  |xk14::xs,s5=>
  AA (d:=.a (14,5) [(45,6)] [] (fun j15:Unit=>[])) (fun j15:Unit=>
   FP N k11 xs (wr .i64 (s5+(xk14.length:Int)))) fun k16=>
  if(decide ((xk14.length:Int)>(wr .i64 (9223372036854775807-s5))))=true then
   (none:Option ((List UInt8)))
  else
   k16 ()
def strings_Join (N:Nat) (a0:(List (List UInt8))) (a1:(List UInt8)):Option ((List UInt8)):=
 if((a0.length:Int)==0)=true then
  some ([])
 else
  if((a0.length:Int)==1)=true then
   Option.bind (idx a0 0) fun x1=>
   some (x1)
  else
   AA (d:=.a (7,11) [(20,19)] [5] (fun j2:Int=>[.int .i64 j2])) (fun j2:Int=>
    AA (d:=.a (11,22) [(7,1),(39,17)] [5] (fun j10:Int=>[.int .i64 j10])) (fun j10:Int=>
     Option.bind (Fv N j10) fun y19=>
     Option.bind (idx a0 0) fun x21=>
     Option.bind (BG N (StringsBuilder.mk true []) x21) fun y22=>
     AA (d:=.b (21,18) [(10,1),(62,12)] [] (fun j24:StringsBuilder=>[]) fun j24=>[.t (fun q=>[F8 q 274 2 j24.addr,.buf 5 j24.buf true])]) (fun j24:StringsBuilder=>
      Option.bind (Cs N j24) fun y34=>
      some (y34.1)) fun k25=>
     Option.bind (sub a0 1 (a0.length:Int)) fun x28=>
     grd (AU (x28.length)) (
      FU N a1 k25 x28 y22.2.2)) fun k11=>
    grd (AU (a0.length)) (
     FP N k11 a0 j2)) fun k3=>
   if(decide ((a1.length:Int)>0))=true then
    AA (d:=.a (8,5) [(23,8)] [] (fun j6:Unit=>[])) (fun j6:Unit=>
     k3 (wr .i64 (0+(wr .i64 ((a1.length:Int) * (wr .i64 ((a0.length:Int)-1))))))) fun k7=>
    grd ((wr .i64 ((a0.length:Int)-1))≠0) (
    if(decide ((a1.length:Int)≥(wr .i64 ((9223372036854775807:Int).tdiv (wr .i64 ((a0.length:Int)-1))))))=true then
     (none:Option ((List UInt8)))
    else
     k7 ())
   else
    k3 0
def LK (N:Nat) (a0:ApiHead) (a1:(List UInt8)):Option ((List UInt8)×Bool):=
 Option.bind (PR N a0 a1) fun y1=>
 Option.bind (strings_Join N y1 ([44,32]:List UInt8)) fun y3=>
 some (y3,(decide ((y1.length:Int)>0)))
def GA (N:Nat) (a0:BodyChunks):Option (Int×BodyChunks):=
 Option.bind (strings_HasPrefix N a0.rest ([13,10]:List UInt8)) fun y1=>
 if y1=true then
  Option.bind (sub a0.rest 2 (a0.rest.length:Int)) fun x3=>
  some (0,(BodyChunks.mk x3 a0.size))
 else
  AA (d:=.a (4,1) [(18,12)] [17] (fun j4:Bool=>[.bool j4])) (fun j4:Bool=>
   if j4=true then
    some (191,a0)
   else
    some (190,a0)) fun k5=>
  if(a0.rest==[])=true then
   k5 true
  else
   k5 (a0.rest==([13]:List UInt8))
def JJ (N:Nat) (a0:BodyChunks):Option ((List UInt8)×Int×BodyChunks):=
 Option.bind (strings_IndexAny N a0.rest ([13,10]:List UInt8)) fun y1=>
 AA (d:=.a (2,5) [(11,7)] [4] (fun j3:Int=>[.int .i64 j3])) (fun j3:Int=>
  Option.bind (sub a0.rest 0 j3) fun x7=>
  Option.bind (sub a0.rest j3 (a0.rest.length:Int)) fun x8=>
  Option.bind (GA N (BodyChunks.mk x8 a0.size)) fun y9=>
  some (x7,y9.1,y9.2)) fun k4=>
 if(decide (y1<0))=true then
  k4 (a0.rest.length:Int)
 else
  k4 y1
def Br (N:Nat) (a1:Int) (a2:Int) (k9:(Int→Option (Int×Int))):List UInt8→Int→Option (Int×Int)
  |[],s11=>
  k9 s11
  |xk12::xs,s11=>
  Option.bind (L9 N (AX xk12)) fun y13=>
  AA (d:=.a (14,1) [(37,14)] [51] (fun j15:Bool=>[.bool j15])) (fun j15:Bool=>
   if j15=true then
    some (0,4)
   else
    Br N a1 a2 k9 xs (wr .u64 ((wr .u64 (s11 * a1))+y13))) fun k16=>
  grd (a1≠0) (
  if(decide (s11>(wr .u64 ((wr .u64 (18446744073709551615-y13)).tdiv a1))))=true then
   k16 true
  else
   k16 (decide ((wr .u64 ((wr .u64 (s11 * a1))+y13))>a2)))
def Bq (N:Nat) (k2:(Unit→Option (Int×Int))):List UInt8→Option (Int×Int)
  |[]=>
  k2 ()
  |xk5::xs=>
  Option.bind (Jw N (AX xk5)) fun y6=>
  if y6=true then
   Bq N k2 xs
  else
   some (0,1)
def E5 (N:Nat) (a0:(List UInt8)) (a1:Int) (a2:Int):Option (Int×Int):=
 if(a0==[])=true then
  some (0,3)
 else
  AA (d:=.a (3,22) [(8,3),(16,12)] [] (fun j1:Unit=>[])) (fun j1:Unit=>
   AA (d:=.a (10,26) [(8,2),(12,2),(28,30)] [11] (fun j8:Int=>[.int .u64 j8])) (fun j8:Int=>
    some (j8,0)) fun k9=>
   grd (AU (a0.length)) (
    Br N a1 a2 k9 a0 0)) fun k2=>
  grd (AU (a0.length)) (
   Bq N k2 a0)
def RX (N:Nat) (a0:(List UInt8)) (a1:Int):Option (Int×Int):=
 Option.bind (E5 N a0 16 a1) fun y1=>
 some (y1.1,y1.2)
def DX (N:Nat) (a0:BodyChunks) (k2:(Int→Option (Int×BodyChunks))):Nat→Int→Option (Int×BodyChunks)
  |0,_=>none
  |k+1,s3=>
  AA (d:=.a (2,1) [(9,15)] [24] (fun j6:Bool=>[.bool j6])) (fun j6:Bool=>
   if j6=true then
    DX N a0 k2 k (wr .i64 (s3+1))
   else
    k2 s3) fun k7=>
  if(decide (s3<(a0.rest.length:Int)))=true then
   Option.bind (idx a0.rest s3) fun x10=>
   Option.bind (Jw N (AX x10)) fun y11=>
   k7 y11
  else
   k7 false
def KG (N:Nat) (a0:BodyChunks):Option (Int×BodyChunks):=
 AA (d:=.a (0,10) [(9,18)] [3] (fun j1:Int=>[.int .i64 j1])) (fun j1:Int=>
  Option.bind (sub a0.rest 0 j1) fun x13=>
  if(j1==(a0.rest.length:Int))=true then
   some (191,a0)
  else
   AA (d:=.a (7,1) [(42,12)] [41] (fun j14:Bool=>[.bool j14])) (fun j14:Bool=>
    if j14=true then
     some (190,a0)
    else
     Option.bind (JJ N a0) fun y21=>
     if(y21.2.1 !=0)=true then
      some (y21.2.1,y21.2.2)
     else
      Option.bind (RX N x13 4611686018427387904) fun y23=>
      AA (d:=.a (13,5) [(67,2)] [7] (fun j25:Int=>[.int .u64 j25])) (fun j25:Int=>
       some (0,(BodyChunks.mk y21.2.2.rest j25))) fun k26=>
      if(y23.2 !=0)=true then
       k26 4611686018427387904
      else
       k26 y23.1) fun k15=>
   if(j1==0)=true then
    k15 true
   else
    Option.bind (idx a0.rest j1) fun x18=>
    Option.bind (strings_IndexByte N ([59,13]:List UInt8) (AX x18)) fun y19=>
    k15 (decide (y19<0))) fun k2=>
 DX N a0 k2 N 0
def JM (N:Nat) (a0:StringsBuilder):Option (Int×StringsBuilder):=
 some ((a0.buf.length:Int),a0)
def FO (N:Nat) (j1:BodyChunks×Bool×(List UInt8)):Nat→BodyChunks→Option ((List UInt8)×Int)
  |0,_=>none
  |k+1,bn1=>
  Option.bind (JJ N bn1) fun y21=>
  if(y21.2.1 !=0)=true then
   some ([],y21.2.1)
  else
   if(y21.1==[])=true then
    Option.bind (Cs N (StringsBuilder.mk j1.2.1 j1.2.2)) fun y23=>
    some (y23.1,0)
   else
    FO N j1 k y21.2.2
def FH (N:Nat) (a1:Int) (k2:(BodyChunks×Bool×(List UInt8)→Option ((List UInt8)×Int))):Nat→(List UInt8)→Int→Bool→(List UInt8)→Option ((List UInt8)×Int)
  |0,_,_,_,_=>none
  |k+1,bn1_rest,bn1_size,bn_addr,bn_buf=>
  Option.bind (KG N (BodyChunks.mk bn1_rest bn1_size)) fun y6=>
  if(y6.1 !=0)=true then
   some ([],y6.1)
  else
   AA (d:=.b (6,1) [(22,13)] [21] (fun j8:Bool×Bool×(List UInt8)=>[.bool j8.1]) fun j8=>[.k,.t (fun q=>[F8 q 274 2 j8.2.1,.buf 5 j8.2.2 true])]) (fun j8:Bool×Bool×(List UInt8)=>
    if j8.1=true then
     some ([],142)
    else
     if(y6.2.size==0)=true then
      k2 (y6.2,j8.2.1,j8.2.2)
     else
      if(decide ((wr .u64 (y6.2.rest.length:Int))<y6.2.size))=true then
       some ([],191)
      else
       Option.bind (sub y6.2.rest 0 y6.2.size) fun x14=>
       Option.bind (BG N (StringsBuilder.mk j8.2.1 j8.2.2) x14) fun y15=>
       Option.bind (sub y6.2.rest y6.2.size (y6.2.rest.length:Int)) fun x17=>
       Option.bind (GA N (BodyChunks.mk x17 y6.2.size)) fun y18=>
       if(y18.1 !=0)=true then
        some ([],y18.1)
       else
        FH N a1 k2 k y18.2.rest y18.2.size y15.2.2.addr y15.2.2.buf) fun k9=>
   if(decide (a1<0))=true then
    k9 (true,bn_addr,bn_buf)
   else
    Option.bind (JM N (StringsBuilder.mk bn_addr bn_buf)) fun y12=>
    k9 ((decide (y6.2.size>(wr .u64 (wr .i64 (a1-y12.1))))),y12.2.addr,y12.2.buf)
def OP (N:Nat) (a0:(List UInt8)) (a1:Int):Option ((List UInt8)×Int):=
 AA (d:=.b (0,43) [(4,2),(8,2),(15,65)] [] (fun j1:BodyChunks×Bool×(List UInt8)=>[]) fun j1=>[.s ([.str j1.1.rest,.int .u64 j1.1.size]),.t (fun q=>[F8 q 274 2 j1.2.1,.buf 5 j1.2.2 true])]) (fun j1:BodyChunks×Bool×(List UInt8)=>
  FO N j1 N j1.1) fun k2=>
 FH N a1 k2 N a0 0 false []
def Tz (N:Nat) (a0:ApiHead) (a1:(List UInt8)) (a2:Int):Option ((List UInt8)×Int):=
 if(decide (a2<0))=true then
  some ([],4)
 else
  Option.bind (LK N a0 ([116,114,97,110,115,102,101,114,45,101,110,99,111,100,105,110,103]:List UInt8)) fun y1=>
  Option.bind (LK N a0 ([99,111,110,116,101,110,116,45,108,101,110,103,116,104]:List UInt8)) fun y3=>
  AA (d:=.a (5,1) [(27,18)] [26] (fun j5:Bool=>[.bool j5])) (fun j5:Bool=>
   if j5=true then
    some ([],0)
   else
    AA (d:=.a (7,1) [(46,9)] [45] (fun j9:Bool=>[.bool j9])) (fun j9:Bool=>
     if j9=true then
      some ([],190)
     else
      if y1.2=true then
       Option.bind (OP N a1 a2) fun y15=>
       some (y15.1,y15.2)
      else
       if y3.2=true then
        (none:Option ((List UInt8)×Int))
       else
        if(decide ((a1.length:Int)>a2))=true then
         some ([],142)
        else
         some (a1,0)) fun k10=>
    if y1.2=true then
     if y3.2=true then
      k10 true
     else
      Option.bind (ED N y1.1) fun y13=>
      k10 (!(y13==([99,104,117,110,107,101,100]:List UInt8)))
    else
     k10 false) fun k6=>
  if(decide (a0.status≥100))=true then
   if(decide (a0.status≤199))=true then
    k6 true
   else
    if(a0.status==204)=true then
     k6 true
    else
     k6 (a0.status==304)
  else
   if(a0.status==204)=true then
    k6 true
   else
    k6 (a0.status==304)
def Po (N:Nat) (a0:(List ApiAnswer)) (a1:Int) (a2:ApiURL):Option (ApiResponse×Int×Int):=
 Option.bind (TH N a0 a2 a1) fun y1=>
 if(y1.2 !=0)=true then
  some ((ApiResponse.mk (ApiURL.mk [] 0 [] [] [] false false) (ApiHead.mk 0 0 []) [] []),0,y1.2)
 else
  Option.bind (RV N y1.1) fun y3=>
  if(y3.2.2 !=0)=true then
   some ((ApiResponse.mk (ApiURL.mk [] 0 [] [] [] false false) (ApiHead.mk 0 0 []) [] []),0,y3.2.2)
  else
   AA (d:=.b (8,5) [(38,13)] [10] (fun j5:Int×(List UInt8)=>[.int .i64 j5.1]) fun j5=>[.p [.k,.k,.k,.k,.k,.k,.k,.k,.k,.k,.v (.str j5.2)]]) (fun j5:Int×(List UInt8)=>
    some ((ApiResponse.mk a2 y3.1 j5.2 []),y3.1.status,j5.1)) fun k6=>
   Option.bind (C8 N y3.1.status) fun y9=>
   if y9=true then
    k6 (y3.2.2,[])
   else
    Option.bind (sub y1.1 y3.2.1 (y1.1.length:Int)) fun x11=>
    Option.bind (Tz N y3.1 x11 1048576) fun y12=>
    k6 (y12.2,y12.1)
def Jf (N:Nat) (a0:ApiID):Option (ApiHostPort):=
 some ((ApiHostPort.mk a0.host a0.port))
def JN (N:Nat) (a0:DiddocDecoder) (a1:Int):Option (DiddocDecoder):=
 if(a0.e==0)=true then
  some ((DiddocDecoder.mk a0.did a1))
 else
  some (a0)
def Cg (N:Nat) (k2:((List (List UInt8))×DiddocDecoder→Option ((List (List UInt8))×DiddocDecoder))):List ApiValue→(List (List UInt8))→DiddocDecoder→Option ((List (List UInt8))×DiddocDecoder)
  |[],s5,bi0=>
  k2 (s5,bi0)
  |xk5::xs,s5,bi0=>
  AA (d:=.b (5,5) [(14,5)] [] (fun j6:DiddocDecoder=>[]) fun j6=>[.k,.s ([.str j6.did.method,.str j6.did.iD,.int .i64 j6.e])]) (fun j6:DiddocDecoder=>
   grd (Ah (s5.length+1) 16) (
   Cg N k2 xs (s5++[xk5.text]) j6)) fun k7=>
  if(xk5.kind !=5)=true then
   Option.bind (JN N bi0 160) fun y10=>
   k7 y10
  else
   k7 bi0
def Ih (N:Nat) (a0:DiddocDecoder) (a1:(List ApiValue)):Option ((List (List UInt8))×DiddocDecoder):=
 AA (d:=.b (2,22) [(7,18)] [5] (fun j1:(List (List UInt8))×DiddocDecoder=>[.slice 1 (List.map AVal.str j1.1) true]) fun j1=>[.s ([.str j1.2.did.method,.str j1.2.did.iD,.int .i64 j1.2.e])]) (fun j1:(List (List UInt8))×DiddocDecoder=>
  some (j1.1,j1.2)) fun k2=>
 grd (AU (a1.length)) (
  Cg N k2 a1 [] a0)
def GI (N:Nat) (a0:ApiValue) (a1:(List UInt8)) (k2:(Unit→Option (ApiValue×Bool))):List (List UInt8)→Int→Option (ApiValue×Bool)
  |[],s11=>
  k2 ()
  |xk5::xs,s11=>
  AA (d:=.a (4,1) [(16,14)] [30] (fun j6:Bool=>[.bool j6])) (fun j6:Bool=>
   if j6=true then
    Option.bind (idx a0.items s11) fun x10=>
    some (x10,true)
   else
    GI N a0 a1 k2 xs (s11+1)) fun k7=>
  if(a0.kind==7)=true then
   if(decide (s11<(a0.items.length:Int)))=true then
    k7 (xk5==a1)
   else
    k7 false
  else
   k7 false
def Js (N:Nat) (a0:ApiValue) (a1:(List UInt8)):Option (ApiValue×Bool):=
 AA (d:=.a (1,22) [(5,32)] [] (fun j1:Unit=>[])) (fun j1:Unit=>
  some ((ApiValue.mk 0 [] [] []),false)) fun k2=>
 grd (AU (a0.keys.length)) (
  GI N a0 a1 k2 a0.keys 0)
def IX (N:Nat) (a0:DiddocDecoder) (a1:ApiValue) (a2:(List UInt8)):Option ((List UInt8)×DiddocDecoder):=
 Option.bind (Js N a1 a2) fun y1=>
 Option.bind (Ih N a0 [y1.1]) fun y3=>
 Option.bind (idx y3.1 0) fun x5=>
 some (x5,y3.2)
def NV (N:Nat) (a0:ApiValue):Option (ApiDoc×Int):=
 if(a0.kind !=7)=true then
  some ((ApiDoc.mk [] [] [] [] []),160)
 else
  Option.bind (IX N (DiddocDecoder.mk (ApiDID.mk [] []) 0) a0 ([105,100]:List UInt8)) fun y1=>
  Option.bind (Lt N y1.1) fun y3=>
  AA (d:=.a (6,1) [(25,6)] [31] (fun j5:Bool=>[.bool j5])) (fun j5:Bool=>
   if j5=true then
    some ((ApiDoc.mk [] [] [] [] []),160)
   else
    (none:Option (ApiDoc×Int))) fun k6=>
  if(y1.2.e !=0)=true then
   k6 true
  else
   k6 (y3.2 !=0)
def Bg (N:Nat) (a1:ApiID) (k2:(Unit→Option (Int))):List ApiID→Int→Option (Int)
  |[],s8_0=>
  k2 ()
  |xk5::xs,s8_0=>
  if(a1.kind==xk5.kind&&(a1.text==xk5.text&&(a1.host==xk5.host&&a1.port==xk5.port)))=true then
   some (s8_0)
  else
   Bg N a1 k2 xs (s8_0+1)
def Ex (N:Nat) (a0:(List ApiID)) (a1:ApiID):Option (Int):=
 AA (d:=.a (1,22) [(4,15)] [] (fun j1:Unit=>[])) (fun j1:Unit=>
  some ((-1))) fun k2=>
 grd (AU (a0.length)) (
  Bg N a1 k2 a0 0)
def CQ (N:Nat) (a0:(List ApiID)) (a1:ApiID):Option (Bool):=
 Option.bind (Ex N a0 a1) fun y1=>
 some ((decide (y1≥0)))
def J5 (N:Nat) (a0:ApiID) (a1:Int) (k7:((List ApiID)→Option ((List ApiID)))):List (List UInt8)→(List ApiID)→Option ((List ApiID))
  |[],s7_i1=>
  k7 s7_i1
  |xk10::xs,s7_i1=>
  AA (d:=.a (3,10) [(11,3),(24,30)] [7] (fun j11:(List ApiID)=>[.slice 4 (List.map Aj j11) true])) (fun j11:(List ApiID)=>
   J5 N a0 a1 k7 xs j11) fun k12=>
  Option.bind (J7 N xk10) fun y15=>
  AA (d:=.a (9,1) [(31,18)] [49] (fun j17:Bool=>[.bool j17])) (fun j17:Bool=>
   if j17=true then
    grd (Ah (s7_i1.length+1) 48) (
    k12 (s7_i1++[y15.1]))
   else
    k12 s7_i1) fun k18=>
  if(y15.2==0)=true then
   if(y15.1.kind==a0.kind&&(y15.1.text==a0.text&&(y15.1.host==a0.host&&y15.1.port==a0.port)))=true then
    k18 false
   else
    Option.bind (CQ N s7_i1 y15.1) fun y21=>
    if y21=true then
     k18 false
    else
     k18 (decide ((s7_i1.length:Int)<a1))
  else
   k18 false
def KC (N:Nat) (a0:ApiID) (a1:Int) (k2:((List ApiID)→Option ((List ApiID)))):List (List (List UInt8))→(List ApiID)→Option ((List ApiID))
  |[],s7=>
  k2 s7
  |xk5::xs,s7=>
  AA (d:=.a (1,25) [(9,1),(11,3),(18,37)] [7] (fun j6:(List ApiID)=>[.slice 4 (List.map Aj j6) true])) (fun j6:(List ApiID)=>
   KC N a0 a1 k2 xs j6) fun k7=>
  grd (AU (xk5.length)) (
   J5 N a0 a1 k7 xk5 s7)
def WH (N:Nat) (a0:ApiID) (a1:Int) (a2:(List (List (List UInt8)))):Option ((List ApiID)):=
 AA (d:=.a (2,37) [(9,1),(11,45)] [7] (fun j1:(List ApiID)=>[.slice 4 (List.map Aj j1) true])) (fun j1:(List ApiID)=>
  some (j1)) fun k2=>
 grd (AU (a2.length)) (
  KC N a0 a1 k2 a2 [])
def QE (N:Nat) (a0:Int):Option (Bool):=
 if(a0==32)=true then
  some (true)
 else
  if(a0==9)=true then
   some (true)
  else
   if(a0==10)=true then
    some (true)
   else
    some ((a0==13))
def KV (N:Nat) (a0:Int):Option (Bool):=
 if(decide (a0≥0))=true then
  if(decide (a0≤1114111))=true then
   if(decide (a0<55296))=true then
    some (true)
   else
    some ((decide (a0>57343)))
  else
   some (false)
 else
  some (false)
def Et (N:Nat) (a0:(List UInt8)) (a1:Int) (s20:Int) (k13:(Int→Option (Int×Int×Int))):Nat→Int→Int→Option (Int×Int×Int)
  |0,_,_=>none
  |k+1,s9,s10=>
  if(decide (s10≤s20))=true then
   Option.bind (idx a0 (wr .i64 (a1+s10))) fun x17=>
   if((LM .u8 (AX x17) 192) !=128)=true then
    some (0,0,7)
   else
    Et N a0 a1 s20 k13 k (Mt .i64 (ASD .i64 s9 6) (wr .i64 (LM .u8 (AX x17) 63))) (wr .i64 (s10+1))
  else
   k13 s9
def DU (N:Nat) (a0:(List UInt8)) (a1:Int) (k6:(Unit→Option (Int×Int×Int))):Nat→Int→Option (Int×Int×Int)
  |0,s20=>
  k6 ()
  |k+1,s20=>
  Option.bind (idx Jh s20) fun x10=>
  Option.bind (idx a0 a1) fun x11=>
  if((Vw .u8 (AX x11) x10.mask) !=x10.mark)=true then
   DU N a0 a1 k6 k (s20+1)
  else
   if(decide ((wr .i64 ((wr .i64 ((a0.length:Int)-a1))-1))<s20))=true then
    k6 ()
   else
    AA (d:=.a (9,22) [(4,3),(10,1),(47,22)] [9] (fun j12:Int=>[.int .i64 j12])) (fun j12:Int=>
     AA (d:=.a (15,1) [(69,8)] [77] (fun j18:Bool=>[.bool j18])) (fun j18:Bool=>
      if j18=true then
       k6 ()
      else
       some (j12,(wr .i64 ((wr .i64 (a1+s20))+1)),0)) fun k19=>
     if(decide (j12<x10.least))=true then
      k19 true
     else
      Option.bind (KV N j12) fun y22=>
      k19 (!y22)) fun k13=>
    Et N a0 a1 s20 k13 N (wr .i64 (LM .u8 (AX x11) x10.mask)) 1
def Jd (N:Nat) (a0:(List UInt8)) (a1:Int):Option (Int×Int×Int):=
 AA (d:=.a (1,1) [(11,7)] [18] (fun j1:Bool=>[.bool j1])) (fun j1:Bool=>
  if j1=true then
   some (0,0,4)
  else
   AA (d:=.a (3,61) [(4,7),(19,65)] [] (fun j5:Unit=>[])) (fun j5:Unit=>
    some (0,0,7)) fun k6=>
   grd ((-4611686018427387904:Int)≤0∧(4:Int)≤4611686018427387904) (
    DU N a0 a1 k6 ((4:Int)-0).toNat 0)) fun k2=>
 if(decide (a1<0))=true then
  k2 true
 else
  k2 (decide (a1≥(a0.length:Int)))
def KE (N:Nat) (a0:TokenReader):Option ((List UInt8)×Int×TokenReader):=
 AA (d:=.a (2,1) [(5,1),(12,13)] [6,7] (fun j1:Int×Int=>[.int .i64 j1.1,.int .i64 j1.2])) (fun j1:Int×Int=>
  if(j1.2 !=0)=true then
   some ([],7,a0)
  else
   Option.bind (sub a0.s a0.at_ j1.1) fun x7=>
   some (x7,0,(TokenReader.mk a0.s j1.1))) fun k2=>
 Option.bind (Jd N a0.s a0.at_) fun y5=>
 k2 (y5.2.1,y5.2.2)
def Da (N:Nat) (k2:(Bool×(List UInt8)×(List UInt8)×Int→Option ((List UInt8)×Int×TokenReader))):Nat→Bool→(List UInt8)→(List UInt8)→Int→Option ((List UInt8)×Int×TokenReader)
  |0,_,_,_,_=>none
  |k+1,bn_addr,bn_buf,bi0_s,bi0_at_=>
  if (decide (bi0_at_<(bi0_s.length:Int)))=true then
   Option.bind (idx bi0_s bi0_at_) fun x6=>
   if((AX x6)==34)=true then
    Option.bind (Cs N (StringsBuilder.mk bn_addr bn_buf)) fun y7=>
    some (y7.1,0,(TokenReader.mk bi0_s (wr .i64 (bi0_at_+1))))
   else
    if((AX x6)==92)=true then
     (none:Option ((List UInt8)×Int×TokenReader))
    else
     if(decide ((AX x6)<32))=true then
      some ([],130,(TokenReader.mk bi0_s bi0_at_))
     else
      Option.bind (KE N (TokenReader.mk bi0_s bi0_at_)) fun y9=>
      if(y9.2.1 !=0)=true then
       some ([],y9.2.1,y9.2.2)
      else
       Option.bind (BG N (StringsBuilder.mk bn_addr bn_buf) y9.1) fun y11=>
       Da N k2 k y11.2.2.addr y11.2.2.buf y9.2.2.s y9.2.2.at_
  else
   k2 (bn_addr,bn_buf,bi0_s,bi0_at_)
def KF (N:Nat) (a0:TokenReader):Option ((List UInt8)×Int×TokenReader):=
 AA (d:=.b (2,47) [(2,2),(5,61)] [] (fun j1:Bool×(List UInt8)×(List UInt8)×Int=>[]) fun j1=>[.t (fun q=>[F8 q 274 2 j1.1,.buf 5 j1.2.1 true]),.s ([.str j1.2.2.1,.int .i64 j1.2.2.2])]) (fun j1:Bool×(List UInt8)×(List UInt8)×Int=>
  some ([],130,(TokenReader.mk j1.2.2.1 j1.2.2.2))) fun k2=>
 Da N k2 N false [] a0.s (wr .i64 (a0.at_+1))
def Dm (N:Nat) (a0:TokenReader) (a1:(List UInt8)):Option (Bool×TokenReader):=
 AA (d:=.a (1,1) [(5,23)] [28] (fun j1:Bool=>[.bool j1])) (fun j1:Bool=>
  if j1=true then
   some (true,(TokenReader.mk a0.s (wr .i64 (a0.at_+1))))
  else
   some (false,a0)) fun k2=>
 if(decide (a0.at_<(a0.s.length:Int)))=true then
  Option.bind (idx a0.s a0.at_) fun x5=>
  Option.bind (strings_IndexByte N a1 (AX x5)) fun y6=>
  k2 (decide (y6≥0))
 else
  k2 false
def BA (N:Nat) (a0:TokenReader) (k2:(Int→Option ((List UInt8)×TokenReader))):Nat→Int→Option ((List UInt8)×TokenReader)
  |0,bi0_at_=>
  k2 bi0_at_
  |k+1,bi0_at_=>
  Option.bind (idx a0.s bi0_at_) fun x6=>
  Option.bind (Cq N (AX x6)) fun y7=>
  if y7=true then
   BA N a0 k2 k (bi0_at_+1)
  else
   k2 bi0_at_
def Ca (N:Nat) (a0:TokenReader):Option ((List UInt8)×TokenReader):=
 AA (d:=.b (0,10) [(10,30)] [] (fun j1:Int=>[]) fun j1=>[.p [.k,.v (.int .i64 j1)]]) (fun j1:Int=>
  Option.bind (sub a0.s a0.at_ j1) fun x9=>
  some (x9,(TokenReader.mk a0.s j1))) fun k2=>
 grd ((-4611686018427387904:Int)≤a0.at_∧((a0.s.length:Int):Int)≤4611686018427387904) (
  BA N a0 k2 (((a0.s.length:Int):Int)-a0.at_).toNat a0.at_)
def GG (N:Nat) (a0:TokenReader) (a1:Int):Option (TokenReader):=
 Option.bind (Ca N a0) fun y1=>
 if(y1.1==[])=true then
  some ((TokenReader.mk y1.2.s a1))
 else
  some (y1.2)
def F9 (N:Nat) (a0:TokenReader):Option ((List UInt8)×Bool×TokenReader):=
 Option.bind (Dm N a0 ([45]:List UInt8)) fun y1=>
 AA (d:=.b (3,1) [(13,7)] [20] (fun j3:Bool×TokenReader=>[.bool j3.1]) fun j3=>[.s ([.str j3.2.s,.int .i64 j3.2.at_])]) (fun j3:Bool×TokenReader=>
  if j3.1=true then
   some ([],false,j3.2)
  else
   AA (d:=.b (5,7) [(5,1),(21,9)] [] (fun j11:TokenReader=>[]) fun j11=>[.s ([.str j11.s,.int .i64 j11.at_])]) (fun j11:TokenReader=>
    AA (d:=.b (8,9) [(6,1),(30,11)] [] (fun j19:TokenReader=>[]) fun j19=>[.s ([.str j19.s,.int .i64 j19.at_])]) (fun j19:TokenReader=>
     Option.bind (sub j19.s a0.at_ j19.at_) fun x29=>
     some (x29,true,j19)) fun k20=>
    Option.bind (Dm N j11 ([101,69]:List UInt8)) fun y23=>
    if y23.1=true then
     Option.bind (Dm N y23.2 ([43,45]:List UInt8)) fun y25=>
     Option.bind (GG N y25.2 j11.at_) fun y27=>
     k20 y27
    else
     k20 y23.2) fun k12=>
   Option.bind (Dm N j3.2 ([46]:List UInt8)) fun y15=>
   if y15.1=true then
    Option.bind (GG N y15.2 j3.2.at_) fun y17=>
    k12 y17
   else
    k12 y15.2) fun k4=>
 Option.bind (Dm N y1.2 ([48]:List UInt8)) fun y7=>
 if y7.1=true then
  k4 (false,y7.2)
 else
  Option.bind (Ca N y7.2) fun y9=>
  k4 ((y9.1==[]),y9.2)
def A9 (N:Nat) (a0:TokenReader) (k2:(Int→Option ((List UInt8)×TokenReader))):Nat→Int→Option ((List UInt8)×TokenReader)
  |0,bi0_at_=>
  k2 bi0_at_
  |k+1,bi0_at_=>
  Option.bind (idx a0.s bi0_at_) fun x6=>
  Option.bind (F7 N (AX x6)) fun y7=>
  if y7=true then
   A9 N a0 k2 k (bi0_at_+1)
  else
   k2 bi0_at_
def Df (N:Nat) (a0:TokenReader):Option ((List UInt8)×TokenReader):=
 AA (d:=.b (0,10) [(10,30)] [] (fun j1:Int=>[]) fun j1=>[.p [.k,.v (.int .i64 j1)]]) (fun j1:Int=>
  Option.bind (sub a0.s a0.at_ j1) fun x9=>
  some (x9,(TokenReader.mk a0.s j1))) fun k2=>
 grd ((-4611686018427387904:Int)≤a0.at_∧((a0.s.length:Int):Int)≤4611686018427387904) (
  A9 N a0 k2 (((a0.s.length:Int):Int)-a0.at_).toNat a0.at_)
def Jo (N:Nat) (a0:TokenReader):Option (Int×(List UInt8)×Int×TokenReader):=
 if(a0.at_==(a0.s.length:Int))=true then
  some (1,[],0,a0)
 else
  AA (d:=.b (3,44) [(2,9),(21,62)] [] (fun j1:TokenReader=>[]) fun j1=>[.s ([.str j1.s,.int .i64 j1.at_])]) (fun j1:TokenReader=>
   some (0,[],130,j1)) fun k2=>
  Option.bind (idx a0.s a0.at_) fun x5=>
  Option.bind (strings_IndexByte N ([123,125,91,93,58,44]:List UInt8) (AX x5)) fun y6=>
  if(decide (y6≥0))=true then
   some (2,(AHs (AX x5)),0,(TokenReader.mk a0.s (wr .i64 (a0.at_+1))))
  else
   if((AX x5)==34)=true then
    Option.bind (KF N a0) fun y8=>
    some (3,y8.1,y8.2.1,y8.2.2)
   else
    AA (d:=.a (10,1) [(54,6)] [53] (fun j10:Bool=>[.bool j10])) (fun j10:Bool=>
     if j10=true then
      Option.bind (F9 N a0) fun y16=>
      if y16.2.1=true then
       some (4,y16.1,0,y16.2.2)
      else
       k2 y16.2.2
     else
      Option.bind (F7 N (AX x5)) fun y18=>
      if y18=true then
       Option.bind (Df N a0) fun y20=>
       AA (d:=.a (16,1) [(72,9)] [81] (fun j22:Bool=>[.bool j22])) (fun j22:Bool=>
        if j22=true then
         some (5,y20.1,0,y20.2)
        else
         k2 y20.2) fun k23=>
       if(y20.1==([116,114,117,101]:List UInt8))=true then
        k23 true
       else
        if(y20.1==([102,97,108,115,101]:List UInt8))=true then
         k23 true
        else
         k23 (y20.1==([110,117,108,108]:List UInt8))
      else
       k2 a0) fun k11=>
    if((AX x5)==45)=true then
     k11 true
    else
     Option.bind (Cq N (AX x5)) fun y14=>
     k11 y14
def BI (N:Nat) (a0:TokenReader) (k2:(Int→Option ((List UInt8)×TokenReader))):Nat→Int→Option ((List UInt8)×TokenReader)
  |0,bi0_at_=>
  k2 bi0_at_
  |k+1,bi0_at_=>
  Option.bind (idx a0.s bi0_at_) fun x6=>
  Option.bind (QE N (AX x6)) fun y7=>
  if y7=true then
   BI N a0 k2 k (bi0_at_+1)
  else
   k2 bi0_at_
def Dx (N:Nat) (a0:TokenReader):Option ((List UInt8)×TokenReader):=
 AA (d:=.b (0,10) [(10,30)] [] (fun j1:Int=>[]) fun j1=>[.p [.k,.v (.int .i64 j1)]]) (fun j1:Int=>
  Option.bind (sub a0.s a0.at_ j1) fun x9=>
  some (x9,(TokenReader.mk a0.s j1))) fun k2=>
 grd ((-4611686018427387904:Int)≤a0.at_∧((a0.s.length:Int):Int)≤4611686018427387904) (
  BI N a0 k2 (((a0.s.length:Int):Int)-a0.at_).toNat a0.at_)
def MZ (N:Nat) (a0:(List UInt8)) (a1:Int):Option (ApiToken×Int×Int):=
 AA (d:=.a (1,1) [(12,7)] [19] (fun j1:Bool=>[.bool j1])) (fun j1:Bool=>
  if j1=true then
   some ((ApiToken.mk 0 [] 0),0,4)
  else
   Option.bind (Dx N (TokenReader.mk a0 a1)) fun y5=>
   Option.bind (Jo N y5.2) fun y7=>
   if(y7.2.2.1 !=0)=true then
    some ((ApiToken.mk 0 [] 0),0,y7.2.2.1)
   else
    some ((ApiToken.mk y7.1 y7.2.1 y5.2.at_),y7.2.2.2.at_,0)) fun k2=>
 if(decide (a1<0))=true then
  k2 true
 else
  k2 (decide (a1>(a0.length:Int)))
def JR (N:Nat) (a0:ApiToken):Option (Bool):=
 AA (d:=.a (2,9) [(6,3)] [5] (fun j1:Bool=>[.bool j1])) (fun j1:Bool=>
  if j1=true then
   some (true)
  else
   if(a0.kind==2)=true then
    if(a0.text==([91]:List UInt8))=true then
     some (true)
    else
     some ((a0.text==([123]:List UInt8)))
   else
    some (false)) fun k2=>
 if(a0.kind==3)=true then
  k2 (a0.kind==3)
 else
  if(a0.kind==4)=true then
   k2 (a0.kind==4)
  else
   k2 (a0.kind==5)
def Ci (N:Nat) (a1:Int) (k2:((List UInt8)→Option ((List UInt8)))):Nat→(List UInt8)→Option ((List UInt8))
  |0,_=>none
  |k+1,s0=>
  AA (d:=.a (1,1) [(5,8)] [13] (fun j6:Bool=>[.bool j6])) (fun j6:Bool=>
   if j6=true then
    Option.bind (sub s0 1 (s0.length:Int)) fun x11=>
    Ci N a1 k2 k x11
   else
    k2 s0) fun k7=>
  if(decide ((s0.length:Int)>0))=true then
   Option.bind (idx s0 0) fun x10=>
   k7 ((AX x10)==a1)
  else
   k7 false
def strings_trimLeftByte (N:Nat) (a0:(List UInt8)) (a1:Int):Option ((List UInt8)):=
 AA (d:=.a (0,10) [(5,11)] [0] (fun j1:(List UInt8)=>[.str j1])) (fun j1:(List UInt8)=>
  some (j1)) fun k2=>
 Ci N a1 k2 N a0
def Cb (N:Nat) (k2:((List UInt8)×(List Bool)→Option ((List UInt8)×(List Bool)))):Nat→(List UInt8)→(List Bool)→Option ((List UInt8)×(List Bool))
  |0,_,_=>none
  |k+1,s0,bi1=>
  if(decide ((s0.length:Int)>0))=true then
   Option.bind (idx s0 0) fun x6=>
   Option.bind (Cx N bi1 (AX x6)) fun y7=>
   if y7.1=true then
    Option.bind (sub s0 1 (s0.length:Int)) fun x9=>
    Cb N k2 k x9 y7.2
   else
    k2 (s0,y7.2)
  else
   k2 (s0,bi1)
def strings_trimLeftASCII (N:Nat) (a0:(List UInt8)) (a1:(List Bool)):Option ((List UInt8)×(List Bool)):=
 AA (d:=.b (0,16) [(5,10)] [0] (fun j1:(List UInt8)×(List Bool)=>[.str j1.1]) fun j1=>[.s (List.map AVal.bool j1.2)]) (fun j1:(List UInt8)×(List Bool)=>
  some (j1.1,j1.2)) fun k2=>
 Cb N k2 N a0 a1
def Fe (N:Nat) (a0:(List UInt8)) (a1:Int):Option (Bool):=
 Option.bind (Fh N a0 a1) fun y1=>
 some ((decide (y1≥0)))
def CK (N:Nat) (a1:(List UInt8)) (k2:((List UInt8)→Option ((List UInt8)))):Nat→(List UInt8)→Option ((List UInt8))
  |0,_=>none
  |k+1,s0=>
  if(decide ((s0.length:Int)>0))=true then
   Option.bind (Cj N s0) fun y6=>
   Option.bind (Fe N a1 y6.1) fun y8=>
   if y8=true then
    Option.bind (sub s0 y6.2 (s0.length:Int)) fun x10=>
    CK N a1 k2 k x10
   else
    k2 s0
  else
   k2 s0
def Gt (N:Nat) (a0:(List UInt8)) (a1:(List UInt8)):Option ((List UInt8)):=
 AA (d:=.a (0,18) [(5,17)] [0] (fun j1:(List UInt8)=>[.str j1])) (fun j1:(List UInt8)=>
  some (j1)) fun k2=>
 CK N a1 k2 N a0
def I1 (N:Nat) (a0:(List UInt8)) (a1:(List UInt8)):Option ((List UInt8)):=
 AA (d:=.a (1,1) [(7,5)] [12] (fun j1:Bool=>[.bool j1])) (fun j1:Bool=>
  if j1=true then
   some (a0)
  else
   AA (d:=.a (3,1) [(14,7)] [21] (fun j5:Bool=>[.bool j5])) (fun j5:Bool=>
    if j5=true then
     Option.bind (idx a1 0) fun x10=>
     Option.bind (strings_trimLeftByte N a0 (AX x10)) fun y11=>
     some (y11)
    else
     Option.bind (strings_makeASCIISet N a1) fun y13=>
     grd ((AQp 256).length=256) (
     grd (y13.1.length=256) (
     if y13.2=true then
      Option.bind (strings_trimLeftASCII N a0 y13.1) fun y15=>
      some (y15.1)
     else
      Option.bind (Gt N a0 a1) fun y17=>
      some (y17)))) fun k6=>
   if((a1.length:Int)==1)=true then
    Option.bind (idx a1 0) fun x9=>
    k6 (decide ((AX x9)<128))
   else
    k6 false) fun k2=>
 if(a0==[])=true then
  k2 true
 else
  k2 (a1==[])
def Cc (N:Nat) (a1:Int) (k2:((List UInt8)→Option ((List UInt8)))):Nat→(List UInt8)→Option ((List UInt8))
  |0,_=>none
  |k+1,s0=>
  AA (d:=.a (1,1) [(5,11)] [16] (fun j6:Bool=>[.bool j6])) (fun j6:Bool=>
   if j6=true then
    Option.bind (sub s0 0 (wr .i64 ((s0.length:Int)-1))) fun x11=>
    Cc N a1 k2 k x11
   else
    k2 s0) fun k7=>
  if(decide ((s0.length:Int)>0))=true then
   Option.bind (idx s0 (wr .i64 ((s0.length:Int)-1))) fun x10=>
   k7 ((AX x10)==a1)
  else
   k7 false
def strings_trimRightByte (N:Nat) (a0:(List UInt8)) (a1:Int):Option ((List UInt8)):=
 AA (d:=.a (0,10) [(5,17)] [0] (fun j1:(List UInt8)=>[.str j1])) (fun j1:(List UInt8)=>
  some (j1)) fun k2=>
 Cc N a1 k2 N a0
def CS (N:Nat) (k2:((List UInt8)×(List Bool)→Option ((List UInt8)×(List Bool)))):Nat→(List UInt8)→(List Bool)→Option ((List UInt8)×(List Bool))
  |0,_,_=>none
  |k+1,s0,bi1=>
  if(decide ((s0.length:Int)>0))=true then
   Option.bind (idx s0 (wr .i64 ((s0.length:Int)-1))) fun x6=>
   Option.bind (Cx N bi1 (AX x6)) fun y7=>
   if y7.1=true then
    Option.bind (sub s0 0 (wr .i64 ((s0.length:Int)-1))) fun x9=>
    CS N k2 k x9 y7.2
   else
    k2 (s0,y7.2)
  else
   k2 (s0,bi1)
def strings_trimRightASCII (N:Nat) (a0:(List UInt8)) (a1:(List Bool)):Option ((List UInt8)×(List Bool)):=
 AA (d:=.b (0,16) [(5,16)] [0] (fun j1:(List UInt8)×(List Bool)=>[.str j1.1]) fun j1=>[.s (List.map AVal.bool j1.2)]) (fun j1:(List UInt8)×(List Bool)=>
  some (j1.1,j1.2)) fun k2=>
 CS N k2 N a0 a1
def Ha (N:Nat) (a0:Int):Option (Bool):=
 some (((LM .u8 a0 192) !=128))
def Au (N:Nat) (a0:(List UInt8)) (k3:(Int→Option (Int×Int))):Nat→Int→Option (Int×Int)
  |0,_=>none
  |k+1,s5=>
  if(decide (s5≥(if 0>(wr .i64 ((a0.length:Int)-4))then 0 else(wr .i64 ((a0.length:Int)-4)))))=true then
   Option.bind (idx a0 s5) fun x7=>
   Option.bind (Ha N (AX x7)) fun y8=>
   if y8=true then
    k3 s5
   else
    Au N a0 k3 k (wr .i64 (s5-1))
  else
   k3 s5
def DJ (N:Nat) (a0:(List UInt8)):Option (Int×Int):=
 if((a0.length:Int)==0)=true then
  some (65533,0)
 else
  Option.bind (idx a0 (wr .i64 ((a0.length:Int)-1))) fun x1=>
  if(decide ((wr .i32 (AX x1))<128))=true then
   some ((wr .i32 (AX x1)),1)
  else
   AA (d:=.a (9,18) [(23,11)] [5] (fun j2:Int=>[.int .i64 j2])) (fun j2:Int=>
    AA (d:=.a (13,5) [(34,2)] [5] (fun j10:Int=>[.int .i64 j10])) (fun j10:Int=>
     Option.bind (sub a0 j10 (a0.length:Int)) fun x14=>
     Option.bind (Cj N x14) fun y15=>
     if((wr .i64 (j10+y15.2)) !=(a0.length:Int))=true then
      some (65533,1)
     else
      some (y15.1,y15.2)) fun k11=>
    if(decide (j2<0))=true then
     k11 0
    else
     k11 j2) fun k3=>
   Au N a0 k3 N (wr .i64 ((wr .i64 ((a0.length:Int)-1))-1))
def Bw (N:Nat) (a1:(List UInt8)) (k2:((List UInt8)→Option ((List UInt8)))):Nat→(List UInt8)→Option ((List UInt8))
  |0,_=>none
  |k+1,s0=>
  if(decide ((s0.length:Int)>0))=true then
   Option.bind (idx s0 (wr .i64 ((s0.length:Int)-1))) fun x6=>
   AA (d:=.a (3,5) [(16,7)] [5,6] (fun j7:Int×Int=>[.int .i32 j7.1,.int .i64 j7.2])) (fun j7:Int×Int=>
    Option.bind (Fe N a1 j7.1) fun y13=>
    if y13=true then
     Option.bind (sub s0 0 (wr .i64 ((s0.length:Int)-j7.2))) fun x15=>
     Bw N a1 k2 k x15
    else
     k2 s0) fun k8=>
   if(decide ((wr .i32 (AX x6))≥128))=true then
    Option.bind (DJ N s0) fun y11=>
    k8 (y11.1,y11.2)
   else
    k8 ((wr .i32 (AX x6)),1)
  else
   k2 s0
def F4 (N:Nat) (a0:(List UInt8)) (a1:(List UInt8)):Option ((List UInt8)):=
 AA (d:=.a (0,24) [(5,28)] [0] (fun j1:(List UInt8)=>[.str j1])) (fun j1:(List UInt8)=>
  some (j1)) fun k2=>
 Bw N a1 k2 N a0
def KW (N:Nat) (a0:(List UInt8)) (a1:(List UInt8)):Option ((List UInt8)):=
 AA (d:=.a (1,1) [(7,5)] [12] (fun j1:Bool=>[.bool j1])) (fun j1:Bool=>
  if j1=true then
   some (a0)
  else
   AA (d:=.a (3,1) [(14,7)] [21] (fun j5:Bool=>[.bool j5])) (fun j5:Bool=>
    if j5=true then
     Option.bind (idx a1 0) fun x10=>
     Option.bind (strings_trimRightByte N a0 (AX x10)) fun y11=>
     some (y11)
    else
     Option.bind (strings_makeASCIISet N a1) fun y13=>
     grd ((AQp 256).length=256) (
     grd (y13.1.length=256) (
     if y13.2=true then
      Option.bind (strings_trimRightASCII N a0 y13.1) fun y15=>
      some (y15.1)
     else
      Option.bind (F4 N a0 a1) fun y17=>
      some (y17)))) fun k6=>
   if((a1.length:Int)==1)=true then
    Option.bind (idx a1 0) fun x9=>
    k6 (decide ((AX x9)<128))
   else
    k6 false) fun k2=>
 if(a0==[])=true then
  k2 true
 else
  k2 (a1==[])
def Mc (N:Nat) (a0:(List UInt8)):Option (Int):=
 Option.bind (I1 N a0 ([43,45]:List UInt8)) fun y1=>
 Option.bind (KU N y1 1099511627776) fun y3=>
 AA (d:=.a (0,12) [(2,1),(13,6)] [4] (fun j5:Int=>[.int .u64 j5])) (fun j5:Int=>
  Option.bind (strings_HasPrefix N a0 ([45]:List UInt8)) fun y9=>
  if y9=true then
   some ((wr .i64 (0-(wr .i64 j5))))
  else
   some ((wr .i64 j5))) fun k6=>
 if(y3.2==3)=true then
  some (0)
 else
  if(y3.2 !=0)=true then
   k6 1099511627776
  else
   k6 y3.1
def FZ (N:Nat) (a0:(List UInt8)):Option ((List UInt8)×Int):=
 Option.bind (F9 N (TokenReader.mk a0 0)) fun y1=>
 AA (d:=.a (3,1) [(26,8)] [34] (fun j3:Bool=>[.bool j3])) (fun j3:Bool=>
  if j3=true then
   some ([],130)
  else
   AA (d:=.a (6,5) [(36,5)] [7,8] (fun j7:(List UInt8)×(List UInt8)=>[.str j7.1,.str j7.2])) (fun j7:(List UInt8)×(List UInt8)=>
    Option.bind (ED N j7.2) fun y13=>
    Option.bind (strings_Cut N y13 ([101]:List UInt8)) fun y15=>
    Option.bind (strings_Cut N y15.1 ([46]:List UInt8)) fun y17=>
    grd (AU (y17.1.length+y17.2.1.length)) (
    Option.bind (I1 N (y17.1++y17.2.1) ([48]:List UInt8)) fun y19=>
    Option.bind (KW N y19 ([48]:List UInt8)) fun y21=>
    if(y21==[])=true then
     some (([48]:List UInt8),0)
    else
     Option.bind (Mc N y15.2.1) fun y23=>
     AA (d:=.a (15,1) [(73,10)] [83] (fun j25:Bool=>[.bool j25])) (fun j25:Bool=>
      if j25=true then
       some ([],144)
      else
       if(decide ((wr .i64 ((wr .i64 ((wr .i64 (y23-(y17.2.1.length:Int)))+(y19.length:Int)))-(y21.length:Int)))<0))=true then
        grd (AU (j7.1.length+y21.length)) (
        grd (AU ((j7.1++y21).length+([101,45]:List UInt8).length)) (
        Option.bind (H6 N (wr .u64 (wr .i64 (0-(wr .i64 ((wr .i64 ((wr .i64 (y23-(y17.2.1.length:Int)))+(y19.length:Int)))-(y21.length:Int))))))) fun y29=>
        grd (AU (((j7.1++y21)++([101,45]:List UInt8)).length+y29.length)) (
        some ((((j7.1++y21)++([101,45]:List UInt8))++y29),0))))
       else
        if(decide ((wr .i64 ((wr .i64 ((wr .i64 (y23-(y17.2.1.length:Int)))+(y19.length:Int)))-(y21.length:Int)))>0))=true then
         grd (AU (j7.1.length+y21.length)) (
         grd (AU ((j7.1++y21).length+([101]:List UInt8).length)) (
         Option.bind (H6 N (wr .u64 (wr .i64 ((wr .i64 ((wr .i64 (y23-(y17.2.1.length:Int)))+(y19.length:Int)))-(y21.length:Int))))) fun y31=>
         grd (AU (((j7.1++y21)++([101]:List UInt8)).length+y31.length)) (
         some ((((j7.1++y21)++([101]:List UInt8))++y31),0))))
        else
         grd (AU (j7.1.length+y21.length)) (
         some ((j7.1++y21),0))) fun k26=>
     if(decide ((y21.length:Int)>40))=true then
      k26 true
     else
      if(decide ((wr .i64 ((wr .i64 ((wr .i64 (y23-(y17.2.1.length:Int)))+(y19.length:Int)))-(y21.length:Int)))<(-400)))=true then
       k26 true
      else
       k26 (decide ((wr .i64 ((wr .i64 ((wr .i64 (y23-(y17.2.1.length:Int)))+(y19.length:Int)))-(y21.length:Int)))>400)))) fun k8=>
   Option.bind (idx a0 0) fun x11=>
   if((AX x11)==45)=true then
    Option.bind (sub a0 1 (a0.length:Int)) fun x12=>
    k8 (([45]:List UInt8),x12)
   else
    k8 ([],a0)) fun k4=>
 if y1.2.1=true then
  k4 ((y1.1.length:Int) !=(a0.length:Int))
 else
  k4 true
structure JPsr where
  stack:List ApiValue
  want:Int
  nodes:Int
  out:ApiValue
def HY:ApiValue:=⟨0,[],[],[]⟩
def LZ (t:ApiToken):Bool:=t.kind==3||t.kind==4||t.kind==5||t.kind==2&&(t.text==[91]||t.text==[123])
def Iu (p:JPsr):List UInt8:=match p.stack.getLast? with|none=>[]|some v=>if v.kind==7 then [125]else [93]
def AFM (p:JPsr) (t:ApiToken):Bool:=t.kind==2&&t.text==Iu p
def QS (p:JPsr) (t:ApiToken):Bool:=
  if p.want==0 then LZ t else if p.want==1 then LZ t||AFM p t else if p.want==2 then t.kind==3 else if p.want==3 then t.kind==3||AFM p t
  else if p.want==4 then t.kind==2&&t.text==[58]else if p.want==5 then t.kind==2&&t.text==[44]||AFM p t else t.kind==1
def KH (p:JPsr) (v:ApiValue):JPsr:=
  match p.stack.getLast? with
  |none=> {p with out:=v,want:=6}
  |some l=> {p with stack:=p.stack.dropLast++[{l with items:=l.items++[v]}],want:=5}
def I6 (p:JPsr) (kind want:Int):JPsr×Int:=
  if p.stack.length≥64 then(p,141)else if p.nodes+1>20000 then({p with nodes:=p.nodes+1},142)
  else({p with stack:=p.stack++[⟨kind,[],[],[]⟩],nodes:=p.nodes+1,want:=want},0)
def VS (p:JPsr) (s:List UInt8):Option (JPsr×Int):=
  match p.stack.getLast? with
  |none=>none
  |some l=>if s∈l.keys then some (p,143)else some ({p with stack:=p.stack.dropLast++[{l with keys:=l.keys++[s]}],want:=4},0)
def SK (s:List UInt8):Int:=if s==[110,117,108,108]then 1 else if s==[102,97,108,115,101]then 2 else if s==[116,114,117,101]then 3 else 0
def Nu (p:JPsr) (v:ApiValue):JPsr×Int:=
  if p.nodes+1>20000 then({p with nodes:=p.nodes+1},142)else(KH {p with nodes:=p.nodes+1} v,0)
def Sq (N:Nat) (p:JPsr) (t:ApiToken):Option (JPsr×Int):=
  if t.kind==4 then Option.bind (FZ N t.text) fun y=>if y.2 !=0 then some (p,144)else some (Nu p ⟨4,y.1,[],[]⟩)
  else if t.kind==5 then some (Nu p ⟨SK t.text,[],[],[]⟩)else some (Nu p ⟨5,t.text,[],[]⟩)
def R5 (p:JPsr) (c:List UInt8):Option (JPsr×Int):=
  if c==[91]then some (I6 p 6 1)else if c==[123]then some (I6 p 7 3)else if c==[58]then some ({p with want:=0},0)
  else match p.stack.getLast? with
  |none=>none
  |some l=>if c==[44]then some ({p with want:=if l.kind==7 then 2 else 0},0)else some (KH {p with stack:=p.stack.dropLast} l,0)
def SF (N:Nat) (p:JPsr) (t:ApiToken):Option (JPsr×Int):=
  if QS p t=false then some (p,140)else if t.kind==2 then R5 p t.text else if p.want==2||p.want==3 then VS p t.text else if t.kind==1 then some (p,0)else Sq N p t
def Sb (N:Nat) (s:List UInt8):Nat→Int→JPsr→Option (ApiValue×Int×Int)
  |0,_,_=>none
  | D+1,at_,p=>
    Option.bind (MZ N s at_) fun y=>
    if y.2.2 !=0 then some (HY,at_,y.2.2)else
    Option.bind (SF N p y.1) fun q=>
    if q.2 !=0 then some (HY,y.1.at_,q.2)else
    if y.1.kind==1 then some (q.1.out,s.length,0)else Sb N s D y.2.1 q.1
def Ho (N:Nat) (a0:List UInt8):Option (ApiValue×Int×Int):=
  if N>1099511627776 then none else if a0.length>1048576 then some (HY,0,142)else Sb N a0 N 0 ⟨[],0,0,HY⟩
def GJ (N:Nat) (a0:JrdDecoder) (a1:ApiValue):Option ((List UInt8)×JrdDecoder):=
 if(a1.kind !=5)=true then
  (none:Option ((List UInt8)×JrdDecoder))
 else
  some (a1.text,a0)
def DW (N:Nat) (a0:JrdDecoder) (a1:ApiValue) (a2:(List UInt8)):Option ((List UInt8)×JrdDecoder):=
 Option.bind (Js N a1 a2) fun y1=>
 if y1.2=true then
  Option.bind (GJ N a0 y1.1) fun y3=>
  some (y3.1,y3.2)
 else
  some ([],a0)
def Te (N:Nat) (a0:ApiValue):Option (Int):=
 if(a0.kind==7)=true then
  some ((if(a0.items.length:Int)<(a0.keys.length:Int)then(a0.items.length:Int)else(a0.keys.length:Int)))
 else
  some ((a0.items.length:Int))
def Fj (N:Nat) (a0:JrdDecoder) (a1:ApiValue) (a2:(List UInt8)) (a3:Int) (a4:Int):Option (ApiValue×JrdDecoder):=
 Option.bind (Js N a1 a2) fun y1=>
 AA (d:=.a (2,1) [(20,9)] [19] (fun j3:Bool=>[.bool j3])) (fun j3:Bool=>
  if j3=true then
   some ((ApiValue.mk 0 [] [] []),a0)
  else
   if(y1.1.kind !=a3)=true then
    (none:Option (ApiValue×JrdDecoder))
   else
    Option.bind (Te N y1.1) fun y7=>
    if(decide (y7>a4))=true then
     (none:Option (ApiValue×JrdDecoder))
    else
     some (y1.1,a0)) fun k4=>
 if y1.2=true then
  k4 (a0.e !=0)
 else
  k4 true
def CU (N:Nat) (a3:Bool) (y1:ApiValue×JrdDecoder) (k4:((List ApiProperty)×JrdDecoder→Option ((List ApiProperty)×JrdDecoder))):List ApiValue→Int→(List ApiProperty)→JrdDecoder→Option ((List ApiProperty)×JrdDecoder)
  |[],s21,s9,bi0=>
  k4 (s9,bi0)
  |xk7::xs,s21,s9,bi0=>
  if(decide (s21≥(y1.1.keys.length:Int)))=true then
   k4 (s9,bi0)
  else
   Option.bind (idx y1.1.keys s21) fun x8=>
   AA (d:=.b (8,5) [(37,11)] [] (fun j9:(List UInt8)×Bool×JrdDecoder=>[]) fun j9=>[.p [.k,.v (.str j9.1),.v (.bool j9.2.1)],.k,.k,.k,.s ([.int .i64 j9.2.2.e])]) (fun j9:(List UInt8)×Bool×JrdDecoder=>
    grd (Ah (s9.length+1) 40) (
    CU N a3 y1 k4 xs (s21+1) (s9++[(ApiProperty.mk x8 j9.1 j9.2.1)]) j9.2.2)) fun k10=>
   AA (d:=.a (8,1) [(37,5)] [42] (fun j13:Bool=>[.bool j13])) (fun j13:Bool=>
    if j13=true then
     k10 ([],true,bi0)
    else
     Option.bind (GJ N bi0 xk7) fun y17=>
     k10 (y17.1,false,y17.2)) fun k14=>
   if a3=true then
    k14 (xk7.kind==1)
   else
    k14 false
def Dj (N:Nat) (a0:JrdDecoder) (a1:ApiValue) (a2:(List UInt8)) (a3:Bool):Option ((List ApiProperty)×JrdDecoder):=
 Option.bind (Fj N a0 a1 a2 7 64) fun y1=>
 AA (d:=.b (3,30) [(11,3),(18,35)] [9] (fun j3:(List ApiProperty)×JrdDecoder=>[.slice 3 (List.map BM j3.1) true]) fun j3=>[.k,.k,.s ([.int .i64 j3.2.e])]) (fun j3:(List ApiProperty)×JrdDecoder=>
  some (j3.1,j3.2)) fun k4=>
 grd (AU (y1.1.items.length)) (
  CU N a3 y1 k4 y1.1.items 0 [] y1.2)
def Kq (N:Nat) (a0:JrdDecoder) (a1:ApiValue):Option (ApiLink×JrdDecoder):=
 AA (d:=.a (2,7) [(6,11)] [] (fun j1:Unit=>[])) (fun j1:Unit=>
  Option.bind (DW N a0 a1 ([114,101,108]:List UInt8)) fun y7=>
  Option.bind (DW N y7.2 a1 ([116,121,112,101]:List UInt8)) fun y9=>
  Option.bind (DW N y9.2 a1 ([104,114,101,102]:List UInt8)) fun y11=>
  Option.bind (DW N y11.2 a1 ([116,101,109,112,108,97,116,101]:List UInt8)) fun y13=>
  Option.bind (Dj N y13.2 a1 ([116,105,116,108,101,115]:List UInt8) false) fun y15=>
  Option.bind (Dj N y15.2 a1 ([112,114,111,112,101,114,116,105,101,115]:List UInt8) true) fun y17=>
  some ((ApiLink.mk y7.1 y9.1 y11.1 y13.1 y15.1 y17.1),y17.2)) fun k2=>
 Option.bind (Js N a1 ([114,101,108]:List UInt8)) fun y5=>
 if y5.2=true then
  k2 ()
 else
  (none:Option (ApiLink×JrdDecoder))
def IV (N:Nat) (k19:((List ApiLink)×JrdDecoder→Option (ApiJRD×Int))):List ApiValue→(List ApiLink)→JrdDecoder→Option (ApiJRD×Int)
  |[],bn3_links,bn2=>
  k19 (bn3_links,bn2)
  |xk24::xs,bn3_links,bn2=>
  AA (d:=.b (3,4) [(9,1),(42,9)] [] (fun j25:(List ApiLink)×JrdDecoder=>[]) fun j25=>[.p [.k,.k,.k,.v (.slice 6 (List.map BS j25.1) true)],.s ([.int .i64 j25.2.e])]) (fun j25:(List ApiLink)×JrdDecoder=>
   IV N k19 xs j25.1 j25.2) fun k26=>
  Option.bind (Kq N bn2 xk24) fun y29=>
  grd (Ah (bn3_links.length+1) 112) (
  k26 ((bn3_links++[y29.1]),y29.2))
def IP (N:Nat) (k4:((List (List UInt8))×JrdDecoder→Option (ApiJRD×Int))):List ApiValue→(List (List UInt8))→JrdDecoder→Option (ApiJRD×Int)
  |[],bn3_aliases,bn2=>
  k4 (bn3_aliases,bn2)
  |xk9::xs,bn3_aliases,bn2=>
  AA (d:=.b (1,4) [(7,1),(23,9)] [] (fun j10:(List (List UInt8))×JrdDecoder=>[]) fun j10=>[.p [.k,.v (.slice 1 (List.map AVal.str j10.1) true)],.s ([.int .i64 j10.2.e])]) (fun j10:(List (List UInt8))×JrdDecoder=>
   IP N k4 xs j10.1 j10.2) fun k11=>
  Option.bind (GJ N bn2 xk9) fun y14=>
  grd (Ah (bn3_aliases.length+1) 16) (
  k11 ((bn3_aliases++[y14.1]),y14.2))
def OM (N:Nat) (a0:ApiValue):Option (ApiJRD×Int):=
 if(a0.kind !=7)=true then
  some ((ApiJRD.mk [] [] [] []),160)
 else
  Option.bind (DW N (JrdDecoder.mk 0) a0 ([115,117,98,106,101,99,116]:List UInt8)) fun y1=>
  AA (d:=.b (6,16) [(7,1),(17,16)] [] (fun j3:(List (List UInt8))×JrdDecoder=>[]) fun j3=>[.p [.k,.v (.slice 1 (List.map AVal.str j3.1) true)],.s ([.int .i64 j3.2.e])]) (fun j3:(List (List UInt8))×JrdDecoder=>
   Option.bind (Dj N j3.2 a0 ([112,114,111,112,101,114,116,105,101,115]:List UInt8) true) fun y16=>
   AA (d:=.b (12,16) [(9,1),(36,16)] [] (fun j18:(List ApiLink)×JrdDecoder=>[]) fun j18=>[.p [.k,.k,.k,.v (.slice 6 (List.map BS j18.1) true)],.s ([.int .i64 j18.2.e])]) (fun j18:(List ApiLink)×JrdDecoder=>
    if(j18.2.e !=0)=true then
     some ((ApiJRD.mk [] [] [] []),j18.2.e)
    else
     some ((ApiJRD.mk y1.1 j3.1 y16.1 j18.1),0)) fun k19=>
   Option.bind (Fj N y16.2 a0 ([108,105,110,107,115]:List UInt8) 6 64) fun y22=>
   grd (AU (y22.1.items.length)) (
    IV N k19 y22.1.items [] y22.2)) fun k4=>
  Option.bind (Fj N y1.2 a0 ([97,108,105,97,115,101,115]:List UInt8) 6 64) fun y7=>
  grd (AU (y7.1.items.length)) (
   IP N k4 y7.1.items [] y7.2)
def Ju (N:Nat) (a1:(List UInt8)) (k2:((List ApiLink)→Option ((List ApiLink)))):List ApiLink→(List ApiLink)→Option ((List ApiLink))
  |[],s5=>
  k2 s5
  |xk5::xs,s5=>
  AA (d:=.a (1,12) [(7,1),(13,18)] [5] (fun j6:(List ApiLink)=>[.slice 6 (List.map BS j6) true])) (fun j6:(List ApiLink)=>
   Ju N a1 k2 xs j6) fun k7=>
  if(xk5.rel==a1)=true then
   grd (Ah (([]:List ApiProperty).length+xk5.titles.length) 40) (
   grd (Ah (([]:List ApiProperty).length+xk5.properties.length) 40) (
   grd (Ah (s5.length+1) 112) (
   k7 (s5++[xk5]))))
  else
   k7 s5
def SL (N:Nat) (a0:ApiJRD) (a1:(List UInt8)):Option ((List ApiLink)):=
 AA (d:=.a (2,24) [(7,25)] [5] (fun j1:(List ApiLink)=>[.slice 6 (List.map BS j1) true])) (fun j1:(List ApiLink)=>
  some (j1)) fun k2=>
 grd (AU (a0.links.length)) (
  Ju N a1 k2 a0.links [])
def EH (N:Nat) (k2:((List ApiHostPort)→Option ((List ApiHostPort)))) (y5:(List ApiLink)):Nat→(List ApiHostPort)→Int→Option ((List ApiHostPort))
  |0,_,_=>none
  |k+1,s5,s15=>
  if(decide (s15<(y5.length:Int)))=true then
   Option.bind (idx y5 s15) fun x8=>
   (none:Option ((List ApiHostPort)))
  else
   k2 s5
def KJ (N:Nat) (a0:ApiJRD) (a1:ApiID):Option ((List ApiHostPort)):=
 AA (d:=.a (2,24) [(7,42)] [5] (fun j1:(List ApiHostPort)=>[.slice 2 (List.map Ay j1) true])) (fun j1:(List ApiHostPort)=>
  some (j1)) fun k2=>
 Option.bind (SL N a0 ([108,114,100,100]:List UInt8)) fun y5=>
 EH N k2 y5 N [] 0
def Ct (N:Nat) (k2:((List ApiHostPort)→Option ((List ApiHostPort)))):List ApiID→(List ApiHostPort)→Option ((List ApiHostPort))
  |[],s3=>
  k2 s3
  |xk5::xs,s3=>
  Option.bind (Jf N xk5) fun y6=>
  grd (Ah (s3.length+1) 24) (
  Ct N k2 xs (s3++[y6]))
def JP (N:Nat) (a0:(List ApiID)):Option ((List ApiHostPort)):=
 AA (d:=.a (2,16) [(5,13)] [3] (fun j1:(List ApiHostPort)=>[.slice 2 (List.map Ay j1) true])) (fun j1:(List ApiHostPort)=>
  some (j1)) fun k2=>
 grd (AU (a0.length)) (
  Ct N k2 a0 [])
def FT (N:Nat) (k2:((List (List UInt8))→Option ((List ApiID)))):List ApiLink→(List (List UInt8))→Option ((List ApiID))
  |[],s5=>
  k2 s5
  |xk7::xs,s5=>
  grd (Ah (s5.length+1) 16) (
  FT N k2 xs (s5++[xk7.href]))
def MB (N:Nat) (a0:ApiJRD) (a1:ApiID):Option ((List ApiID)):=
 AA (d:=.a (2,16) [(7,14)] [5] (fun j1:(List (List UInt8))=>[.slice 1 (List.map AVal.str j1) true])) (fun j1:(List (List UInt8))=>
  letL ([j1,[a0.subject],a0.aliases]:(List (List (List UInt8)))) fun l8=>
  Option.bind (WH N a1 64 l8) fun y9=>
  some (y9)) fun k2=>
 Option.bind (SL N a0 ([115,101,108,102]:List UInt8)) fun y5=>
 grd (AU (y5.length)) (
  FT N k2 y5 [])
def KQ (N:Nat) (a0:(List UInt8)) (a1:ApiID):Option ((List ApiHostPort)):=
 Option.bind (Ho N a0) fun y1=>
 if(y1.2.2 !=0)=true then
  some ([])
 else
  AA (d:=.a (5,7) [(9,2),(21,15)] [8] (fun j3:(List ApiHostPort)=>[.slice 2 (List.map Ay j3) true])) (fun j3:(List ApiHostPort)=>
   AA (d:=.a (8,7) [(11,2),(36,13)] [8] (fun j15:Unit=>[.slice 2 (List.map Ay j3) true])) (fun j15:Unit=>
    some (j3)) fun k16=>
   Option.bind (NV N y1.1) fun y19=>
   if(y19.2==0)=true then
    (none:Option ((List ApiHostPort)))
   else
    k16 ()) fun k4=>
  Option.bind (OM N y1.1) fun y7=>
  if(y7.2==0)=true then
   Option.bind (KJ N y7.1 a1) fun y9=>
   Option.bind (MB N y7.1 a1) fun y11=>
   Option.bind (JP N y11) fun y13=>
   grd (Ah (y9.length+y13.length) 24) (
   k4 (y9++y13))
  else
   k4 []
def Bj (N:Nat) (a0:GrammarCursor):Option (Bool×GrammarCursor):=
 some ((decide (a0.at_≥(a0.s.length:Int))),a0)
def Hd (N:Nat) (a0:Int):Option (Bool):=
 if(a0==32)=true then
  some (true)
 else
  some ((a0==9))
def Ai (N:Nat) (k2:(GrammarCursor→Option ((List UInt8)×GrammarCursor))):Nat→(List UInt8)→Int→Option ((List UInt8)×GrammarCursor)
  |0,_,_=>none
  |k+1,bi0_s,bi0_at_=>
  Option.bind (Bj N (GrammarCursor.mk bi0_s bi0_at_)) fun y6=>
  if y6.1=true then
   k2 y6.2
  else
   Option.bind (idx y6.2.s y6.2.at_) fun x8=>
   Option.bind (Hd N (AX x8)) fun y9=>
   if y9=true then
    Ai N k2 k y6.2.s (wr .i64 (y6.2.at_+1))
   else
    k2 y6.2
def CJ (N:Nat) (a0:GrammarCursor):Option ((List UInt8)×GrammarCursor):=
 AA (d:=.b (0,10) [(10,23)] [] (fun j1:GrammarCursor=>[]) fun j1=>[.s ([.str j1.s,.int .i64 j1.at_])]) (fun j1:GrammarCursor=>
  Option.bind (sub j1.s a0.at_ j1.at_) fun x11=>
  some (x11,j1)) fun k2=>
 Ai N k2 N a0.s a0.at_
def CP (N:Nat) (a0:GrammarCursor):Option (GrammarCursor):=
 Option.bind (CJ N a0) fun y1=>
 some (y1.2)
def Bl (N:Nat) (a0:GrammarCursor) (a1:Int):Option (Bool×GrammarCursor):=
 AA (d:=.b (1,1) [(5,14)] [19] (fun j1:Bool×GrammarCursor=>[.bool j1.1]) fun j1=>[.s ([.str j1.2.s,.int .i64 j1.2.at_])]) (fun j1:Bool×GrammarCursor=>
  if j1.1=true then
   some (false,j1.2)
  else
   some (true,(GrammarCursor.mk j1.2.s (wr .i64 (j1.2.at_+1))))) fun k2=>
 Option.bind (Bj N a0) fun y5=>
 if y5.1=true then
  k2 (true,y5.2)
 else
  Option.bind (idx y5.2.s y5.2.at_) fun x7=>
  k2 (((AX x7) !=a1),y5.2)
def Aw (N:Nat) (k2:(GrammarCursor→Option ((List UInt8)×GrammarCursor))):Nat→(List UInt8)→Int→Option ((List UInt8)×GrammarCursor)
  |0,_,_=>none
  |k+1,bi0_s,bi0_at_=>
  Option.bind (Bj N (GrammarCursor.mk bi0_s bi0_at_)) fun y6=>
  if y6.1=true then
   k2 y6.2
  else
   Option.bind (idx y6.2.s y6.2.at_) fun x8=>
   Option.bind (LG N (AX x8)) fun y9=>
   if y9=true then
    Aw N k2 k y6.2.s (wr .i64 (y6.2.at_+1))
   else
    k2 y6.2
def DL (N:Nat) (a0:GrammarCursor):Option ((List UInt8)×GrammarCursor):=
 AA (d:=.b (0,10) [(10,23)] [] (fun j1:GrammarCursor=>[]) fun j1=>[.s ([.str j1.s,.int .i64 j1.at_])]) (fun j1:GrammarCursor=>
  Option.bind (sub j1.s a0.at_ j1.at_) fun x11=>
  some (x11,j1)) fun k2=>
 Aw N k2 N a0.s a0.at_
def EG (N:Nat) (a0:GrammarCursor):Option ((List UInt8)×Bool×GrammarCursor):=
 Option.bind (DL N a0) fun y1=>
 some (y1.1,(!(y1.1==[])),y1.2)
def Fb (N:Nat) (a0:GrammarCursor):Option ((List UInt8)×Bool×GrammarCursor):=
 AA (d:=.b (1,1) [(4,14)] [18] (fun j1:Bool×GrammarCursor=>[.bool j1.1]) fun j1=>[.s ([.str j1.2.s,.int .i64 j1.2.at_])]) (fun j1:Bool×GrammarCursor=>
  if j1.1=true then
   (none:Option ((List UInt8)×Bool×GrammarCursor))
  else
   Option.bind (EG N j1.2) fun y8=>
   some (y8.1,y8.2.1,y8.2.2)) fun k2=>
 Option.bind (Bj N a0) fun y5=>
 if y5.1=true then
  k2 (false,y5.2)
 else
  Option.bind (idx y5.2.s y5.2.at_) fun x7=>
  k2 (((AX x7)==34),y5.2)
def Ed (N:Nat):Nat→(List ApiWebLink)→(List UInt8)→Int→Option ((List ApiWebLink)×Int)
  |0,_,_,_=>none
  |k+1,s4,bn_s,bn_at_=>
  Option.bind (CP N (GrammarCursor.mk bn_s bn_at_)) fun y2=>
  Option.bind (Bj N y2) fun y4=>
  if y4.1=true then
   some (s4,0)
  else
   Option.bind (Bl N y4.2 44) fun y6=>
   if y6.1=true then
    Ed N k s4 y6.2.s y6.2.at_
   else
    Option.bind (Bl N y6.2 60) fun y8=>
    if y8.1=true then
     if(decide ((s4.length:Int)≥64))=true then
      some ([],161)
     else
      (none:Option ((List ApiWebLink)×Int))
    else
     some ([],6)
def NW (N:Nat) (a0:(List UInt8)):Option ((List ApiWebLink)×Int):=
 Ed N N [] a0 0
def FK (N:Nat) (a1:(List UInt8)) (xk5:ApiWebLink) (k7:(Unit→Option ((List UInt8)×Bool))):List (List UInt8)→Option ((List UInt8)×Bool)
  |[]=>
  k7 ()
  |xk10::xs=>
  Option.bind (Gy N xk10 a1) fun y11=>
  if y11=true then
   some (xk5.target,true)
  else
   FK N a1 xk5 k7 xs
def FN (N:Nat) (a1:(List UInt8)) (k2:(Unit→Option ((List UInt8)×Bool))):List ApiWebLink→Option ((List UInt8)×Bool)
  |[]=>
  k2 ()
  |xk5::xs=>
  AA (d:=.a (1,25) [(4,2),(7,1),(9,1),(14,15)] [] (fun j6:Unit=>[])) (fun j6:Unit=>
   FN N a1 k2 xs) fun k7=>
  grd (AU (xk5.rels.length)) (
   FK N a1 xk5 k7 xk5.rels)
def Oj (N:Nat) (a0:(List ApiWebLink)) (a1:(List UInt8)):Option ((List UInt8)×Bool):=
 AA (d:=.a (1,37) [(4,2),(7,1),(9,21)] [] (fun j1:Unit=>[])) (fun j1:Unit=>
  some ([],false)) fun k2=>
 grd (AU (a0.length)) (
  FN N a1 k2 a0)
def PD (N:Nat) (a0:ApiURI) (a1:ApiURI):Option (ApiURI):=
 AA (d:=.b (0,24) [(7,36)] [] (fun j1:(List UInt8)×(List UInt8)×Bool=>[]) fun j1=>[.p [.k,.k,.v (.str j1.1),.v (.str j1.2.1),.k,.k,.k,.v (.bool j1.2.2)]]) (fun j1:(List UInt8)×(List UInt8)×Bool=>
  AA (d:=.b (13,5) [(49,9)] [] (fun j9:(List UInt8)×Bool=>[]) fun j9=>[.p [.k,.v (.str j9.1),.k,.k,.k,.k,.v (.bool j9.2)]]) (fun j9:(List UInt8)×Bool=>
   some ((ApiURI.mk a0.scheme j9.1 j1.1 j1.2.1 a1.fragment a0.hasScheme j9.2 j1.2.2 a1.hasFrag))) fun k10=>
  if a1.hasAuthority=true then
   k10 (a1.authority,a1.hasAuthority)
  else
   k10 (a0.authority,a0.hasAuthority)) fun k2=>
 if a1.hasScheme=true then
  Option.bind (GH N a1.path) fun y5=>
  some ((ApiURI.mk a1.scheme a1.authority y5 a1.query a1.fragment a1.hasScheme a1.hasAuthority a1.hasQuery a1.hasFrag))
 else
  if a1.hasAuthority=true then
   Option.bind (GH N a1.path) fun y7=>
   k2 (y7,a1.query,a1.hasQuery)
  else
   if(a1.path==[])=true then
    if a1.hasQuery=true then
     k2 (a0.path,a1.query,a1.hasQuery)
    else
     k2 (a0.path,a0.query,a0.hasQuery)
   else
    (none:Option (ApiURI))
def H9 (N:Nat) (a0:Bool):List (List UInt8)→StringsBuilder→Option (StringsBuilder)
  |[],bi2=>
  some (bi2)
  |xk1::xs,bi2=>
  AA (d:=.b (1,8) [(6,1),(11,5)] [] (fun j2:StringsBuilder=>[]) fun j2=>[.t (fun q=>[F8 q 274 2 j2.addr,.buf 5 j2.buf true])]) (fun j2:StringsBuilder=>
   H9 N a0 xs j2) fun k3=>
  if a0=true then
   Option.bind (BG N bi2 xk1) fun y6=>
   k3 y6.2.2
  else
   k3 bi2
def Jl (N:Nat) (a0:Bool) (a1:(List (List UInt8))) (a2:StringsBuilder):Option (StringsBuilder):=
 grd (AU (a1.length)) (
  H9 N a0 a1 a2)
def WM (N:Nat) (a0:ApiURI):Option ((List UInt8)):=
 letL ([a0.scheme,([58]:List UInt8)]:(List (List UInt8))) fun l1=>
 Option.bind (Jl N a0.hasScheme l1 (StringsBuilder.mk false [])) fun y2=>
 letL ([([47,47]:List UInt8),a0.authority]:(List (List UInt8))) fun l4=>
 Option.bind (Jl N a0.hasAuthority l4 y2) fun y5=>
 Option.bind (Jl N true [a0.path] y5) fun y7=>
 letL ([([63]:List UInt8),a0.query]:(List (List UInt8))) fun l9=>
 Option.bind (Jl N a0.hasQuery l9 y7) fun y10=>
 letL ([([35]:List UInt8),a0.fragment]:(List (List UInt8))) fun l12=>
 Option.bind (Jl N a0.hasFrag l12 y10) fun y13=>
 Option.bind (Cs N y13) fun y15=>
 some (y15.1)
def Li (N:Nat) (a0:ApiURL) (a1:(List UInt8)):Option (ApiURL×Int):=
 Option.bind (ME N a0) fun y1=>
 if y1=true then
  Option.bind (IL N a0) fun y3=>
  Option.bind (Nl N y3) fun y5=>
  Option.bind (Nl N a1) fun y7=>
  if(y7.2 !=0)=true then
   some ((ApiURL.mk [] 0 [] [] [] false false),y7.2)
  else
   Option.bind (PD N y5.1 y7.1) fun y9=>
   Option.bind (Gy N y9.scheme ([104,116,116,112,115]:List UInt8)) fun y11=>
   if y11=true then
    Option.bind (WM N y9) fun y13=>
    Option.bind (KM N y13) fun y15=>
    some (y15.1,y15.2)
   else
    some ((ApiURL.mk [] 0 [] [] [] false false),253)
 else
  some ((ApiURL.mk [] 0 [] [] [] false false),8)
def Mm (N:Nat) (a0:ApiResponse):Option ((List ApiHostPort)):=
 Option.bind (LK N a0.head ([108,105,110,107]:List UInt8)) fun y1=>
 Option.bind (NW N y1.1) fun y3=>
 Option.bind (Oj N y3.1 ([108,114,100,100]:List UInt8)) fun y5=>
 Option.bind (Li N a0.uRL y5.1) fun y7=>
 AA (d:=.a (5,1) [(34,13)] [47] (fun j9:Bool=>[.bool j9])) (fun j9:Bool=>
  if j9=true then
   some ([])
  else
   Option.bind (IA N y7.1) fun y13=>
   some ([y13])) fun k10=>
 if y1.2=true then
  if(y3.2 !=0)=true then
   k10 true
  else
   if y5.2=true then
    k10 (y7.2 !=0)
   else
    k10 true
 else
  k10 true
def KL (N:Nat) (a0:(List ApiAnswer)) (a1:Int) (a2:ApiID) (a3:ApiExchange):Option ((List ApiHostPort)):=
 Option.bind (Po N a0 a1 a3.uRL) fun y1=>
 if(y1.2.2 !=0)=true then
  some ([])
 else
  Option.bind (C8 N y1.2.1) fun y3=>
  if y3=true then
   (none:Option ((List ApiHostPort)))
  else
   Option.bind (KQ N y1.1.body a2) fun y5=>
   Option.bind (Mm N y1.1) fun y7=>
   grd (Ah (y5.length+y7.length) 24) (
   some ((y5++y7)))
def Dy (N:Nat) (k17:((List (List UInt8×Int))→Option (Bool))):List ApiHostPort→(List (List UInt8×Int))→Option (Bool)
  |[],bn1_i2=>
  k17 bn1_i2
  |xk22::xs,bn1_i2=>
  Dy N k17 xs (UD bn1_i2 (xk22.host,xk22.port))
def D7 (N:Nat) (a0:(List ApiAnswer)) (a1:Int) (xk7:ApiExchange) (k9:((List (List UInt8×Int))→Option (Bool))):List ApiID→(List (List UInt8×Int))→Option (Bool)
  |[],bn1_i1=>
  k9 bn1_i1
  |xk15::xs,bn1_i1=>
  AA (d:=.b (3,19) [(11,1),(13,1),(40,15)] [] (fun j16:(List (List UInt8×Int))=>[]) fun j16=>[.k,.s ([.hset j16])]) (fun j16:(List (List UInt8×Int))=>
   D7 N a0 a1 xk7 k9 xs j16) fun k17=>
  Option.bind (KL N a0 a1 xk15 xk7) fun y20=>
  grd (AU (y20.length)) (
   Dy N k17 y20 bn1_i1)
def D6 (N:Nat) (a0:(List ApiAnswer)) (a1:Int) (a2:ApiVerdict) (k4:((List (List UInt8×Int))→Option (Bool))):List ApiExchange→(List (List UInt8×Int))→Option (Bool)
  |[],bn1=>
  k4 bn1
  |xk7::xs,bn1=>
  AA (d:=.b (1,42) [(6,1),(9,1),(11,1),(13,1),(24,32)] [] (fun j8:(List (List UInt8×Int))=>[]) fun j8=>[.s ([.hset j8])]) (fun j8:(List (List UInt8×Int))=>
   D6 N a0 a1 a2 k4 xs j8) fun k9=>
  Option.bind (IA N xk7.uRL) fun y12=>
  if(bn1.contains (y12.host,y12.port))=true then
   letL ([a2.iD,a2.profile]:(List ApiID)) fun l14=>
   grd (AU (l14.length)) (
    D7 N a0 a1 xk7 k9 l14 bn1)
  else
   some (false)
def Lh (N:Nat) (a0:(List ApiAnswer)) (a1:Int) (a2:ApiVerdict):Option (Bool):=
 Option.bind (Jf N a2.iD) fun y1=>
 AA (d:=.b (2,54) [(6,1),(9,1),(11,1),(13,1),(19,38)] [] (fun j3:(List (List UInt8×Int))=>[]) fun j3=>[.s ([.hset j3])]) (fun j3:(List (List UInt8×Int))=>
  some (true)) fun k4=>
 grd (AU (a2.trace.length)) (
  D6 N a0 a1 a2 k4 a2.trace (UD [] (y1.host,y1.port)))
def Nc (N:Nat) (a0:Int):Option (Int):=
 if(a0==200)=true then
  some (0)
 else
  AA (d:=.a (4,5) [(7,2)] [6] (fun j1:Bool=>[.bool j1])) (fun j1:Bool=>
   if j1=true then
    some (261)
   else
    some (260)) fun k2=>
  if(a0==404)=true then
   k2 (a0==404)
  else
   k2 (a0==410)
def JU (N:Nat) (a0:GrammarCursor):Option ((List UInt8)×Bool×GrammarCursor):=
 Option.bind (EG N a0) fun y1=>
 Option.bind (ED N y1.1) fun y3=>
 some (y3,y1.2.1,y1.2.2)
def GK (N:Nat) (y3:(List UInt8)×Bool×GrammarCursor) (y11:(List UInt8)×Bool×GrammarCursor) (k14:((List ApiField)×GrammarCursor→Option (ApiMedia×Int))):Nat→Bool→(List ApiField)→GrammarCursor→Option (ApiMedia×Int)
  |0,_,_,_=>none
  |k+1,s7,bn3_params,bn1=>
  if s7=true then
   Option.bind (CP N bn1) fun y22=>
   Option.bind (Bj N y22) fun y24=>
   if y24.1=true then
    some ((ApiMedia.mk y3.1 y11.1 bn3_params),0)
   else
    Option.bind (Bl N y24.2 59) fun y26=>
    Option.bind (CP N y26.2) fun y28=>
    Option.bind (JU N y28) fun y30=>
    AA (d:=.b (18,1) [(53,8)] [7] (fun j32:Bool×GrammarCursor=>[.bool j32.1]) fun j32=>[.k,.k,.k,.s ([.str j32.2.s,.int .i64 j32.2.at_])]) (fun j32:Bool×GrammarCursor=>
     Option.bind (Fb N j32.2) fun y38=>
     AA (d:=.a (20,1) [(67,4)] [7] (fun j40:Bool=>[.bool j40])) (fun j40:Bool=>
      grd (Ah (bn3_params.length+1) 32) (
      GK N y3 y11 k14 k j40 (bn3_params++[(ApiField.mk y30.1 y38.1)]) y38.2.2)) fun k41=>
     if j32.1=true then
      k41 y38.2.1
     else
      k41 false) fun k33=>
    if y26.1=true then
     if y30.2.1=true then
      Option.bind (Bl N y30.2.2 61) fun y36=>
      k33 (y36.1,y36.2)
     else
      k33 (false,y30.2.2)
    else
     k33 (false,y30.2.2)
  else
   k14 (bn3_params,bn1)
def PK (N:Nat) (a0:(List UInt8)):Option (ApiMedia×Int):=
 Option.bind (CP N (GrammarCursor.mk a0 0)) fun y1=>
 Option.bind (JU N y1) fun y3=>
 AA (d:=.b (7,1) [(22,5)] [7] (fun j5:Bool×GrammarCursor=>[.bool j5.1]) fun j5=>[.k,.k,.s ([.str j5.2.s,.int .i64 j5.2.at_])]) (fun j5:Bool×GrammarCursor=>
  Option.bind (JU N j5.2) fun y11=>
  AA (d:=.b (9,36) [(3,1),(7,3),(33,44)] [] (fun j13:(List ApiField)×GrammarCursor=>[]) fun j13=>[.p [.k,.k,.v (.slice 2 (List.map Ae j13.1) true)],.k,.s ([.str j13.2.s,.int .i64 j13.2.at_])]) (fun j13:(List ApiField)×GrammarCursor=>
   some ((ApiMedia.mk [] [] []),200)) fun k14=>
  AA (d:=.a (9,1) [(33,4)] [7] (fun j17:Bool=>[.bool j17])) (fun j17:Bool=>
   GK N y3 y11 k14 N j17 [] y11.2.2) fun k18=>
  if j5.1=true then
   k18 y11.2.1
  else
   k18 false) fun k6=>
 if y3.2.1=true then
  Option.bind (Bl N y3.2.2 47) fun y9=>
  k6 (y9.1,y9.2)
 else
  k6 (false,y3.2.2)
def Hm (N:Nat) (k2:(Unit→Option (Bool))):List ApiField→Option (Bool)
  |[]=>
  k2 ()
  |xk5::xs=>
  AA (d:=.a (4,1) [(12,8)] [20] (fun j6:Bool=>[.bool j6])) (fun j6:Bool=>
   if j6=true then
    some (false)
   else
    Hm N k2 xs) fun k7=>
  if(xk5.name==([99,104,97,114,115,101,116]:List UInt8))=true then
   Option.bind (Gy N xk5.value ([117,116,102,45,56]:List UInt8)) fun y10=>
   k7 (!y10)
  else
   k7 false
def RZ (N:Nat) (a0:ApiMedia):Option (Bool):=
 AA (d:=.a (1,22) [(2,1),(4,18)] [] (fun j1:Unit=>[])) (fun j1:Unit=>
  some (true)) fun k2=>
 grd (AU (a0.params.length)) (
  Hm N k2 a0.params)
def I4 (N:Nat) (a0:ApiMedia) (k2:(Unit→Option (Bool))):List (List UInt8)→Option (Bool)
  |[]=>
  k2 ()
  |xk5::xs=>
  grd (AU (a0.type_.length+([47]:List UInt8).length)) (
  grd (AU ((a0.type_++([47]:List UInt8)).length+a0.sub.length)) (
  if(((a0.type_++([47]:List UInt8))++a0.sub)==xk5)=true then
   Option.bind (RZ N a0) fun y6=>
   some (y6)
  else
   I4 N a0 k2 xs))
def Tv (N:Nat) (a0:ApiMedia) (a1:(List (List UInt8))):Option (Bool):=
 AA (d:=.a (1,22) [(4,1),(6,18)] [] (fun j1:Unit=>[])) (fun j1:Unit=>
  some (false)) fun k2=>
 grd (AU (a1.length)) (
  I4 N a0 k2 a1)
def PG (N:Nat) (a0:ApiMedia):Option (Bool):=
 letL ([([97,112,112,108,105,99,97,116,105,111,110,47,106,114,100,43,106,115,111,110]:List UInt8),([97,112,112,108,105,99,97,116,105,111,110,47,106,115,111,110]:List UInt8)]:(List (List UInt8))) fun l1=>
 Option.bind (Tv N a0 l1) fun y2=>
 some (y2)
def KR (N:Nat) (a0:ApiResponse):Option (ApiJRD×Int):=
 Option.bind (LK N a0.head ([99,111,110,116,101,110,116,45,116,121,112,101]:List UInt8)) fun y1=>
 Option.bind (PK N y1.1) fun y3=>
 AA (d:=.a (3,1) [(21,10)] [31] (fun j5:Bool=>[.bool j5])) (fun j5:Bool=>
  if j5=true then
   some ((ApiJRD.mk [] [] [] []),200)
  else
   Option.bind (Ho N a0.body) fun y11=>
   if(y11.2.2 !=0)=true then
    some ((ApiJRD.mk [] [] [] []),y11.2.2)
   else
    Option.bind (OM N y11.1) fun y13=>
    some (y13.1,y13.2)) fun k6=>
 if y1.2=true then
  if(y3.2 !=0)=true then
   k6 true
  else
   Option.bind (PG N y3.1) fun y9=>
   k6 (!y9)
 else
  k6 true
def Re (N:Nat) (a0:(List UInt8)) (a1:(List UInt8)):Option (Bool):=
 Option.bind (J7 N a0) fun y1=>
 Option.bind (J7 N a1) fun y3=>
 if(y1.2==0)=true then
  if(y3.2==0)=true then
   some ((y1.1.kind==y3.1.kind&&(y1.1.text==y3.1.text&&(y1.1.host==y3.1.host&&y1.1.port==y3.1.port))))
  else
   some (false)
 else
  some (false)
def C9 (N:Nat):Nat→(List ApiField)→(List UInt8)→Int→Option ((List ApiField)×Bool)
  |0,_,_,_=>none
  |k+1,s4,bn_s,bn_at_=>
  Option.bind (CP N (GrammarCursor.mk bn_s bn_at_)) fun y2=>
  Option.bind (Bj N y2) fun y4=>
  if y4.1=true then
   some (s4,true)
  else
   Option.bind (Bl N y4.2 44) fun y6=>
   if y6.1=true then
    C9 N k s4 y6.2.s y6.2.at_
   else
    Option.bind (EG N y6.2) fun y8=>
    Option.bind (ED N y8.1) fun y10=>
    AA (d:=.b (9,5) [(27,11)] [7] (fun j12:Bool×(List UInt8)×GrammarCursor=>[.bool j12.1]) fun j12=>[.p [.k,.v (.str j12.2.1)],.s ([.str j12.2.2.s,.int .i64 j12.2.2.at_])]) (fun j12:Bool×(List UInt8)×GrammarCursor=>
     Option.bind (CP N j12.2.2) fun y24=>
     AA (d:=.b (12,1) [(40,11)] [51] (fun j26:Bool×GrammarCursor=>[.bool j26.1]) fun j26=>[.k,.s ([.str j26.2.s,.int .i64 j26.2.at_])]) (fun j26:Bool×GrammarCursor=>
      if j26.1=true then
       some ([],false)
      else
       grd (Ah (s4.length+1) 32) (
       C9 N k (s4++[(ApiField.mk y10 j12.2.1)]) j26.2.s j26.2.at_)) fun k27=>
     if j12.1=true then
      Option.bind (Bj N y24) fun y30=>
      if y30.1=true then
       k27 (false,y30.2)
      else
       Option.bind (Bl N y30.2 44) fun y32=>
       k27 ((!y32.1),y32.2)
     else
      k27 (true,y24)) fun k13=>
    AA (d:=.b (9,1) [(27,4)] [31] (fun j16:Bool×GrammarCursor=>[.bool j16.1]) fun j16=>[.k,.s ([.str j16.2.s,.int .i64 j16.2.at_])]) (fun j16:Bool×GrammarCursor=>
     if j16.1=true then
      Option.bind (Fb N j16.2) fun y22=>
      k13 (y22.2.1,y22.1,y22.2.2)
     else
      k13 (y8.2.1,[],j16.2)) fun k17=>
    if y8.2.1=true then
     Option.bind (Bl N y8.2.2 61) fun y20=>
     k17 (y20.1,y20.2)
    else
     k17 (false,y8.2.2)
def Ku (N:Nat) (a0:(List UInt8)):Option ((List ApiField)×Bool):=
 C9 N N [] a0 0
def K3 (N:Nat) (a0:(List UInt8)):Option (Int×Bool):=
 Option.bind (KU N a0 18446744073709551615) fun y1=>
 if(y1.2==4)=true then
  some (18446744073709551615,true)
 else
  some (y1.1,(y1.2==0))
def Gm (N:Nat) (k2:(Int×Bool→Option (Int×Bool))):List ApiField→Int→Bool→Option (Int×Bool)
  |[],s4,s5=>
  k2 (s4,s5)
  |xk5::xs,s4,s5=>
  AA (d:=.a (1,31) [(2,2),(7,3),(14,20)] [4,5] (fun j6:Int×Bool=>[.int .u64 j6.1,.bool j6.2])) (fun j6:Int×Bool=>
   Gm N k2 xs j6.1 j6.2) fun k7=>
  AA (d:=.a (6,5) [(19,2)] [18] (fun j10:Bool=>[.bool j10])) (fun j10:Bool=>
   if j10=true then
    some (0,false)
   else
    if(xk5.name==([109,97,120,45,97,103,101]:List UInt8))=true then
     Option.bind (K3 N xk5.value) fun y14=>
     if y14.2=true then
      k7 ((if y14.1<s4 then y14.1 else s4),true)
     else
      some (0,false)
    else
     k7 (s4,s5)) fun k11=>
  if(xk5.name==([110,111,45,115,116,111,114,101]:List UInt8))=true then
   k11 (xk5.name==([110,111,45,115,116,111,114,101]:List UInt8))
  else
   k11 (xk5.name==([110,111,45,99,97,99,104,101]:List UInt8))
def O8 (N:Nat) (a0:(List ApiField)):Option (Int×Bool):=
 AA (d:=.a (2,43) [(2,2),(7,28)] [4,5] (fun j1:Int×Bool=>[.int .u64 j1.1,.bool j1.2])) (fun j1:Int×Bool=>
  some (j1.1,j1.2)) fun k2=>
 grd (AU (a0.length)) (
  Gm N k2 a0 18446744073709551615 false)
def Qv (N:Nat) (a0:Int) (a1:Int):Option (Int):=
 if(decide ((wr .u64 (a0-a1))>a0))=true then
  some (0)
 else
  some ((wr .u64 (a0-a1)))
def Vm (N:Nat) (a0:ApiHead):Option (ApiFresh):=
 Option.bind (LK N a0 ([99,97,99,104,101,45,99,111,110,116,114,111,108]:List UInt8)) fun y1=>
 Option.bind (Ku N y1.1) fun y3=>
 Option.bind (O8 N y3.1) fun y5=>
 AA (d:=.a (5,9) [(10,4),(30,16)] [6,9] (fun j7:Bool×Int=>[.bool j7.1,.int .u64 j7.2])) (fun j7:Bool×Int=>
  Option.bind (Qv N y5.1 j7.2) fun y15=>
  AA (d:=.a (10,1) [(50,13)] [63] (fun j17:Bool=>[.bool j17])) (fun j17:Bool=>
   if j17=true then
    some ((ApiFresh.mk false 0))
   else
    some ((ApiFresh.mk true (if 86400<y15 then 86400 else y15)))) fun k18=>
  if y1.2=true then
   if j7.1=true then
    if y5.2=true then
     k18 ((if 86400<y15 then 86400 else y15)==0)
    else
     k18 true
   else
    k18 true
  else
   k18 true) fun k8=>
 Option.bind (LK N a0 ([97,103,101]:List UInt8)) fun y11=>
 if y11.2=true then
  Option.bind (K3 N y11.1) fun y13=>
  if y3.2=true then
   k8 (y13.2,y13.1)
  else
   k8 (false,y13.1)
 else
  k8 (y3.2,0)
def K6 (N:Nat) (a0:(List UInt8)) (a1:ApiID):Option (Bool×ApiID):=
 Option.bind (Re N a0 a1.text) fun y1=>
 some (y1,a1)
def Ag (N:Nat) (k2:(ApiID→Option (Int×ApiID))):List (List UInt8)→Int→ApiID→Option (Int×ApiID)
  |[],s8_0,bi1_0_0=>
  k2 bi1_0_0
  |xk5::xs,s8_0,bi1_0_0=>
  Option.bind (K6 N xk5 bi1_0_0) fun y6=>
  if y6.1=true then
   some (s8_0,y6.2)
  else
   Ag N k2 xs (s8_0+1) y6.2
def Bz (N:Nat) (a0:(List (List UInt8))) (b1_0:ApiID):Option (Int×ApiID):=
 AA (d:=.b (1,22) [(4,15)] [] (fun j1:ApiID=>[]) fun j1=>[.s ([.int .i64 j1.kind,.str j1.text,.str j1.host,.int .i64 j1.port])]) (fun j1:ApiID=>
  some ((-1),j1)) fun k2=>
 grd (AU (a0.length)) (
  Ag N k2 a0 0 b1_0)
def Bp (N:Nat) (a0:(List (List UInt8))) (b1_0:ApiID):Option (Bool×ApiID):=
 Option.bind (Bz N a0 b1_0) fun y1=>
 some ((decide (y1.1≥0)),y1.2)
def P8 (N:Nat) (a0:ApiResponse) (a1:ApiID):Option (ApiFinding×Int):=
 Option.bind (Nc N a0.head.status) fun y1=>
 if(y1 !=0)=true then
  some ((ApiFinding.mk (ApiID.mk 0 [] [] 0) [] 0 (ApiFresh.mk false 0) []),y1)
 else
  Option.bind (KR N a0) fun y3=>
  if(y3.2 !=0)=true then
   some ((ApiFinding.mk (ApiID.mk 0 [] [] 0) [] 0 (ApiFresh.mk false 0) []),y3.2)
  else
   AA (d:=.b (8,1) [(28,11)] [39] (fun j5:Bool×ApiID=>[.bool j5.1]) fun j5=>[.k,.k,.s ([.int .i64 j5.2.kind,.str j5.2.text,.str j5.2.host,.int .i64 j5.2.port])]) (fun j5:Bool×ApiID=>
    if j5.1=true then
     some ((ApiFinding.mk (ApiID.mk 0 [] [] 0) [] 0 (ApiFresh.mk false 0) []),270)
    else
     Option.bind (MB N y3.1 j5.2) fun y13=>
     Option.bind (Vm N a0.head) fun y15=>
     some ((ApiFinding.mk j5.2 y13 0 y15 []),0)) fun k6=>
   Option.bind (K6 N y3.1.subject a1) fun y9=>
   if y9.1=true then
    k6 (false,y9.2)
   else
    Option.bind (Bp N y3.1.aliases y9.2) fun y11=>
    k6 ((!y11.1),y11.2)
def Kw (N:Nat) (a0:(List ApiAnswer)) (a1:Int) (a2:ApiID) (a3:ApiExchange):Option ((List ApiID)):=
 Option.bind (Po N a0 a1 a3.uRL) fun y1=>
 if(y1.2.2 !=0)=true then
  some ([])
 else
  if(a2.kind !=4)=true then
   Option.bind (P8 N y1.1 a2) fun y3=>
   some (y3.1.names)
  else
   Option.bind (Lt N a2.text) fun y5=>
   (none:Option ((List ApiID)))
def Ea (N:Nat) (a0:(List ApiAnswer)) (a1:Int) (a2:ApiVerdict) (k2:(Unit→Option (Bool))):List (List ApiExchange)→Bool→Option (Bool)
  |[],s7=>
  k2 ()
  |xk7::xs,s7=>
  AA (d:=.a (1,14) [(6,1),(9,2),(17,32)] [7] (fun j8:Bool=>[.bool j8])) (fun j8:Bool=>
   Ea N a0 a1 a2 k2 xs j8) fun k9=>
  Option.bind (idx xk7 (wr .i64 ((xk7.length:Int)-1))) fun x12=>
  AA (d:=.a (6,1) [(25,11)] [36] (fun j13:Bool=>[.bool j13])) (fun j13:Bool=>
   if j13=true then
    some (true)
   else
    if s7=true then
     k9 true
    else
     Option.bind (Kw N a0 a1 a2.iD x12) fun y21=>
     Option.bind (CQ N y21 a2.profile) fun y23=>
     k9 y23) fun k14=>
  if s7=true then
   Option.bind (Kw N a0 a1 a2.profile x12) fun y17=>
   Option.bind (CQ N y17 a2.iD) fun y19=>
   k14 y19
  else
   k14 false
def NY (N:Nat) (a0:(List ApiAnswer)) (a1:Int) (a2:ApiVerdict):Option (Bool):=
 AA (d:=.a (2,26) [(6,2),(9,41)] [] (fun j1:Unit=>[])) (fun j1:Unit=>
  some (false)) fun k2=>
 Option.bind (Ew N a2.trace) fun y5=>
 grd (AU (y5.length)) (
  Ea N a0 a1 a2 k2 y5 false)
def EK (N:Nat) (a0:(List ApiAnswer)) (a1:Int) (k10:(Unit→Option (Int))):List ApiExchange→Option (Int)
  |[]=>
  k10 ()
  |xk13::xs=>
  Option.bind (Po N a0 a1 xk13.uRL) fun y14=>
  AA (d:=.a (7,1) [(43,9)] [52] (fun j16:Bool=>[.bool j16])) (fun j16:Bool=>
   if j16=true then
    some (330)
   else
    EK N a0 a1 k10 xs) fun k17=>
  if(xk13.status !=y14.2.1)=true then
   k17 true
  else
   k17 (xk13.err !=y14.2.2)
def Ii (N:Nat) (a0:(List ApiAnswer)) (a1:Int) (a2:ApiVerdict):Option (Int):=
 AA (d:=.a (1,1) [(12,14)] [26] (fun j1:Bool=>[.bool j1])) (fun j1:Bool=>
  if j1=true then
   some (8)
  else
   AA (d:=.a (3,24) [(6,1),(8,4),(27,27)] [] (fun j9:Unit=>[])) (fun j9:Unit=>
    AA (d:=.a (10,1) [(54,11)] [65] (fun j20:Bool=>[.bool j20])) (fun j20:Bool=>
     if j20=true then
      some (330)
     else
      some (0)) fun k21=>
    Option.bind (Lh N a0 a1 a2) fun y24=>
    if y24=true then
     Option.bind (NY N a0 a1 a2) fun y26=>
     k21 (!y26)
    else
     k21 true) fun k10=>
   grd (AU (a2.trace.length)) (
    EK N a0 a1 k10 a2.trace)) fun k2=>
 if(a2.err !=0)=true then
  k2 true
 else
  Option.bind (M0 N a2.iD) fun y5=>
  if y5=true then
   Option.bind (M0 N a2.profile) fun y7=>
   k2 (!y7)
  else
   k2 true
def Nt (N:Nat):Option (Bool):=
 Option.bind (MN N) fun y1=>
 Option.bind (Ng N y1.2 0 y1.1) fun y3=>
 Option.bind (Ii N y1.2 0 y3) fun y5=>
 if(y5==0)=true then
  Option.bind (Ii N y1.2 0 (ApiVerdict.mk y3.err y3.iD y3.profile y3.fresh [])) fun y7=>
  if(y7==330)=true then
   Option.bind (Ii N y1.2 0 (ApiVerdict.mk 0 (ApiID.mk 0 [] [] 0) (ApiID.mk 0 [] [] 0) (ApiFresh.mk false 0) [])) fun y9=>
   if(y9==8)=true then
    Option.bind (Ew N y3.trace) fun y11=>
    some (((y11.length:Int)==2))
   else
    some (false)
  else
   some (false)
 else
  some (false)
def R4 (N:Nat) (a0:ApiURL):Option (Bool):=
 some ((decide ((wr .i64 ((wr .i64 ((wr .i64 ((a0.host.length:Int)+(a0.path.length:Int)))+(a0.query.length:Int)))+(a0.fragment.length:Int)))≤1000)))
def EC (N:Nat) (k2:(Unit→Option (Bool))):List ApiExchange→Option (Bool)
  |[]=>
  k2 ()
  |xk5::xs=>
  Option.bind (R4 N xk5.uRL) fun y6=>
  if y6=true then
   EC N k2 xs
  else
   some (false)
def MU (N:Nat) (a0:(List ApiExchange)):Option (Bool):=
 if(decide ((a0.length:Int)>60))=true then
  some (false)
 else
  AA (d:=.a (3,22) [(2,1),(4,1),(8,11)] [] (fun j1:Unit=>[])) (fun j1:Unit=>
   some (true)) fun k2=>
  grd (AU (a0.length)) (
   EC N k2 a0)
def DR (N:Nat) (k2:((List (List ApiExchange))×(List ApiExchange)→Option ((List (List ApiExchange))))):List ApiExchange→(List (List ApiExchange))→(List ApiExchange)→Option ((List (List ApiExchange)))
  |[],s3,s4=>
  k2 (s3,s4)
  |xk5::xs,s3,s4=>
  AA (d:=.a (1,10) [(6,1),(11,14)] [3,4] (fun j6:(List (List ApiExchange))×(List ApiExchange)=>[.slice 1 (List.map (fun l=>AVal.slice 9 (List.map AL l) false) j6.1) true,.slice 9 (List.map AL j6.2) true])) (fun j6:(List (List ApiExchange))×(List ApiExchange)=>
   DR N k2 xs j6.1 j6.2) fun k7=>
  grd (Ah (s4.length+1) 96) (
  Option.bind (Em N xk5.status) fun y10=>
  if y10=true then
   k7 (s3,(s4++[xk5]))
  else
   grd (Ah (s3.length+1) 24) (
   k7 ((s3++[(s4++[xk5])]),[])))
def KT (N:Nat) (a0:(List ApiExchange)):Option ((List (List ApiExchange))):=
 AA (d:=.a (3,22) [(6,20)] [3,4] (fun j1:(List (List ApiExchange))×(List ApiExchange)=>[.slice 1 (List.map (fun l=>AVal.slice 9 (List.map AL l) false) j1.1) true,.slice 9 (List.map AL j1.2) true])) (fun j1:(List (List ApiExchange))×(List ApiExchange)=>
  AA (d:=.a (10,5) [(26,7)] [3] (fun j12:(List (List ApiExchange))=>[.slice 1 (List.map (fun l=>AVal.slice 9 (List.map AL l) false) j12) true])) (fun j12:(List (List ApiExchange))=>
   some (j12)) fun k13=>
  if(decide ((j1.2.length:Int)>0))=true then
   grd (Ah (j1.1.length+1) 24) (
   k13 (j1.1++[j1.2]))
  else
   k13 j1.1) fun k2=>
 grd (AU (a0.length)) (
  DR N k2 a0 [] [])
def CX (N:Nat) (a1:(List ApiExchange)) (k2:(Unit→Option (Bool))):List ApiExchange→Int→Option (Bool)
  |[],s13=>
  k2 ()
  |xk5::xs,s13=>
  Option.bind (idx a1 s13) fun x6=>
  if((xk5.uRL.host==x6.uRL.host&&(xk5.uRL.port==x6.uRL.port&&(xk5.uRL.path==x6.uRL.path&&(xk5.uRL.query==x6.uRL.query&&(xk5.uRL.fragment==x6.uRL.fragment&&(xk5.uRL.hasQuery==x6.uRL.hasQuery&&xk5.uRL.hasFrag==x6.uRL.hasFrag))))))&&(xk5.status==x6.status&&xk5.err==x6.err))=true then
   CX N a1 k2 xs (s13+1)
  else
   some (false)
def Hf (N:Nat) (a0:(List ApiExchange)) (a1:(List ApiExchange)):Option (Bool):=
 if((a0.length:Int) !=(a1.length:Int))=true then
  some (false)
 else
  AA (d:=.a (3,22) [(4,2),(11,15)] [] (fun j1:Unit=>[])) (fun j1:Unit=>
   some (true)) fun k2=>
  grd (AU (a0.length)) (
   CX N a1 k2 a0 0)
def BQ (N:Nat) (y24:(List (List ApiExchange))) (k27:(Unit→Option (Bool))):List (List ApiExchange)→Int→Option (Bool)
  |[],s54=>
  k27 ()
  |xk30::xs,s54=>
  Option.bind (idx y24 s54) fun x31=>
  Option.bind (Hf N xk30 x31) fun y32=>
  if y32=true then
   BQ N y24 k27 xs (s54+1)
  else
   some (false)
def BP (N:Nat) (a1:(List Int)) (k10:((List ApiExchange)→Option (Bool))):List ApiExchange→Int→(List ApiExchange)→Option (Bool)
  |[],s23,bn6=>
  k10 bn6
  |xk13::xs,s23,bn6=>
  AA (d:=.b (1,8) [(5,1),(25,17)] [] (fun j14:(List ApiExchange)=>[]) fun j14=>[.s ([.vec 9 (List.map AL j14)])]) (fun j14:(List ApiExchange)=>
   BP N a1 k10 xs (s23+1) j14) fun k15=>
  if(decide (s23<(a1.length:Int)))=true then
   letL ([200,301,302,404,308,0]:(List Int)) fun l18=>
   Option.bind (idx a1 s23) fun x19=>
   Option.bind (idx l18 (x19.tmod 6)) fun x20=>
   Option.bind (idx bn6 s23) fun x21=>
   k15 (bn6.set s23.toNat (ApiExchange.mk x21.uRL x20 x21.err))
  else
   k15 bn6
def EU (N:Nat) (a0:(List ApiExchange)) (a1:(List Int)):Option (Bool):=
 Option.bind (Nt N) fun y1=>
 if y1=true then
  AA (d:=.a (3,1) [(11,7)] [18] (fun j3:Bool=>[.bool j3])) (fun j3:Bool=>
   if j3=true then
    some (true)
   else
    grd (Ah a0.length 96) (
    AA (d:=.b (6,20) [(5,1),(21,22)] [] (fun j9:(List ApiExchange)=>[]) fun j9=>[.s ([.vec 9 (List.map AL j9)])]) (fun j9:(List ApiExchange)=>
     Option.bind (Ew N j9) fun y22=>
     Option.bind (KT N j9) fun y24=>
     if((y22.length:Int) !=(y24.length:Int))=true then
      some (false)
     else
      AA (d:=.b (15,22) [(4,1),(8,1),(52,16)] [] (fun j26:Unit=>[]) fun j26=>[.d]) (fun j26:Unit=>
       some (true)) fun k27=>
      grd (AU (y22.length)) (
       BQ N y24 k27 y22 0)) fun k10=>
    grd (AU (a0.length)) (
     BP N a1 k10 a0 0 a0))) fun k4=>
  Option.bind (MU N a0) fun y7=>
  if y7=true then
   k4 (decide ((a1.length:Int)>60))
  else
   k4 true
 else
  some (false)
end Go.VM
