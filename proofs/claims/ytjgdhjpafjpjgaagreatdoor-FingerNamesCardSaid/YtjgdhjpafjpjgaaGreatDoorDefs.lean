import Derived.Test.YtjgdhjpafjpjgaaGreatDoorTy
set_option linter.unusedVariables false
namespace Go.VM
def A8 (N:Nat) (a0:(List UInt8)) (a1:Int):Option (Int):=
 some ((Go.Lib.indexByte a0 (FX a1)))
def Bt (N:Nat) (a0:(List UInt8)) (a1:(List UInt8)):Option (Int):=
 AO (fun j1:Bool=>
  if j1=true then
   some (0)
  else
   if((a1.length:Int)==1)=true then
    Option.bind (idx a1 0) fun x5=>
    Option.bind (A8 N a0 (AL x5)) fun y6=>
    some (y6)
   else
    if(decide ((a1.length:Int)≥(a0.length:Int)))=true then
     some ((-1))
    else
     (none:Option (Int))) fun k2=>
 if((a1.length:Int)==0)=true then
  k2 true
 else
  k2 (a1==a0)
def EU (N:Nat) (a0:(List UInt8)) (a1:(List UInt8)):Option ((List UInt8)×(List UInt8)×Bool):=
 Option.bind (Bt N a0 a1) fun y1=>
 if(decide (y1≥0))=true then
  Option.bind (sub a0 0 y1) fun x3=>
  Option.bind (sub a0 (wr .i64 (y1+(a1.length:Int))) (a0.length:Int)) fun x4=>
  some (x3,x4,true)
 else
  some (a0,[],false)
def strings_Cut (N:Nat) (a0:(List UInt8)) (a1:(List UInt8)):Option ((List UInt8)×(List UInt8)×Bool):=
 Option.bind (EU N a0 a1) fun y1=>
 some (y1.1,y1.2.1,y1.2.2)
def Db (N:Nat) (a0:(List UInt8)) (k2:((List Int)→Option ((List UInt8)))):List UInt8→Int→(List Int)→Option ((List UInt8))
  |[],s10,bn=>
  k2 bn
  |xk5::xs,s10,bn=>
  AO (fun j6:(List Int)=>
   Db N a0 k2 xs (s10+1) j6) fun k7=>
  grd (0≤s10∧s10<(a0.length:Int)) (
  Option.bind (idx bn s10) fun x10=>
  AO (fun j11:Bool=>
   if j11=true then
    grd (s10.toNat+1≤bn.length) (
    k7 (bn.set s10.toNat (wr .u8 (x10+32))))
   else
    k7 bn) fun k12=>
  if(decide (65≤x10))=true then
   k12 (decide (x10≤90))
  else
   k12 false)
def F5 (N:Nat) (a0:(List UInt8)):Option ((List UInt8)):=
 AO (fun j1:(List Int)=>
  grd (a0.length≤j1.length∧AV a0.length) (
  some ((List.map FX (List.take a0.length j1))))) fun k2=>
 grd (AV (a0.length)) (
  Db N a0 k2 a0 0 (List.map AL a0))
def En (N:Nat) (a0:Int):Option (Bool):=
 if(decide (97≤(Rb .u8 a0 32)))=true then
  some ((decide ((Rb .u8 a0 32)≤122)))
 else
  some (false)
def Bw (N:Nat) (a0:Int):Option (Bool):=
 if(decide (48≤a0))=true then
  some ((decide (a0≤57)))
 else
  some (false)
def NU (N:Nat) (a0:Int):Option (Bool):=
 Option.bind (En N a0) fun y1=>
 if y1=true then
  some (true)
 else
  Option.bind (Bw N a0) fun y3=>
  some (y3)
def strings_IndexByte (N:Nat) (a0:(List UInt8)) (a1:Int):Option (Int):=
 Option.bind (A8 N a0 a1) fun y1=>
 some (y1)
def NZ (N:Nat) (a0:Int) (a1:(List UInt8)):Option (Bool):=
 Option.bind (strings_IndexByte N a1 a0) fun y1=>
 some ((decide (y1≥0)))
def CK (N:Nat) (a0:Int):Option (Bool):=
 Option.bind (NU N a0) fun y1=>
 if y1=true then
  some (true)
 else
  Option.bind (NZ N a0 ([45,46,95,126]:List UInt8)) fun y3=>
  some (y3)
def EG (N:Nat) (a0:(List Int)) (a1:Int):Option ((List Int)):=
 Option.bind (idx ([48,49,50,51,52,53,54,55,56,57,65,66,67,68,69,70]:List UInt8) (AQ9 .u8 a1 4)) fun x1=>
 Option.bind (idx ([48,49,50,51,52,53,54,55,56,57,65,66,67,68,69,70]:List UInt8) (PD .u8 a1 15)) fun x2=>
 grd (Cg (a0.length+3) 1) (
 some ((a0++[37,(AL x1),(AL x2)])))
def I1 (N:Nat) (a0:Int):Option (Bool):=
 Option.bind (Bw N a0) fun y1=>
 if y1=true then
  some (true)
 else
  if(decide (97≤(Rb .u8 a0 32)))=true then
   some ((decide ((Rb .u8 a0 32)≤102)))
  else
   some (false)
def Gd (N:Nat) (a0:Int):Option (Int):=
 Option.bind (Bw N a0) fun y1=>
 if y1=true then
  some ((wr .u8 (a0-48)))
 else
  some ((wr .u8 ((wr .u8 ((Rb .u8 a0 32)-97))+10)))
def FI (N:Nat) (a0:(List UInt8)) (a1:Int):Option (Int×Bool):=
 AO (fun j1:Bool=>
  if j1=true then
   some (0,false)
  else
   Option.bind (idx a0 (wr .i64 (a1+1))) fun x11=>
   Option.bind (Gd N (AL x11)) fun y12=>
   Option.bind (idx a0 (wr .i64 (a1+2))) fun x14=>
   Option.bind (Gd N (AL x14)) fun y15=>
   some ((Rb .u8 (AOL .u8 y12 4) y15),true)) fun k2=>
 if(decide ((wr .i64 ((a0.length:Int)-a1))<3))=true then
  k2 true
 else
  Option.bind (idx a0 (wr .i64 (a1+1))) fun x5=>
  Option.bind (I1 N (AL x5)) fun y6=>
  if y6=true then
   Option.bind (idx a0 (wr .i64 (a1+2))) fun x8=>
   Option.bind (I1 N (AL x8)) fun y9=>
   k2 (!y9)
  else
   k2 true
def Bg (N:Nat) (a0:(List UInt8)) (a1:(List UInt8)) (k2:((List Int)→Option ((List UInt8)×Int))):Nat→Int→(List Int)→Option ((List UInt8)×Int)
  |0,_,_=>none
  |k+1,s7,bn=>
  if (decide (s7<(a0.length:Int)))=true then
   AO (fun j6:Int×(List Int)=>
    Bg N a0 a1 k2 k (wr .i64 (j6.1+1)) j6.2) fun k7=>
   Option.bind (idx a0 s7) fun x10=>
   if((AL x10)==37)=true then
    Option.bind (FI N a0 s7) fun y11=>
    if y11.2=true then
     Option.bind (CK N y11.1) fun y13=>
     if y13=true then
      grd (Cg (bn.length+1) 1) (
      k7 ((wr .i64 (s7+2)),(bn++[y11.1])))
     else
      Option.bind (EG N bn y11.1) fun y15=>
      k7 ((wr .i64 (s7+2)),y15)
    else
     some ([],2)
   else
    AO (fun j17:Bool=>
     if j17=true then
      grd (Cg (bn.length+1) 1) (
      k7 (s7,(bn++[(AL x10)])))
     else
      some ([],1)) fun k18=>
    Option.bind (CK N (AL x10)) fun y21=>
    if y21=true then
     k18 true
    else
     Option.bind (strings_IndexByte N a1 (AL x10)) fun y23=>
     k18 (decide (y23≥0))
  else
   k2 bn
def Ce (N:Nat) (a0:(List UInt8)) (a1:(List UInt8)):Option ((List UInt8)×Int):=
 if(decide ((a0.length:Int)>16384))=true then
  some ([],5)
 else
  AO (fun j1:(List Int)=>
   some ((List.map FX j1),0)) fun k2=>
  Bg N a0 a1 k2 N 0 []
def Ar (N:Nat) (k2:(Unit→Option (Bool))):List UInt8→Option (Bool)
  |[]=>
  k2 ()
  |xk5::xs=>
  Option.bind (Bw N (AL xk5)) fun y6=>
  if y6=true then
   Ar N k2 xs
  else
   some (false)
def D9 (N:Nat) (a0:(List UInt8)):Option (Bool):=
 AO (fun j1:Unit=>
  some (true)) fun k2=>
 grd (AV (a0.length)) (
  Ar N k2 a0)
def Hd (N:Nat) (a0:(List UInt8)):Option (Bool):=
 if(a0==[])=true then
  some (false)
 else
  Option.bind (D9 N a0) fun y1=>
  some (y1)
def JI (N:Nat) (a0:Int):Option (Int):=
 Option.bind (Bw N a0) fun y1=>
 if y1=true then
  some ((wr .u64 (wr .u8 (a0-48))))
 else
  some ((wr .u64 ((wr .u64 (wr .u8 ((Rb .u8 a0 32)-97)))+10)))
def Ak (N:Nat) (a1:Int) (a2:Int) (k9:(Int→Option (Int×Int))):List UInt8→Int→Option (Int×Int)
  |[],s11=>
  k9 s11
  |xk12::xs,s11=>
  Option.bind (JI N (AL xk12)) fun y13=>
  AO (fun j15:Bool=>
   if j15=true then
    some (0,4)
   else
    Ak N a1 a2 k9 xs (wr .u64 ((wr .u64 (s11 * a1))+y13))) fun k16=>
  grd (a1≠0) (
  if(decide (s11>(wr .u64 ((wr .u64 (18446744073709551615-y13)).tdiv a1))))=true then
   k16 true
  else
   k16 (decide ((wr .u64 ((wr .u64 (s11 * a1))+y13))>a2)))
def Al (N:Nat) (k2:(Unit→Option (Int×Int))):List UInt8→Option (Int×Int)
  |[]=>
  k2 ()
  |xk5::xs=>
  Option.bind (Bw N (AL xk5)) fun y6=>
  if y6=true then
   Al N k2 xs
  else
   some (0,1)
def Dv (N:Nat) (a0:(List UInt8)) (a1:Int) (a2:Int):Option (Int×Int):=
 if(a0==[])=true then
  some (0,3)
 else
  AO (fun j1:Unit=>
   AO (fun j8:Int=>
    some (j8,0)) fun k9=>
   grd (AV (a0.length)) (
    Ak N a1 a2 k9 a0 0)) fun k2=>
  grd (AV (a0.length)) (
   Al N k2 a0)
def JF (N:Nat) (a0:(List UInt8)) (a1:Int):Option (Int×Int):=
 Option.bind (Dv N a0 10 a1) fun y1=>
 some (y1.1,y1.2)
def Ga (N:Nat) (a0:(List UInt8)) (a1:Int):Option (Int×Int):=
 AO (fun j1:Bool=>
  if j1=true then
   some (0,6)
  else
   Option.bind (JF N a0 a1) fun y8=>
   some (y8.1,y8.2)) fun k2=>
 Option.bind (Hd N a0) fun y5=>
 if y5=true then
  if(decide ((a0.length:Int)>1))=true then
   Option.bind (idx a0 0) fun x7=>
   k2 ((AL x7)==48)
  else
   k2 false
 else
  k2 false
def strings_Index (N:Nat) (a0:(List UInt8)) (a1:(List UInt8)):Option (Int):=
 Option.bind (Bt N a0 a1) fun y1=>
 some (y1)
def Bb (N:Nat) (a0:(List UInt8)) (k2:(Int→Option (Int))):Nat→Int→Nat→Option (Int)
  |0,_,_=>none
  |k+1,s2,s4=>
  if(decide (s4<a0.length))=true then
   Bb N a0 k2 k (wr .i64 (s2+1)) (s4+(Cx a0 s4).2)
  else
   k2 s2
def Cu (N:Nat) (a0:(List UInt8)):Option (Int):=
 AO (fun j1:Int=>
  some (j1)) fun k2=>
 Bb N a0 k2 N 0 0
def Fx (N:Nat) (a1:(List UInt8)):Nat→(List UInt8)→Int→Option (Int)
  |0,_,_=>none
  |k+1,s0,s5=>
  Option.bind (strings_Index N s0 a1) fun y5=>
  if(y5==(-1))=true then
   some (s5)
  else
   Option.bind (sub s0 (wr .i64 (y5+(a1.length:Int))) (s0.length:Int)) fun x7=>
   Fx N a1 k x7 (wr .i64 (s5+1))
def strings_Count (N:Nat) (a0:(List UInt8)) (a1:(List UInt8)):Option (Int):=
 if((a1.length:Int)==0)=true then
  Option.bind (Cu N a0) fun y1=>
  some ((wr .i64 (y1+1)))
 else
  if((a1.length:Int)==1)=true then
   Option.bind (idx a1 0) fun x3=>
   some (((Go.Lib.countByte a0 (FX (AL x3)):Nat):Int))
  else
   Fx N a1 N a0 0
def DF (N:Nat) (a0:(List UInt8)):Option (Int×Int):=
 if(decide ((a0.length:Int)<1))=true then
  some (65533,0)
 else
  Option.bind (idx a0 0) fun x1=>
  (none:Option (Int×Int))
def Ci (N:Nat) (a0:(List UInt8)):Option (Int×Int):=
 AO (fun j1:Bool=>
  if j1=true then
   Option.bind (idx a0 0) fun x6=>
   some ((wr .i32 (AL x6)),1)
  else
   Option.bind (DF N a0) fun y7=>
   some (y7.1,y7.2)) fun k2=>
 if(a0==[])=true then
  k2 false
 else
  Option.bind (idx a0 0) fun x5=>
  k2 (decide ((AL x5)<128))
def Di (N:Nat) (j3:Int) (k12:((List UInt8)×(List (List UInt8))→Option ((List (List UInt8))))):Nat→Int→(List UInt8)→(List (List UInt8))→Option ((List (List UInt8)))
  |0,s7,s0,bn6=>
  k12 (s0,bn6)
  |k+1,s7,s0,bn6=>
  Option.bind (Ci N s0) fun y16=>
  Option.bind (sub s0 0 y16.2) fun x18=>
  grd (0≤s7∧s7<(j3.toNat:Int)) (
  grd (s7.toNat+1≤bn6.length) (
  Option.bind (sub s0 y16.2 (s0.length:Int)) fun x19=>
  Di N j3 k12 k (s7+1) x19 (bn6.set s7.toNat x18)))
def KO (N:Nat) (a0:(List UInt8)) (a1:Int):Option ((List (List UInt8))):=
 Option.bind (Cu N a0) fun y1=>
 AO (fun j3:Int=>
  grd (QH j3 16) (
  AO (fun j11:(List UInt8)×(List (List UInt8))=>
   AO (fun j20:(List (List UInt8))=>
    (none:Option ((List (List UInt8))))) fun k21=>
   if(decide (j3>0))=true then
    grd (0≤(wr .i64 (j3-1))∧(wr .i64 (j3-1))<(j3.toNat:Int)) (
    grd ((wr .i64 (j3-1)).toNat+1≤j11.2.length) (
    k21 (j11.2.set ((wr .i64 (j3-1)).toNat) j11.1)))
   else
    k21 j11.2) fun k12=>
  grd ((-4611686018427387904:Int)≤0∧((wr .i64 (j3-1)):Int)≤4611686018427387904) (
   Di N j3 k12 (((wr .i64 (j3-1)):Int)-0).toNat 0 a0 (List.replicate j3.toNat ([]:List UInt8))))) fun k4=>
 AO (fun j7:Bool=>
  if j7=true then
   k4 y1
  else
   k4 a1) fun k8=>
 if(decide (a1<0))=true then
  k8 true
 else
  k8 (decide (a1>y1))
def BZ (N:Nat) (a0:(List UInt8)) (a1:(List UInt8)) (a2:Int) (j3:Int) (k10:((List UInt8)×Int×(List (List UInt8))→Option ((List (List UInt8))))):Nat→Int→(List UInt8)→(List (List UInt8))→Option ((List (List UInt8)))
  |0,s10,s0,bn6=>
  k10 (s0,s10,bn6)
  |k+1,s10,s0,bn6=>
  Option.bind (strings_Index N s0 a1) fun y14=>
  if(decide (y14<0))=true then
   k10 (s0,s10,bn6)
  else
   Option.bind (sub s0 0 (wr .i64 (y14+a2))) fun x16=>
   grd (0≤s10∧s10<((if(wr .i64 ((a0.length:Int)+1))<j3 then(wr .i64 ((a0.length:Int)+1))else j3).toNat:Int)) (
   grd (s10.toNat+1≤bn6.length) (
   Option.bind (sub s0 (wr .i64 (y14+(a1.length:Int))) (s0.length:Int)) fun x17=>
   BZ N a0 a1 a2 j3 k10 k (s10+1) x17 (bn6.set s10.toNat x16)))
def strings_genSplit (N:Nat) (a0:(List UInt8)) (a1:(List UInt8)) (a2:Int) (a3:Int):Option ((List (List UInt8))):=
 if(a3==0)=true then
  (none:Option ((List (List UInt8))))
 else
  if(a1==[])=true then
   Option.bind (KO N a0 a3) fun y1=>
   (none:Option ((List (List UInt8))))
  else
   AO (fun j3:Int=>
    grd (QH (if(wr .i64 ((a0.length:Int)+1))<j3 then(wr .i64 ((a0.length:Int)+1))else j3) 16) (
    AO (fun j9:(List UInt8)×Int×(List (List UInt8))=>
     grd (0≤j9.2.1∧j9.2.1<((if(wr .i64 ((a0.length:Int)+1))<j3 then(wr .i64 ((a0.length:Int)+1))else j3).toNat:Int)) (
     grd (j9.2.1.toNat+1≤j9.2.2.length) (
     grd (0≤(wr .i64 (j9.2.1+1))∧(wr .i64 (j9.2.1+1))≤((if(wr .i64 ((a0.length:Int)+1))<j3 then(wr .i64 ((a0.length:Int)+1))else j3).toNat:Int)) (
     grd ((wr .i64 (j9.2.1+1)).toNat≤j9.2.2.length) (
     some (List.take ((wr .i64 (j9.2.1+1)).toNat) (j9.2.2.set j9.2.1.toNat j9.1))))))) fun k10=>
    grd ((-4611686018427387904:Int)≤0∧((wr .i64 ((if(wr .i64 ((a0.length:Int)+1))<j3 then(wr .i64 ((a0.length:Int)+1))else j3)-1)):Int)≤4611686018427387904) (
     BZ N a0 a1 a2 j3 k10 (((wr .i64 ((if(wr .i64 ((a0.length:Int)+1))<j3 then(wr .i64 ((a0.length:Int)+1))else j3)-1)):Int)-0).toNat 0 a0 (List.replicate (if(wr .i64 ((a0.length:Int)+1))<j3 then(wr .i64 ((a0.length:Int)+1))else j3).toNat ([]:List UInt8))))) fun k4=>
   if(decide (a3<0))=true then
    Option.bind (strings_Count N a0 a1) fun y7=>
    k4 (wr .i64 (y7+1))
   else
    k4 a3
def strings_Split (N:Nat) (a0:(List UInt8)) (a1:(List UInt8)):Option ((List (List UInt8))):=
 Option.bind (strings_genSplit N a0 a1 0 (-1)) fun y1=>
 some (y1)
def DX (N:Nat) (k4:(Unit→Option (Bool))):List (List UInt8)→Option (Bool)
  |[]=>
  k4 ()
  |xk7::xs=>
  Option.bind (Ga N xk7 255) fun y8=>
  if(y8.2 !=0)=true then
   some (false)
  else
   DX N k4 xs
def Io (N:Nat) (a0:(List UInt8)):Option (Bool):=
 Option.bind (strings_Split N a0 ([46]:List UInt8)) fun y1=>
 if((y1.length:Int) !=4)=true then
  some (false)
 else
  AO (fun j3:Unit=>
   some (true)) fun k4=>
  grd (AV (y1.length)) (
   DX N k4 y1)
def D5 (N:Nat) (k8:(Unit→Option (Bool))):List UInt8→Option (Bool)
  |[]=>
  k8 ()
  |xk11::xs=>
  AO (fun j12:Bool=>
   if j12=true then
    some (false)
   else
    D5 N k8 xs) fun k13=>
  Option.bind (En N (AL xk11)) fun y16=>
  if y16=true then
   k13 false
  else
   Option.bind (Bw N (AL xk11)) fun y18=>
   if y18=true then
    k13 false
   else
    k13 ((AL xk11) !=45)
def K4 (N:Nat) (a0:(List UInt8)):Option (Bool):=
 AO (fun j1:Bool=>
  if j1=true then
   some (false)
  else
   AO (fun j7:Unit=>
    some (true)) fun k8=>
   grd (AV (a0.length)) (
    D5 N k8 a0)) fun k2=>
 if(a0==[])=true then
  k2 true
 else
  if(decide ((a0.length:Int)>63))=true then
   k2 true
  else
   Option.bind (idx a0 0) fun x5=>
   if((AL x5)==45)=true then
    k2 true
   else
    Option.bind (idx a0 (wr .i64 ((a0.length:Int)-1))) fun x6=>
    k2 ((AL x6)==45)
def GH (N:Nat):Nat→(List UInt8)→Option (Bool)
  |0,_=>none
  |k+1,s0=>
  Option.bind (strings_Cut N s0 ([46]:List UInt8)) fun y2=>
  Option.bind (K4 N y2.1) fun y4=>
  if y4=true then
   if y2.2.2=true then
    GH N k y2.2.1
   else
    Option.bind (Hd N y2.1) fun y6=>
    some ((!y6))
  else
   some (false)
def OV (N:Nat) (a0:(List UInt8)):Option (Bool):=
 GH N N a0
def Jk (N:Nat) (a0:(List UInt8)):Option ((List UInt8)×Int):=
 if(a0==[])=true then
  some ([],3)
 else
  if(decide ((a0.length:Int)>253))=true then
   some ([],5)
  else
   AO (fun j1:Bool=>
    if j1=true then
     some ([],50)
    else
     Option.bind (F5 N a0) fun y9=>
     some (y9,0)) fun k2=>
   Option.bind (Io N a0) fun y5=>
   if y5=true then
    k2 false
   else
    Option.bind (OV N a0) fun y7=>
    k2 (!y7)
def Gs (N:Nat) (a0:(List UInt8)) (a1:(List UInt8)):Option (Bool):=
 Option.bind (F5 N a0) fun y1=>
 Option.bind (F5 N a1) fun y3=>
 some ((y1==y3))
def Ps (N:Nat) (a0:(List UInt8)):Option ((List UInt8)×(List UInt8)×Int):=
 if(decide ((a0.length:Int)>4096))=true then
  some ([],[],5)
 else
  AO (fun j1:Bool=>
   if j1=true then
    some ([],[],60)
   else
    Option.bind (sub a0 5 (a0.length:Int)) fun x8=>
    Option.bind (strings_Cut N x8 ([64]:List UInt8)) fun y9=>
    if y9.2.2=true then
     some (y9.1,y9.2.1,0)
    else
     some ([],[],6)) fun k2=>
  if(decide ((a0.length:Int)<5))=true then
   k2 true
  else
   Option.bind (sub a0 0 5) fun x5=>
   Option.bind (Gs N x5 ([97,99,99,116,58]:List UInt8)) fun y6=>
   k2 (!y6)
def K9 (N:Nat) (a0:(List UInt8)):Option (ApiAcct×Int):=
 Option.bind (Ps N a0) fun y1=>
 if(y1.2.2 !=0)=true then
  some ((ApiAcct.mk [] []),y1.2.2)
 else
  Option.bind (Ce N y1.1 ([33,36,38,39,40,41,42,43,44,59,61]:List UInt8)) fun y3=>
  AO (fun j5:Bool=>
   if j5=true then
    some ((ApiAcct.mk [] []),80)
   else
    Option.bind (Jk N y1.2.1) fun y10=>
    if(y10.2 !=0)=true then
     some ((ApiAcct.mk [] []),y10.2)
    else
     some ((ApiAcct.mk y3.1 y10.1),0)) fun k6=>
  if(y3.2 !=0)=true then
   k6 true
  else
   if(y3.1==[])=true then
    k6 true
   else
    Option.bind (idx y3.1 0) fun x9=>
    k6 ((AL x9)==37)
def KA (N:Nat) (a0:ApiAcct):Option ((List UInt8)):=
 grd (AV (([97,99,99,116,58]:List UInt8).length+a0.user.length)) (
 grd (AV ((([97,99,99,116,58]:List UInt8)++a0.user).length+([64]:List UInt8).length)) (
 grd (AV (((([97,99,99,116,58]:List UInt8)++a0.user)++([64]:List UInt8)).length+a0.host.length)) (
 some ((((([97,99,99,116,58]:List UInt8)++a0.user)++([64]:List UInt8))++a0.host)))))
def FM (N:Nat) (a0:(List UInt8)):Option (ApiID×Int):=
 Option.bind (K9 N a0) fun y1=>
 if(y1.2 !=0)=true then
  some ((ApiID.mk 0 [] [] 0),y1.2)
 else
  Option.bind (KA N y1.1) fun y3=>
  some ((ApiID.mk 1 y3 y1.1.host 0),0)
def C9 (N:Nat) (a0:(List UInt8)) (k2:((List Int)→Option ((List UInt8)×Int))):Nat→(List Int)→Int→Option ((List UInt8)×Int)
  |0,_,_=>none
  |k+1,s4,s5=>
  if(decide (s5<(a0.length:Int)))=true then
   Option.bind (idx a0 s5) fun x6=>
   AO (fun j7:Int×Int=>
    grd (Cg (s4.length+1) 1) (
    C9 N a0 k2 k (s4++[j7.2]) (wr .i64 (j7.1+1)))) fun k8=>
   if((AL x6)==37)=true then
    Option.bind (FI N a0 s5) fun y11=>
    if y11.2=true then
     k8 ((wr .i64 (s5+2)),y11.1)
    else
     some ([],2)
   else
    k8 (s5,(AL x6))
  else
   k2 s4
def EA (N:Nat) (a0:(List UInt8)):Option ((List UInt8)×Int):=
 if(decide ((a0.length:Int)>16384))=true then
  some ([],5)
 else
  AO (fun j1:(List Int)=>
   some ((List.map FX j1),0)) fun k2=>
  C9 N a0 k2 N [] 0
def GD (N:Nat) (a0:Int):Option (Bool):=
 AO (fun j1:Bool=>
  if j1=true then
   some (true)
  else
   AO (fun j5:Bool=>
    if j5=true then
     some (true)
    else
     some (false)) fun k6=>
   if(decide (57343<a0))=true then
    k6 (decide (a0≤1114111))
   else
    k6 false) fun k2=>
 if(decide (0≤a0))=true then
  k2 (decide (a0<55296))
 else
  k2 false
def Ed (N:Nat) (a0:(List UInt8)) (k8:(Unit→Option (Int))):Nat→Nat→Option (Int)
  |0,_=>none
  |k+1,s175=>
  if(decide (s175<a0.length))=true then
   if(((Cx a0 s175).1:Int)==65533)=true then
    some (((s175:Nat):Int))
   else
    Ed N a0 k8 k (s175+(Cx a0 s175).2)
  else
   k8 ()
def Eg (N:Nat) (a0:(List UInt8)) (a1:Int):Option (Int):=
 AO (fun j1:Bool=>
  if j1=true then
   Option.bind (strings_IndexByte N a0 (wr .u8 a1)) fun y5=>
   some (y5)
  else
   if(a1==65533)=true then
    AO (fun j7:Unit=>
     some ((-1))) fun k8=>
    Ed N a0 k8 N 0
   else
    Option.bind (GD N a1) fun y12=>
    if y12=true then
     (none:Option (Int))
    else
     some ((-1))) fun k2=>
 if(decide (0≤a1))=true then
  k2 (decide (a1<128))
 else
  k2 false
def strings_shouldUseASCIISet (N:Nat) (a0:Int):Option (Bool):=
 some ((decide (a0>8)))
def BD (N:Nat) (k2:((List Bool)→Option ((List Bool)×Bool))):List UInt8→(List Bool)→Option ((List Bool)×Bool)
  |[],bn=>
  k2 bn
  |xk5::xs,bn=>
  if(decide ((AL xk5)≥128))=true then
   grd (bn.length=256) (
   some (bn,false))
  else
   grd (0≤(AL xk5)∧(AL xk5)<256) (
   grd ((AL xk5).toNat+1≤bn.length) (
   BD N k2 xs (bn.set ((AL xk5).toNat) true)))
def strings_makeASCIISet (N:Nat) (a0:(List UInt8)):Option ((List Bool)×Bool):=
 AO (fun j1:(List Bool)=>
  grd (j1.length=256) (
  some (j1,true))) fun k2=>
 grd (AV (a0.length)) (
  BD N k2 a0 (ACj 256))
def Cy (N:Nat) (a0:(List Bool)) (a1:Int):Option (Bool×(List Bool)):=
 grd (0≤a1∧a1<256) (
 Option.bind (idx a0 a1) fun x1=>
 some (x1,a0))
def Ca (N:Nat) (a0:(List UInt8)) (a1:(List UInt8)) (k24:(Unit→Option (Int))):Nat→Nat→Option (Int)
  |0,_=>none
  |k+1,s45=>
  if(decide (s45<a0.length))=true then
   Option.bind (Eg N a1 ((Cx a0 s45).1:Int)) fun y28=>
   if(decide (y28≥0))=true then
    some (((s45:Nat):Int))
   else
    Ca N a0 a1 k24 k (s45+(Cx a0 s45).2)
  else
   k24 ()
def Ba (N:Nat) (k17:((List Bool)→Option (Int))):List UInt8→Int→(List Bool)→Option (Int)
  |[],s8,AAF=>
  k17 AAF
  |xk20::xs,s8,AAF=>
  Option.bind (Cy N AAF (AL xk20)) fun y21=>
  if y21.1=true then
   some (s8)
  else
   Ba N k17 xs (s8+1) y21.2
def strings_IndexAny (N:Nat) (a0:(List UInt8)) (a1:(List UInt8)):Option (Int):=
 if(a1==[])=true then
  some ((-1))
 else
  if((a1.length:Int)==1)=true then
   Option.bind (idx a1 0) fun x1=>
   AO (fun j2:Int=>
    Option.bind (Eg N a0 j2) fun y6=>
    some (y6)) fun k3=>
   if(decide ((wr .i32 (AL x1))≥128))=true then
    k3 65533
   else
    k3 (wr .i32 (AL x1))
  else
   AO (fun j8:Unit=>
    AO (fun j23:Unit=>
     some ((-1))) fun k24=>
    Ca N a0 a1 k24 N 0) fun k9=>
   Option.bind (strings_shouldUseASCIISet N (a0.length:Int)) fun y12=>
   if y12=true then
    Option.bind (strings_makeASCIISet N a1) fun y14=>
    grd ((ACj 256).length=256) (
    grd (y14.1.length=256) (
    if y14.2=true then
     AO (fun j16:(List Bool)=>
      some ((-1))) fun k17=>
     grd (AV (a0.length)) (
      Ba N k17 a0 0 y14.1)
    else
     k9 ()))
   else
    k9 ()
def strings_ContainsAny (N:Nat) (a0:(List UInt8)) (a1:(List UInt8)):Option (Bool):=
 Option.bind (strings_IndexAny N a0 a1) fun y1=>
 some ((decide (y1≥0)))
def MK (N:Nat) (a0:Int):Option (Bool):=
 Option.bind (En N a0) fun y1=>
 if y1=true then
  some (true)
 else
  Option.bind (Bw N a0) fun y3=>
  if y3=true then
   some (true)
  else
   Option.bind (strings_IndexByte N ([33,35,36,37,38,39,42,43,45,47,61,63,94,95,96,123,124,125,126]:List UInt8) a0) fun y5=>
   some ((decide (y5≥0)))
def D6 (N:Nat) (k2:(Bool→Option (Bool))):List UInt8→Bool→Option (Bool)
  |[],s3=>
  k2 s3
  |xk5::xs,s3=>
  AO (fun j6:Bool=>
   if j6=true then
    some (false)
   else
    D6 N k2 xs ((AL xk5)==46)) fun k7=>
  if((AL xk5) !=46)=true then
   Option.bind (MK N (AL xk5)) fun y10=>
   if y10=true then
    if((AL xk5)==46)=true then
     k7 s3
    else
     k7 false
   else
    k7 true
  else
   if((AL xk5)==46)=true then
    k7 s3
   else
    k7 false
def Kt (N:Nat) (a0:(List UInt8)):Option (Bool):=
 AO (fun j1:Bool=>
  if j1=true then
   some (false)
  else
   some ((decide ((a0.length:Int)≤64)))) fun k2=>
 grd (AV (a0.length)) (
  D6 N k2 a0 true)
def Dz (N:Nat) (k18:(Unit→Option (ApiMail×Int))):List UInt8→Option (ApiMail×Int)
  |[]=>
  k18 ()
  |xk21::xs=>
  AO (fun j22:Bool=>
   if j22=true then
    some ((ApiMail.mk [] []),1)
   else
    Dz N k18 xs) fun k23=>
  Option.bind (CK N (AL xk21)) fun y26=>
  if y26=true then
   k23 false
  else
   Option.bind (strings_IndexByte N ([37,33,36,39,42,43]:List UInt8) (AL xk21)) fun y28=>
   k23 (decide (y28<0))
def K3 (N:Nat) (a0:(List UInt8)):Option (ApiMail×Int):=
 if(decide ((a0.length:Int)>4096))=true then
  some ((ApiMail.mk [] []),5)
 else
  AO (fun j1:Bool=>
   if j1=true then
    some ((ApiMail.mk [] []),60)
   else
    Option.bind (sub a0 7 (a0.length:Int)) fun x8=>
    Option.bind (strings_Cut N x8 ([64]:List UInt8)) fun y9=>
    AO (fun j11:Bool=>
     if j11=true then
      some ((ApiMail.mk [] []),6)
     else
      AO (fun j17:Unit=>
       Option.bind (EA N y9.1) fun y30=>
       if(y30.2 !=0)=true then
        some ((ApiMail.mk [] []),y30.2)
       else
        Option.bind (Kt N y30.1) fun y32=>
        if y32=true then
         Option.bind (Jk N y9.2.1) fun y34=>
         if(y34.2 !=0)=true then
          some ((ApiMail.mk [] []),y34.2)
         else
          Option.bind (Io N y34.1) fun y36=>
          if y36=true then
           some ((ApiMail.mk [] []),50)
          else
           some ((ApiMail.mk y30.1 y34.1),0)
        else
         some ((ApiMail.mk [] []),80)) fun k18=>
      grd (AV (y9.1.length)) (
       Dz N k18 y9.1)) fun k12=>
    if y9.2.2=true then
     Option.bind (strings_ContainsAny N a0 ([63,35]:List UInt8)) fun y15=>
     k12 y15
    else
     k12 true) fun k2=>
  if(decide ((a0.length:Int)<7))=true then
   k2 true
  else
   Option.bind (sub a0 0 7) fun x5=>
   Option.bind (Gs N x5 ([109,97,105,108,116,111,58]:List UInt8)) fun y6=>
   k2 (!y6)
def Bd (N:Nat) (a1:(List UInt8)) (k2:((List Int)→Option ((List UInt8)))):List UInt8→(List Int)→Option ((List UInt8))
  |[],bn=>
  k2 bn
  |xk5::xs,bn=>
  AO (fun j6:(List Int)=>
   Bd N a1 k2 xs j6) fun k7=>
  AO (fun j10:Bool=>
   if j10=true then
    grd (Cg (bn.length+1) 1) (
    k7 (bn++[(AL xk5)]))
   else
    Option.bind (EG N bn (AL xk5)) fun y18=>
    k7 y18) fun k11=>
  Option.bind (CK N (AL xk5)) fun y14=>
  if y14=true then
   k11 true
  else
   if((AL xk5) !=37)=true then
    Option.bind (strings_IndexByte N a1 (AL xk5)) fun y16=>
    k11 (decide (y16≥0))
   else
    k11 false
def EY (N:Nat) (a0:(List UInt8)) (a1:(List UInt8)):Option ((List UInt8)):=
 AO (fun j1:(List Int)=>
  some ((List.map FX j1))) fun k2=>
 grd (AV (a0.length)) (
  Bd N a1 k2 a0 [])
def KF (N:Nat) (a0:ApiMail):Option ((List UInt8)):=
 Option.bind (EY N a0.local_ ([33,36,39,42,43]:List UInt8)) fun y1=>
 grd (AV (([109,97,105,108,116,111,58]:List UInt8).length+y1.length)) (
 grd (AV ((([109,97,105,108,116,111,58]:List UInt8)++y1).length+([64]:List UInt8).length)) (
 grd (AV (((([109,97,105,108,116,111,58]:List UInt8)++y1)++([64]:List UInt8)).length+a0.host.length)) (
 some ((((([109,97,105,108,116,111,58]:List UInt8)++y1)++([64]:List UInt8))++a0.host)))))
def FT (N:Nat) (a0:(List UInt8)):Option (ApiID×Int):=
 Option.bind (K3 N a0) fun y1=>
 if(y1.2 !=0)=true then
  some ((ApiID.mk 0 [] [] 0),y1.2)
 else
  Option.bind (KF N y1.1) fun y3=>
  some ((ApiID.mk 2 y3 y1.1.host 0),0)
def ER (N:Nat) (k2:(Int×Int×(List Int)→Option ((List UInt8)))):Nat→Int→Int→(List Int)→Option ((List UInt8))
  |0,_,_,_=>none
  |k+1,s0,s4,bn=>
  if(decide (s0≥10))=true then
   grd (0≤s4∧s4<20) (
   grd (s4.toNat+1≤bn.length) (
   ER N k2 k (wr .u64 (s0.tdiv 10)) (wr .i64 (s4-1)) (bn.set s4.toNat (wr .u8 (wr .u64 (48+(s0.tmod 10)))))))
  else
   k2 (s0,s4,bn)
def Ep (N:Nat) (a0:Int):Option ((List UInt8)):=
 AO (fun j1:Int×Int×(List Int)=>
  grd (0≤j1.2.1∧j1.2.1<20) (
  grd (j1.2.1.toNat+1≤j1.2.2.length) (
  grd (0≤j1.2.1∧j1.2.1≤20) (
  grd ((20-j1.2.1.toNat)≤j1.2.2.length-j1.2.1.toNat∧AV (20-j1.2.1.toNat)) (
  some ((List.map FX (List.take (20-j1.2.1.toNat) (List.drop j1.2.1.toNat (j1.2.2.set j1.2.1.toNat (wr .u8 (wr .u64 (48+j1.1))))))))))))) fun k2=>
 ER N k2 N a0 19 (List.replicate 20 0)
def KD (N:Nat) (a0:ApiHostPort):Option ((List UInt8)):=
 if(a0.port==0)=true then
  some (a0.host)
 else
  if(decide (a0.port<0))=true then
   grd (AV (a0.host.length+([58,45]:List UInt8).length)) (
   Option.bind (Ep N (wr .u64 (0-(wr .u64 a0.port)))) fun y1=>
   grd (AV ((a0.host++([58,45]:List UInt8)).length+y1.length)) (
   some (((a0.host++([58,45]:List UInt8))++y1))))
  else
   grd (AV (a0.host.length+([58]:List UInt8).length)) (
   Option.bind (Ep N (wr .u64 a0.port)) fun y3=>
   grd (AV ((a0.host++([58]:List UInt8)).length+y3.length)) (
   some (((a0.host++([58]:List UInt8))++y3))))
def Jq (N:Nat) (a0:ApiURL):Option (ApiHostPort):=
 some ((ApiHostPort.mk a0.host a0.port))
def II (N:Nat) (a0:ApiURL):Option ((List UInt8)):=
 if a0.hasQuery=true then
  grd (AV (a0.path.length+([63]:List UInt8).length)) (
  grd (AV ((a0.path++([63]:List UInt8)).length+a0.query.length)) (
  some (((a0.path++([63]:List UInt8))++a0.query))))
 else
  some (a0.path)
def Dc (N:Nat) (a0:ApiURL):Option ((List UInt8)):=
 Option.bind (Jq N a0) fun y1=>
 Option.bind (KD N y1) fun y3=>
 grd (AV (([104,116,116,112,115,58,47,47]:List UInt8).length+y3.length)) (
 Option.bind (II N a0) fun y5=>
 grd (AV ((([104,116,116,112,115,58,47,47]:List UInt8)++y3).length+y5.length)) (
 AO (fun j7:(List UInt8)=>
  some (j7)) fun k8=>
 if a0.hasFrag=true then
  grd (AV (([35]:List UInt8).length+a0.fragment.length)) (
  grd (AV (((([104,116,116,112,115,58,47,47]:List UInt8)++y3)++y5).length+(([35]:List UInt8)++a0.fragment).length)) (
  k8 (((([104,116,116,112,115,58,47,47]:List UInt8)++y3)++y5)++(([35]:List UInt8)++a0.fragment))))
 else
  k8 ((([104,116,116,112,115,58,47,47]:List UInt8)++y3)++y5)))
def BG (N:Nat) (a0:(List UInt8)) (a1:(List UInt8)):Option (Bool):=
 if(decide ((a0.length:Int)≥(a1.length:Int)))=true then
  Option.bind (sub a0 0 (a1.length:Int)) fun x1=>
  some ((x1==a1))
 else
  some (false)
def Cv (N:Nat) (a0:(List UInt8)) (a1:(List UInt8)):Option ((List UInt8)×Bool):=
 Option.bind (BG N a0 a1) fun y1=>
 if y1=true then
  Option.bind (sub a0 (a1.length:Int) (a0.length:Int)) fun x3=>
  some (x3,true)
 else
  some (a0,false)
def strings_CutPrefix (N:Nat) (a0:(List UInt8)) (a1:(List UInt8)):Option ((List UInt8)×Bool):=
 Option.bind (Cv N a0 a1) fun y1=>
 some (y1.1,y1.2)
def D7 (N:Nat) (k2:(Unit→Option (Bool))):List UInt8→Int→Option (Bool)
  |[],s6=>
  k2 ()
  |xk5::xs,s6=>
  AO (fun j6:Bool=>
   if j6=true then
    some (false)
   else
    D7 N k2 xs (s6+1)) fun k7=>
  Option.bind (En N (AL xk5)) fun y10=>
  if y10=true then
   k7 false
  else
   if(s6==0)=true then
    k7 true
   else
    Option.bind (Bw N (AL xk5)) fun y12=>
    if y12=true then
     k7 false
    else
     Option.bind (strings_IndexByte N ([43,45,46]:List UInt8) (AL xk5)) fun y14=>
     k7 (decide (y14<0))
def K8 (N:Nat) (a0:(List UInt8)):Option (Bool):=
 AO (fun j1:Unit=>
  some ((!(a0==[])))) fun k2=>
 grd (AV (a0.length)) (
  D7 N k2 a0 0)
def MJ (N:Nat) (a0:(List UInt8)):Option (ApiURI×Int):=
 if(decide ((a0.length:Int)>16384))=true then
  some ((ApiURI.mk [] [] [] [] [] false false false false),5)
 else
  Option.bind (strings_Cut N a0 ([35]:List UInt8)) fun y1=>
  Option.bind (strings_Cut N y1.1 ([63]:List UInt8)) fun y3=>
  AO (fun j5:(List UInt8)×(List UInt8)×Bool=>
   AO (fun j20:(List UInt8)×(List UInt8)×Bool=>
    some ((ApiURI.mk j5.2.1 j20.2.1 j20.1 y3.2.1 y1.2.1 j5.2.2 j20.2.2 y3.2.2 y1.2.2),0)) fun k21=>
   Option.bind (strings_CutPrefix N j5.1 ([47,47]:List UInt8)) fun y24=>
   if y24.2=true then
    Option.bind (strings_IndexByte N y24.1 47) fun y26=>
    AO (fun j28:Int=>
     Option.bind (sub y24.1 0 j28) fun x32=>
     Option.bind (sub y24.1 j28 (y24.1.length:Int)) fun x33=>
     k21 (x33,x32,true)) fun k29=>
    if(decide (y26<0))=true then
     k29 (y24.1.length:Int)
    else
     k29 y26
   else
    k21 (j5.1,[],false)) fun k6=>
  Option.bind (strings_IndexAny N y3.1 ([58,47]:List UInt8)) fun y9=>
  AO (fun j11:Bool=>
   if j11=true then
    Option.bind (sub y3.1 0 y9) fun x16=>
    Option.bind (K8 N x16) fun y17=>
    if y17=true then
     Option.bind (sub y3.1 (wr .i64 (y9+1)) (y3.1.length:Int)) fun x19=>
     k6 (x19,x16,true)
    else
     some ((ApiURI.mk [] [] [] [] [] false false false false),6)
   else
    k6 (y3.1,[],false)) fun k12=>
  if(decide (y9≥0))=true then
   Option.bind (idx y3.1 y9) fun x15=>
   k12 ((AL x15)==58)
  else
   k12 false
def strings_Contains (N:Nat) (a0:(List UInt8)) (a1:(List UInt8)):Option (Bool):=
 Option.bind (strings_Index N a0 a1) fun y1=>
 some ((decide (y1≥0)))
def MI (N:Nat) (a0:(List UInt8)):Option (Int×Int):=
 Option.bind (Ga N a0 65535) fun y1=>
 AO (fun j3:Bool=>
  if j3=true then
   some (0,51)
  else
   some ((wr .i64 y1.1),0)) fun k4=>
 if(y1.2 !=0)=true then
  k4 true
 else
  k4 (y1.1==0)
def Jl (N:Nat) (a0:(List UInt8)):Option (ApiHostPort×Int):=
 Option.bind (strings_Cut N a0 ([58]:List UInt8)) fun y1=>
 Option.bind (Jk N y1.1) fun y3=>
 if(y3.2 !=0)=true then
  some ((ApiHostPort.mk [] 0),y3.2)
 else
  AO (fun j5:Int=>
   AO (fun j11:Int=>
    some ((ApiHostPort.mk y3.1 j11),0)) fun k12=>
   if(j5==443)=true then
    k12 0
   else
    k12 j5) fun k6=>
  if y1.2.2=true then
   Option.bind (MI N y1.2.1) fun y9=>
   if(y9.2 !=0)=true then
    some ((ApiHostPort.mk [] 0),y9.2)
   else
    k6 y9.1
  else
   k6 0
def strings_HasPrefix (N:Nat) (a0:(List UInt8)) (a1:(List UInt8)):Option (Bool):=
 Option.bind (BG N a0 a1) fun y1=>
 some (y1)
def Ch (N:Nat) (a0:(List UInt8)) (a1:(List UInt8)):Option ((List UInt8)):=
 Option.bind (BG N a0 a1) fun y1=>
 if y1=true then
  Option.bind (sub a0 (a1.length:Int) (a0.length:Int)) fun x3=>
  some (x3)
 else
  some (a0)
def strings_TrimPrefix (N:Nat) (a0:(List UInt8)) (a1:(List UInt8)):Option ((List UInt8)):=
 Option.bind (Ch N a0 a1) fun y1=>
 some (y1)
def Ae (N:Nat) (a0:(List UInt8)) (a1:Int) (k2:(Unit→Option (Int))):Nat→Int→Option (Int)
  |0,_=>none
  |k+1,s5=>
  if(decide (s5≥0))=true then
   Option.bind (idx a0 s5) fun x6=>
   if((AL x6)==a1)=true then
    some (s5)
   else
    Ae N a0 a1 k2 k (wr .i64 (s5-1))
  else
   k2 ()
def Bp (N:Nat) (a0:(List UInt8)) (a1:Int):Option (Int):=
 AO (fun j1:Unit=>
  some ((-1))) fun k2=>
 Ae N a0 a1 k2 N (wr .i64 ((a0.length:Int)-1))
def strings_LastIndexByte (N:Nat) (a0:(List UInt8)) (a1:Int):Option (Int):=
 Option.bind (Bp N a0 a1) fun y1=>
 some (y1)
def Aj (N:Nat):Nat→(List UInt8)→Nat→(List Int)→Option ((List UInt8))
  |0,_,_,_=>none
  |k+1,s0,s3_len,bq3=>
  if(s0==[])=true then
   grd (s3_len≤bq3.length∧AV s3_len) (
   some ((List.map FX (List.take s3_len bq3))))
  else
   Option.bind (strings_HasPrefix N s0 ([46,46,47]:List UInt8)) fun y2=>
   if y2=true then
    Option.bind (sub s0 3 (s0.length:Int)) fun x4=>
    Aj N k x4 s3_len bq3
   else
    Option.bind (strings_HasPrefix N s0 ([46,47]:List UInt8)) fun y5=>
    if y5=true then
     Option.bind (sub s0 2 (s0.length:Int)) fun x7=>
     Aj N k x7 s3_len bq3
    else
     Option.bind (strings_HasPrefix N s0 ([47,46,47]:List UInt8)) fun y8=>
     if y8=true then
      Option.bind (sub s0 2 (s0.length:Int)) fun x10=>
      Aj N k x10 s3_len bq3
     else
      if(s0==([47,46]:List UInt8))=true then
       Aj N k ([47]:List UInt8) s3_len bq3
      else
       AO (fun j11:Bool=>
        if j11=true then
         Option.bind (sub s0 3 (s0.length:Int)) fun x17=>
         Option.bind (strings_TrimPrefix N x17 ([47]:List UInt8)) fun y18=>
         grd (AV (([47]:List UInt8).length+y18.length)) (
         grd (s3_len≤bq3.length∧AV s3_len) (
         Option.bind (strings_LastIndexByte N (List.map FX (List.take s3_len bq3)) 47) fun y20=>
         grd (0≤(if y20>0 then y20 else 0)∧(if y20>0 then y20 else 0)≤(s3_len:Int)) (
         Aj N k (([47]:List UInt8)++y18) ((if y20>0 then y20 else 0).toNat) bq3)))
        else
         AO (fun j22:Bool=>
          if j22=true then
           Aj N k [] s3_len bq3
          else
           Option.bind (sub s0 1 (s0.length:Int)) fun x26=>
           Option.bind (strings_IndexByte N x26 47) fun y27=>
           AO (fun j29:Int=>
            Option.bind (sub s0 0 j29) fun x33=>
            grd (s3_len≤bq3.length∧Cg (s3_len+x33.length) 1) (
            Option.bind (sub s0 j29 (s0.length:Int)) fun x35=>
            Aj N k x35 (s3_len+x33.length) (List.take s3_len bq3++List.map AL x33))) fun k30=>
           if((wr .i64 (1+y27))==0)=true then
            k30 (s0.length:Int)
           else
            k30 (wr .i64 (1+y27))) fun k23=>
         if(s0==([46]:List UInt8))=true then
          k23 true
         else
          k23 (s0==([46,46]:List UInt8))) fun k12=>
       Option.bind (strings_HasPrefix N s0 ([47,46,46,47]:List UInt8)) fun y15=>
       if y15=true then
        k12 true
       else
        k12 (s0==([47,46,46]:List UInt8))
def Fe (N:Nat) (a0:(List UInt8)):Option ((List UInt8)):=
 grd (Rx 0 (a0.length:Int) 1) (
 Aj N N a0 ((0:Int).toNat) (List.replicate (0:Int).toNat 0))
def HY (N:Nat) (a0:(List UInt8)):Option (ApiURL×Int):=
 if(decide ((a0.length:Int)>4096))=true then
  some ((ApiURL.mk [] 0 [] [] [] false false),5)
 else
  Option.bind (MJ N a0) fun y1=>
  if(y1.2 !=0)=true then
   some ((ApiURL.mk [] 0 [] [] [] false false),y1.2)
  else
   AO (fun j3:Bool=>
    if j3=true then
     some ((ApiURL.mk [] 0 [] [] [] false false),60)
    else
     if y1.1.hasAuthority=true then
      Option.bind (strings_Contains N y1.1.authority ([64]:List UInt8)) fun y9=>
      if y9=true then
       some ((ApiURL.mk [] 0 [] [] [] false false),70)
      else
       Option.bind (Jl N y1.1.authority) fun y11=>
       if(y11.2 !=0)=true then
        some ((ApiURL.mk [] 0 [] [] [] false false),y11.2)
       else
        Option.bind (Ce N y1.1.path ([33,36,38,39,40,41,42,43,44,59,61,58,64,47]:List UInt8)) fun y13=>
        if(y13.2 !=0)=true then
         some ((ApiURL.mk [] 0 [] [] [] false false),y13.2)
        else
         Option.bind (Ce N y1.1.query ([33,36,38,39,40,41,42,43,44,59,61,58,64,47,63]:List UInt8)) fun y15=>
         if(y15.2 !=0)=true then
          some ((ApiURL.mk [] 0 [] [] [] false false),y15.2)
         else
          Option.bind (Ce N y1.1.fragment ([33,36,38,39,40,41,42,43,44,59,61,58,64,47,63]:List UInt8)) fun y17=>
          if(y17.2 !=0)=true then
           some ((ApiURL.mk [] 0 [] [] [] false false),y17.2)
          else
           AO (fun j19:(List UInt8)=>
            Option.bind (Dc N (ApiURL.mk y11.1.host y11.1.port j19 y15.1 y17.1 y1.1.hasQuery y1.1.hasFrag)) fun y25=>
            if(decide ((y25.length:Int)>4096))=true then
             some ((ApiURL.mk [] 0 [] [] [] false false),5)
            else
             some ((ApiURL.mk y11.1.host y11.1.port j19 y15.1 y17.1 y1.1.hasQuery y1.1.hasFrag),0)) fun k20=>
           Option.bind (Fe N y13.1) fun y23=>
           if(y23==[])=true then
            k20 ([47]:List UInt8)
           else
            k20 y23
     else
      some ((ApiURL.mk [] 0 [] [] [] false false),71)) fun k4=>
   if y1.1.hasScheme=true then
    Option.bind (Gs N y1.1.scheme ([104,116,116,112,115]:List UInt8)) fun y7=>
    k4 (!y7)
   else
    k4 true
def Fz (N:Nat) (a0:(List UInt8)):Option (ApiID×Int):=
 Option.bind (HY N a0) fun y1=>
 if(y1.2 !=0)=true then
  some ((ApiID.mk 0 [] [] 0),y1.2)
 else
  Option.bind (Dc N y1.1) fun y3=>
  some ((ApiID.mk 3 y3 y1.1.host y1.1.port),0)
def Dx (N:Nat) (a0:ApiDID):Option ((List UInt8)):=
 grd (AV (([100,105,100,58]:List UInt8).length+a0.method.length)) (
 grd (AV ((([100,105,100,58]:List UInt8)++a0.method).length+([58]:List UInt8).length)) (
 grd (AV (((([100,105,100,58]:List UInt8)++a0.method)++([58]:List UInt8)).length+a0.iD.length)) (
 some ((((([100,105,100,58]:List UInt8)++a0.method)++([58]:List UInt8))++a0.iD)))))
def Dy (N:Nat) (k2:(Unit→Option (Bool))):List UInt8→Option (Bool)
  |[]=>
  k2 ()
  |xk5::xs=>
  AO (fun j6:Bool=>
   if j6=true then
    some (false)
   else
    Dy N k2 xs) fun k7=>
  Option.bind (Bw N (AL xk5)) fun y10=>
  if y10=true then
   k7 false
  else
   if(decide ((AL xk5)<97))=true then
    k7 true
   else
    k7 (decide ((AL xk5)>122))
def LC (N:Nat) (a0:(List UInt8)):Option (Bool):=
 AO (fun j1:Unit=>
  some ((!(a0==[])))) fun k2=>
 grd (AV (a0.length)) (
  Dy N k2 a0)
def EM (N:Nat) (a0:StringsBuilder):Option (StringsBuilder):=
 if a0.addr=true then
  some (a0)
 else
  some ((StringsBuilder.mk true a0.buf))
def Ad (N:Nat) (a0:StringsBuilder) (a1:(List UInt8)):Option (Int×Unit×StringsBuilder):=
 Option.bind (EM N a0) fun y1=>
 grd (Cg (y1.buf.length+a1.length) 1) (
 some ((a1.length:Int),(),(StringsBuilder.mk y1.addr (y1.buf++a1))))
def CL (N:Nat) (a0:StringsBuilder):Option ((List UInt8)×StringsBuilder):=
 some (a0.buf,a0)
def FQ (N:Nat) (n:Int):Option Unit:=grd (0<n∧n≤140737488355328) (some ())
def Dm (N:Nat) (a0:(List UInt8)) (a2:(List UInt8)) (k18:(Int×Bool×(List UInt8)→Option ((List UInt8)))):Nat→Int→StringsBuilder→Option ((List UInt8))
  |0,s11,bn8=>
  k18 (s11,bn8.addr,bn8.buf)
  |k+1,s11,bn8=>
  Option.bind (sub a0 s11 (a0.length:Int)) fun x33=>
  Option.bind (Ci N x33) fun y34=>
  Option.bind (sub a0 s11 (wr .i64 (s11+y34.2))) fun x36=>
  Option.bind (Ad N bn8 x36) fun y37=>
  Option.bind (Ad N y37.2.2 a2) fun y39=>
  Dm N a0 a2 k18 k (wr .i64 (s11+y34.2)) y39.2.2
def Bn (N:Nat) (a0:(List UInt8)) (a1:(List UInt8)) (a2:(List UInt8)) (k18:(Int×Bool×(List UInt8)→Option ((List UInt8)))):Nat→Int→Bool→(List UInt8)→Option ((List UInt8))
  |0,s11,bn8_addr,bn8_buf=>
  k18 (s11,bn8_addr,bn8_buf)
  |k+1,s11,bn8_addr,bn8_buf=>
  Option.bind (sub a0 s11 (a0.length:Int)) fun x22=>
  Option.bind (strings_Index N x22 a1) fun y23=>
  Option.bind (sub a0 s11 (wr .i64 (s11+y23))) fun x25=>
  Option.bind (Ad N (StringsBuilder.mk bn8_addr bn8_buf) x25) fun y26=>
  Option.bind (Ad N y26.2.2 a2) fun y28=>
  Bn N a0 a1 a2 k18 k (wr .i64 ((wr .i64 (s11+y23))+(a1.length:Int))) y28.2.2.addr y28.2.2.buf
def strings_Replace (N:Nat) (a0:(List UInt8)) (a1:(List UInt8)) (a2:(List UInt8)) (a3:Int):Option ((List UInt8)):=
 AO (fun j1:Bool=>
  if j1=true then
   some (a0)
  else
   AO (fun j5:Int=>
    Option.bind (FQ N (wr .i64 ((a0.length:Int)+(wr .i64 (j5 * (wr .i64 ((a2.length:Int)-(a1.length:Int)))))))) fun y15=>
    AO (fun j17:Int×Bool×(List UInt8)=>
     Option.bind (sub a0 j17.1 (a0.length:Int)) fun x41=>
     Option.bind (Ad N (StringsBuilder.mk j17.2.1 j17.2.2) x41) fun y42=>
     Option.bind (CL N y42.2.2) fun y44=>
     some (y44.1)) fun k18=>
    if(decide ((a1.length:Int)>0))=true then
     grd ((-4611686018427387904:Int)≤0∧(j5:Int)≤4611686018427387904) (
      Bn N a0 a1 a2 k18 ((j5:Int)-0).toNat 0 true [])
    else
     Option.bind (Ad N (StringsBuilder.mk true []) a2) fun y30=>
     grd ((-4611686018427387904:Int)≤0∧((wr .i64 (j5-1)):Int)≤4611686018427387904) (
      Dm N a0 a2 k18 (((wr .i64 (j5-1)):Int)-0).toNat 0 y30.2.2)) fun k6=>
   Option.bind (strings_Count N a0 a1) fun y9=>
   if(y9==0)=true then
    some (a0)
   else
    AO (fun j11:Bool=>
     if j11=true then
      k6 y9
     else
      k6 a3) fun k12=>
    if(decide (a3<0))=true then
     k12 true
    else
     k12 (decide (y9<a3))) fun k2=>
 if(a1==a2)=true then
  k2 true
 else
  k2 (a3==0)
def strings_ReplaceAll (N:Nat) (a0:(List UInt8)) (a1:(List UInt8)) (a2:(List UInt8)):Option ((List UInt8)):=
 Option.bind (strings_Replace N a0 a1 a2 (-1)) fun y1=>
 some (y1)
def IB (N:Nat) (a0:(List UInt8)):Option ((List UInt8)×Int):=
 Option.bind (Ce N a0 ([58]:List UInt8)) fun y1=>
 Option.bind (EA N a0) fun y3=>
 if(y3.2 !=0)=true then
  some ([],y3.2)
 else
  AO (fun j5:Int=>
   Option.bind (strings_ReplaceAll N y1.1 ([126]:List UInt8) ([37,55,69]:List UInt8)) fun y15=>
   some (y15,j5)) fun k6=>
  AO (fun j9:Bool=>
   if j9=true then
    k6 1
   else
    k6 y1.2) fun k10=>
  if(y1.2==0)=true then
   Option.bind (strings_Contains N a0 ([126]:List UInt8)) fun y13=>
   k10 y13
  else
   k10 false
def Cw (N:Nat) (a0:(List UInt8)) (a1:(List UInt8)):Option (Bool):=
 if(decide ((a0.length:Int)≥(a1.length:Int)))=true then
  Option.bind (sub a0 (wr .i64 ((a0.length:Int)-(a1.length:Int))) (a0.length:Int)) fun x1=>
  some ((x1==a1))
 else
  some (false)
def strings_HasSuffix (N:Nat) (a0:(List UInt8)) (a1:(List UInt8)):Option (Bool):=
 Option.bind (Cw N a0 a1) fun y1=>
 some (y1)
def Hl (N:Nat) (a0:(List UInt8)):Option (ApiDID×Int):=
 if(decide ((a0.length:Int)>4096))=true then
  some ((ApiDID.mk [] []),5)
 else
  Option.bind (strings_CutPrefix N a0 ([100,105,100,58]:List UInt8)) fun y1=>
  if y1.2=true then
   Option.bind (strings_Cut N y1.1 ([58]:List UInt8)) fun y3=>
   if y3.2.2=true then
    Option.bind (LC N y3.1) fun y5=>
    if y5=true then
     Option.bind (IB N y3.2.1) fun y7=>
     if(y7.2 !=0)=true then
      some ((ApiDID.mk [] []),y7.2)
     else
      AO (fun j9:Bool=>
       if j9=true then
        some ((ApiDID.mk [] []),3)
       else
        some ((ApiDID.mk y3.1 y7.1),0)) fun k10=>
      if(y7.1==[])=true then
       k10 true
      else
       Option.bind (strings_HasSuffix N y7.1 ([58]:List UInt8)) fun y13=>
       k10 y13
    else
     some ((ApiDID.mk [] []),100)
   else
    some ((ApiDID.mk [] []),6)
  else
   some ((ApiDID.mk [] []),60)
def Ex (N:Nat) (a0:ApiDID):Option (ApiHostPort×Int):=
 if(a0.method==([119,101,98]:List UInt8))=true then
  Option.bind (Dx N a0) fun y1=>
  Option.bind (Hl N y1) fun y3=>
  if(y3.2 !=0)=true then
   some ((ApiHostPort.mk [] 0),y3.2)
  else
   Option.bind (strings_Cut N a0.iD ([58]:List UInt8)) fun y5=>
   Option.bind (EA N y5.1) fun y7=>
   if(y7.2 !=0)=true then
    some ((ApiHostPort.mk [] 0),y7.2)
   else
    Option.bind (Jl N y7.1) fun y9=>
    some (y9.1,y9.2)
 else
  some ((ApiHostPort.mk [] 0),100)
def F3 (N:Nat) (a0:DidwebMapper) (a1:(List UInt8)):Option ((List UInt8)×DidwebMapper):=
 Option.bind (EA N a1) fun y1=>
 AO (fun j3:Int=>
  Option.bind (EY N y1.1 []) fun y11=>
  grd (AV (([47]:List UInt8).length+y11.length)) (
  some ((([47]:List UInt8)++y11),(DidwebMapper.mk j3)))) fun k4=>
 AO (fun j7:Bool=>
  if j7=true then
   k4 110
  else
   k4 a0.e) fun k8=>
 if(y1.2 !=0)=true then
  k8 true
 else
  if(y1.1==[])=true then
   k8 true
  else
   if(y1.1==([46]:List UInt8))=true then
    k8 true
   else
    k8 (y1.1==([46,46]:List UInt8))
def Af (N:Nat) (k2:(Bool×(List UInt8)×DidwebMapper→Option ((List UInt8)×DidwebMapper))):List (List UInt8)→Bool→(List UInt8)→DidwebMapper→Option ((List UInt8)×DidwebMapper)
  |[],bn_addr,bn_buf,bi1_0=>
  k2 (bn_addr,bn_buf,bi1_0)
  |xk5::xs,bn_addr,bn_buf,bi1_0=>
  Option.bind (F3 N bi1_0 xk5) fun y6=>
  Option.bind (Ad N (StringsBuilder.mk bn_addr bn_buf) y6.1) fun y8=>
  Af N k2 xs y8.2.2.addr y8.2.2.buf y6.2
def CF (N:Nat) (a0:(List (List UInt8))) (b1_0:DidwebMapper):Option ((List UInt8)×DidwebMapper):=
 AO (fun j1:Bool×(List UInt8)×DidwebMapper=>
  Option.bind (CL N (StringsBuilder.mk j1.1 j1.2.1)) fun y10=>
  some (y10.1,j1.2.2)) fun k2=>
 grd (AV (a0.length)) (
  Af N k2 a0 false [] b1_0)
def I8 (N:Nat) (a0:ApiDID):Option (ApiURL×Int):=
 Option.bind (Ex N a0) fun y1=>
 if(y1.2 !=0)=true then
  some ((ApiURL.mk [] 0 [] [] [] false false),y1.2)
 else
  AO (fun j3:(List UInt8)=>
   Option.bind (Dc N (ApiURL.mk y1.1.host y1.1.port j3 [] [] false false)) fun y12=>
   if(decide ((y12.length:Int)>4096))=true then
    some ((ApiURL.mk [] 0 [] [] [] false false),5)
   else
    some ((ApiURL.mk y1.1.host y1.1.port j3 [] [] false false),0)) fun k4=>
  Option.bind (strings_Split N a0.iD ([58]:List UInt8)) fun y7=>
  Option.bind (sub y7 1 (y7.length:Int)) fun x9=>
  if(decide ((x9.length:Int)>0))=true then
   Option.bind (CF N x9 (DidwebMapper.mk 0)) fun y10=>
   grd (AV (y10.1.length+([47]:List UInt8).length)) (
   grd (AV ((y10.1++([47]:List UInt8)).length+([100,105,100,46,106,115,111,110]:List UInt8).length)) (
   if(y10.2.e !=0)=true then
    some ((ApiURL.mk [] 0 [] [] [] false false),y10.2.e)
   else
    k4 ((y10.1++([47]:List UInt8))++([100,105,100,46,106,115,111,110]:List UInt8))))
  else
   k4 ([47,46,119,101,108,108,45,107,110,111,119,110,47,100,105,100,46,106,115,111,110]:List UInt8)
def JM (N:Nat) (a0:ApiURL):Option (Bool):=
 Option.bind (Dc N a0) fun y1=>
 Option.bind (HY N y1) fun y3=>
 if(y3.2==0)=true then
  some ((a0.host==y3.1.host&&(a0.port==y3.1.port&&(a0.path==y3.1.path&&(a0.query==y3.1.query&&(a0.fragment==y3.1.fragment&&(a0.hasQuery==y3.1.hasQuery&&a0.hasFrag==y3.1.hasFrag)))))))
 else
  some (false)
def BK (N:Nat) (k2:(Int→Option ((List UInt8)×DidwebMapper))):List UInt8→Int→Option ((List UInt8)×DidwebMapper)
  |[],bi0_e=>
  k2 bi0_e
  |xk5::xs,bi0_e=>
  AO (fun j6:Int=>
   BK N k2 xs j6) fun k7=>
  AO (fun j10:Bool=>
   if j10=true then
    k7 110
   else
    k7 bi0_e) fun k11=>
  if((AL xk5) !=37)=true then
   Option.bind (CK N (AL xk5)) fun y14=>
   k11 (!y14)
  else
   k11 false
def E8 (N:Nat) (a0:DidwebMapper) (a1:(List UInt8)):Option ((List UInt8)×DidwebMapper):=
 AO (fun j1:Int=>
  Option.bind (EA N a1) fun y16=>
  AO (fun j18:Int=>
   Option.bind (EY N y16.1 []) fun y26=>
   Option.bind (strings_ReplaceAll N y26 ([126]:List UInt8) ([37,55,69]:List UInt8)) fun y28=>
   grd (AV (([58]:List UInt8).length+y28.length)) (
   some ((([58]:List UInt8)++y28),(DidwebMapper.mk j18)))) fun k19=>
  AO (fun j22:Bool=>
   if j22=true then
    k19 110
   else
    k19 j1) fun k23=>
  if(y16.2 !=0)=true then
   k23 true
  else
   k23 (y16.1==[])) fun k2=>
 grd (AV (a1.length)) (
  BK N k2 a1 a0.e)
def Ac (N:Nat) (k2:(Bool×(List UInt8)×DidwebMapper→Option ((List UInt8)×DidwebMapper))):List (List UInt8)→Bool→(List UInt8)→DidwebMapper→Option ((List UInt8)×DidwebMapper)
  |[],bn_addr,bn_buf,bi1_0=>
  k2 (bn_addr,bn_buf,bi1_0)
  |xk5::xs,bn_addr,bn_buf,bi1_0=>
  Option.bind (E8 N bi1_0 xk5) fun y6=>
  Option.bind (Ad N (StringsBuilder.mk bn_addr bn_buf) y6.1) fun y8=>
  Ac N k2 xs y8.2.2.addr y8.2.2.buf y6.2
def BQ (N:Nat) (a0:(List (List UInt8))) (b1_0:DidwebMapper):Option ((List UInt8)×DidwebMapper):=
 AO (fun j1:Bool×(List UInt8)×DidwebMapper=>
  Option.bind (CL N (StringsBuilder.mk j1.1 j1.2.1)) fun y10=>
  some (y10.1,j1.2.2)) fun k2=>
 grd (AV (a0.length)) (
  Ac N k2 a0 false [] b1_0)
def Gr (N:Nat) (a0:ApiURL):Option (ApiDID×Int):=
 Option.bind (JM N a0) fun y1=>
 if y1=true then
  Option.bind (strings_Split N a0.path ([47]:List UInt8)) fun y3=>
  Option.bind (sub y3 1 (y3.length:Int)) fun x5=>
  AO (fun j6:Bool=>
   if j6=true then
    some ((ApiDID.mk [] []),6)
   else
    if((x5.length:Int)==1)=true then
     some ((ApiDID.mk [] []),110)
    else
     AO (fun j11:(List UInt8)=>
      AO (fun j17:(List UInt8)=>
       Option.bind (Dx N (ApiDID.mk ([119,101,98]:List UInt8) j17)) fun y24=>
       if(decide ((y24.length:Int)>4096))=true then
        some ((ApiDID.mk [] []),5)
       else
        some ((ApiDID.mk ([119,101,98]:List UInt8) j17),0)) fun k18=>
      if(a0.path==([47,46,119,101,108,108,45,107,110,111,119,110,47,100,105,100,46,106,115,111,110]:List UInt8))=true then
       k18 j11
      else
       Option.bind (sub x5 0 (wr .i64 ((x5.length:Int)-1))) fun x21=>
       Option.bind (BQ N x21 (DidwebMapper.mk 0)) fun y22=>
       grd (AV (j11.length+y22.1.length)) (
       if(y22.2.e !=0)=true then
        some ((ApiDID.mk [] []),y22.2.e)
       else
        k18 (j11++y22.1))) fun k12=>
     if(a0.port !=0)=true then
      Option.bind (Ep N (wr .u64 a0.port)) fun y15=>
      grd (AV (([37,51,65]:List UInt8).length+y15.length)) (
      grd (AV (a0.host.length+(([37,51,65]:List UInt8)++y15).length)) (
      k12 (a0.host++(([37,51,65]:List UInt8)++y15))))
     else
      k12 a0.host) fun k7=>
  if a0.hasQuery=true then
   k7 true
  else
   if a0.hasFrag=true then
    k7 true
   else
    Option.bind (idx x5 (wr .i64 ((x5.length:Int)-1))) fun x10=>
    k7 (!(x10==([100,105,100,46,106,115,111,110]:List UInt8)))
 else
  some ((ApiDID.mk [] []),8)
def Fy (N:Nat) (a0:ApiDID):Option (ApiDID×Int):=
 Option.bind (I8 N a0) fun y1=>
 if(y1.2 !=0)=true then
  some ((ApiDID.mk [] []),y1.2)
 else
  Option.bind (Gr N y1.1) fun y3=>
  some (y3.1,y3.2)
def Fu (N:Nat) (a0:(List UInt8)):Option (ApiID×Int):=
 Option.bind (Hl N a0) fun y1=>
 if(y1.2 !=0)=true then
  some ((ApiID.mk 0 [] [] 0),y1.2)
 else
  Option.bind (Fy N y1.1) fun y3=>
  if(y3.2 !=0)=true then
   some ((ApiID.mk 0 [] [] 0),y3.2)
  else
   Option.bind (Ex N y3.1) fun y5=>
   if(y5.2 !=0)=true then
    some ((ApiID.mk 0 [] [] 0),y5.2)
   else
    Option.bind (Dx N y3.1) fun y7=>
    some ((ApiID.mk 4 y7 y5.1.host y5.1.port),0)
def Lh (N:Nat):Option (Unit):=
 some ()
def Iu (N:Nat) (a0:(List UInt8)):Option (ApiID×Int):=
 if(decide ((a0.length:Int)>4096))=true then
  some ((ApiID.mk 0 [] [] 0),5)
 else
  Option.bind (strings_Cut N a0 ([58]:List UInt8)) fun y1=>
  Option.bind (Lh N) fun y3=>
  Option.bind (F5 N y1.1) fun y6=>
  if(y6==([97,99,99,116]:List UInt8))=true then
   AO (fun j8:Bool=>
    if j8=true then
     some ((ApiID.mk 0 [] [] 0),60)
    else
     Option.bind (FM N a0) fun y12=>
     some (y12.1,y12.2)) fun k9=>
   if y1.2.2=true then
    k9 false
   else
    k9 true
  else
   if(y6==([109,97,105,108,116,111]:List UInt8))=true then
    AO (fun j14:Bool=>
     if j14=true then
      some ((ApiID.mk 0 [] [] 0),60)
     else
      Option.bind (FT N a0) fun y18=>
      some (y18.1,y18.2)) fun k15=>
    if y1.2.2=true then
     k15 false
    else
     k15 true
   else
    if(y6==([104,116,116,112,115]:List UInt8))=true then
     AO (fun j20:Bool=>
      if j20=true then
       some ((ApiID.mk 0 [] [] 0),60)
      else
       Option.bind (Fz N a0) fun y24=>
       some (y24.1,y24.2)) fun k21=>
     if y1.2.2=true then
      k21 false
     else
      k21 true
    else
     if(y6==([100,105,100]:List UInt8))=true then
      AO (fun j26:Bool=>
       if j26=true then
        some ((ApiID.mk 0 [] [] 0),60)
       else
        Option.bind (Fu N a0) fun y30=>
        some (y30.1,y30.2)) fun k27=>
      if y1.2.2=true then
       k27 false
      else
       k27 true
     else
      AO (fun j32:Unit=>
       some ((ApiID.mk 0 [] [] 0),60)) fun k33=>
      if y1.2.2=true then
       k33 ()
      else
       k33 ()
def NV (N:Nat) (a0:ApiID):Option (Bool):=
 Option.bind (Iu N a0.text) fun y1=>
 if(y1.2==0)=true then
  some ((y1.1.kind==a0.kind&&(y1.1.text==a0.text&&(y1.1.host==a0.host&&y1.1.port==a0.port))))
 else
  some (false)
def RL (N:Nat) (a0:ApiID) (a1:(List UInt8)):Option (ApiURL×Int):=
 Option.bind (NV N a0) fun y1=>
 if y1=true then
  some ((ApiURL.mk a0.host a0.port a1 [] [] false false),0)
 else
  some ((ApiURL.mk [] 0 [] [] [] false false),8)
def Kc (N:Nat) (a0:ApiID):Option (ApiURL×Int):=
 Option.bind (RL N a0 ([47,46,119,101,108,108,45,107,110,111,119,110,47,119,101,98,102,105,110,103,101,114]:List UInt8)) fun y1=>
 if(y1.2 !=0)=true then
  some ((ApiURL.mk [] 0 [] [] [] false false),y1.2)
 else
  Option.bind (EY N a0.text []) fun y3=>
  grd (AV (([114,101,115,111,117,114,99,101,61]:List UInt8).length+y3.length)) (
  Option.bind (Dc N (ApiURL.mk y1.1.host y1.1.port y1.1.path (([114,101,115,111,117,114,99,101,61]:List UInt8)++y3) y1.1.fragment true y1.1.hasFrag)) fun y5=>
  if(decide ((y5.length:Int)>4096))=true then
   some ((ApiURL.mk [] 0 [] [] [] false false),5)
  else
   some ((ApiURL.mk y1.1.host y1.1.port y1.1.path (([114,101,115,111,117,114,99,101,61]:List UInt8)++y3) y1.1.fragment true y1.1.hasFrag),0))
def Q4 (N:Nat):Option (ApiID):=
 some ((ApiID.mk 1 ([97,99,99,116,58,98,111,98,64,101,120,97,109,112,108,101,46,99,111,109]:List UInt8) ([101,120,97,109,112,108,101,46,99,111,109]:List UInt8) 0))
def Eh (N:Nat):Nat→Int→(List UInt8)→Option ((List UInt8))
  |0,_,_=>none
  |k+1,s0,s3=>
  grd (AV ((List.map FX [(wr .u8 (wr .u64 (48+(s0.tmod 10))))]).length+s3.length)) (
  if((wr .u64 (s0.tdiv 10))==0)=true then
   some (((List.map FX [(wr .u8 (wr .u64 (48+(s0.tmod 10))))])++s3))
  else
   Eh N k (wr .u64 (s0.tdiv 10)) ((List.map FX [(wr .u8 (wr .u64 (48+(s0.tmod 10))))])++s3))
def Ho (N:Nat) (a0:Int):Option ((List UInt8)):=
 Eh N N a0 []
def FW (N:Nat) (a0:Int):Option ((List UInt8)):=
 if(decide (a0<0))=true then
  Option.bind (Ho N (wr .u64 ((wr .u64 (wr .i64 (0-(wr .i64 (a0+1)))))+1))) fun y1=>
  grd (AV (([45]:List UInt8).length+y1.length)) (
  some ((([45]:List UInt8)++y1)))
 else
  Option.bind (Ho N (wr .u64 a0)) fun y3=>
  some (y3)
def JJ (N:Nat) (a0:ApiHostPort):Option ((List UInt8)):=
 if(a0.port==0)=true then
  some (a0.host)
 else
  grd (AV (a0.host.length+([58]:List UInt8).length)) (
  Option.bind (FW N a0.port) fun y1=>
  grd (AV ((a0.host++([58]:List UInt8)).length+y1.length)) (
  some (((a0.host++([58]:List UInt8))++y1))))
def Kh (N:Nat) (a0:ApiURL):Option (ApiHostPort):=
 some ((ApiHostPort.mk a0.host a0.port))
def JA (N:Nat) (a0:ApiURL):Option ((List UInt8)):=
 if a0.hasQuery=true then
  grd (AV (a0.path.length+([63]:List UInt8).length)) (
  grd (AV ((a0.path++([63]:List UInt8)).length+a0.query.length)) (
  some (((a0.path++([63]:List UInt8))++a0.query))))
 else
  some (a0.path)
def Df (N:Nat) (a0:ApiURL):Option ((List UInt8)):=
 Option.bind (Kh N a0) fun y1=>
 Option.bind (JJ N y1) fun y3=>
 grd (AV (([104,116,116,112,115,58,47,47]:List UInt8).length+y3.length)) (
 Option.bind (JA N a0) fun y5=>
 grd (AV ((([104,116,116,112,115,58,47,47]:List UInt8)++y3).length+y5.length)) (
 AO (fun j7:(List UInt8)=>
  some (j7)) fun k8=>
 if a0.hasFrag=true then
  grd (AV (([35]:List UInt8).length+a0.fragment.length)) (
  grd (AV (((([104,116,116,112,115,58,47,47]:List UInt8)++y3)++y5).length+(([35]:List UInt8)++a0.fragment).length)) (
  k8 (((([104,116,116,112,115,58,47,47]:List UInt8)++y3)++y5)++(([35]:List UInt8)++a0.fragment))))
 else
  k8 ((([104,116,116,112,115,58,47,47]:List UInt8)++y3)++y5)))
def M5 (N:Nat):Option (Bool):=
 Option.bind (Q4 N) fun y1=>
 Option.bind (Kc N y1) fun y3=>
 Option.bind (Kc N (ApiID.mk 0 [] [] 0)) fun y5=>
 if(y3.2==0)=true then
  Option.bind (Df N y3.1) fun y7=>
  if(y7==([104,116,116,112,115,58,47,47,101,120,97,109,112,108,101,46,99,111,109,47,46,119,101,108,108,45,107,110,111,119,110,47,119,101,98,102,105,110,103,101,114,63,114,101,115,111,117,114,99,101,61,97,99,99,116,37,51,65,98,111,98,37,52,48,101,120,97,109,112,108,101,46,99,111,109]:List UInt8))=true then
   some ((y5.2==8))
  else
   some (false)
 else
  some (false)
def Qe (N:Nat) (a0:ApiID):Option (Bool):=
 some ((decide ((wr .i64 ((a0.text.length:Int)+(a0.host.length:Int)))≤1000)))
def Ew (N:Nat) (a0:Int) (k2:(Unit→Option (Bool))):List UInt8→Option (Bool)
  |[]=>
  k2 ()
  |xk5::xs=>
  if((AL xk5)==a0)=true then
   some (true)
  else
   Ew N a0 k2 xs
def GN (N:Nat) (a0:Int) (a1:(List UInt8)):Option (Bool):=
 AO (fun j1:Unit=>
  some (false)) fun k2=>
 grd (AV (a1.length)) (
  Ew N a0 k2 a1)
def DR (N:Nat) (a1:(List UInt8)) (k2:(Unit→Option (Int))):List UInt8→Int→Option (Int)
  |[],s5=>
  k2 ()
  |xk5::xs,s5=>
  Option.bind (GN N (AL xk5) a1) fun y6=>
  if y6=true then
   some (s5)
  else
   DR N a1 k2 xs (s5+1)
def BX (N:Nat) (a0:(List UInt8)) (a1:(List UInt8)):Option (Int):=
 AO (fun j1:Unit=>
  some ((a0.length:Int))) fun k2=>
 grd (AV (a0.length)) (
  DR N a1 k2 a0 0)
def DN (N:Nat) (a0:(List UInt8)) (k2:((List Int)→Option ((List UInt8)))):List UInt8→Int→(List Int)→Option ((List UInt8))
  |[],s9,bn=>
  k2 bn
  |xk5::xs,s9,bn=>
  AO (fun j6:(List Int)=>
   DN N a0 k2 xs (s9+1) j6) fun k7=>
  AO (fun j10:Bool=>
   if j10=true then
    grd (0≤s9∧s9<(a0.length:Int)) (
    Option.bind (idx bn s9) fun x15=>
    grd (s9.toNat+1≤bn.length) (
    k7 (bn.set s9.toNat (wr .u8 (x15+32)))))
   else
    k7 bn) fun k11=>
  grd (0≤s9∧s9<(a0.length:Int)) (
  Option.bind (idx bn s9) fun x14=>
  if(decide (x14≥65))=true then
   k11 (decide (x14≤90))
  else
   k11 false)
def F9 (N:Nat) (a0:(List UInt8)):Option ((List UInt8)):=
 AO (fun j1:(List Int)=>
  grd (a0.length≤j1.length∧AV a0.length) (
  some ((List.map FX (List.take a0.length j1))))) fun k2=>
 grd (AV (a0.length)) (
  DN N a0 k2 a0 0 (List.map AL a0))
def Gy (N:Nat) (a0:(List UInt8)) (a1:(List UInt8)):Option (Bool):=
 Option.bind (F9 N a0) fun y1=>
 Option.bind (F9 N a1) fun y3=>
 some ((y1==y3))
def ES (N:Nat) (a0:Int):Option (Bool):=
 if(decide (a0≥65))=true then
  if(decide (a0≤90))=true then
   some (true)
  else
   if(decide (a0≥97))=true then
    some ((decide (a0≤122)))
   else
    some (false)
 else
  if(decide (a0≥97))=true then
   some ((decide (a0≤122)))
  else
   some (false)
def CY (N:Nat) (a0:Int):Option (Bool):=
 if(decide (a0≥48))=true then
  some ((decide (a0≤57)))
 else
  some (false)
def CO (N:Nat) (a0:Int):Option (Bool):=
 Option.bind (ES N a0) fun y1=>
 if y1=true then
  some (true)
 else
  Option.bind (CY N a0) fun y3=>
  if y3=true then
   some (true)
  else
   Option.bind (GN N a0 ([45,46,95,126]:List UInt8)) fun y5=>
   some (y5)
def FN (N:Nat) (a0:Int):Option ((List UInt8)):=
 Option.bind (idx ([48,49,50,51,52,53,54,55,56,57,65,66,67,68,69,70]:List UInt8) (wr .u8 (a0.tdiv 16))) fun x1=>
 Option.bind (idx ([48,49,50,51,52,53,54,55,56,57,65,66,67,68,69,70]:List UInt8) (a0.tmod 16)) fun x2=>
 letL ([37,(AL x1),(AL x2)]:(List Int)) fun l3=>
 some ((List.map FX l3))
def F7 (N:Nat) (a0:Int):Option (Bool):=
 Option.bind (CY N a0) fun y1=>
 if y1=true then
  some (true)
 else
  if(decide (a0≥65))=true then
   if(decide (a0≤70))=true then
    some (true)
   else
    if(decide (a0≥97))=true then
     some ((decide (a0≤102)))
    else
     some (false)
  else
   if(decide (a0≥97))=true then
    some ((decide (a0≤102)))
   else
    some (false)
def Iw (N:Nat) (a0:Int):Option (Int):=
 if(decide (a0≤57))=true then
  some ((wr .u8 (a0-48)))
 else
  if(decide (a0≤70))=true then
   some ((wr .u8 ((wr .u8 (a0-65))+10)))
  else
   some ((wr .u8 ((wr .u8 (a0-97))+10)))
def He (N:Nat) (a0:(List UInt8)) (a1:Int):Option (Int×Bool):=
 AO (fun j1:Bool=>
  if j1=true then
   some (0,false)
  else
   Option.bind (idx a0 (wr .i64 (a1+1))) fun x12=>
   Option.bind (Iw N (AL x12)) fun y13=>
   Option.bind (idx a0 (wr .i64 (a1+2))) fun x15=>
   Option.bind (Iw N (AL x15)) fun y16=>
   some ((wr .u8 ((wr .u8 (16 * y13))+y16)),true)) fun k2=>
 if(decide ((wr .i64 (a1+2))≥(a0.length:Int)))=true then
  k2 true
 else
  Option.bind (idx a0 a1) fun x5=>
  if((AL x5) !=37)=true then
   k2 true
  else
   Option.bind (idx a0 (wr .i64 (a1+1))) fun x6=>
   Option.bind (F7 N (AL x6)) fun y7=>
   if y7=true then
    Option.bind (idx a0 (wr .i64 (a1+2))) fun x9=>
    Option.bind (F7 N (AL x9)) fun y10=>
    k2 (!y10)
   else
    k2 true
def CP (N:Nat) (a0:(List UInt8)) (a1:(List UInt8)) (k2:((List Int)→Option ((List UInt8)×Int))):Nat→(List Int)→Int→Option ((List UInt8)×Int)
  |0,_,_=>none
  |k+1,s6,s7=>
  if (decide (s7<(a0.length:Int)))=true then
   AO (fun j6:(List Int)×Int=>
    CP N a0 a1 k2 k j6.1 (wr .i64 (j6.2+1))) fun k7=>
   Option.bind (idx a0 s7) fun x10=>
   if((AL x10) !=37)=true then
    AO (fun j11:Bool=>
     if j11=true then
      some ([],1)
     else
      grd (Cg (s6.length+1) 1) (
      k7 ((s6++[(AL x10)]),s7))) fun k12=>
    Option.bind (CO N (AL x10)) fun y15=>
    if y15=true then
     k12 false
    else
     Option.bind (GN N (AL x10) a1) fun y17=>
     k12 (!y17)
   else
    Option.bind (He N a0 s7) fun y19=>
    if y19.2=true then
     AO (fun j21:(List Int)=>
      k7 (j21,(wr .i64 (s7+2)))) fun k22=>
     Option.bind (CO N y19.1) fun y25=>
     if y25=true then
      grd (Cg (s6.length+1) 1) (
      k22 (s6++[y19.1]))
     else
      Option.bind (FN N y19.1) fun y27=>
      grd (Cg (s6.length+y27.length) 1) (
      k22 (s6++(List.map AL y27)))
    else
     some ([],2)
  else
   k2 s6
def EJ (N:Nat) (a0:(List UInt8)) (a1:(List UInt8)):Option ((List UInt8)×Int):=
 if(decide ((a0.length:Int)>16384))=true then
  some ([],5)
 else
  AO (fun j1:(List Int)=>
   some ((List.map FX j1),0)) fun k2=>
  CP N a0 a1 k2 N [] 0
def DT (N:Nat) (a0:(List UInt8)) (a1:Int) (k2:((List (List UInt8))×Int→Option ((List (List UInt8))))):List UInt8→Int→(List (List UInt8))→Int→Option ((List (List UInt8)))
  |[],s7,s5,s6=>
  k2 (s5,s6)
  |xk5::xs,s7,s5,s6=>
  AO (fun j6:(List (List UInt8))×Int=>
   DT N a0 a1 k2 xs (s7+1) j6.1 j6.2) fun k7=>
  if((AL xk5)==a1)=true then
   Option.bind (sub a0 s6 s7) fun x10=>
   grd (Cg (s5.length+1) 16) (
   k7 ((s5++[x10]),(s7+1)))
  else
   k7 (s5,s6)
def Ea (N:Nat) (a0:(List UInt8)) (a1:Int):Option ((List (List UInt8))):=
 AO (fun j1:(List (List UInt8))×Int=>
  Option.bind (sub a0 j1.2 (a0.length:Int)) fun x11=>
  grd (Cg (j1.1.length+1) 16) (
  some ((j1.1++[x11])))) fun k2=>
 grd (AV (a0.length)) (
  DT N a0 a1 k2 a0 0 [] 0)
def DU (N:Nat) (a1:Int) (a2:Int) (k17:(Int→Option (Int×Int))):List UInt8→Int→Option (Int×Int)
  |[],s9=>
  k17 s9
  |xk20::xs,s9=>
  AO (fun j21:Int=>
   AO (fun j25:Bool=>
    if j25=true then
     some (0,4)
    else
     DU N a1 a2 k17 xs (wr .u64 ((wr .u64 (s9 * a1))+j21))) fun k26=>
   grd (a1≠0) (
   if(decide (s9>(wr .u64 (a2.tdiv a1))))=true then
    k26 true
   else
    if(decide ((wr .u64 (s9 * a1))>(wr .u64 (a2-j21))))=true then
     k26 true
    else
     k26 (decide (j21>a2)))) fun k22=>
  if(decide ((AL xk20)>57))=true then
   k22 (wr .u64 ((wr .u64 ((wr .u64 (Rb .u8 (AL xk20) 32))-97))+10))
  else
   k22 (wr .u64 (wr .u8 ((AL xk20)-48)))
def DZ (N:Nat) (a1:Int) (k2:(Unit→Option (Int×Int))):List UInt8→Option (Int×Int)
  |[]=>
  k2 ()
  |xk5::xs=>
  AO (fun j6:Bool=>
   if j6=true then
    some (0,1)
   else
    DZ N a1 k2 xs) fun k7=>
  if(a1==10)=true then
   Option.bind (CY N (AL xk5)) fun y10=>
   if y10=true then
    if(a1==16)=true then
     Option.bind (F7 N (AL xk5)) fun y12=>
     k7 (!y12)
    else
     k7 false
   else
    k7 true
  else
   if(a1==16)=true then
    Option.bind (F7 N (AL xk5)) fun y14=>
    k7 (!y14)
   else
    k7 false
def J5 (N:Nat) (a0:(List UInt8)) (a1:Int) (a2:Int):Option (Int×Int):=
 if(a0==[])=true then
  some (0,3)
 else
  AO (fun j1:Unit=>
   AO (fun j16:Int=>
    some (j16,0)) fun k17=>
   grd (AV (a0.length)) (
    DU N a1 a2 k17 a0 0)) fun k2=>
  grd (AV (a0.length)) (
   DZ N a1 k2 a0)
def Ha (N:Nat) (a0:(List UInt8)) (a1:Int):Option (Int×Int):=
 Option.bind (J5 N a0 10 a1) fun y1=>
 AO (fun j3:Bool=>
  if j3=true then
   some (0,6)
  else
   some (y1.1,y1.2)) fun k4=>
 if(y1.2==0)=true then
  if(decide ((a0.length:Int)>1))=true then
   Option.bind (idx a0 0) fun x7=>
   k4 ((AL x7)==48)
  else
   k4 false
 else
  if(y1.2==4)=true then
   if(decide ((a0.length:Int)>1))=true then
    Option.bind (idx a0 0) fun x8=>
    k4 ((AL x8)==48)
   else
    k4 false
  else
   k4 false
def Cm (N:Nat) (k4:(Unit→Option (Bool))):List (List UInt8)→Option (Bool)
  |[]=>
  k4 ()
  |xk7::xs=>
  Option.bind (Ha N xk7 255) fun y8=>
  if(y8.2 !=0)=true then
   some (false)
  else
   Cm N k4 xs
def Hg (N:Nat) (a0:(List UInt8)):Option (Bool):=
 Option.bind (Ea N a0 46) fun y1=>
 AO (fun j3:Unit=>
  some (((y1.length:Int)==4))) fun k4=>
 grd (AV (y1.length)) (
  Cm N k4 y1)
def DV (N:Nat) (k2:(Unit→Option (Bool))):List UInt8→Option (Bool)
  |[]=>
  k2 ()
  |xk5::xs=>
  AO (fun j6:Bool=>
   if j6=true then
    some (false)
   else
    DV N k2 xs) fun k7=>
  Option.bind (ES N (AL xk5)) fun y10=>
  if y10=true then
   k7 false
  else
   Option.bind (CY N (AL xk5)) fun y12=>
   if y12=true then
    k7 false
   else
    k7 ((AL xk5) !=45)
def J8 (N:Nat) (a0:(List UInt8)):Option (Bool):=
 AO (fun j1:Unit=>
  if(a0==[])=true then
   some (false)
  else
   if(decide ((a0.length:Int)≤63))=true then
    Option.bind (idx a0 0) fun x14=>
    if((AL x14) !=45)=true then
     Option.bind (idx a0 (wr .i64 ((a0.length:Int)-1))) fun x15=>
     some (((AL x15) !=45))
    else
     some (false)
   else
    some (false)) fun k2=>
 grd (AV (a0.length)) (
  DV N k2 a0)
def Cr (N:Nat) (k2:(Unit→Option (Bool))):List UInt8→Option (Bool)
  |[]=>
  k2 ()
  |xk5::xs=>
  Option.bind (CY N (AL xk5)) fun y6=>
  if y6=true then
   Cr N k2 xs
  else
   some (false)
def I7 (N:Nat) (a0:(List UInt8)):Option (Bool):=
 AO (fun j1:Unit=>
  some ((!(a0==[])))) fun k2=>
 grd (AV (a0.length)) (
  Cr N k2 a0)
def D8 (N:Nat) (k4:(Unit→Option (Bool))):List (List UInt8)→Option (Bool)
  |[]=>
  k4 ()
  |xk7::xs=>
  Option.bind (J8 N xk7) fun y8=>
  if y8=true then
   D8 N k4 xs
  else
   some (false)
def LJ (N:Nat) (a0:(List UInt8)):Option (Bool):=
 Option.bind (Ea N a0 46) fun y1=>
 AO (fun j3:Unit=>
  Option.bind (idx y1 (wr .i64 ((y1.length:Int)-1))) fun x10=>
  Option.bind (I7 N x10) fun y11=>
  some ((!y11))) fun k4=>
 grd (AV (y1.length)) (
  D8 N k4 y1)
def IX (N:Nat) (a0:(List UInt8)):Option ((List UInt8)×Int):=
 if(a0==[])=true then
  some ([],3)
 else
  if(decide ((a0.length:Int)>253))=true then
   some ([],5)
  else
   AO (fun j1:Bool=>
    if j1=true then
     some ([],50)
    else
     Option.bind (F9 N a0) fun y9=>
     some (y9,0)) fun k2=>
   Option.bind (Hg N a0) fun y5=>
   if y5=true then
    k2 false
   else
    Option.bind (LJ N a0) fun y7=>
    k2 (!y7)
def J4 (N:Nat) (a0:(List UInt8)):Option (ApiAcct×Int):=
 if(decide ((a0.length:Int)>4096))=true then
  some ((ApiAcct.mk [] []),5)
 else
  AO (fun j1:Bool=>
   if j1=true then
    some ((ApiAcct.mk [] []),60)
   else
    Option.bind (sub a0 5 (a0.length:Int)) fun x8=>
    Option.bind (BX N x8 ([64]:List UInt8)) fun y9=>
    if(y9==(x8.length:Int))=true then
     some ((ApiAcct.mk [] []),6)
    else
     Option.bind (sub x8 0 y9) fun x11=>
     Option.bind (EJ N x11 ([33,36,38,39,40,41,42,43,44,59,61]:List UInt8)) fun y12=>
     AO (fun j14:Bool=>
      if j14=true then
       some ((ApiAcct.mk [] []),80)
      else
       Option.bind (sub x8 (wr .i64 (y9+1)) (x8.length:Int)) fun x19=>
       Option.bind (IX N x19) fun y20=>
       if(y20.2 !=0)=true then
        some ((ApiAcct.mk [] []),y20.2)
       else
        some ((ApiAcct.mk y12.1 y20.1),0)) fun k15=>
     if(y12.2 !=0)=true then
      k15 true
     else
      if(y12.1==[])=true then
       k15 true
      else
       Option.bind (idx y12.1 0) fun x18=>
       k15 ((AL x18)==37)) fun k2=>
  if(decide ((a0.length:Int)<5))=true then
   k2 true
  else
   Option.bind (sub a0 0 5) fun x5=>
   Option.bind (Gy N x5 ([97,99,99,116,58]:List UInt8)) fun y6=>
   k2 (!y6)
def JK (N:Nat) (a0:ApiAcct):Option ((List UInt8)):=
 grd (AV (([97,99,99,116,58]:List UInt8).length+a0.user.length)) (
 grd (AV ((([97,99,99,116,58]:List UInt8)++a0.user).length+([64]:List UInt8).length)) (
 grd (AV (((([97,99,99,116,58]:List UInt8)++a0.user)++([64]:List UInt8)).length+a0.host.length)) (
 some ((((([97,99,99,116,58]:List UInt8)++a0.user)++([64]:List UInt8))++a0.host)))))
def EI (N:Nat) (a0:(List UInt8)) (k2:((List Int)→Option ((List UInt8)×Int))):Nat→(List Int)→Int→Option ((List UInt8)×Int)
  |0,_,_=>none
  |k+1,s4,s5=>
  if(decide (s5<(a0.length:Int)))=true then
   Option.bind (idx a0 s5) fun x6=>
   AO (fun j7:Int×Int=>
    grd (Cg (s4.length+1) 1) (
    EI N a0 k2 k (s4++[j7.2]) (wr .i64 (j7.1+1)))) fun k8=>
   if((AL x6)==37)=true then
    Option.bind (He N a0 s5) fun y11=>
    if y11.2=true then
     k8 ((wr .i64 (s5+2)),y11.1)
    else
     some ([],2)
   else
    k8 (s5,(AL x6))
  else
   k2 s4
def EW (N:Nat) (a0:(List UInt8)):Option ((List UInt8)×Int):=
 if(decide ((a0.length:Int)>16384))=true then
  some ([],5)
 else
  AO (fun j1:(List Int)=>
   some ((List.map FX j1),0)) fun k2=>
  EI N a0 k2 N [] 0
def LF (N:Nat) (a0:Int):Option (Bool):=
 Option.bind (ES N a0) fun y1=>
 if y1=true then
  some (true)
 else
  Option.bind (CY N a0) fun y3=>
  if y3=true then
   some (true)
  else
   Option.bind (GN N a0 ([33,35,36,37,38,39,42,43,45,47,61,63,94,95,96,123,124,125,126]:List UInt8)) fun y5=>
   some (y5)
def DC (N:Nat) (k13:(Unit→Option (Bool))):List UInt8→Option (Bool)
  |[]=>
  k13 ()
  |xk16::xs=>
  Option.bind (LF N (AL xk16)) fun y17=>
  if y17=true then
   DC N k13 xs
  else
   some (false)
def DD (N:Nat) (k6:(Unit→Option (Bool))):List (List UInt8)→Option (Bool)
  |[]=>
  k6 ()
  |xk11::xs=>
  AO (fun j12:Unit=>
   DD N k6 xs) fun k13=>
  if(xk11==[])=true then
   some (false)
  else
   grd (AV (xk11.length)) (
    DC N k13 xk11)
def J6 (N:Nat) (a0:(List UInt8)):Option (Bool):=
 AO (fun j1:Bool=>
  if j1=true then
   some (false)
  else
   AO (fun j5:Unit=>
    some (true)) fun k6=>
   Option.bind (Ea N a0 46) fun y9=>
   grd (AV (y9.length)) (
    DD N k6 y9)) fun k2=>
 if(a0==[])=true then
  k2 true
 else
  k2 (decide ((a0.length:Int)>64))
def DL (N:Nat) (x8:(List UInt8)) (k18:(Unit→Option (ApiMail×Int))):Nat→Int→Option (ApiMail×Int)
  |0,s5=>
  k18 ()
  |k+1,s5=>
  AO (fun j22:Bool=>
   if j22=true then
    some ((ApiMail.mk [] []),1)
   else
    DL N x8 k18 k (s5+1)) fun k23=>
  Option.bind (idx x8 s5) fun x26=>
  Option.bind (CO N (AL x26)) fun y27=>
  if y27=true then
   k23 false
  else
   Option.bind (GN N (AL x26) ([37,33,36,39,42,43]:List UInt8)) fun y29=>
   k23 (!y29)
def J7 (N:Nat) (a0:(List UInt8)):Option (ApiMail×Int):=
 if(decide ((a0.length:Int)>4096))=true then
  some ((ApiMail.mk [] []),5)
 else
  AO (fun j1:Bool=>
   if j1=true then
    some ((ApiMail.mk [] []),60)
   else
    Option.bind (sub a0 7 (a0.length:Int)) fun x8=>
    Option.bind (BX N x8 ([64]:List UInt8)) fun y9=>
    AO (fun j11:Bool=>
     if j11=true then
      some ((ApiMail.mk [] []),6)
     else
      AO (fun j17:Unit=>
       Option.bind (sub x8 0 y9) fun x31=>
       Option.bind (EW N x31) fun y32=>
       if(y32.2 !=0)=true then
        some ((ApiMail.mk [] []),y32.2)
       else
        Option.bind (J6 N y32.1) fun y34=>
        if y34=true then
         Option.bind (sub x8 (wr .i64 (y9+1)) (x8.length:Int)) fun x36=>
         Option.bind (IX N x36) fun y37=>
         if(y37.2 !=0)=true then
          some ((ApiMail.mk [] []),y37.2)
         else
          Option.bind (Hg N y37.1) fun y39=>
          if y39=true then
           some ((ApiMail.mk [] []),50)
          else
           some ((ApiMail.mk y32.1 y37.1),0)
        else
         some ((ApiMail.mk [] []),80)) fun k18=>
      grd ((-4611686018427387904:Int)≤0∧(y9:Int)≤4611686018427387904) (
       DL N x8 k18 ((y9:Int)-0).toNat 0)) fun k12=>
    if(y9==(x8.length:Int))=true then
     k12 true
    else
     Option.bind (BX N x8 ([63,35]:List UInt8)) fun y15=>
     k12 (decide (y15<(x8.length:Int)))) fun k2=>
  if(decide ((a0.length:Int)<7))=true then
   k2 true
  else
   Option.bind (sub a0 0 7) fun x5=>
   Option.bind (Gy N x5 ([109,97,105,108,116,111,58]:List UInt8)) fun y6=>
   k2 (!y6)
def Bc (N:Nat) (a0:(List UInt8)) (a1:(List UInt8)) (k2:((List UInt8)→Option ((List UInt8)))):List UInt8→Int→(List UInt8)→Option ((List UInt8))
  |[],s6,s5=>
  k2 s5
  |xk5::xs,s6,s5=>
  AO (fun j6:(List UInt8)=>
   Bc N a0 a1 k2 xs (s6+1) j6) fun k7=>
  AO (fun j10:Bool=>
   if j10=true then
    Option.bind (sub a0 s6 (s6+1)) fun x18=>
    grd (AV (s5.length+x18.length)) (
    k7 (s5++x18))
   else
    Option.bind (FN N (AL xk5)) fun y19=>
    grd (AV (s5.length+y19.length)) (
    k7 (s5++y19))) fun k11=>
  Option.bind (CO N (AL xk5)) fun y14=>
  if y14=true then
   k11 true
  else
   if((AL xk5) !=37)=true then
    Option.bind (GN N (AL xk5) a1) fun y16=>
    k11 y16
   else
    k11 false
def Hq (N:Nat) (a0:(List UInt8)) (a1:(List UInt8)):Option ((List UInt8)):=
 AO (fun j1:(List UInt8)=>
  some (j1)) fun k2=>
 grd (AV (a0.length)) (
  Bc N a0 a1 k2 a0 0 [])
def JR (N:Nat) (a0:ApiMail):Option ((List UInt8)):=
 Option.bind (Hq N a0.local_ ([33,36,39,42,43]:List UInt8)) fun y1=>
 grd (AV (([109,97,105,108,116,111,58]:List UInt8).length+y1.length)) (
 grd (AV ((([109,97,105,108,116,111,58]:List UInt8)++y1).length+([64]:List UInt8).length)) (
 grd (AV (((([109,97,105,108,116,111,58]:List UInt8)++y1)++([64]:List UInt8)).length+a0.host.length)) (
 some ((((([109,97,105,108,116,111,58]:List UInt8)++y1)++([64]:List UInt8))++a0.host)))))
def EE (N:Nat) (a0:(List UInt8)) (a1:(List UInt8)):Option (Bool):=
 if(decide ((a0.length:Int)≥(a1.length:Int)))=true then
  Option.bind (sub a0 0 (a1.length:Int)) fun x1=>
  some ((x1==a1))
 else
  some (false)
def Cn (N:Nat) (k2:(Unit→Option (Bool))):List UInt8→Int→Option (Bool)
  |[],s3=>
  k2 ()
  |xk5::xs,s3=>
  AO (fun j6:Bool=>
   if j6=true then
    some (false)
   else
    Cn N k2 xs (s3+1)) fun k7=>
  Option.bind (ES N (AL xk5)) fun y10=>
  if y10=true then
   k7 false
  else
   if(s3==0)=true then
    k7 true
   else
    Option.bind (CY N (AL xk5)) fun y12=>
    if y12=true then
     k7 false
    else
     Option.bind (GN N (AL xk5) ([43,45,46]:List UInt8)) fun y14=>
     k7 (!y14)
def JD (N:Nat) (a0:(List UInt8)):Option (Bool):=
 AO (fun j1:Unit=>
  some ((!(a0==[])))) fun k2=>
 grd (AV (a0.length)) (
  Cn N k2 a0 0)
def Jz (N:Nat) (a0:(List UInt8)):Option (ApiURI×Int):=
 if(decide ((a0.length:Int)>16384))=true then
  some ((ApiURI.mk [] [] [] [] [] false false false false),5)
 else
  AO (fun j1:(List UInt8)×(List UInt8)×Bool=>
   AO (fun j9:(List UInt8)×(List UInt8)×Bool=>
    AO (fun j17:(List UInt8)×(List UInt8)×Bool=>
     AO (fun j32:(List UInt8)×(List UInt8)×Bool=>
      some ((ApiURI.mk j17.2.1 j32.2.1 j32.1 j9.2.1 j1.2.1 j17.2.2 j32.2.2 j9.2.2 j1.2.2),0)) fun k33=>
     Option.bind (EE N j17.1 ([47,47]:List UInt8)) fun y36=>
     if y36=true then
      Option.bind (sub j17.1 2 (j17.1.length:Int)) fun x38=>
      Option.bind (BX N x38 ([47]:List UInt8)) fun y39=>
      Option.bind (sub j17.1 2 (wr .i64 (2+y39))) fun x41=>
      Option.bind (sub j17.1 (wr .i64 (2+y39)) (j17.1.length:Int)) fun x42=>
      k33 (x42,x41,true)
     else
      k33 (j17.1,[],false)) fun k18=>
    Option.bind (BX N j9.1 ([58,47]:List UInt8)) fun y21=>
    AO (fun j23:Bool=>
     if j23=true then
      Option.bind (sub j9.1 0 y21) fun x28=>
      Option.bind (JD N x28) fun y29=>
      if y29=true then
       Option.bind (sub j9.1 (wr .i64 (y21+1)) (j9.1.length:Int)) fun x31=>
       k18 (x31,x28,true)
      else
       some ((ApiURI.mk [] [] [] [] [] false false false false),6)
     else
      k18 (j9.1,[],false)) fun k24=>
    if(decide (y21<(j9.1.length:Int)))=true then
     Option.bind (idx j9.1 y21) fun x27=>
     k24 ((AL x27)==58)
    else
     k24 false) fun k10=>
   Option.bind (BX N j1.1 ([63]:List UInt8)) fun y13=>
   if(decide (y13<(j1.1.length:Int)))=true then
    Option.bind (sub j1.1 (wr .i64 (y13+1)) (j1.1.length:Int)) fun x15=>
    Option.bind (sub j1.1 0 y13) fun x16=>
    k10 (x16,x15,true)
   else
    k10 (j1.1,[],false)) fun k2=>
  Option.bind (BX N a0 ([35]:List UInt8)) fun y5=>
  if(decide (y5<(a0.length:Int)))=true then
   Option.bind (sub a0 (wr .i64 (y5+1)) (a0.length:Int)) fun x7=>
   Option.bind (sub a0 0 y5) fun x8=>
   k2 (x8,x7,true)
  else
   k2 (a0,[],false)
def Ko (N:Nat) (a0:(List UInt8)):Option (Int×Int):=
 Option.bind (Ha N a0 65535) fun y1=>
 AO (fun j3:Bool=>
  if j3=true then
   some (0,51)
  else
   some ((wr .i64 y1.1),0)) fun k4=>
 if(y1.2 !=0)=true then
  k4 true
 else
  k4 (y1.1==0)
def Ir (N:Nat) (a0:(List UInt8)):Option (ApiHostPort×Int):=
 Option.bind (BX N a0 ([58]:List UInt8)) fun y1=>
 Option.bind (sub a0 0 y1) fun x3=>
 Option.bind (IX N x3) fun y4=>
 if(y4.2 !=0)=true then
  some ((ApiHostPort.mk [] 0),y4.2)
 else
  if(y1==(a0.length:Int))=true then
   some ((ApiHostPort.mk y4.1 0),0)
  else
   Option.bind (sub a0 (wr .i64 (y1+1)) (a0.length:Int)) fun x6=>
   Option.bind (Ko N x6) fun y7=>
   if(y7.2 !=0)=true then
    some ((ApiHostPort.mk [] 0),y7.2)
   else
    AO (fun j9:Int=>
     some ((ApiHostPort.mk y4.1 j9),0)) fun k10=>
    if(y7.1==443)=true then
     k10 0
    else
     k10 y7.1
def Dq (N:Nat) (a0:(List UInt8)) (k2:(Unit→Option ((List UInt8)))):Nat→Int→Option ((List UInt8))
  |0,_=>none
  |k+1,s3=>
  if(decide (s3≥0))=true then
   Option.bind (idx a0 s3) fun x6=>
   if((AL x6)==47)=true then
    Option.bind (sub a0 0 s3) fun x7=>
    some (x7)
   else
    Dq N a0 k2 k (wr .i64 (s3-1))
  else
   k2 ()
def Gc (N:Nat) (a0:(List UInt8)):Option ((List UInt8)):=
 AO (fun j1:Unit=>
  some ([])) fun k2=>
 Dq N a0 k2 N (wr .i64 ((a0.length:Int)-1))
def Ap (N:Nat) (k2:((List UInt8)→Option ((List UInt8)))):Nat→(List UInt8)→(List UInt8)→Option ((List UInt8))
  |0,_,_=>none
  |k+1,s3,s4=>
  if(s3==[])=true then
   k2 s4
  else
   Option.bind (EE N s3 ([46,46,47]:List UInt8)) fun y6=>
   if y6=true then
    Option.bind (sub s3 3 (s3.length:Int)) fun x8=>
    Ap N k2 k x8 s4
   else
    Option.bind (EE N s3 ([46,47]:List UInt8)) fun y9=>
    if y9=true then
     Option.bind (sub s3 2 (s3.length:Int)) fun x11=>
     Ap N k2 k x11 s4
    else
     Option.bind (EE N s3 ([47,46,47]:List UInt8)) fun y12=>
     if y12=true then
      Option.bind (sub s3 2 (s3.length:Int)) fun x14=>
      Ap N k2 k x14 s4
     else
      if(s3==([47,46]:List UInt8))=true then
       Ap N k2 k ([47]:List UInt8) s4
      else
       Option.bind (EE N s3 ([47,46,46,47]:List UInt8)) fun y15=>
       if y15=true then
        Option.bind (sub s3 3 (s3.length:Int)) fun x17=>
        Option.bind (Gc N s4) fun y18=>
        Ap N k2 k x17 y18
       else
        if(s3==([47,46,46]:List UInt8))=true then
         Option.bind (Gc N s4) fun y20=>
         Ap N k2 k ([47]:List UInt8) y20
        else
         AO (fun j22:Bool=>
          if j22=true then
           Ap N k2 k [] s4
          else
           Option.bind (sub s3 1 (s3.length:Int)) fun x26=>
           Option.bind (BX N x26 ([47]:List UInt8)) fun y27=>
           Option.bind (sub s3 (wr .i64 (1+y27)) (s3.length:Int)) fun x29=>
           Option.bind (sub s3 0 (wr .i64 (1+y27))) fun x30=>
           grd (AV (s4.length+x30.length)) (
           Ap N k2 k x29 (s4++x30))) fun k23=>
         if(s3==([46]:List UInt8))=true then
          k23 true
         else
          k23 (s3==([46,46]:List UInt8))
def Ey (N:Nat) (a0:(List UInt8)):Option ((List UInt8)):=
 AO (fun j1:(List UInt8)=>
  some (j1)) fun k2=>
 Ap N k2 N a0 []
def Ic (N:Nat) (a0:(List UInt8)):Option (ApiURL×Int):=
 if(decide ((a0.length:Int)>4096))=true then
  some ((ApiURL.mk [] 0 [] [] [] false false),5)
 else
  Option.bind (Jz N a0) fun y1=>
  if(y1.2 !=0)=true then
   some ((ApiURL.mk [] 0 [] [] [] false false),y1.2)
  else
   AO (fun j3:Bool=>
    if j3=true then
     some ((ApiURL.mk [] 0 [] [] [] false false),60)
    else
     if y1.1.hasAuthority=true then
      Option.bind (BX N y1.1.authority ([64]:List UInt8)) fun y9=>
      if(decide (y9<(y1.1.authority.length:Int)))=true then
       some ((ApiURL.mk [] 0 [] [] [] false false),70)
      else
       Option.bind (Ir N y1.1.authority) fun y11=>
       if(y11.2 !=0)=true then
        some ((ApiURL.mk [] 0 [] [] [] false false),y11.2)
       else
        Option.bind (EJ N y1.1.path ([33,36,38,39,40,41,42,43,44,59,61,58,64,47]:List UInt8)) fun y13=>
        if(y13.2 !=0)=true then
         some ((ApiURL.mk [] 0 [] [] [] false false),y13.2)
        else
         Option.bind (EJ N y1.1.query ([33,36,38,39,40,41,42,43,44,59,61,58,64,47,63]:List UInt8)) fun y15=>
         if(y15.2 !=0)=true then
          some ((ApiURL.mk [] 0 [] [] [] false false),y15.2)
         else
          Option.bind (EJ N y1.1.fragment ([33,36,38,39,40,41,42,43,44,59,61,58,64,47,63]:List UInt8)) fun y17=>
          if(y17.2 !=0)=true then
           some ((ApiURL.mk [] 0 [] [] [] false false),y17.2)
          else
           AO (fun j19:(List UInt8)=>
            Option.bind (Df N (ApiURL.mk y11.1.host y11.1.port j19 y15.1 y17.1 y1.1.hasQuery y1.1.hasFrag)) fun y25=>
            if(decide ((y25.length:Int)>4096))=true then
             some ((ApiURL.mk [] 0 [] [] [] false false),5)
            else
             some ((ApiURL.mk y11.1.host y11.1.port j19 y15.1 y17.1 y1.1.hasQuery y1.1.hasFrag),0)) fun k20=>
           Option.bind (Ey N y13.1) fun y23=>
           if(y23==[])=true then
            k20 ([47]:List UInt8)
           else
            k20 y23
     else
      some ((ApiURL.mk [] 0 [] [] [] false false),71)) fun k4=>
   if y1.1.hasScheme=true then
    Option.bind (Gy N y1.1.scheme ([104,116,116,112,115]:List UInt8)) fun y7=>
    k4 (!y7)
   else
    k4 true
def MH (N:Nat) (a0:(List UInt8)):Option (ApiID×Int):=
 Option.bind (Ic N a0) fun y1=>
 if(y1.2 !=0)=true then
  some ((ApiID.mk 0 [] [] 0),y1.2)
 else
  Option.bind (Df N y1.1) fun y3=>
  some ((ApiID.mk 3 y3 y1.1.host y1.1.port),0)
def De (N:Nat) (a0:ApiDID):Option ((List UInt8)):=
 grd (AV (([100,105,100,58]:List UInt8).length+a0.method.length)) (
 grd (AV ((([100,105,100,58]:List UInt8)++a0.method).length+([58]:List UInt8).length)) (
 grd (AV (((([100,105,100,58]:List UInt8)++a0.method)++([58]:List UInt8)).length+a0.iD.length)) (
 some ((((([100,105,100,58]:List UInt8)++a0.method)++([58]:List UInt8))++a0.iD)))))
def Cj (N:Nat) (k2:(Unit→Option (Bool))):List UInt8→Option (Bool)
  |[]=>
  k2 ()
  |xk5::xs=>
  AO (fun j6:Bool=>
   if j6=true then
    some (false)
   else
    Cj N k2 xs) fun k7=>
  Option.bind (CY N (AL xk5)) fun y10=>
  if y10=true then
   k7 false
  else
   if(decide ((AL xk5)<97))=true then
    k7 true
   else
    k7 (decide ((AL xk5)>122))
def JS (N:Nat) (a0:(List UInt8)):Option (Bool):=
 AO (fun j1:Unit=>
  some ((!(a0==[])))) fun k2=>
 grd (AV (a0.length)) (
  Cj N k2 a0)
def Iq (N:Nat) (a0:Int):Option (Bool):=
 Option.bind (ES N a0) fun y1=>
 if y1=true then
  some (true)
 else
  Option.bind (CY N a0) fun y3=>
  if y3=true then
   some (true)
  else
   Option.bind (GN N a0 ([46,45,95]:List UInt8)) fun y5=>
   some (y5)
def Bv (N:Nat) (a0:(List UInt8)) (k2:((List UInt8)→Option ((List UInt8)))):List UInt8→Int→(List UInt8)→Option ((List UInt8))
  |[],s4,s3=>
  k2 s3
  |xk5::xs,s4,s3=>
  AO (fun j6:(List UInt8)=>
   Bv N a0 k2 xs (s4+1) j6) fun k7=>
  Option.bind (Iq N (AL xk5)) fun y10=>
  if y10=true then
   Option.bind (sub a0 s4 (s4+1)) fun x12=>
   grd (AV (s3.length+x12.length)) (
   k7 (s3++x12))
  else
   Option.bind (FN N (AL xk5)) fun y13=>
   grd (AV (s3.length+y13.length)) (
   k7 (s3++y13))
def GX (N:Nat) (a0:(List UInt8)):Option ((List UInt8)):=
 AO (fun j1:(List UInt8)=>
  some (j1)) fun k2=>
 grd (AV (a0.length)) (
  Bv N a0 k2 a0 0 [])
def Bz (N:Nat) (k25:(Unit→Option (ApiDID×Int))):List UInt8→Option (ApiDID×Int)
  |[]=>
  k25 ()
  |xk28::xs=>
  AO (fun j29:Bool=>
   if j29=true then
    some ((ApiDID.mk [] []),1)
   else
    Bz N k25 xs) fun k30=>
  Option.bind (Iq N (AL xk28)) fun y33=>
  if y33=true then
   k30 false
  else
   k30 ((AL xk28) !=37)
def BR (N:Nat) (k20:((List UInt8)→Option (ApiDID×Int))):List (List UInt8)→Int→(List UInt8)→Option (ApiDID×Int)
  |[],s63,s10=>
  k20 s10
  |xk23::xs,s63,s10=>
  AO (fun j24:Unit=>
   Option.bind (EW N xk23) fun y35=>
   AO (fun j37:(List UInt8)=>
    Option.bind (GX N y35.1) fun y41=>
    grd (AV (j37.length+y41.length)) (
    BR N k20 xs (s63+1) (j37++y41))) fun k38=>
   if(decide (s63>0))=true then
    grd (AV (s10.length+([58]:List UInt8).length)) (
    k38 (s10++([58]:List UInt8)))
   else
    k38 s10) fun k25=>
  grd (AV (xk23.length)) (
   Bz N k25 xk23)
def CB (N:Nat) (k13:(Unit→Option (ApiDID×Int))):List (List UInt8)→Option (ApiDID×Int)
  |[]=>
  k13 ()
  |xk16::xs=>
  Option.bind (EW N xk16) fun y17=>
  if(y17.2 !=0)=true then
   some ((ApiDID.mk [] []),2)
  else
   CB N k13 xs
def Ff (N:Nat) (a0:(List UInt8)):Option (ApiDID×Int):=
 if(decide ((a0.length:Int)>4096))=true then
  some ((ApiDID.mk [] []),5)
 else
  Option.bind (EE N a0 ([100,105,100,58]:List UInt8)) fun y1=>
  if y1=true then
   Option.bind (sub a0 4 (a0.length:Int)) fun x3=>
   Option.bind (BX N x3 ([58]:List UInt8)) fun y4=>
   if(y4==(x3.length:Int))=true then
    some ((ApiDID.mk [] []),6)
   else
    Option.bind (sub x3 0 y4) fun x6=>
    Option.bind (JS N x6) fun y7=>
    if y7=true then
     Option.bind (sub x3 (wr .i64 (y4+1)) (x3.length:Int)) fun x9=>
     Option.bind (Ea N x9 58) fun y10=>
     AO (fun j12:Unit=>
      AO (fun j19:(List UInt8)=>
       Option.bind (idx y10 (wr .i64 ((y10.length:Int)-1))) fun x43=>
       if(x43==[])=true then
        some ((ApiDID.mk [] []),3)
       else
        some ((ApiDID.mk x6 j19),0)) fun k20=>
      grd (AV (y10.length)) (
       BR N k20 y10 0 [])) fun k13=>
     grd (AV (y10.length)) (
      CB N k13 y10)
    else
     some ((ApiDID.mk [] []),100)
  else
   some ((ApiDID.mk [] []),60)
def Im (N:Nat) (a0:ApiDID):Option ((List (List UInt8))×ApiHostPort×Int):=
 if(a0.method==([119,101,98]:List UInt8))=true then
  Option.bind (De N a0) fun y1=>
  Option.bind (Ff N y1) fun y3=>
  if(y3.2 !=0)=true then
   some ([],(ApiHostPort.mk [] 0),y3.2)
  else
   Option.bind (Ea N a0.iD 58) fun y5=>
   Option.bind (idx y5 0) fun x7=>
   Option.bind (EW N x7) fun y8=>
   Option.bind (Ir N y8.1) fun y10=>
   some (y5,y10.1,y10.2)
 else
  some ([],(ApiHostPort.mk [] 0),100)
def DI (N:Nat) (k4:((List UInt8)→Option (ApiURL×Int))):List (List UInt8)→(List UInt8)→Option (ApiURL×Int)
  |[],s7=>
  k4 s7
  |xk8::xs,s7=>
  Option.bind (EW N xk8) fun y9=>
  AO (fun j11:Bool=>
   if j11=true then
    some ((ApiURL.mk [] 0 [] [] [] false false),110)
   else
    Option.bind (Hq N y9.1 []) fun y15=>
    grd (AV (([47]:List UInt8).length+y15.length)) (
    grd (AV (s7.length+(([47]:List UInt8)++y15).length)) (
    DI N k4 xs (s7++(([47]:List UInt8)++y15))))) fun k12=>
  if(y9.1==[])=true then
   k12 true
  else
   if(y9.1==([46]:List UInt8))=true then
    k12 true
   else
    k12 (y9.1==([46,46]:List UInt8))
def J3 (N:Nat) (a0:ApiDID):Option (ApiURL×Int):=
 Option.bind (Im N a0) fun y1=>
 if(y1.2.2 !=0)=true then
  some ((ApiURL.mk [] 0 [] [] [] false false),y1.2.2)
 else
  AO (fun j3:(List UInt8)=>
   AO (fun j17:(List UInt8)=>
    grd (AV (j17.length+([47,100,105,100,46,106,115,111,110]:List UInt8).length)) (
    Option.bind (Df N (ApiURL.mk y1.2.1.host y1.2.1.port (j17++([47,100,105,100,46,106,115,111,110]:List UInt8)) [] [] false false)) fun y21=>
    if(decide ((y21.length:Int)>4096))=true then
     some ((ApiURL.mk [] 0 [] [] [] false false),5)
    else
     some ((ApiURL.mk y1.2.1.host y1.2.1.port (j17++([47,100,105,100,46,106,115,111,110]:List UInt8)) [] [] false false),0))) fun k18=>
   if((y1.1.length:Int)==1)=true then
    k18 ([47,46,119,101,108,108,45,107,110,111,119,110]:List UInt8)
   else
    k18 j3) fun k4=>
  Option.bind (sub y1.1 1 (y1.1.length:Int)) fun x7=>
  grd (AV (x7.length)) (
   DI N k4 x7 [])
def KG (N:Nat) (a0:ApiURL):Option (Bool):=
 Option.bind (Df N a0) fun y1=>
 Option.bind (Ic N y1) fun y3=>
 if(y3.2==0)=true then
  some ((a0.host==y3.1.host&&(a0.port==y3.1.port&&(a0.path==y3.1.path&&(a0.query==y3.1.query&&(a0.fragment==y3.1.fragment&&(a0.hasQuery==y3.1.hasQuery&&a0.hasFrag==y3.1.hasFrag)))))))
 else
  some (false)
def CW (N:Nat) (k28:(Unit→Option (ApiDID×Int))):List UInt8→Option (ApiDID×Int)
  |[]=>
  k28 ()
  |xk31::xs=>
  AO (fun j32:Bool=>
   if j32=true then
    some ((ApiDID.mk [] []),110)
   else
    CW N k28 xs) fun k33=>
  Option.bind (CO N (AL xk31)) fun y36=>
  if y36=true then
   k33 false
  else
   k33 ((AL xk31) !=37)
def Bu (N:Nat) (a0:ApiURL) (k19:((List UInt8)→Option (ApiDID×Int))):List (List UInt8)→(List UInt8)→Option (ApiDID×Int)
  |[],s5=>
  k19 s5
  |xk22::xs,s5=>
  AO (fun j23:(List UInt8)=>
   Bu N a0 k19 xs j23) fun k24=>
  AO (fun j27:Unit=>
   Option.bind (EW N xk22) fun y38=>
   if(y38.1==[])=true then
    some ((ApiDID.mk [] []),110)
   else
    if(a0.path==([47,46,119,101,108,108,45,107,110,111,119,110,47,100,105,100,46,106,115,111,110]:List UInt8))=true then
     k24 s5
    else
     Option.bind (GX N y38.1) fun y40=>
     grd (AV (([58]:List UInt8).length+y40.length)) (
     grd (AV (s5.length+(([58]:List UInt8)++y40).length)) (
     k24 (s5++(([58]:List UInt8)++y40))))) fun k28=>
  grd (AV (xk22.length)) (
   CW N k28 xk22)
def IQ (N:Nat) (a0:ApiURL):Option (ApiDID×Int):=
 Option.bind (KG N a0) fun y1=>
 if y1=true then
  Option.bind (Ea N a0.path 47) fun y3=>
  Option.bind (sub y3 1 (y3.length:Int)) fun x5=>
  AO (fun j6:Bool=>
   if j6=true then
    some ((ApiDID.mk [] []),6)
   else
    Option.bind (sub x5 0 (wr .i64 ((x5.length:Int)-1))) fun x11=>
    if((x11.length:Int)==0)=true then
     some ((ApiDID.mk [] []),110)
    else
     AO (fun j12:(List UInt8)=>
      AO (fun j18:(List UInt8)=>
       Option.bind (De N (ApiDID.mk ([119,101,98]:List UInt8) j18)) fun y42=>
       if(decide ((y42.length:Int)>4096))=true then
        some ((ApiDID.mk [] []),5)
       else
        some ((ApiDID.mk ([119,101,98]:List UInt8) j18),0)) fun k19=>
      grd (AV (x11.length)) (
       Bu N a0 k19 x11 j12)) fun k13=>
     if(a0.port !=0)=true then
      Option.bind (FW N a0.port) fun y16=>
      grd (AV (([37,51,65]:List UInt8).length+y16.length)) (
      grd (AV (a0.host.length+(([37,51,65]:List UInt8)++y16).length)) (
      k13 (a0.host++(([37,51,65]:List UInt8)++y16))))
     else
      k13 a0.host) fun k7=>
  if a0.hasQuery=true then
   k7 true
  else
   if a0.hasFrag=true then
    k7 true
   else
    Option.bind (idx x5 (wr .i64 ((x5.length:Int)-1))) fun x10=>
    k7 (!(x10==([100,105,100,46,106,115,111,110]:List UInt8)))
 else
  some ((ApiDID.mk [] []),8)
def GQ (N:Nat) (a0:ApiDID):Option (ApiDID×Int):=
 Option.bind (J3 N a0) fun y1=>
 if(y1.2 !=0)=true then
  some ((ApiDID.mk [] []),y1.2)
 else
  Option.bind (IQ N y1.1) fun y3=>
  some (y3.1,y3.2)
def GM (N:Nat) (a0:ApiDID):Option (ApiHostPort×Int):=
 Option.bind (Im N a0) fun y1=>
 some (y1.2.1,y1.2.2)
def GK (N:Nat) (a0:(List UInt8)):Option (ApiID×Int):=
 Option.bind (Ff N a0) fun y1=>
 if(y1.2 !=0)=true then
  some ((ApiID.mk 0 [] [] 0),y1.2)
 else
  Option.bind (GQ N y1.1) fun y3=>
  if(y3.2 !=0)=true then
   some ((ApiID.mk 0 [] [] 0),y3.2)
  else
   Option.bind (GM N y3.1) fun y5=>
   Option.bind (De N y3.1) fun y7=>
   some ((ApiID.mk 4 y7 y5.1.host y5.1.port),0)
def Ig (N:Nat) (a0:(List UInt8)):Option (ApiID×Int):=
 if(decide ((a0.length:Int)>4096))=true then
  some ((ApiID.mk 0 [] [] 0),5)
 else
  Option.bind (BX N a0 ([58]:List UInt8)) fun y1=>
  if(y1==(a0.length:Int))=true then
   some ((ApiID.mk 0 [] [] 0),60)
  else
   Option.bind (sub a0 0 y1) fun x3=>
   Option.bind (F9 N x3) fun y4=>
   if(y4==([97,99,99,116]:List UInt8))=true then
    Option.bind (J4 N a0) fun y6=>
    if(y6.2 !=0)=true then
     some ((ApiID.mk 0 [] [] 0),y6.2)
    else
     Option.bind (JK N y6.1) fun y8=>
     some ((ApiID.mk 1 y8 y6.1.host 0),0)
   else
    if(y4==([109,97,105,108,116,111]:List UInt8))=true then
     Option.bind (J7 N a0) fun y10=>
     if(y10.2 !=0)=true then
      some ((ApiID.mk 0 [] [] 0),y10.2)
     else
      Option.bind (JR N y10.1) fun y12=>
      some ((ApiID.mk 2 y12 y10.1.host 0),0)
    else
     if(y4==([104,116,116,112,115]:List UInt8))=true then
      Option.bind (MH N a0) fun y14=>
      some (y14.1,y14.2)
     else
      if(y4==([100,105,100]:List UInt8))=true then
       Option.bind (GK N a0) fun y16=>
       some (y16.1,y16.2)
      else
       some ((ApiID.mk 0 [] [] 0),60)
def Fj (N:Nat) (a0:MadeDice) (a1:Int):Option (Int×MadeDice):=
 AO (fun j1:Bool=>
  if j1=true then
   some (0,a0)
  else
   Option.bind (idx a0.l 0) fun x5=>
   Option.bind (sub a0.l 1 (a0.l.length:Int)) fun x6=>
   grd (a1≠0) (
   some (((wr .i64 x5).tmod a1),(MadeDice.mk x6)))) fun k2=>
 if((a0.l.length:Int)==0)=true then
  k2 true
 else
  k2 (decide (a1≤1))
def Co (N:Nat) (a0:MadeDice) (a1:(List (List UInt8))):Option ((List UInt8)×MadeDice):=
 Option.bind (Fj N a0 (a1.length:Int)) fun y1=>
 Option.bind (idx a1 y1.1) fun x3=>
 some (x3,y1.2)
def OM (N:Nat) (a0:MadeDice):Option ((List UInt8)×MadeDice):=
 letL ([([97,46,101,120,97,109,112,108,101]:List UInt8),([98,46,101,120,97,109,112,108,101]:List UInt8),([99,46,101,120,97,109,112,108,101,58,56,52,52,51]:List UInt8),([100,46,101,120,97,109,112,108,101]:List UInt8)]:(List (List UInt8))) fun l1=>
 Option.bind (Co N a0 l1) fun y2=>
 some (y2.1,y2.2)
def MO (N:Nat) (a0:MadeDice):Option ((List UInt8)×MadeDice):=
 Option.bind (OM N a0) fun y1=>
 Option.bind (Fj N y1.2 6) fun y3=>
 AO (fun j5:Bool=>
  if j5=true then
   letL ([([97,99,99,116,58]:List UInt8),([65,67,67,84,58]:List UInt8)]:(List (List UInt8))) fun l9=>
   Option.bind (Co N y3.2 l9) fun y10=>
   letL ([([98,111,98]:List UInt8),([97,109,121]:List UInt8),([120,37,50,102,121]:List UInt8),([99,43,100]:List UInt8)]:(List (List UInt8))) fun l12=>
   Option.bind (Co N y10.2 l12) fun y13=>
   grd (AV (y10.1.length+y13.1.length)) (
   grd (AV ((y10.1++y13.1).length+([64]:List UInt8).length)) (
   letL ([([97,46,101,120,97,109,112,108,101]:List UInt8),([66,46,101,120,97,109,112,108,101]:List UInt8),([99,46,101,120,97,109,112,108,101]:List UInt8)]:(List (List UInt8))) fun l15=>
   Option.bind (Co N y13.2 l15) fun y16=>
   grd (AV (((y10.1++y13.1)++([64]:List UInt8)).length+y16.1.length)) (
   some ((((y10.1++y13.1)++([64]:List UInt8))++y16.1),y16.2))))
  else
   if(y3.1==2)=true then
    letL ([([98,111,98]:List UInt8),([37,54,49,109,121]:List UInt8),([99,43,100]:List UInt8)]:(List (List UInt8))) fun l18=>
    Option.bind (Co N y3.2 l18) fun y19=>
    grd (AV (([109,97,105,108,116,111,58]:List UInt8).length+y19.1.length)) (
    grd (AV ((([109,97,105,108,116,111,58]:List UInt8)++y19.1).length+([64]:List UInt8).length)) (
    letL ([([97,46,101,120,97,109,112,108,101]:List UInt8),([98,46,69,120,97,109,112,108,101]:List UInt8)]:(List (List UInt8))) fun l21=>
    Option.bind (Co N y19.2 l21) fun y22=>
    grd (AV (((([109,97,105,108,116,111,58]:List UInt8)++y19.1)++([64]:List UInt8)).length+y22.1.length)) (
    some ((((([109,97,105,108,116,111,58]:List UInt8)++y19.1)++([64]:List UInt8))++y22.1),y22.2))))
   else
    if(y3.1==3)=true then
     grd (AV (([104,116,116,112,115,58,47,47]:List UInt8).length+y1.1.length)) (
     letL ([[],([47]:List UInt8),([47,117,47,98,111,98]:List UInt8),([47,46,47,120,63,121,61,49]:List UInt8),([47,126,97,35,109,101]:List UInt8)]:(List (List UInt8))) fun l24=>
     Option.bind (Co N y3.2 l24) fun y25=>
     grd (AV ((([104,116,116,112,115,58,47,47]:List UInt8)++y1.1).length+y25.1.length)) (
     some (((([104,116,116,112,115,58,47,47]:List UInt8)++y1.1)++y25.1),y25.2)))
    else
     AO (fun j27:(List UInt8)=>
      grd (AV (([100,105,100,58,119,101,98,58]:List UInt8).length+j27.length)) (
      letL ([[],([58,117]:List UInt8),([58,117,58,98,111,98]:List UInt8),([58,97,37,55,101,98]:List UInt8)]:(List (List UInt8))) fun l31=>
      Option.bind (Co N y3.2 l31) fun y32=>
      grd (AV ((([100,105,100,58,119,101,98,58]:List UInt8)++j27).length+y32.1.length)) (
      some (((([100,105,100,58,119,101,98,58]:List UInt8)++j27)++y32.1),y32.2)))) fun k28=>
     if(y1.1==([99,46,101,120,97,109,112,108,101,58,56,52,52,51]:List UInt8))=true then
      k28 ([99,46,101,120,97,109,112,108,101,37,51,65,56,52,52,51]:List UInt8)
     else
      k28 y1.1) fun k6=>
 if(y3.1==0)=true then
  k6 (y3.1==0)
 else
  k6 (y3.1==1)
def QR (N:Nat) (a0:(List Int)):Option (MadeDice):=
 Option.bind (sub a0 0 (if 200<(a0.length:Int)then 200 else(a0.length:Int))) fun x1=>
 some ((MadeDice.mk x1))
def Fg (N:Nat) (a0:(List Int)):Option (ApiID):=
 Option.bind (QR N a0) fun y1=>
 Option.bind (MO N y1) fun y4=>
 Option.bind (Ig N y4.1) fun y6=>
 some (y6.1)
def Er (N:Nat) (k11:(Unit→Option (Bool))):List ApiLink→Option (Bool)
  |[]=>
  k11 ()
  |xk14::xs=>
  AO (fun j15:Bool=>
   if j15=true then
    some (false)
   else
    Er N k11 xs) fun k16=>
  if(decide ((wr .i64 ((wr .i64 ((wr .i64 ((xk14.rel.length:Int)+(xk14.type_.length:Int)))+(xk14.href.length:Int)))+(xk14.template.length:Int)))>900))=true then
   k16 true
  else
   if(decide ((xk14.titles.length:Int)>70))=true then
    k16 true
   else
    k16 (decide ((xk14.properties.length:Int)>70))
def Ev (N:Nat) (k6:(Unit→Option (Bool))):List (List UInt8)→Option (Bool)
  |[]=>
  k6 ()
  |xk9::xs=>
  if(decide ((xk9.length:Int)>300))=true then
   some (false)
  else
   Ev N k6 xs
def Ny (N:Nat) (a0:ApiJRD):Option (Bool):=
 AO (fun j1:Bool=>
  if j1=true then
   some (false)
  else
   AO (fun j5:Unit=>
    AO (fun j10:Unit=>
     some (true)) fun k11=>
    grd (AV (a0.links.length)) (
     Er N k11 a0.links)) fun k6=>
   grd (AV (a0.aliases.length)) (
    Ev N k6 a0.aliases)) fun k2=>
 if(decide ((a0.subject.length:Int)>300))=true then
  k2 true
 else
  if(decide ((a0.aliases.length:Int)>70))=true then
   k2 true
  else
   if(decide ((a0.links.length:Int)>70))=true then
    k2 true
   else
    k2 (decide ((a0.properties.length:Int)>70))
def Bl (N:Nat) (a1:(List ApiID)) (k2:(Unit→Option (Bool))):List ApiID→Int→Option (Bool)
  |[],s13=>
  k2 ()
  |xk5::xs,s13=>
  Option.bind (idx a1 s13) fun x6=>
  if(xk5.kind==x6.kind&&(xk5.text==x6.text&&(xk5.host==x6.host&&xk5.port==x6.port)))=true then
   Bl N a1 k2 xs (s13+1)
  else
   some (false)
def FJ (N:Nat) (a0:(List ApiID)) (a1:(List ApiID)):Option (Bool):=
 if((a0.length:Int) !=(a1.length:Int))=true then
  some (false)
 else
  AO (fun j1:Unit=>
   some (true)) fun k2=>
  grd (AV (a0.length)) (
   Bl N a1 k2 a0 0)
def EZ (N:Nat) (a1:(List UInt8)) (k2:((List ApiLink)→Option ((List ApiLink)))):List ApiLink→(List ApiLink)→Option ((List ApiLink))
  |[],s5=>
  k2 s5
  |xk5::xs,s5=>
  AO (fun j6:(List ApiLink)=>
   EZ N a1 k2 xs j6) fun k7=>
  if(xk5.rel==a1)=true then
   grd (Cg (([]:List ApiProperty).length+xk5.titles.length) 40) (
   grd (Cg (([]:List ApiProperty).length+xk5.properties.length) 40) (
   grd (Cg (s5.length+1) 112) (
   k7 (s5++[xk5]))))
  else
   k7 s5
def Pt (N:Nat) (a0:ApiJRD) (a1:(List UInt8)):Option ((List ApiLink)):=
 AO (fun j1:(List ApiLink)=>
  some (j1)) fun k2=>
 grd (AV (a0.links.length)) (
  EZ N a1 k2 a0.links [])
def Aq (N:Nat) (a1:ApiID) (k2:(Unit→Option (Int))):List ApiID→Int→Option (Int)
  |[],s8_0=>
  k2 ()
  |xk5::xs,s8_0=>
  if(a1.kind==xk5.kind&&(a1.text==xk5.text&&(a1.host==xk5.host&&a1.port==xk5.port)))=true then
   some (s8_0)
  else
   Aq N a1 k2 xs (s8_0+1)
def ED (N:Nat) (a0:(List ApiID)) (a1:ApiID):Option (Int):=
 AO (fun j1:Unit=>
  some ((-1))) fun k2=>
 grd (AV (a0.length)) (
  Aq N a1 k2 a0 0)
def CG (N:Nat) (a0:(List ApiID)) (a1:ApiID):Option (Bool):=
 Option.bind (ED N a0 a1) fun y1=>
 some ((decide (y1≥0)))
def Et (N:Nat) (a0:ApiID) (a1:Int) (k7:((List ApiID)→Option ((List ApiID)))):List (List UInt8)→(List ApiID)→Option ((List ApiID))
  |[],s7_i1=>
  k7 s7_i1
  |xk10::xs,s7_i1=>
  AO (fun j11:(List ApiID)=>
   Et N a0 a1 k7 xs j11) fun k12=>
  Option.bind (Iu N xk10) fun y15=>
  AO (fun j17:Bool=>
   if j17=true then
    grd (Cg (s7_i1.length+1) 48) (
    k12 (s7_i1++[y15.1]))
   else
    k12 s7_i1) fun k18=>
  if(y15.2==0)=true then
   if(y15.1.kind==a0.kind&&(y15.1.text==a0.text&&(y15.1.host==a0.host&&y15.1.port==a0.port)))=true then
    k18 false
   else
    Option.bind (CG N s7_i1 y15.1) fun y21=>
    if y21=true then
     k18 false
    else
     k18 (decide ((s7_i1.length:Int)<a1))
  else
   k18 false
def Eu (N:Nat) (a0:ApiID) (a1:Int) (k2:((List ApiID)→Option ((List ApiID)))):List (List (List UInt8))→(List ApiID)→Option ((List ApiID))
  |[],s7=>
  k2 s7
  |xk5::xs,s7=>
  AO (fun j6:(List ApiID)=>
   Eu N a0 a1 k2 xs j6) fun k7=>
  grd (AV (xk5.length)) (
   Et N a0 a1 k7 xk5 s7)
def MP (N:Nat) (a0:ApiID) (a1:Int) (a2:(List (List (List UInt8)))):Option ((List ApiID)):=
 AO (fun j1:(List ApiID)=>
  some (j1)) fun k2=>
 grd (AV (a2.length)) (
  Eu N a0 a1 k2 a2 [])
def Ck (N:Nat) (k2:((List (List UInt8))→Option ((List ApiID)))):List ApiLink→(List (List UInt8))→Option ((List ApiID))
  |[],s5=>
  k2 s5
  |xk7::xs,s5=>
  grd (Cg (s5.length+1) 16) (
  Ck N k2 xs (s5++[xk7.href]))
def Hu (N:Nat) (a0:ApiJRD) (a1:ApiID):Option ((List ApiID)):=
 AO (fun j1:(List (List UInt8))=>
  letL ([j1,[a0.subject],a0.aliases]:(List (List (List UInt8)))) fun l8=>
  Option.bind (MP N a1 64 l8) fun y9=>
  some (y9)) fun k2=>
 Option.bind (Pt N a0 ([115,101,108,102]:List UInt8)) fun y5=>
 grd (AV (y5.length)) (
  Ck N k2 y5 [])
def DJ (N:Nat) (a1:(List UInt8)) (k2:((List ApiLink)→Option ((List ApiLink)))):List ApiLink→(List ApiLink)→Option ((List ApiLink))
  |[],s5=>
  k2 s5
  |xk5::xs,s5=>
  AO (fun j6:(List ApiLink)=>
   DJ N a1 k2 xs j6) fun k7=>
  if(xk5.rel==a1)=true then
   grd (Cg (s5.length+1) 112) (
   k7 (s5++[xk5]))
  else
   k7 s5
def Mg (N:Nat) (a0:ApiJRD) (a1:(List UInt8)):Option ((List ApiLink)):=
 AO (fun j1:(List ApiLink)=>
  some (j1)) fun k2=>
 grd (AV (a0.links.length)) (
  DJ N a1 k2 a0.links [])
def CX (N:Nat) (y10:ApiID×Int) (k17:(Bool→Option ((List ApiID)))):List ApiID→Bool→Option ((List ApiID))
  |[],s10=>
  k17 s10
  |xk20::xs,s10=>
  AO (fun j21:Bool=>
   CX N y10 k17 xs j21) fun k22=>
  if s10=true then
   k22 true
  else
   k22 (y10.1.kind==xk20.kind&&(y10.1.text==xk20.text&&(y10.1.host==xk20.host&&y10.1.port==xk20.port)))
def CZ (N:Nat) (a1:ApiID) (k2:((List ApiID)→Option ((List ApiID)))):List (List UInt8)→(List ApiID)→Option ((List ApiID))
  |[],s5=>
  k2 s5
  |xk5::xs,s5=>
  AO (fun j6:(List ApiID)=>
   CZ N a1 k2 xs j6) fun k7=>
  Option.bind (Ig N xk5) fun y10=>
  AO (fun j12:Bool=>
   AO (fun j16:Bool=>
    AO (fun j25:Bool=>
     if j25=true then
      grd (Cg (s5.length+1) 48) (
      k7 (s5++[y10.1]))
     else
      k7 s5) fun k26=>
    if j16=true then
     k26 false
    else
     k26 (decide ((s5.length:Int)<64))) fun k17=>
   grd (AV (s5.length)) (
    CX N y10 k17 s5 j12)) fun k13=>
  if(y10.2 !=0)=true then
   k13 true
  else
   k13 (y10.1.kind==a1.kind&&(y10.1.text==a1.text&&(y10.1.host==a1.host&&y10.1.port==a1.port)))
def GZ (N:Nat) (a0:(List (List UInt8))) (a1:ApiID):Option ((List ApiID)):=
 AO (fun j1:(List ApiID)=>
  some (j1)) fun k2=>
 grd (AV (a0.length)) (
  CZ N a1 k2 a0 [])
def DK (N:Nat) (k2:((List (List UInt8))→Option ((List ApiID)))):List ApiLink→(List (List UInt8))→Option ((List ApiID))
  |[],s5=>
  k2 s5
  |xk7::xs,s5=>
  grd (Cg (s5.length+1) 16) (
  DK N k2 xs (s5++[xk7.href]))
def Ip (N:Nat) (a0:ApiJRD) (a1:ApiID):Option ((List ApiID)):=
 AO (fun j1:(List (List UInt8))=>
  grd (Cg (j1.length+1) 16) (
  grd (Cg ((j1++[a0.subject]).length+a0.aliases.length) 16) (
  Option.bind (GZ N ((j1++[a0.subject])++a0.aliases) a1) fun y8=>
  some (y8)))) fun k2=>
 Option.bind (Mg N a0 ([115,101,108,102]:List UInt8)) fun y5=>
 grd (AV (y5.length)) (
  DK N k2 y5 [])
def Gp (N:Nat) (a0:ApiJRD) (a1:ApiID) (a2:(List Int)):Option (Bool):=
 Option.bind (M5 N) fun y1=>
 if y1=true then
  AO (fun j3:Bool=>
   if j3=true then
    some (true)
   else
    Option.bind (Fg N a2) fun y11=>
    Option.bind (Hu N a0 a1) fun y13=>
    Option.bind (Ip N a0 a1) fun y15=>
    Option.bind (FJ N y13 y15) fun y17=>
    if y17=true then
     Option.bind (Hu N a0 y11) fun y19=>
     Option.bind (Ip N a0 y11) fun y21=>
     Option.bind (FJ N y19 y21) fun y23=>
     some (y23)
    else
     some (false)) fun k4=>
  Option.bind (Ny N a0) fun y7=>
  if y7=true then
   Option.bind (Qe N a1) fun y9=>
   k4 (!y9)
  else
   k4 true
 else
  some (false)
end Go.VM
