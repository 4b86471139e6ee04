import Derived.Test.YtjgdhjpafjpjgaaGreatDoorTy
set_option linter.unusedVariables false
namespace Go.VM
def BA (N:Nat) (a0:(List UInt8)) (a1:Int):Option (Int):=
 some ((Go.Lib.indexByte a0 (FQ a1)))
def Bj (N:Nat) (a0:(List UInt8)) (a1:(List UInt8)):Option (Int):=
 AO (fun j1:Bool=>
  if j1=true then
   some (0)
  else
   if((a1.length:Int)==1)=true then
    Option.bind (idx a1 0) fun x5=>
    Option.bind (BA N a0 (AV x5)) fun y6=>
    some (y6)
   else
    if(decide ((a1.length:Int)≥(a0.length:Int)))=true then
     some ((-1))
    else
     (none:Option (Int))) fun k2=>
 if((a1.length:Int)==0)=true then
  k2 true
 else
  k2 (a1==a0)
def Cw (N:Nat) (a0:(List UInt8)) (a1:(List UInt8)):Option ((List UInt8)×(List UInt8)×Bool):=
 Option.bind (Bj N a0 a1) fun y1=>
 if(decide (y1≥0))=true then
  Option.bind (sub a0 0 y1) fun x3=>
  Option.bind (sub a0 (wr .i64 (y1+(a1.length:Int))) (a0.length:Int)) fun x4=>
  some (x3,x4,true)
 else
  some (a0,[],false)
def strings_Cut (N:Nat) (a0:(List UInt8)) (a1:(List UInt8)):Option ((List UInt8)×(List UInt8)×Bool):=
 Option.bind (Cw N a0 a1) fun y1=>
 some (y1.1,y1.2.1,y1.2.2)
def CP (N:Nat) (a0:Int):Option (Bool):=
 if(decide (48≤a0))=true then
  some ((decide (a0≤57)))
 else
  some (false)
def Fp (N:Nat) (a0:Int):Option (Bool):=
 Option.bind (CP N a0) fun y1=>
 if y1=true then
  some (true)
 else
  if(decide (97≤(HV .u8 a0 32)))=true then
   some ((decide ((HV .u8 a0 32)≤102)))
  else
   some (false)
def Ef (N:Nat) (a0:Int):Option (Int):=
 Option.bind (CP N a0) fun y1=>
 if y1=true then
  some ((wr .u8 (a0-48)))
 else
  some ((wr .u8 ((wr .u8 ((HV .u8 a0 32)-97))+10)))
def Dt (N:Nat) (a0:(List UInt8)) (a1:Int):Option (Int×Bool):=
 AO (fun j1:Bool=>
  if j1=true then
   some (0,false)
  else
   Option.bind (idx a0 (wr .i64 (a1+1))) fun x11=>
   Option.bind (Ef N (AV x11)) fun y12=>
   Option.bind (idx a0 (wr .i64 (a1+2))) fun x14=>
   Option.bind (Ef N (AV x14)) fun y15=>
   some ((HV .u8 (SC .u8 y12 4) y15),true)) fun k2=>
 if(decide ((wr .i64 ((a0.length:Int)-a1))<3))=true then
  k2 true
 else
  Option.bind (idx a0 (wr .i64 (a1+1))) fun x5=>
  Option.bind (Fp N (AV x5)) fun y6=>
  if y6=true then
   Option.bind (idx a0 (wr .i64 (a1+2))) fun x8=>
   Option.bind (Fp N (AV x8)) fun y9=>
   k2 (!y9)
  else
   k2 true
def CB (N:Nat) (a0:(List UInt8)) (k2:((List Int)→Option ((List UInt8)×Int))):Nat→(List Int)→Int→Option ((List UInt8)×Int)
  |0,_,_=>none
  |k+1,s4,s5=>
  if(decide (s5<(a0.length:Int)))=true then
   Option.bind (idx a0 s5) fun x6=>
   AO (fun j7:Int×Int=>
    grd (Ck (s4.length+1) 1) (
    CB N a0 k2 k (s4++[j7.2]) (wr .i64 (j7.1+1)))) fun k8=>
   if((AV x6)==37)=true then
    Option.bind (Dt N a0 s5) fun y11=>
    if y11.2=true then
     k8 ((wr .i64 (s5+2)),y11.1)
    else
     some ([],2)
   else
    k8 (s5,(AV x6))
  else
   k2 s4
def Di (N:Nat) (a0:(List UInt8)):Option ((List UInt8)×Int):=
 if(decide ((a0.length:Int)>16384))=true then
  some ([],5)
 else
  AO (fun j1:(List Int)=>
   some ((List.map FQ j1),0)) fun k2=>
  CB N a0 k2 N [] 0
def Du (N:Nat) (s:List UInt8) (out:List ApiField):Option (List ApiField):=
 Option.bind (strings_Cut N s [61]) fun c=>
 Option.bind (Di N c.2.1) fun d=>
 if(d.2==0)=true then grd (Ck (out.length+1) 32) (some (out++[⟨c.1,d.1⟩]))else some out
def CR (N:Nat):Nat→List UInt8→List ApiField→Option (List ApiField)
  |0,_,_=>none
  |k+1,q,out=>
   Option.bind (strings_Cut N q [38]) fun y=>
   Option.bind (if(y.1==[])=true then some out else Du N y.1 out) fun o=>
   if y.2.2=true then CR N k y.2.1 o else some o
def GK (N:Nat) (a0:List UInt8):Option (List ApiField):=CR N N a0 []
def Az (N:Nat) (a0:Ref14Parser) (a1:Int) (a2:Int):Option (Ref14Parser):=
 if(a0.fail==0)=true then
  some ((Ref14Parser.mk a0.s a0.at_ a0.nodes a2 a1))
 else
  some (a0)
def EI (N:Nat) (a0:ApiToken) (a1:(List UInt8)):Option (Bool):=
 if(a0.kind==2)=true then
  some ((a0.text==a1))
 else
  some (false)
def DU (N:Nat) (a0:Int) (k2:(Unit→Option (Bool))):List UInt8→Option (Bool)
  |[]=>
  k2 ()
  |xk5::xs=>
  if((AV xk5)==a0)=true then
   some (true)
  else
   DU N a0 k2 xs
def FX (N:Nat) (a0:Int) (a1:(List UInt8)):Option (Bool):=
 AO (fun j1:Unit=>
  some (false)) fun k2=>
 grd (Ak (a1.length)) (
  DU N a0 k2 a1)
def CJ (N:Nat) (a1:(List UInt8)) (k2:(Unit→Option (Int))):List UInt8→Int→Option (Int)
  |[],s5=>
  k2 ()
  |xk5::xs,s5=>
  Option.bind (FX N (AV xk5) a1) fun y6=>
  if y6=true then
   some (s5)
  else
   CJ N a1 k2 xs (s5+1)
def EK (N:Nat) (a0:(List UInt8)) (a1:(List UInt8)):Option (Int):=
 AO (fun j1:Unit=>
  some ((a0.length:Int))) fun k2=>
 grd (Ak (a0.length)) (
  CJ N a1 k2 a0 0)
def D9 (N:Nat) (a0:Int):Option (Bool):=
 if(decide (a0≥48))=true then
  some ((decide (a0≤57)))
 else
  some (false)
def H6 (N:Nat) (a0:(List UInt8)) (a1:Int):Option ((List UInt8)):=
 if(decide (a1≥(a0.length:Int)))=true then
  some ([])
 else
  Option.bind (sub a0 a1 (a0.length:Int)) fun x1=>
  some (x1)
def GI (N:Nat) (a0:(List UInt8)) (k2:(Int→Option (Int))):Nat→Int→Option (Int)
  |0,_=>none
  |k+1,s3=>
  AO (fun j6:Bool=>
   if j6=true then
    GI N a0 k2 k (wr .i64 (s3+1))
   else
    k2 s3) fun k7=>
  if(decide (s3<(a0.length:Int)))=true then
   Option.bind (idx a0 s3) fun x10=>
   Option.bind (D9 N (AV x10)) fun y11=>
   k7 y11
  else
   k7 false
def I6 (N:Nat) (a0:(List UInt8)):Option (Int):=
 AO (fun j1:Int=>
  some (j1)) fun k2=>
 GI N a0 k2 N 0
def Gg (N:Nat) (a0:(List UInt8)):Option (Int):=
 AO (fun j1:Int=>
  AO (fun j10:Bool=>
   if j10=true then
    some (0)
   else
    AO (fun j17:Int=>
     AO (fun j25:Int=>
      AO (fun j38:Int=>
       some (j38)) fun k39=>
      AO (fun j42:Bool=>
       if j42=true then
        AO (fun j49:Int=>
         Option.bind (H6 N a0 j49) fun y60=>
         Option.bind (I6 N y60) fun y62=>
         if(decide (y62>0))=true then
          k39 (wr .i64 (j49+y62))
         else
          k39 j25) fun k50=>
        AO (fun j53:Bool=>
         if j53=true then
          k50 (wr .i64 ((wr .i64 (j25+1))+1))
         else
          k50 (wr .i64 (j25+1))) fun k54=>
        if(decide ((wr .i64 (j25+1))<(a0.length:Int)))=true then
         Option.bind (idx a0 (wr .i64 (j25+1))) fun x57=>
         Option.bind (FX N (AV x57) ([43,45]:List UInt8)) fun y58=>
         k54 y58
        else
         k54 false
       else
        k39 j25) fun k43=>
      if(decide (j25<(a0.length:Int)))=true then
       Option.bind (idx a0 j25) fun x46=>
       Option.bind (FX N (AV x46) ([101,69]:List UInt8)) fun y47=>
       k43 y47
      else
       k43 false) fun k26=>
     Option.bind (H6 N a0 (wr .i64 (j17+1))) fun y29=>
     Option.bind (I6 N y29) fun y31=>
     AO (fun j33:Bool=>
      if j33=true then
       k26 (wr .i64 (j17+(wr .i64 (1+y31))))
      else
       k26 j17) fun k34=>
     if(decide (j17<(a0.length:Int)))=true then
      Option.bind (idx a0 j17) fun x37=>
      if((AV x37)==46)=true then
       k34 (decide (y31>0))
      else
       k34 false
     else
      k34 false) fun k18=>
    Option.bind (idx a0 j1) fun x21=>
    if((AV x21)==48)=true then
     k18 (wr .i64 (j1+1))
    else
     Option.bind (sub a0 j1 (a0.length:Int)) fun x22=>
     Option.bind (I6 N x22) fun y23=>
     k18 (wr .i64 (j1+y23))) fun k11=>
  if(j1==(a0.length:Int))=true then
   k11 true
  else
   Option.bind (idx a0 j1) fun x14=>
   Option.bind (D9 N (AV x14)) fun y15=>
   k11 (!y15)) fun k2=>
 AO (fun j5:Bool=>
  if j5=true then
   k2 (wr .i64 (0+1))
  else
   k2 0) fun k6=>
 if(decide (0<(a0.length:Int)))=true then
  Option.bind (idx a0 0) fun x9=>
  k6 ((AV x9)==45)
 else
  k6 false
def Cg (N:Nat) (k19:(Int→Option (Int))):List UInt8→Int→Option (Int)
  |[],s4=>
  k19 s4
  |xk22::xs,s4=>
  Cg N k19 xs (if 1073741824<(wr .i64 ((wr .i64 (s4 * 10))+(wr .i64 (wr .u8 ((AV xk22)-48)))))then 1073741824 else(wr .i64 ((wr .i64 (s4 * 10))+(wr .i64 (wr .u8 ((AV xk22)-48))))))
def IA (N:Nat) (a0:(List UInt8)):Option (Int):=
 AO (fun j1:Bool=>
  AO (fun j6:(List UInt8)=>
   AO (fun j18:Int=>
    if j1=true then
     some ((wr .i64 (0-j18)))
    else
     some (j18)) fun k19=>
   grd (Ak (j6.length)) (
    Cg N k19 j6 0)) fun k7=>
  AO (fun j10:Bool=>
   if j10=true then
    Option.bind (sub a0 1 (a0.length:Int)) fun x17=>
    k7 x17
   else
    k7 a0) fun k11=>
  if(a0==[])=true then
   k11 false
  else
   Option.bind (idx a0 0) fun x14=>
   Option.bind (FX N (AV x14) ([43,45]:List UInt8)) fun y15=>
   k11 y15) fun k2=>
 if(a0==[])=true then
  k2 false
 else
  Option.bind (idx a0 0) fun x5=>
  k2 ((AV x5)==45)
def Eb (N:Nat):Nat→Int→(List UInt8)→Option ((List UInt8))
  |0,_,_=>none
  |k+1,s0,s3=>
  grd (Ak ((List.map FQ [(wr .u8 (wr .u64 (48+(s0.tmod 10))))]).length+s3.length)) (
  if((wr .u64 (s0.tdiv 10))==0)=true then
   some (((List.map FQ [(wr .u8 (wr .u64 (48+(s0.tmod 10))))])++s3))
  else
   Eb N k (wr .u64 (s0.tdiv 10)) ((List.map FQ [(wr .u8 (wr .u64 (48+(s0.tmod 10))))])++s3))
def HZ (N:Nat) (a0:Int):Option ((List UInt8)):=
 Eb N N a0 []
def Ed (N:Nat) (k40:(Int×(List UInt8)→Option ((List UInt8)×Int))):Nat→Int→(List UInt8)→Option ((List UInt8)×Int)
  |0,_,_=>none
  |k+1,s6,s7=>
  Option.bind (idx s7 (wr .i64 ((s7.length:Int)-1))) fun x44=>
  if((AV x44)==48)=true then
   Option.bind (sub s7 0 (wr .i64 ((s7.length:Int)-1))) fun x45=>
   Ed N k40 k (wr .i64 (s6+1)) x45
  else
   k40 (s6,s7)
def EY (N:Nat) (k29:((List UInt8)→Option ((List UInt8)×Int))):Nat→(List UInt8)→Option ((List UInt8)×Int)
  |0,_=>none
  |k+1,s7=>
  AO (fun j33:Bool=>
   if j33=true then
    Option.bind (sub s7 1 (s7.length:Int)) fun x38=>
    EY N k29 k x38
   else
    k29 s7) fun k34=>
  if(decide ((s7.length:Int)>0))=true then
   Option.bind (idx s7 0) fun x37=>
   k34 ((AV x37)==48)
  else
   k34 false
def Jc (N:Nat) (a0:(List UInt8)):Option ((List UInt8)×Int):=
 AO (fun j1:Bool=>
  if j1=true then
   some ([],130)
  else
   AO (fun j7:(List UInt8)×(List UInt8)=>
    Option.bind (EK N j7.1 ([101,69]:List UInt8)) fun y13=>
    Option.bind (H6 N j7.1 (wr .i64 (y13+1))) fun y15=>
    Option.bind (IA N y15) fun y17=>
    Option.bind (sub j7.1 0 y13) fun x19=>
    AO (fun j20:Int×(List UInt8)=>
     AO (fun j28:(List UInt8)=>
      if(j28==[])=true then
       some (([48]:List UInt8),0)
      else
       AO (fun j39:Int×(List UInt8)=>
        AO (fun j46:Bool=>
         if j46=true then
          some ([],144)
         else
          if(decide (j39.1<0))=true then
           grd (Ak (j7.2.length+j39.2.length)) (
           grd (Ak ((j7.2++j39.2).length+([101,45]:List UInt8).length)) (
           Option.bind (HZ N (wr .u64 (wr .i64 (0-j39.1)))) fun y50=>
           grd (Ak (((j7.2++j39.2)++([101,45]:List UInt8)).length+y50.length)) (
           some ((((j7.2++j39.2)++([101,45]:List UInt8))++y50),0))))
          else
           if(decide (j39.1>0))=true then
            grd (Ak (j7.2.length+j39.2.length)) (
            grd (Ak ((j7.2++j39.2).length+([101]:List UInt8).length)) (
            Option.bind (HZ N (wr .u64 j39.1)) fun y52=>
            grd (Ak (((j7.2++j39.2)++([101]:List UInt8)).length+y52.length)) (
            some ((((j7.2++j39.2)++([101]:List UInt8))++y52),0))))
           else
            grd (Ak (j7.2.length+j39.2.length)) (
            some ((j7.2++j39.2),0))) fun k47=>
        if(decide ((j39.2.length:Int)>40))=true then
         k47 true
        else
         if(decide (j39.1>400))=true then
          k47 true
         else
          k47 (decide (j39.1<(-400)))) fun k40=>
       Ed N k40 N j20.1 j28) fun k29=>
     EY N k29 N j20.2) fun k21=>
    Option.bind (EK N x19 ([46]:List UInt8)) fun y24=>
    if(decide (y24<(x19.length:Int)))=true then
     Option.bind (sub x19 0 y24) fun x26=>
     Option.bind (sub x19 (wr .i64 (y24+1)) (x19.length:Int)) fun x27=>
     grd (Ak (x26.length+x27.length)) (
     k21 ((wr .i64 (y17-(wr .i64 ((wr .i64 ((x19.length:Int)-y24))-1)))),(x26++x27)))
    else
     k21 (y17,x19)) fun k8=>
   Option.bind (idx a0 0) fun x11=>
   if((AV x11)==45)=true then
    Option.bind (sub a0 1 (a0.length:Int)) fun x12=>
    k8 (x12,([45]:List UInt8))
   else
    k8 (a0,[])) fun k2=>
 if(a0==[])=true then
  k2 true
 else
  Option.bind (Gg N a0) fun y5=>
  k2 (y5 !=(a0.length:Int))
def LP (N:Nat) (a0:(List UInt8)):Option (Int):=
 if(a0==([116,114,117,101]:List UInt8))=true then
  some (3)
 else
  if(a0==([102,97,108,115,101]:List UInt8))=true then
   some (2)
  else
   some (1)
def Im (N:Nat) (a0:Int):Option (Bool):=
 if(decide (a0≥65))=true then
  if(decide (a0≤90))=true then
   some (true)
  else
   if(decide (a0≥97))=true then
    some ((decide (a0≤122)))
   else
    some (false)
 else
  if(decide (a0≥97))=true then
   some ((decide (a0≤122)))
  else
   some (false)
def Jy (N:Nat) (a0:Int):Option (Bool):=
 Option.bind (FX N a0 ([32,9,10,13]:List UInt8)) fun y1=>
 some (y1)
def EN (N:Nat) (a0:Int):Option (Bool):=
 Option.bind (D9 N a0) fun y1=>
 if y1=true then
  some (true)
 else
  if(decide (a0≥65))=true then
   if(decide (a0≤70))=true then
    some (true)
   else
    if(decide (a0≥97))=true then
     some ((decide (a0≤102)))
    else
     some (false)
  else
   if(decide (a0≥97))=true then
    some ((decide (a0≤102)))
   else
    some (false)
def Dl (N:Nat) (a1:Int) (a2:Int) (k17:(Int→Option (Int×Int))):List UInt8→Int→Option (Int×Int)
  |[],s9=>
  k17 s9
  |xk20::xs,s9=>
  AO (fun j21:Int=>
   AO (fun j25:Bool=>
    if j25=true then
     some (0,4)
    else
     Dl N a1 a2 k17 xs (wr .u64 ((wr .u64 (s9 * a1))+j21))) fun k26=>
   grd (a1≠0) (
   if(decide (s9>(wr .u64 (a2.tdiv a1))))=true then
    k26 true
   else
    if(decide ((wr .u64 (s9 * a1))>(wr .u64 (a2-j21))))=true then
     k26 true
    else
     k26 (decide (j21>a2)))) fun k22=>
  if(decide ((AV xk20)>57))=true then
   k22 (wr .u64 ((wr .u64 ((wr .u64 (HV .u8 (AV xk20) 32))-97))+10))
  else
   k22 (wr .u64 (wr .u8 ((AV xk20)-48)))
def Db (N:Nat) (a1:Int) (k2:(Unit→Option (Int×Int))):List UInt8→Option (Int×Int)
  |[]=>
  k2 ()
  |xk5::xs=>
  AO (fun j6:Bool=>
   if j6=true then
    some (0,1)
   else
    Db N a1 k2 xs) fun k7=>
  if(a1==10)=true then
   Option.bind (D9 N (AV xk5)) fun y10=>
   if y10=true then
    if(a1==16)=true then
     Option.bind (EN N (AV xk5)) fun y12=>
     k7 (!y12)
    else
     k7 false
   else
    k7 true
  else
   if(a1==16)=true then
    Option.bind (EN N (AV xk5)) fun y14=>
    k7 (!y14)
   else
    k7 false
def KM (N:Nat) (a0:(List UInt8)) (a1:Int) (a2:Int):Option (Int×Int):=
 if(a0==[])=true then
  some (0,3)
 else
  AO (fun j1:Unit=>
   AO (fun j16:Int=>
    some (j16,0)) fun k17=>
   grd (Ak (a0.length)) (
    Dl N a1 a2 k17 a0 0)) fun k2=>
  grd (Ak (a0.length)) (
   Db N a1 k2 a0)
def MK (N:Nat) (a0:(List UInt8)) (a1:Int):Option (Int×Int):=
 Option.bind (KM N a0 16 a1) fun y1=>
 some (y1.1,y1.2)
def JD (N:Nat) (a0:(List UInt8)) (a1:Int):Option (Int×Bool):=
 AO (fun j1:Bool=>
  if j1=true then
   some (0,false)
  else
   Option.bind (sub a0 (wr .i64 (a1+2)) (wr .i64 (a1+6))) fun x7=>
   Option.bind (MK N x7 65535) fun y8=>
   some ((wr .i64 y8.1),(y8.2==0))) fun k2=>
 if(decide ((wr .i64 (a1+6))>(a0.length:Int)))=true then
  k2 true
 else
  Option.bind (idx a0 a1) fun x5=>
  if((AV x5) !=92)=true then
   k2 true
  else
   Option.bind (idx a0 (wr .i64 (a1+1))) fun x6=>
   k2 ((AV x6) !=117)
def KG (N:Nat) (a0:Int):Option (Bool):=
 if(decide (a0≥0))=true then
  if(decide (a0≤1114111))=true then
   if(decide (a0<55296))=true then
    some (true)
   else
    some ((decide (a0>57343)))
  else
   some (false)
 else
  some (false)
def GD (N:Nat) (a0:Int):Option ((List UInt8)×Int):=
 Option.bind (KG N a0) fun y1=>
 if y1=true then
  if(decide (a0<128))=true then
   some ((List.map FQ [(wr .u8 a0)]),0)
  else
   if(decide (a0<2048))=true then
    letL ([(wr .u8 (HV .i64 192 (TG .i64 a0 6))),(wr .u8 (HV .i64 128 (GN .i64 a0 63)))]:(List Int)) fun l3=>
    some ((List.map FQ l3),0)
   else
    if(decide (a0<65536))=true then
     letL ([(wr .u8 (HV .i64 224 (TG .i64 a0 12))),(wr .u8 (HV .i64 128 (GN .i64 (TG .i64 a0 6) 63))),(wr .u8 (HV .i64 128 (GN .i64 a0 63)))]:(List Int)) fun l4=>
     some ((List.map FQ l4),0)
    else
     letL ([(wr .u8 (HV .i64 240 (TG .i64 a0 18))),(wr .u8 (HV .i64 128 (GN .i64 (TG .i64 a0 12) 63))),(wr .u8 (HV .i64 128 (GN .i64 (TG .i64 a0 6) 63))),(wr .u8 (HV .i64 128 (GN .i64 a0 63)))]:(List Int)) fun l5=>
     some ((List.map FQ l5),0)
 else
  some ([],4)
def EW (N:Nat) (a0:(List UInt8)) (a1:Int) (k2:(Unit→Option ((List UInt8)×Int×Int))):Nat→Nat→Option ((List UInt8)×Int×Int)
  |0,_=>none
  |k+1,s20=>
  if(decide (s20<8))=true then
   Option.bind (idx ([34,92,47,98,102,110,114,116]:List UInt8) ((s20:Nat):Int)) fun x6=>
   Option.bind (idx a0 (wr .i64 (a1+1))) fun x7=>
   if((AV x6)==(AV x7))=true then
    Option.bind (sub ([34,92,47,8,12,10,13,9]:List UInt8) ((s20:Nat):Int) (wr .i64 (((s20:Nat):Int)+1))) fun x8=>
    some (x8,(wr .i64 (a1+2)),0)
   else
    EW N a0 a1 k2 k (s20+(Bp ([34,92,47,98,102,110,114,116]:List UInt8) s20).2)
  else
   k2 ()
def JO (N:Nat) (a0:(List UInt8)) (a1:Int):Option ((List UInt8)×Int×Int):=
 AO (fun j1:Unit=>
  Option.bind (JD N a0 a1) fun y9=>
  if y9.2=true then
   AO (fun j11:Bool=>
    if j11=true then
     Option.bind (GD N y9.1) fun y15=>
     some (y15.1,(wr .i64 (a1+6)),0)
    else
     Option.bind (JD N a0 (wr .i64 (a1+6))) fun y17=>
     AO (fun j19:Bool=>
      if j19=true then
       some ([],0,7)
      else
       Option.bind (GD N (wr .i64 ((wr .i64 ((wr .i64 (65536+(wr .i64 ((wr .i64 (y9.1-55296)) * 1024))))+y17.1))-56320))) fun y23=>
       some (y23.1,(wr .i64 (a1+12)),0)) fun k20=>
     if(decide (y9.1>56319))=true then
      k20 true
     else
      if y17.2=true then
       if(decide (y17.1<56320))=true then
        k20 true
       else
        k20 (decide (y17.1>57343))
      else
       k20 true) fun k12=>
   if(decide (y9.1<55296))=true then
    k12 true
   else
    k12 (decide (y9.1>57343))
  else
   some ([],0,130)) fun k2=>
 if(decide ((wr .i64 (a1+1))<(a0.length:Int)))=true then
  EW N a0 a1 k2 N 0
 else
  k2 ()
def DZ (N:Nat) (a0:(List UInt8)) (k4:(Int→Option (Int))):Nat→Int→Int→Option (Int)
  |0,s4,s3=>
  k4 s3
  |k+1,s4,s3=>
  Option.bind (idx a0 s4) fun x8=>
  DZ N a0 k4 k (s4+1) (HV .i64 (SC .i64 s3 6) (GN .i64 (wr .i64 (AV x8)) 63))
def J3 (N:Nat) (a0:(List UInt8)):Option (Int):=
 if((a0.length:Int)==1)=true then
  Option.bind (idx a0 0) fun x1=>
  some ((wr .i64 (AV x1)))
 else
  Option.bind (idx a0 0) fun x2=>
  grd (¬(wr .i64 (7-(a0.length:Int)))<0) (
  AO (fun j3:Int=>
   some (j3)) fun k4=>
  grd ((-4611686018427387904:Int)≤1∧((a0.length:Int):Int)≤4611686018427387904) (
   DZ N a0 k4 (((a0.length:Int):Int)-1).toNat 1 (GN .i64 (wr .i64 (AV x2)) (wr .i64 ((SC .i64 1 (wr .i64 (7-(a0.length:Int))))-1)))))
def Ec (N:Nat) (a0:(List UInt8)) (a1:Int) (k6:(Unit→Option (Int×Int×Int))):Nat→Int→Option (Int×Int×Int)
  |0,_=>none
  |k+1,s7=>
  AO (fun j10:Bool=>
   if j10=true then
    Option.bind (sub a0 a1 (wr .i64 (a1+s7))) fun x14=>
    Option.bind (J3 N x14) fun y15=>
    Option.bind (GD N y15) fun y17=>
    AO (fun j19:Bool=>
     if j19=true then
      some (y15,(wr .i64 (a1+s7)),0)
     else
      Ec N a0 a1 k6 k (wr .i64 (s7+1))) fun k20=>
    if(y17.2==0)=true then
     k20 (y17.1==x14)
    else
     k20 false
   else
    k6 ()) fun k11=>
  if(decide (s7≤4))=true then
   k11 (decide ((wr .i64 (a1+s7))≤(a0.length:Int)))
  else
   k11 false
def JF (N:Nat) (a0:(List UInt8)) (a1:Int):Option (Int×Int×Int):=
 AO (fun j1:Bool=>
  if j1=true then
   some (0,0,4)
  else
   AO (fun j5:Unit=>
    some (0,0,7)) fun k6=>
   Ec N a0 a1 k6 N 1) fun k2=>
 if(decide (a1<0))=true then
  k2 true
 else
  k2 (decide (a1≥(a0.length:Int)))
def Ei (N:Nat) (a0:(List UInt8)) (k2:(Unit→Option ((List UInt8)×Int×Int))):Nat→(List UInt8)→Int→Option ((List UInt8)×Int×Int)
  |0,_,_=>none
  |k+1,s7,s8=>
  if (decide (s8<(a0.length:Int)))=true then
   Option.bind (idx a0 s8) fun x6=>
   if((AV x6)==34)=true then
    some (s7,(wr .i64 (s8+1)),0)
   else
    if((AV x6)==92)=true then
     Option.bind (JO N a0 s8) fun y7=>
     if(y7.2.2 !=0)=true then
      some ([],0,y7.2.2)
     else
      grd (Ak (s7.length+y7.1.length)) (
      Ei N a0 k2 k (s7++y7.1) y7.2.1)
    else
     if(decide ((AV x6)<32))=true then
      some ([],0,130)
     else
      Option.bind (JF N a0 s8) fun y9=>
      if(y9.2.2 !=0)=true then
       some ([],0,y9.2.2)
      else
       Option.bind (sub a0 s8 y9.2.1) fun x11=>
       grd (Ak (s7.length+x11.length)) (
       Ei N a0 k2 k (s7++x11) y9.2.1)
  else
   k2 ()
def LM (N:Nat) (a0:(List UInt8)) (a1:Int):Option ((List UInt8)×Int×Int):=
 AO (fun j1:Unit=>
  some ([],0,130)) fun k2=>
 Ei N a0 k2 N [] (wr .i64 (a1+1))
def FU (N:Nat) (a0:(List UInt8)) (j5:Int) (k34:(Int→Option (ApiToken×Int×Int))):Nat→Int→Option (ApiToken×Int×Int)
  |0,_=>none
  |k+1,s12=>
  AO (fun j38:Bool=>
   if j38=true then
    FU N a0 j5 k34 k (wr .i64 (s12+1))
   else
    k34 s12) fun k39=>
  if(decide ((wr .i64 (j5+s12))<(a0.length:Int)))=true then
   Option.bind (idx a0 (wr .i64 (j5+s12))) fun x42=>
   Option.bind (Im N (AV x42)) fun y43=>
   k39 y43
  else
   k39 false
def FP (N:Nat) (a0:(List UInt8)) (k6:(Int→Option (ApiToken×Int×Int))):Nat→Int→Option (ApiToken×Int×Int)
  |0,_=>none
  |k+1,s1=>
  AO (fun j10:Bool=>
   if j10=true then
    FP N a0 k6 k (wr .i64 (s1+1))
   else
    k6 s1) fun k11=>
  if(decide (s1<(a0.length:Int)))=true then
   Option.bind (idx a0 s1) fun x14=>
   Option.bind (Jy N (AV x14)) fun y15=>
   k11 y15
  else
   k11 false
def LG (N:Nat) (a0:(List UInt8)) (a1:Int):Option (ApiToken×Int×Int):=
 AO (fun j1:Bool=>
  if j1=true then
   some ((ApiToken.mk 0 [] 0),0,4)
  else
   AO (fun j5:Int=>
    if(j5==(a0.length:Int))=true then
     some ((ApiToken.mk 1 [] j5),j5,0)
    else
     Option.bind (idx a0 j5) fun x17=>
     Option.bind (FX N (AV x17) ([123,125,91,93,58,44]:List UInt8)) fun y18=>
     if y18=true then
      Option.bind (sub a0 j5 (wr .i64 (j5+1))) fun x20=>
      some ((ApiToken.mk 2 x20 j5),(wr .i64 (j5+1)),0)
     else
      if((AV x17)==34)=true then
       Option.bind (LM N a0 j5) fun y21=>
       if(y21.2.2 !=0)=true then
        some ((ApiToken.mk 0 [] 0),0,y21.2.2)
       else
        some ((ApiToken.mk 3 y21.1 j5),y21.2.1,0)
      else
       AO (fun j23:Bool=>
        if j23=true then
         Option.bind (sub a0 j5 (a0.length:Int)) fun x29=>
         Option.bind (Gg N x29) fun y30=>
         if(y30==0)=true then
          some ((ApiToken.mk 0 [] 0),0,130)
         else
          Option.bind (sub a0 j5 (wr .i64 (j5+y30))) fun x32=>
          some ((ApiToken.mk 4 x32 j5),(wr .i64 (j5+y30)),0)
        else
         AO (fun j33:Int=>
          Option.bind (sub a0 j5 (wr .i64 (j5+j33))) fun x45=>
          AO (fun j46:Bool=>
           if j46=true then
            some ((ApiToken.mk 5 x45 j5),(wr .i64 (j5+j33)),0)
           else
            some ((ApiToken.mk 0 [] 0),0,130)) fun k47=>
          if(x45==([116,114,117,101]:List UInt8))=true then
           k47 true
          else
           if(x45==([102,97,108,115,101]:List UInt8))=true then
            k47 true
           else
            k47 (x45==([110,117,108,108]:List UInt8))) fun k34=>
         FU N a0 j5 k34 N 0) fun k24=>
       if((AV x17)==45)=true then
        k24 true
       else
        Option.bind (D9 N (AV x17)) fun y27=>
        k24 y27) fun k6=>
   FP N a0 k6 N a1) fun k2=>
 if(decide (a1<0))=true then
  k2 true
 else
  k2 (decide (a1>(a0.length:Int)))
def BB (N:Nat) (a0:Ref14Parser):Option (ApiToken×Ref14Parser):=
 if(a0.fail !=0)=true then
  some ((ApiToken.mk 0 [] 0),a0)
 else
  AO (fun j2:Int×Int×ApiToken=>
   if(j2.2.1 !=0)=true then
    Option.bind (Az N a0 a0.at_ j2.2.1) fun y8=>
    some ((ApiToken.mk 0 [] 0),y8)
   else
    some (j2.2.2,(Ref14Parser.mk a0.s j2.1 a0.nodes a0.fail a0.where_))) fun k3=>
  Option.bind (LG N a0.s a0.at_) fun y6=>
  k3 (y6.2.1,y6.2.2,y6.1)
def ER (N:Nat) (a0:ApiValue) (a1:(List UInt8)) (k2:(Unit→Option (ApiValue×Bool))):List (List UInt8)→Int→Option (ApiValue×Bool)
  |[],s14=>
  k2 ()
  |xk5::xs,s14=>
  AO (fun j6:Bool=>
   if j6=true then
    Option.bind (idx a0.items s14) fun x10=>
    some (x10,true)
   else
    ER N a0 a1 k2 xs (s14+1)) fun k7=>
  if(xk5==a1)=true then
   k7 (decide (s14<(a0.items.length:Int)))
  else
   k7 false
def Mf (N:Nat) (a0:ApiValue) (a1:(List UInt8)):Option (ApiValue×Bool):=
 if(a0.kind !=7)=true then
  some ((ApiValue.mk 0 [] [] []),false)
 else
  AO (fun j1:Unit=>
   some ((ApiValue.mk 0 [] [] []),false)) fun k2=>
  grd (Ak (a0.keys.length)) (
   ER N a0 a1 k2 a0.keys 0)
def Co (N:Nat) (a1:Int) (rec_ref14_parser_value:(Ref14Parser→ApiToken→Int→Option (ApiValue×Ref14Parser))) (k6:(ApiToken×(List ApiValue)×Ref14Parser→Option (ApiValue×Ref14Parser))):Nat→ApiToken→(List ApiValue)→Ref14Parser→Option (ApiValue×Ref14Parser)
  |0,_,_,_=>none
  |k+1,bn2,bn1_items,bi0=>
  if (bi0.fail==0)=true then
   AO (fun j10:(List ApiValue)×Ref14Parser=>
    Option.bind (BB N j10.2) fun y16=>
    Option.bind (EI N y16.1 ([93]:List UInt8)) fun y18=>
    if y18=true then
     some ((ApiValue.mk 6 [] [] j10.1),y16.2)
    else
     AO (fun j20:Ref14Parser=>
      Option.bind (BB N j20) fun y32=>
      Co N a1 rec_ref14_parser_value k6 k y32.1 j10.1 y32.2) fun k21=>
     AO (fun j24:Bool=>
      if j24=true then
       Option.bind (Az N y16.2 y16.1.at_ 140) fun y30=>
       k21 y30
      else
       k21 y16.2) fun k25=>
     if(y16.2.fail==0)=true then
      Option.bind (EI N y16.1 ([44]:List UInt8)) fun y28=>
      k25 (!y28)
     else
      k25 false) fun k11=>
   Option.bind (rec_ref14_parser_value bi0 bn2 a1) fun y14=>
   grd (Ck (bn1_items.length+1) 72) (
   k11 ((bn1_items++[y14.1]),y14.2))
  else
   k6 (bn2,bn1_items,bi0)
def Cf (N:Nat) (a1:Int) (rec_ref14_parser_value:(Ref14Parser→ApiToken→Int→Option (ApiValue×Ref14Parser))) (k6:(ApiToken×(List (List UInt8))×(List ApiValue)×Ref14Parser→Option (ApiValue×Ref14Parser))):Nat→ApiToken→(List (List UInt8))→(List ApiValue)→Ref14Parser→Option (ApiValue×Ref14Parser)
  |0,_,_,_,_=>none
  |k+1,bn2,bn1_keys,bn1_items,bi0=>
  if (bi0.fail==0)=true then
   AO (fun j10:Ref14Parser=>
    AO (fun j16:Ref14Parser=>
     AO (fun j24:ApiToken×Ref14Parser=>
      Option.bind (BB N j24.2) fun y38=>
      Option.bind (rec_ref14_parser_value y38.2 y38.1 a1) fun y40=>
      grd (Ck (bn1_keys.length+1) 16) (
      grd (Ck (bn1_items.length+1) 72) (
      Option.bind (BB N y40.2) fun y42=>
      Option.bind (EI N y42.1 ([125]:List UInt8)) fun y44=>
      if y44=true then
       some ((ApiValue.mk 7 [] (bn1_keys++[bn2.text]) (bn1_items++[y40.1])),y42.2)
      else
       AO (fun j46:Ref14Parser=>
        Option.bind (BB N j46) fun y58=>
        Cf N a1 rec_ref14_parser_value k6 k y58.1 (bn1_keys++[bn2.text]) (bn1_items++[y40.1]) y58.2) fun k47=>
       AO (fun j50:Bool=>
        if j50=true then
         Option.bind (Az N y42.2 y42.1.at_ 140) fun y56=>
         k47 y56
        else
         k47 y42.2) fun k51=>
       if(y42.2.fail==0)=true then
        Option.bind (EI N y42.1 ([44]:List UInt8)) fun y54=>
        k51 (!y54)
       else
        k51 false))) fun k25=>
     Option.bind (BB N j16) fun y28=>
     AO (fun j30:Bool=>
      if j30=true then
       Option.bind (Az N y28.2 y28.1.at_ 140) fun y36=>
       k25 (y28.1,y36)
      else
       k25 (y28.1,y28.2)) fun k31=>
     if(y28.2.fail==0)=true then
      Option.bind (EI N y28.1 ([58]:List UInt8)) fun y34=>
      k31 (!y34)
     else
      k31 false) fun k17=>
    Option.bind (Mf N (ApiValue.mk 7 [] bn1_keys bn1_items) bn2.text) fun y20=>
    if y20.2=true then
     Option.bind (Az N j10 bn2.at_ 143) fun y22=>
     k17 y22
    else
     k17 j10) fun k11=>
   if(bn2.kind !=3)=true then
    Option.bind (Az N bi0 bn2.at_ 140) fun y14=>
    k11 y14
   else
    k11 bi0
  else
   k6 (bn2,bn1_keys,bn1_items,bi0)
mutual
def EP (N:Nat):Nat→Ref14Parser→Int→Option (ApiValue×Ref14Parser)
  |0,_,_=>none
  |D+1,a0,a1=>
  Option.bind (BB N a0) fun y1=>
  Option.bind (EI N y1.1 ([93]:List UInt8)) fun y3=>
  if y3=true then
   some ((ApiValue.mk 6 [] [] []),y1.2)
  else
   AO (fun j5:ApiToken×(List ApiValue)×Ref14Parser=>
    some ((ApiValue.mk 6 [] [] j5.2.1),j5.2.2)) fun k6=>
   Co N a1 (BG N D) k6 N y1.1 [] y1.2
def EB (N:Nat):Nat→Ref14Parser→Int→Option (ApiValue×Ref14Parser)
  |0,_,_=>none
  |D+1,a0,a1=>
  Option.bind (BB N a0) fun y1=>
  Option.bind (EI N y1.1 ([125]:List UInt8)) fun y3=>
  if y3=true then
   some ((ApiValue.mk 7 [] [] []),y1.2)
  else
   AO (fun j5:ApiToken×(List (List UInt8))×(List ApiValue)×Ref14Parser=>
    some ((ApiValue.mk 7 [] j5.2.1 j5.2.2.1),j5.2.2.2)) fun k6=>
   Cf N a1 (BG N D) k6 N y1.1 [] [] y1.2
def BG (N:Nat):Nat→Ref14Parser→ApiToken→Int→Option (ApiValue×Ref14Parser)
  |0,_,_,_=>none
  |D+1,a0,a1,a2=>
  AO (fun j1:Bool=>
   if(a0.fail !=0)=true then
    some ((ApiValue.mk 0 [] [] []),a0)
   else
    if j1=true then
     AO (fun j9:Bool=>
      if j9=true then
       Option.bind (Az N a0 a1.at_ 141) fun y13=>
       some ((ApiValue.mk 0 [] [] []),y13)
      else
       AO (fun j15:Int×(List UInt8)×Ref14Parser=>
        AO (fun j27:(List UInt8)×Int×Int×Int×Int=>
         if(a1.kind==5)=true then
          Option.bind (LP N a1.text) fun y33=>
          some ((ApiValue.mk y33 [] [] []),(Ref14Parser.mk j27.1 j27.2.1 j27.2.2.1 j27.2.2.2.1 j27.2.2.2.2))
         else
          Option.bind (EI N a1 ([91]:List UInt8)) fun y35=>
          if y35=true then
           Option.bind ((EP N D) (Ref14Parser.mk j27.1 j27.2.1 j27.2.2.1 j27.2.2.2.1 j27.2.2.2.2) (wr .i64 (a2+1))) fun y37=>
           some (y37.1,y37.2)
          else
           Option.bind (EI N a1 ([123]:List UInt8)) fun y39=>
           if y39=true then
            Option.bind ((EB N D) (Ref14Parser.mk j27.1 j27.2.1 j27.2.2.1 j27.2.2.2.1 j27.2.2.2.2) (wr .i64 (a2+1))) fun y41=>
            some (y41.1,y41.2)
           else
            some ((ApiValue.mk j15.1 j15.2.1 [] []),(Ref14Parser.mk j27.1 j27.2.1 j27.2.2.1 j27.2.2.2.1 j27.2.2.2.2))) fun k28=>
        if(decide ((wr .i64 (j15.2.2.nodes+1))>20000))=true then
         Option.bind (Az N (Ref14Parser.mk j15.2.2.s j15.2.2.at_ (wr .i64 (j15.2.2.nodes+1)) j15.2.2.fail j15.2.2.where_) a1.at_ 142) fun y31=>
         k28 (y31.s,y31.at_,y31.nodes,y31.fail,y31.where_)
        else
         k28 (j15.2.2.s,j15.2.2.at_,(wr .i64 (j15.2.2.nodes+1)),j15.2.2.fail,j15.2.2.where_)) fun k16=>
       if(a1.kind==4)=true then
        Option.bind (Jc N a1.text) fun y19=>
        AO (fun j21:Ref14Parser=>
         k16 (4,y19.1,j21)) fun k22=>
        if(y19.2 !=0)=true then
         Option.bind (Az N a0 a1.at_ y19.2) fun y25=>
         k22 y25
        else
         k22 a0
       else
        k16 (5,a1.text,a0)) fun k10=>
     if(a1.kind==2)=true then
      k10 (a2==64)
     else
      k10 false
    else
     Option.bind (Az N a0 a1.at_ 140) fun y43=>
     some ((ApiValue.mk 0 [] [] []),y43)) fun k2=>
  if(a1.kind==3)=true then
   k2 true
  else
   if(a1.kind==4)=true then
    k2 true
   else
    if(a1.kind==5)=true then
     k2 true
    else
     Option.bind (EI N a1 ([91]:List UInt8)) fun y5=>
     if y5=true then
      k2 true
     else
      Option.bind (EI N a1 ([123]:List UInt8)) fun y7=>
      k2 y7
end
def KH (N:Nat) (a0:(List UInt8)):Option (ApiValue×Int×Int):=
 if(decide ((a0.length:Int)>1048576))=true then
  some ((ApiValue.mk 0 [] [] []),0,142)
 else
  Option.bind (BB N (Ref14Parser.mk a0 0 0 0 0)) fun y1=>
  Option.bind (BG N N y1.2 y1.1 0) fun y3=>
  AO (fun j5:Ref14Parser=>
   if(j5.fail !=0)=true then
    some ((ApiValue.mk 0 [] [] []),j5.where_,j5.fail)
   else
    some (y3.1,(a0.length:Int),0)) fun k6=>
  Option.bind (BB N y3.2) fun y9=>
  AO (fun j11:Bool=>
   if j11=true then
    Option.bind (Az N y9.2 y9.1.at_ 140) fun y15=>
    k6 y15
   else
    k6 y9.2) fun k12=>
  if(y9.2.fail==0)=true then
   k12 (y9.1.kind !=1)
  else
   k12 false
def ED (N:Nat) (k2:(Int×Int×(List Int)→Option ((List UInt8)))):Nat→Int→Int→(List Int)→Option ((List UInt8))
  |0,_,_,_=>none
  |k+1,s0,s4,bn=>
  if(decide (s0≥10))=true then
   grd (0≤s4∧s4<20) (
   grd (s4.toNat+1≤bn.length) (
   ED N k2 k (wr .u64 (s0.tdiv 10)) (wr .i64 (s4-1)) (bn.set s4.toNat (wr .u8 (wr .u64 (48+(s0.tmod 10)))))))
  else
   k2 (s0,s4,bn)
def Gf (N:Nat) (a0:Int):Option ((List UInt8)):=
 AO (fun j1:Int×Int×(List Int)=>
  grd (0≤j1.2.1∧j1.2.1<20) (
  grd (j1.2.1.toNat+1≤j1.2.2.length) (
  grd (0≤j1.2.1∧j1.2.1≤20) (
  grd ((20-j1.2.1.toNat)≤j1.2.2.length-j1.2.1.toNat∧Ak (20-j1.2.1.toNat)) (
  some ((List.map FQ (List.take (20-j1.2.1.toNat) (List.drop j1.2.1.toNat (j1.2.2.set j1.2.1.toNat (wr .u8 (wr .u64 (48+j1.1))))))))))))) fun k2=>
 ED N k2 N a0 19 (List.replicate 20 0)
def Ju (N:Nat) (a0:ApiHostPort):Option ((List UInt8)):=
 if(a0.port==0)=true then
  some (a0.host)
 else
  if(decide (a0.port<0))=true then
   grd (Ak (a0.host.length+([58,45]:List UInt8).length)) (
   Option.bind (Gf N (wr .u64 (0-(wr .u64 a0.port)))) fun y1=>
   grd (Ak ((a0.host++([58,45]:List UInt8)).length+y1.length)) (
   some (((a0.host++([58,45]:List UInt8))++y1))))
  else
   grd (Ak (a0.host.length+([58]:List UInt8).length)) (
   Option.bind (Gf N (wr .u64 a0.port)) fun y3=>
   grd (Ak ((a0.host++([58]:List UInt8)).length+y3.length)) (
   some (((a0.host++([58]:List UInt8))++y3))))
def Ic (N:Nat) (a0:ApiURL):Option (ApiHostPort):=
 some ((ApiHostPort.mk a0.host a0.port))
def Ij (N:Nat) (a0:ApiURL):Option ((List UInt8)):=
 if a0.hasQuery=true then
  grd (Ak (a0.path.length+([63]:List UInt8).length)) (
  grd (Ak ((a0.path++([63]:List UInt8)).length+a0.query.length)) (
  some (((a0.path++([63]:List UInt8))++a0.query))))
 else
  some (a0.path)
def Eh (N:Nat) (a0:ApiURL):Option ((List UInt8)):=
 Option.bind (Ic N a0) fun y1=>
 Option.bind (Ju N y1) fun y3=>
 grd (Ak (([104,116,116,112,115,58,47,47]:List UInt8).length+y3.length)) (
 Option.bind (Ij N a0) fun y5=>
 grd (Ak ((([104,116,116,112,115,58,47,47]:List UInt8)++y3).length+y5.length)) (
 AO (fun j7:(List UInt8)=>
  some (j7)) fun k8=>
 if a0.hasFrag=true then
  grd (Ak (([35]:List UInt8).length+a0.fragment.length)) (
  grd (Ak (((([104,116,116,112,115,58,47,47]:List UInt8)++y3)++y5).length+(([35]:List UInt8)++a0.fragment).length)) (
  k8 (((([104,116,116,112,115,58,47,47]:List UInt8)++y3)++y5)++(([35]:List UInt8)++a0.fragment))))
 else
  k8 ((([104,116,116,112,115,58,47,47]:List UInt8)++y3)++y5)))
def Ej (N:Nat) (a0:ApiDID):Option ((List UInt8)):=
 grd (Ak (([100,105,100,58]:List UInt8).length+a0.method.length)) (
 grd (Ak ((([100,105,100,58]:List UInt8)++a0.method).length+([58]:List UInt8).length)) (
 grd (Ak (((([100,105,100,58]:List UInt8)++a0.method)++([58]:List UInt8)).length+a0.iD.length)) (
 some ((((([100,105,100,58]:List UInt8)++a0.method)++([58]:List UInt8))++a0.iD)))))
def BU (N:Nat) (a0:(List UInt8)) (a1:(List UInt8)):Option (Bool):=
 if(decide ((a0.length:Int)≥(a1.length:Int)))=true then
  Option.bind (sub a0 0 (a1.length:Int)) fun x1=>
  some ((x1==a1))
 else
  some (false)
def Ct (N:Nat) (a0:(List UInt8)) (a1:(List UInt8)):Option ((List UInt8)×Bool):=
 Option.bind (BU N a0 a1) fun y1=>
 if y1=true then
  Option.bind (sub a0 (a1.length:Int) (a0.length:Int)) fun x3=>
  some (x3,true)
 else
  some (a0,false)
def strings_CutPrefix (N:Nat) (a0:(List UInt8)) (a1:(List UInt8)):Option ((List UInt8)×Bool):=
 Option.bind (Ct N a0 a1) fun y1=>
 some (y1.1,y1.2)
def D6 (N:Nat) (k2:(Unit→Option (Bool))):List UInt8→Option (Bool)
  |[]=>
  k2 ()
  |xk5::xs=>
  AO (fun j6:Bool=>
   if j6=true then
    some (false)
   else
    D6 N k2 xs) fun k7=>
  Option.bind (CP N (AV xk5)) fun y10=>
  if y10=true then
   k7 false
  else
   if(decide ((AV xk5)<97))=true then
    k7 true
   else
    k7 (decide ((AV xk5)>122))
def LB (N:Nat) (a0:(List UInt8)):Option (Bool):=
 AO (fun j1:Unit=>
  some ((!(a0==[])))) fun k2=>
 grd (Ak (a0.length)) (
  D6 N k2 a0)
def strings_Index (N:Nat) (a0:(List UInt8)) (a1:(List UInt8)):Option (Int):=
 Option.bind (Bj N a0 a1) fun y1=>
 some (y1)
def strings_Contains (N:Nat) (a0:(List UInt8)) (a1:(List UInt8)):Option (Bool):=
 Option.bind (strings_Index N a0 a1) fun y1=>
 some ((decide (y1≥0)))
def FV (N:Nat) (a0:Int):Option (Bool):=
 if(decide (97≤(HV .u8 a0 32)))=true then
  some ((decide ((HV .u8 a0 32)≤122)))
 else
  some (false)
def Jr (N:Nat) (a0:Int):Option (Bool):=
 Option.bind (FV N a0) fun y1=>
 if y1=true then
  some (true)
 else
  Option.bind (CP N a0) fun y3=>
  some (y3)
def strings_IndexByte (N:Nat) (a0:(List UInt8)) (a1:Int):Option (Int):=
 Option.bind (BA N a0 a1) fun y1=>
 some (y1)
def Jv (N:Nat) (a0:Int) (a1:(List UInt8)):Option (Bool):=
 Option.bind (strings_IndexByte N a1 a0) fun y1=>
 some ((decide (y1≥0)))
def ES (N:Nat) (a0:Int):Option (Bool):=
 Option.bind (Jr N a0) fun y1=>
 if y1=true then
  some (true)
 else
  Option.bind (Jv N a0 ([45,46,95,126]:List UInt8)) fun y3=>
  some (y3)
def FL (N:Nat) (a0:(List Int)) (a1:Int):Option ((List Int)):=
 Option.bind (idx ([48,49,50,51,52,53,54,55,56,57,65,66,67,68,69,70]:List UInt8) (TG .u8 a1 4)) fun x1=>
 Option.bind (idx ([48,49,50,51,52,53,54,55,56,57,65,66,67,68,69,70]:List UInt8) (GN .u8 a1 15)) fun x2=>
 grd (Ck (a0.length+3) 1) (
 some ((a0++[37,(AV x1),(AV x2)])))
def Cy (N:Nat) (a0:(List UInt8)) (a1:(List UInt8)) (k2:((List Int)→Option ((List UInt8)×Int))):Nat→Int→(List Int)→Option ((List UInt8)×Int)
  |0,_,_=>none
  |k+1,s7,bn=>
  if (decide (s7<(a0.length:Int)))=true then
   AO (fun j6:Int×(List Int)=>
    Cy N a0 a1 k2 k (wr .i64 (j6.1+1)) j6.2) fun k7=>
   Option.bind (idx a0 s7) fun x10=>
   if((AV x10)==37)=true then
    Option.bind (Dt N a0 s7) fun y11=>
    if y11.2=true then
     Option.bind (ES N y11.1) fun y13=>
     if y13=true then
      grd (Ck (bn.length+1) 1) (
      k7 ((wr .i64 (s7+2)),(bn++[y11.1])))
     else
      Option.bind (FL N bn y11.1) fun y15=>
      k7 ((wr .i64 (s7+2)),y15)
    else
     some ([],2)
   else
    AO (fun j17:Bool=>
     if j17=true then
      grd (Ck (bn.length+1) 1) (
      k7 (s7,(bn++[(AV x10)])))
     else
      some ([],1)) fun k18=>
    Option.bind (ES N (AV x10)) fun y21=>
    if y21=true then
     k18 true
    else
     Option.bind (strings_IndexByte N a1 (AV x10)) fun y23=>
     k18 (decide (y23≥0))
  else
   k2 bn
def Bf (N:Nat) (a0:(List UInt8)) (a1:(List UInt8)):Option ((List UInt8)×Int):=
 if(decide ((a0.length:Int)>16384))=true then
  some ([],5)
 else
  AO (fun j1:(List Int)=>
   some ((List.map FQ j1),0)) fun k2=>
  Cy N a0 a1 k2 N 0 []
def Dq (N:Nat) (a0:StringsBuilder):Option (StringsBuilder):=
 if a0.addr=true then
  some (a0)
 else
  some ((StringsBuilder.mk true a0.buf))
def Ai (N:Nat) (a0:StringsBuilder) (a1:(List UInt8)):Option (Int×Unit×StringsBuilder):=
 Option.bind (Dq N a0) fun y1=>
 grd (Ck (y1.buf.length+a1.length) 1) (
 some ((a1.length:Int),(),(StringsBuilder.mk y1.addr (y1.buf++a1))))
def DN (N:Nat) (a0:StringsBuilder):Option ((List UInt8)×StringsBuilder):=
 some (a0.buf,a0)
def BK (N:Nat) (a0:(List UInt8)) (k2:(Int→Option (Int))):Nat→Int→Nat→Option (Int)
  |0,_,_=>none
  |k+1,s2,s4=>
  if(decide (s4<a0.length))=true then
   BK N a0 k2 k (wr .i64 (s2+1)) (s4+(Bp a0 s4).2)
  else
   k2 s2
def Bo (N:Nat) (a0:(List UInt8)):Option (Int):=
 AO (fun j1:Int=>
  some (j1)) fun k2=>
 BK N a0 k2 N 0 0
def EH (N:Nat) (a1:(List UInt8)):Nat→(List UInt8)→Int→Option (Int)
  |0,_,_=>none
  |k+1,s0,s5=>
  Option.bind (strings_Index N s0 a1) fun y5=>
  if(y5==(-1))=true then
   some (s5)
  else
   Option.bind (sub s0 (wr .i64 (y5+(a1.length:Int))) (s0.length:Int)) fun x7=>
   EH N a1 k x7 (wr .i64 (s5+1))
def strings_Count (N:Nat) (a0:(List UInt8)) (a1:(List UInt8)):Option (Int):=
 if((a1.length:Int)==0)=true then
  Option.bind (Bo N a0) fun y1=>
  some ((wr .i64 (y1+1)))
 else
  if((a1.length:Int)==1)=true then
   Option.bind (idx a1 0) fun x3=>
   some (((Go.Lib.countByte a0 (FQ (AV x3)):Nat):Int))
  else
   EH N a1 N a0 0
def Et (N:Nat) (n:Int):Option Unit:=grd (0<n∧n≤140737488355328) (some ())
def CL (N:Nat) (a0:(List UInt8)):Option (Int×Int):=
 if(decide ((a0.length:Int)<1))=true then
  some (65533,0)
 else
  Option.bind (idx a0 0) fun x1=>
  (none:Option (Int×Int))
def Bh (N:Nat) (a0:(List UInt8)):Option (Int×Int):=
 AO (fun j1:Bool=>
  if j1=true then
   Option.bind (idx a0 0) fun x6=>
   some ((wr .i32 (AV x6)),1)
  else
   Option.bind (CL N a0) fun y7=>
   some (y7.1,y7.2)) fun k2=>
 if(a0==[])=true then
  k2 false
 else
  Option.bind (idx a0 0) fun x5=>
  k2 (decide ((AV x5)<128))
def CX (N:Nat) (a0:(List UInt8)) (a2:(List UInt8)) (k18:(Int×Bool×(List UInt8)→Option ((List UInt8)))):Nat→Int→StringsBuilder→Option ((List UInt8))
  |0,s11,bn8=>
  k18 (s11,bn8.addr,bn8.buf)
  |k+1,s11,bn8=>
  Option.bind (sub a0 s11 (a0.length:Int)) fun x33=>
  Option.bind (Bh N x33) fun y34=>
  Option.bind (sub a0 s11 (wr .i64 (s11+y34.2))) fun x36=>
  Option.bind (Ai N bn8 x36) fun y37=>
  Option.bind (Ai N y37.2.2 a2) fun y39=>
  CX N a0 a2 k18 k (wr .i64 (s11+y34.2)) y39.2.2
def CU (N:Nat) (a0:(List UInt8)) (a1:(List UInt8)) (a2:(List UInt8)) (k18:(Int×Bool×(List UInt8)→Option ((List UInt8)))):Nat→Int→Bool→(List UInt8)→Option ((List UInt8))
  |0,s11,bn8_addr,bn8_buf=>
  k18 (s11,bn8_addr,bn8_buf)
  |k+1,s11,bn8_addr,bn8_buf=>
  Option.bind (sub a0 s11 (a0.length:Int)) fun x22=>
  Option.bind (strings_Index N x22 a1) fun y23=>
  Option.bind (sub a0 s11 (wr .i64 (s11+y23))) fun x25=>
  Option.bind (Ai N (StringsBuilder.mk bn8_addr bn8_buf) x25) fun y26=>
  Option.bind (Ai N y26.2.2 a2) fun y28=>
  CU N a0 a1 a2 k18 k (wr .i64 ((wr .i64 (s11+y23))+(a1.length:Int))) y28.2.2.addr y28.2.2.buf
def strings_Replace (N:Nat) (a0:(List UInt8)) (a1:(List UInt8)) (a2:(List UInt8)) (a3:Int):Option ((List UInt8)):=
 AO (fun j1:Bool=>
  if j1=true then
   some (a0)
  else
   AO (fun j5:Int=>
    Option.bind (Et N (wr .i64 ((a0.length:Int)+(wr .i64 (j5 * (wr .i64 ((a2.length:Int)-(a1.length:Int)))))))) fun y15=>
    AO (fun j17:Int×Bool×(List UInt8)=>
     Option.bind (sub a0 j17.1 (a0.length:Int)) fun x41=>
     Option.bind (Ai N (StringsBuilder.mk j17.2.1 j17.2.2) x41) fun y42=>
     Option.bind (DN N y42.2.2) fun y44=>
     some (y44.1)) fun k18=>
    if(decide ((a1.length:Int)>0))=true then
     grd ((-4611686018427387904:Int)≤0∧(j5:Int)≤4611686018427387904) (
      CU N a0 a1 a2 k18 ((j5:Int)-0).toNat 0 true [])
    else
     Option.bind (Ai N (StringsBuilder.mk true []) a2) fun y30=>
     grd ((-4611686018427387904:Int)≤0∧((wr .i64 (j5-1)):Int)≤4611686018427387904) (
      CX N a0 a2 k18 (((wr .i64 (j5-1)):Int)-0).toNat 0 y30.2.2)) fun k6=>
   Option.bind (strings_Count N a0 a1) fun y9=>
   if(y9==0)=true then
    some (a0)
   else
    AO (fun j11:Bool=>
     if j11=true then
      k6 y9
     else
      k6 a3) fun k12=>
    if(decide (a3<0))=true then
     k12 true
    else
     k12 (decide (y9<a3))) fun k2=>
 if(a1==a2)=true then
  k2 true
 else
  k2 (a3==0)
def strings_ReplaceAll (N:Nat) (a0:(List UInt8)) (a1:(List UInt8)) (a2:(List UInt8)):Option ((List UInt8)):=
 Option.bind (strings_Replace N a0 a1 a2 (-1)) fun y1=>
 some (y1)
def Iq (N:Nat) (a0:(List UInt8)):Option ((List UInt8)×Int):=
 Option.bind (Bf N a0 ([58]:List UInt8)) fun y1=>
 Option.bind (Di N a0) fun y3=>
 if(y3.2 !=0)=true then
  some ([],y3.2)
 else
  AO (fun j5:Int=>
   Option.bind (strings_ReplaceAll N y1.1 ([126]:List UInt8) ([37,55,69]:List UInt8)) fun y15=>
   some (y15,j5)) fun k6=>
  AO (fun j9:Bool=>
   if j9=true then
    k6 1
   else
    k6 y1.2) fun k10=>
  if(y1.2==0)=true then
   Option.bind (strings_Contains N a0 ([126]:List UInt8)) fun y13=>
   k10 y13
  else
   k10 false
def Cs (N:Nat) (a0:(List UInt8)) (a1:(List UInt8)):Option (Bool):=
 if(decide ((a0.length:Int)≥(a1.length:Int)))=true then
  Option.bind (sub a0 (wr .i64 ((a0.length:Int)-(a1.length:Int))) (a0.length:Int)) fun x1=>
  some ((x1==a1))
 else
  some (false)
def strings_HasSuffix (N:Nat) (a0:(List UInt8)) (a1:(List UInt8)):Option (Bool):=
 Option.bind (Cs N a0 a1) fun y1=>
 some (y1)
def Hl (N:Nat) (a0:(List UInt8)):Option (ApiDID×Int):=
 if(decide ((a0.length:Int)>4096))=true then
  some ((ApiDID.mk [] []),5)
 else
  Option.bind (strings_CutPrefix N a0 ([100,105,100,58]:List UInt8)) fun y1=>
  if y1.2=true then
   Option.bind (strings_Cut N y1.1 ([58]:List UInt8)) fun y3=>
   if y3.2.2=true then
    Option.bind (LB N y3.1) fun y5=>
    if y5=true then
     Option.bind (Iq N y3.2.1) fun y7=>
     if(y7.2 !=0)=true then
      some ((ApiDID.mk [] []),y7.2)
     else
      AO (fun j9:Bool=>
       if j9=true then
        some ((ApiDID.mk [] []),3)
       else
        some ((ApiDID.mk y3.1 y7.1),0)) fun k10=>
      if(y7.1==[])=true then
       k10 true
      else
       Option.bind (strings_HasSuffix N y7.1 ([58]:List UInt8)) fun y13=>
       k10 y13
    else
     some ((ApiDID.mk [] []),100)
   else
    some ((ApiDID.mk [] []),6)
  else
   some ((ApiDID.mk [] []),60)
def Ch (N:Nat) (a0:DiddocDecoder) (a1:Int):Option (DiddocDecoder):=
 if(a0.e==0)=true then
  some ((DiddocDecoder.mk a0.did a1))
 else
  some (a0)
def BV (N:Nat) (k2:((List (List UInt8))×DiddocDecoder→Option ((List (List UInt8))×DiddocDecoder))):List ApiValue→(List (List UInt8))→DiddocDecoder→Option ((List (List UInt8))×DiddocDecoder)
  |[],s5,bi0=>
  k2 (s5,bi0)
  |xk5::xs,s5,bi0=>
  AO (fun j6:DiddocDecoder=>
   grd (Ck (s5.length+1) 16) (
   BV N k2 xs (s5++[xk5.text]) j6)) fun k7=>
  if(xk5.kind !=5)=true then
   Option.bind (Ch N bi0 160) fun y10=>
   k7 y10
  else
   k7 bi0
def Cb (N:Nat) (a0:DiddocDecoder) (a1:(List ApiValue)):Option ((List (List UInt8))×DiddocDecoder):=
 AO (fun j1:(List (List UInt8))×DiddocDecoder=>
  some (j1.1,j1.2)) fun k2=>
 grd (Ak (a1.length)) (
  BV N k2 a1 [] a0)
def Dc (N:Nat) (a0:ApiValue) (a1:(List UInt8)) (k2:(Unit→Option (ApiValue×Bool))):List (List UInt8)→Int→Option (ApiValue×Bool)
  |[],s11=>
  k2 ()
  |xk5::xs,s11=>
  AO (fun j6:Bool=>
   if j6=true then
    Option.bind (idx a0.items s11) fun x10=>
    some (x10,true)
   else
    Dc N a0 a1 k2 xs (s11+1)) fun k7=>
  if(a0.kind==7)=true then
   if(decide (s11<(a0.items.length:Int)))=true then
    k7 (xk5==a1)
   else
    k7 false
  else
   k7 false
def Ez (N:Nat) (a0:ApiValue) (a1:(List UInt8)):Option (ApiValue×Bool):=
 AO (fun j1:Unit=>
  some ((ApiValue.mk 0 [] [] []),false)) fun k2=>
 grd (Ak (a0.keys.length)) (
  Dc N a0 a1 k2 a0.keys 0)
def CE (N:Nat) (a0:DiddocDecoder) (a1:ApiValue) (a2:(List UInt8)):Option ((List UInt8)×DiddocDecoder):=
 Option.bind (Ez N a1 a2) fun y1=>
 Option.bind (Cb N a0 [y1.1]) fun y3=>
 Option.bind (idx y3.1 0) fun x5=>
 some (x5,y3.2)
def Dy (N:Nat) (a0:DiddocDecoder) (a1:ApiValue):Option ((List ApiValue)×DiddocDecoder):=
 if(a1.kind !=6)=true then
  Option.bind (Ch N a0 160) fun y1=>
  some ([],y1)
 else
  if(decide ((a1.items.length:Int)>64))=true then
   Option.bind (Ch N a0 161) fun y3=>
   some ([],y3)
  else
   some (a1.items,a0)
def DF (N:Nat) (a0:DiddocDecoder) (a1:ApiValue) (a2:(List UInt8)):Option ((List ApiValue)×DiddocDecoder):=
 Option.bind (Ez N a1 a2) fun y1=>
 if y1.2=true then
  Option.bind (Dy N a0 y1.1) fun y3=>
  some (y3.1,y3.2)
 else
  some ([],a0)
def CO (N:Nat) (a0:DiddocDecoder) (a1:ApiValue):Option ((List (List UInt8))×DiddocDecoder):=
 if(a1.kind==5)=true then
  Option.bind (Cb N a0 [a1]) fun y1=>
  some (y1.1,y1.2)
 else
  Option.bind (Dy N a0 a1) fun y3=>
  Option.bind (Cb N y3.2 y3.1) fun y5=>
  some (y5.1,y5.2)
def strings_HasPrefix (N:Nat) (a0:(List UInt8)) (a1:(List UInt8)):Option (Bool):=
 Option.bind (BU N a0 a1) fun y1=>
 some (y1)
def KY (N:Nat) (a0:(List UInt8)):Option (ApiDIDURL×Int):=
 if(decide ((a0.length:Int)>4096))=true then
  some ((ApiDIDURL.mk (ApiDID.mk [] []) [] [] [] false false),5)
 else
  Option.bind (strings_Cut N a0 ([35]:List UInt8)) fun y1=>
  Option.bind (strings_Cut N y1.1 ([63]:List UInt8)) fun y3=>
  AO (fun j5:(List UInt8)×(List UInt8)=>
   Option.bind (Hl N j5.1) fun y13=>
   if(y13.2 !=0)=true then
    some ((ApiDIDURL.mk (ApiDID.mk [] []) [] [] [] false false),y13.2)
   else
    Option.bind (Bf N j5.2 ([33,36,38,39,40,41,42,43,44,59,61,58,64,47]:List UInt8)) fun y15=>
    if(y15.2 !=0)=true then
     some ((ApiDIDURL.mk (ApiDID.mk [] []) [] [] [] false false),y15.2)
    else
     Option.bind (Bf N y3.2.1 ([33,36,38,39,40,41,42,43,44,59,61,58,64,47,63]:List UInt8)) fun y17=>
     if(y17.2 !=0)=true then
      some ((ApiDIDURL.mk (ApiDID.mk [] []) [] [] [] false false),y17.2)
     else
      Option.bind (Bf N y1.2.1 ([33,36,38,39,40,41,42,43,44,59,61,58,64,47,63]:List UInt8)) fun y19=>
      if(y19.2 !=0)=true then
       some ((ApiDIDURL.mk (ApiDID.mk [] []) [] [] [] false false),y19.2)
      else
       some ((ApiDIDURL.mk y13.1 y15.1 y17.1 y19.1 y3.2.2 y1.2.2),0)) fun k6=>
  Option.bind (strings_IndexByte N y3.1 47) fun y9=>
  if(decide (y9≥0))=true then
   Option.bind (sub y3.1 0 y9) fun x11=>
   Option.bind (sub y3.1 y9 (y3.1.length:Int)) fun x12=>
   k6 (x11,x12)
  else
   k6 (y3.1,[])
def KC (N:Nat) (a0:ApiDID) (a1:(List UInt8)):Option (ApiDIDURL×Int):=
 Option.bind (strings_HasPrefix N a1 ([100,105,100,58]:List UInt8)) fun y1=>
 if y1=true then
  Option.bind (KY N a1) fun y3=>
  some (y3.1,y3.2)
 else
  AO (fun j5:Bool=>
   if j5=true then
    Option.bind (Ej N a0) fun y12=>
    grd (Ak (y12.length+a1.length)) (
    Option.bind (KY N (y12++a1)) fun y14=>
    some (y14.1,y14.2))
   else
    some ((ApiDIDURL.mk (ApiDID.mk [] []) [] [] [] false false),6)) fun k6=>
  if(a1==[])=true then
   k6 true
  else
   Option.bind (idx a1 0) fun x9=>
   Option.bind (strings_IndexByte N ([47,63,35]:List UInt8) (AV x9)) fun y10=>
   k6 (decide (y10≥0))
def LK (N:Nat) (a0:ApiDIDURL):Option ((List UInt8)):=
 Option.bind (Ej N a0.dID) fun y1=>
 grd (Ak (y1.length+a0.path.length)) (
 AO (fun j3:(List UInt8)=>
  AO (fun j7:(List UInt8)=>
   some (j7)) fun k8=>
  if a0.hasFrag=true then
   grd (Ak (([35]:List UInt8).length+a0.fragment.length)) (
   grd (Ak (j3.length+(([35]:List UInt8)++a0.fragment).length)) (
   k8 (j3++(([35]:List UInt8)++a0.fragment))))
  else
   k8 j3) fun k4=>
 if a0.hasQuery=true then
  grd (Ak (([63]:List UInt8).length+a0.query.length)) (
  grd (Ak ((y1++a0.path).length+(([63]:List UInt8)++a0.query).length)) (
  k4 ((y1++a0.path)++(([63]:List UInt8)++a0.query))))
 else
  k4 (y1++a0.path))
def Ep (N:Nat) (a0:DiddocDecoder) (a1:ApiValue):Option ((List UInt8)×DiddocDecoder):=
 Option.bind (CE N a0 a1 ([105,100]:List UInt8)) fun y1=>
 Option.bind (KC N y1.2.did y1.1) fun y3=>
 if(y3.2 !=0)=true then
  Option.bind (Ch N y1.2 160) fun y5=>
  some ([],y5)
 else
  Option.bind (LK N y3.1) fun y7=>
  some (y7,y1.2)
def EO (N:Nat) (a0:DiddocDecoder) (a1:ApiValue):Option (ApiService×DiddocDecoder):=
 Option.bind (Ep N a0 a1) fun y1=>
 Option.bind (Ez N a1 ([116,121,112,101]:List UInt8)) fun y3=>
 Option.bind (CO N y1.2 y3.1) fun y5=>
 AO (fun j7:(List (List UInt8))×DiddocDecoder=>
  some ((ApiService.mk y1.1 y5.1 j7.1),j7.2)) fun k8=>
 Option.bind (Ez N a1 ([115,101,114,118,105,99,101,69,110,100,112,111,105,110,116]:List UInt8)) fun y11=>
 if(y11.1.kind !=7)=true then
  Option.bind (CO N y5.2 y11.1) fun y13=>
  k8 (y13.1,y13.2)
 else
  k8 ([],y5.2)
def Cu (N:Nat) (k37:((List ApiService)×DiddocDecoder→Option (ApiDoc×Int))):List ApiValue→(List ApiService)→DiddocDecoder→Option (ApiDoc×Int)
  |[],bn3_services,bn2=>
  k37 (bn3_services,bn2)
  |xk42::xs,bn3_services,bn2=>
  AO (fun j43:(List ApiService)×DiddocDecoder=>
   Cu N k37 xs j43.1 j43.2) fun k44=>
  Option.bind (EO N bn2 xk42) fun y47=>
  grd (Ck (bn3_services.length+1) 64) (
  k44 ((bn3_services++[y47.1]),y47.2))
def Cr (N:Nat) (k24:((List ApiMethod)×DiddocDecoder→Option (ApiDoc×Int))):List ApiValue→(List ApiMethod)→DiddocDecoder→Option (ApiDoc×Int)
  |[],bn3_methods,bn2=>
  k24 (bn3_methods,bn2)
  |xk29::xs,bn3_methods,bn2=>
  Option.bind (Ep N bn2 xk29) fun y30=>
  Option.bind (CE N y30.2 xk29 ([116,121,112,101]:List UInt8)) fun y32=>
  Option.bind (CE N y32.2 xk29 ([99,111,110,116,114,111,108,108,101,114]:List UInt8)) fun y34=>
  grd (Ck (bn3_methods.length+1) 48) (
  Cr N k24 xs (bn3_methods++[(ApiMethod.mk y30.1 y32.1 y34.1)]) y34.2)
def Ia (N:Nat) (a0:ApiValue):Option (ApiDoc×Int):=
 if(a0.kind !=7)=true then
  some ((ApiDoc.mk [] [] [] [] []),160)
 else
  Option.bind (CE N (DiddocDecoder.mk (ApiDID.mk [] []) 0) a0 ([105,100]:List UInt8)) fun y1=>
  Option.bind (Hl N y1.1) fun y3=>
  AO (fun j5:Bool=>
   if j5=true then
    some ((ApiDoc.mk [] [] [] [] []),160)
   else
    Option.bind (Ej N y3.1) fun y9=>
    Option.bind (DF N (DiddocDecoder.mk y3.1 y1.2.e) a0 ([97,108,115,111,75,110,111,119,110,65,115]:List UInt8)) fun y11=>
    Option.bind (Cb N y11.2 y11.1) fun y13=>
    AO (fun j15:(List (List UInt8))×DiddocDecoder=>
     AO (fun j23:(List ApiMethod)×DiddocDecoder=>
      AO (fun j36:(List ApiService)×DiddocDecoder=>
       if(j36.2.e !=0)=true then
        some ((ApiDoc.mk [] [] [] [] []),j36.2.e)
       else
        some ((ApiDoc.mk y9 y13.1 j15.1 j23.1 j36.1),0)) fun k37=>
      Option.bind (DF N j23.2 a0 ([115,101,114,118,105,99,101]:List UInt8)) fun y40=>
      grd (Ak (y40.1.length)) (
       Cu N k37 y40.1 [] y40.2)) fun k24=>
     Option.bind (DF N j15.2 a0 ([118,101,114,105,102,105,99,97,116,105,111,110,77,101,116,104,111,100]:List UInt8)) fun y27=>
     grd (Ak (y27.1.length)) (
      Cr N k24 y27.1 [] y27.2)) fun k16=>
    Option.bind (Ez N a0 ([99,111,110,116,114,111,108,108,101,114]:List UInt8)) fun y19=>
    if y19.2=true then
     Option.bind (CO N y13.2 y19.1) fun y21=>
     k16 (y21.1,y21.2)
    else
     k16 ([],y13.2)) fun k6=>
  if(y1.2.e !=0)=true then
   k6 true
  else
   k6 (y3.2 !=0)
def JK (N:Nat) (a0:ApiDIDURL):Option ((List ApiField)):=
 if a0.hasQuery=true then
  Option.bind (GK N a0.query) fun y1=>
  some (y1)
 else
  some ([])
def Da (N:Nat) (a1:(List UInt8)) (k2:(Unit→Option ((List UInt8)×Bool))):List ApiField→Option ((List UInt8)×Bool)
  |[]=>
  k2 ()
  |xk5::xs=>
  if(xk5.name==a1)=true then
   some (xk5.value,true)
  else
   Da N a1 k2 xs
def IU (N:Nat) (a0:(List ApiField)) (a1:(List UInt8)):Option ((List UInt8)×Bool):=
 AO (fun j1:Unit=>
  some ([],false)) fun k2=>
 grd (Ak (a0.length)) (
  Da N a1 k2 a0)
def CZ (N:Nat) (a1:(List UInt8)) (k2:(Unit→Option ((List (List UInt8))×Bool))):List ApiService→Option ((List (List UInt8))×Bool)
  |[]=>
  k2 ()
  |xk5::xs=>
  if(xk5.iD==a1)=true then
   some (xk5.endpoints,true)
  else
   CZ N a1 k2 xs
def Gw (N:Nat) (a0:ApiDoc) (a1:(List UInt8)):Option ((List (List UInt8))×Bool):=
 AO (fun j1:Unit=>
  some ([],false)) fun k2=>
 grd (Ak (a0.services.length)) (
  CZ N a1 k2 a0.services)
def EU (N:Nat) (a0:Int):Option (Bool):=
 AO (fun j1:Bool=>
  if j1=true then
   some (true)
  else
   AO (fun j5:Bool=>
    if j5=true then
     some (true)
    else
     some (false)) fun k6=>
   if(decide (57343<a0))=true then
    k6 (decide (a0≤1114111))
   else
    k6 false) fun k2=>
 if(decide (0≤a0))=true then
  k2 (decide (a0<55296))
 else
  k2 false
def Bi (N:Nat) (a0:(List UInt8)) (a1:Int) (j19:Int) (k29:(Unit→Option (Int))):Nat→Int→Option (Int)
  |0,s12=>
  k29 ()
  |k+1,s12=>
  Option.bind (idx a0 (wr .i64 (j19-s12))) fun x33=>
  Option.bind (idx (GX a1) (wr .i64 ((wr .i64 (((GX a1).length:Int)-1))-s12))) fun x34=>
  if((AV x33) !=(AV x34))=true then
   (none:Option (Int))
  else
   Bi N a0 a1 j19 k29 k (s12+1)
def Dv (N:Nat) (a0:(List UInt8)) (a1:Int) (k15:(Unit→Option (Int))):Nat→Int→Option (Int)
  |0,_=>none
  |k+1,s9=>
  if(decide (s9<(a0.length:Int)))=true then
   AO (fun j19:Int=>
    AO (fun j28:Unit=>
     some ((wr .i64 (j19-(wr .i64 (((GX a1).length:Int)-1)))))) fun k29=>
    grd ((-4611686018427387904:Int)≤1∧(((GX a1).length:Int):Int)≤4611686018427387904) (
     Bi N a0 a1 j19 k29 ((((GX a1).length:Int):Int)-1).toNat 1)) fun k20=>
   Option.bind (idx a0 s9) fun x23=>
   Option.bind (idx (GX a1) (wr .i64 (((GX a1).length:Int)-1))) fun x24=>
   if((AV x23) !=(AV x24))=true then
    Option.bind (sub a0 (wr .i64 (s9+1)) (a0.length:Int)) fun x25=>
    Option.bind (strings_IndexByte N x25 (AV x24)) fun y26=>
    if(decide (y26<0))=true then
     some ((-1))
    else
     k20 (wr .i64 (s9+(wr .i64 (y26+1))))
   else
    k20 s9
  else
   k15 ()
def Cz (N:Nat) (a0:(List UInt8)) (k8:(Unit→Option (Int))):Nat→Nat→Option (Int)
  |0,_=>none
  |k+1,s175=>
  if(decide (s175<a0.length))=true then
   if(((Bp a0 s175).1:Int)==65533)=true then
    some (((s175:Nat):Int))
   else
    Cz N a0 k8 k (s175+(Bp a0 s175).2)
  else
   k8 ()
def Es (N:Nat) (a0:(List UInt8)) (a1:Int):Option (Int):=
 AO (fun j1:Bool=>
  if j1=true then
   Option.bind (strings_IndexByte N a0 (wr .u8 a1)) fun y5=>
   some (y5)
  else
   if(a1==65533)=true then
    AO (fun j7:Unit=>
     some ((-1))) fun k8=>
    Cz N a0 k8 N 0
   else
    Option.bind (EU N a1) fun y12=>
    if y12=true then
     AO (fun j14:Unit=>
      some ((-1))) fun k15=>
     Dv N a0 a1 k15 N (wr .i64 (((GX a1).length:Int)-1))
    else
     some ((-1))) fun k2=>
 if(decide (0≤a1))=true then
  k2 (decide (a1<128))
 else
  k2 false
def strings_shouldUseASCIISet (N:Nat) (a0:Int):Option (Bool):=
 some ((decide (a0>8)))
def BS (N:Nat) (k2:((List Bool)→Option ((List Bool)×Bool))):List UInt8→(List Bool)→Option ((List Bool)×Bool)
  |[],bn=>
  k2 bn
  |xk5::xs,bn=>
  if(decide ((AV xk5)≥128))=true then
   grd (bn.length=256) (
   some (bn,false))
  else
   grd (0≤(AV xk5)∧(AV xk5)<256) (
   grd ((AV xk5).toNat+1≤bn.length) (
   BS N k2 xs (bn.set ((AV xk5).toNat) true)))
def strings_makeASCIISet (N:Nat) (a0:(List UInt8)):Option ((List Bool)×Bool):=
 AO (fun j1:(List Bool)=>
  grd (j1.length=256) (
  some (j1,true))) fun k2=>
 grd (Ak (a0.length)) (
  BS N k2 a0 (AEk 256))
def Dr (N:Nat) (a0:(List Bool)) (a1:Int):Option (Bool×(List Bool)):=
 grd (0≤a1∧a1<256) (
 Option.bind (idx a0 a1) fun x1=>
 some (x1,a0))
def DD (N:Nat) (a0:(List UInt8)) (a1:(List UInt8)) (k24:(Unit→Option (Int))):Nat→Nat→Option (Int)
  |0,_=>none
  |k+1,s45=>
  if(decide (s45<a0.length))=true then
   Option.bind (Es N a1 ((Bp a0 s45).1:Int)) fun y28=>
   if(decide (y28≥0))=true then
    some (((s45:Nat):Int))
   else
    DD N a0 a1 k24 k (s45+(Bp a0 s45).2)
  else
   k24 ()
def Br (N:Nat) (k17:((List Bool)→Option (Int))):List UInt8→Int→(List Bool)→Option (Int)
  |[],s8,QZ=>
  k17 QZ
  |xk20::xs,s8,QZ=>
  Option.bind (Dr N QZ (AV xk20)) fun y21=>
  if y21.1=true then
   some (s8)
  else
   Br N k17 xs (s8+1) y21.2
def strings_IndexAny (N:Nat) (a0:(List UInt8)) (a1:(List UInt8)):Option (Int):=
 if(a1==[])=true then
  some ((-1))
 else
  if((a1.length:Int)==1)=true then
   Option.bind (idx a1 0) fun x1=>
   AO (fun j2:Int=>
    Option.bind (Es N a0 j2) fun y6=>
    some (y6)) fun k3=>
   if(decide ((wr .i32 (AV x1))≥128))=true then
    k3 65533
   else
    k3 (wr .i32 (AV x1))
  else
   AO (fun j8:Unit=>
    AO (fun j23:Unit=>
     some ((-1))) fun k24=>
    DD N a0 a1 k24 N 0) fun k9=>
   Option.bind (strings_shouldUseASCIISet N (a0.length:Int)) fun y12=>
   if y12=true then
    Option.bind (strings_makeASCIISet N a1) fun y14=>
    grd ((AEk 256).length=256) (
    grd (y14.1.length=256) (
    if y14.2=true then
     AO (fun j16:(List Bool)=>
      some ((-1))) fun k17=>
     grd (Ak (a0.length)) (
      Br N k17 a0 0 y14.1)
    else
     k9 ()))
   else
    k9 ()
def D7 (N:Nat) (k2:(Unit→Option (Bool))):List UInt8→Int→Option (Bool)
  |[],s6=>
  k2 ()
  |xk5::xs,s6=>
  AO (fun j6:Bool=>
   if j6=true then
    some (false)
   else
    D7 N k2 xs (s6+1)) fun k7=>
  Option.bind (FV N (AV xk5)) fun y10=>
  if y10=true then
   k7 false
  else
   if(s6==0)=true then
    k7 true
   else
    Option.bind (CP N (AV xk5)) fun y12=>
    if y12=true then
     k7 false
    else
     Option.bind (strings_IndexByte N ([43,45,46]:List UInt8) (AV xk5)) fun y14=>
     k7 (decide (y14<0))
def LD (N:Nat) (a0:(List UInt8)):Option (Bool):=
 AO (fun j1:Unit=>
  some ((!(a0==[])))) fun k2=>
 grd (Ak (a0.length)) (
  D7 N k2 a0 0)
def I1 (N:Nat) (a0:(List UInt8)):Option (ApiURI×Int):=
 if(decide ((a0.length:Int)>16384))=true then
  some ((ApiURI.mk [] [] [] [] [] false false false false),5)
 else
  Option.bind (strings_Cut N a0 ([35]:List UInt8)) fun y1=>
  Option.bind (strings_Cut N y1.1 ([63]:List UInt8)) fun y3=>
  AO (fun j5:(List UInt8)×(List UInt8)×Bool=>
   AO (fun j20:(List UInt8)×(List UInt8)×Bool=>
    some ((ApiURI.mk j5.2.1 j20.2.1 j20.1 y3.2.1 y1.2.1 j5.2.2 j20.2.2 y3.2.2 y1.2.2),0)) fun k21=>
   Option.bind (strings_CutPrefix N j5.1 ([47,47]:List UInt8)) fun y24=>
   if y24.2=true then
    Option.bind (strings_IndexByte N y24.1 47) fun y26=>
    AO (fun j28:Int=>
     Option.bind (sub y24.1 0 j28) fun x32=>
     Option.bind (sub y24.1 j28 (y24.1.length:Int)) fun x33=>
     k21 (x33,x32,true)) fun k29=>
    if(decide (y26<0))=true then
     k29 (y24.1.length:Int)
    else
     k29 y26
   else
    k21 (j5.1,[],false)) fun k6=>
  Option.bind (strings_IndexAny N y3.1 ([58,47]:List UInt8)) fun y9=>
  AO (fun j11:Bool=>
   if j11=true then
    Option.bind (sub y3.1 0 y9) fun x16=>
    Option.bind (LD N x16) fun y17=>
    if y17=true then
     Option.bind (sub y3.1 (wr .i64 (y9+1)) (y3.1.length:Int)) fun x19=>
     k6 (x19,x16,true)
    else
     some ((ApiURI.mk [] [] [] [] [] false false false false),6)
   else
    k6 (y3.1,[],false)) fun k12=>
  if(decide (y9≥0))=true then
   Option.bind (idx y3.1 y9) fun x15=>
   k12 ((AV x15)==58)
  else
   k12 false
def Dh (N:Nat) (a0:(List UInt8)) (k2:((List Int)→Option ((List UInt8)))):List UInt8→Int→(List Int)→Option ((List UInt8))
  |[],s10,bn=>
  k2 bn
  |xk5::xs,s10,bn=>
  AO (fun j6:(List Int)=>
   Dh N a0 k2 xs (s10+1) j6) fun k7=>
  grd (0≤s10∧s10<(a0.length:Int)) (
  Option.bind (idx bn s10) fun x10=>
  AO (fun j11:Bool=>
   if j11=true then
    grd (s10.toNat+1≤bn.length) (
    k7 (bn.set s10.toNat (wr .u8 (x10+32))))
   else
    k7 bn) fun k12=>
  if(decide (65≤x10))=true then
   k12 (decide (x10≤90))
  else
   k12 false)
def Gt (N:Nat) (a0:(List UInt8)):Option ((List UInt8)):=
 AO (fun j1:(List Int)=>
  grd (a0.length≤j1.length∧Ak a0.length) (
  some ((List.map FQ (List.take a0.length j1))))) fun k2=>
 grd (Ak (a0.length)) (
  Dh N a0 k2 a0 0 (List.map AV a0))
def IM (N:Nat) (a0:(List UInt8)) (a1:(List UInt8)):Option (Bool):=
 Option.bind (Gt N a0) fun y1=>
 Option.bind (Gt N a1) fun y3=>
 some ((y1==y3))
def Ay (N:Nat) (k2:(Unit→Option (Bool))):List UInt8→Option (Bool)
  |[]=>
  k2 ()
  |xk5::xs=>
  Option.bind (CP N (AV xk5)) fun y6=>
  if y6=true then
   Ay N k2 xs
  else
   some (false)
def De (N:Nat) (a0:(List UInt8)):Option (Bool):=
 AO (fun j1:Unit=>
  some (true)) fun k2=>
 grd (Ak (a0.length)) (
  Ay N k2 a0)
def HY (N:Nat) (a0:(List UInt8)):Option (Bool):=
 if(a0==[])=true then
  some (false)
 else
  Option.bind (De N a0) fun y1=>
  some (y1)
def JS (N:Nat) (a0:Int):Option (Int):=
 Option.bind (CP N a0) fun y1=>
 if y1=true then
  some ((wr .u64 (wr .u8 (a0-48))))
 else
  some ((wr .u64 ((wr .u64 (wr .u8 ((HV .u8 a0 32)-97)))+10)))
def Ao (N:Nat) (a1:Int) (a2:Int) (k9:(Int→Option (Int×Int))):List UInt8→Int→Option (Int×Int)
  |[],s11=>
  k9 s11
  |xk12::xs,s11=>
  Option.bind (JS N (AV xk12)) fun y13=>
  AO (fun j15:Bool=>
   if j15=true then
    some (0,4)
   else
    Ao N a1 a2 k9 xs (wr .u64 ((wr .u64 (s11 * a1))+y13))) fun k16=>
  grd (a1≠0) (
  if(decide (s11>(wr .u64 ((wr .u64 (18446744073709551615-y13)).tdiv a1))))=true then
   k16 true
  else
   k16 (decide ((wr .u64 ((wr .u64 (s11 * a1))+y13))>a2)))
def Ap (N:Nat) (k2:(Unit→Option (Int×Int))):List UInt8→Option (Int×Int)
  |[]=>
  k2 ()
  |xk5::xs=>
  Option.bind (CP N (AV xk5)) fun y6=>
  if y6=true then
   Ap N k2 xs
  else
   some (0,1)
def DK (N:Nat) (a0:(List UInt8)) (a1:Int) (a2:Int):Option (Int×Int):=
 if(a0==[])=true then
  some (0,3)
 else
  AO (fun j1:Unit=>
   AO (fun j8:Int=>
    some (j8,0)) fun k9=>
   grd (Ak (a0.length)) (
    Ao N a1 a2 k9 a0 0)) fun k2=>
  grd (Ak (a0.length)) (
   Ap N k2 a0)
def Jb (N:Nat) (a0:(List UInt8)) (a1:Int):Option (Int×Int):=
 Option.bind (DK N a0 10 a1) fun y1=>
 some (y1.1,y1.2)
def Gm (N:Nat) (a0:(List UInt8)) (a1:Int):Option (Int×Int):=
 AO (fun j1:Bool=>
  if j1=true then
   some (0,6)
  else
   Option.bind (Jb N a0 a1) fun y8=>
   some (y8.1,y8.2)) fun k2=>
 Option.bind (HY N a0) fun y5=>
 if y5=true then
  if(decide ((a0.length:Int)>1))=true then
   Option.bind (idx a0 0) fun x7=>
   k2 ((AV x7)==48)
  else
   k2 false
 else
  k2 false
def CW (N:Nat) (j3:Int) (k12:((List UInt8)×(List (List UInt8))→Option ((List (List UInt8))))):Nat→Int→(List UInt8)→(List (List UInt8))→Option ((List (List UInt8)))
  |0,s7,s0,bn6=>
  k12 (s0,bn6)
  |k+1,s7,s0,bn6=>
  Option.bind (Bh N s0) fun y16=>
  Option.bind (sub s0 0 y16.2) fun x18=>
  grd (0≤s7∧s7<(j3.toNat:Int)) (
  grd (s7.toNat+1≤bn6.length) (
  Option.bind (sub s0 y16.2 (s0.length:Int)) fun x19=>
  CW N j3 k12 k (s7+1) x19 (bn6.set s7.toNat x18)))
def Gv (N:Nat) (a0:(List UInt8)) (a1:Int):Option ((List (List UInt8))):=
 Option.bind (Bo N a0) fun y1=>
 AO (fun j3:Int=>
  grd (M5 j3 16) (
  AO (fun j11:(List UInt8)×(List (List UInt8))=>
   AO (fun j20:(List (List UInt8))=>
    (none:Option ((List (List UInt8))))) fun k21=>
   if(decide (j3>0))=true then
    grd (0≤(wr .i64 (j3-1))∧(wr .i64 (j3-1))<(j3.toNat:Int)) (
    grd ((wr .i64 (j3-1)).toNat+1≤j11.2.length) (
    k21 (j11.2.set ((wr .i64 (j3-1)).toNat) j11.1)))
   else
    k21 j11.2) fun k12=>
  grd ((-4611686018427387904:Int)≤0∧((wr .i64 (j3-1)):Int)≤4611686018427387904) (
   CW N j3 k12 (((wr .i64 (j3-1)):Int)-0).toNat 0 a0 (List.replicate j3.toNat ([]:List UInt8))))) fun k4=>
 AO (fun j7:Bool=>
  if j7=true then
   k4 y1
  else
   k4 a1) fun k8=>
 if(decide (a1<0))=true then
  k8 true
 else
  k8 (decide (a1>y1))
def Bu (N:Nat) (a0:(List UInt8)) (a1:(List UInt8)) (a2:Int) (j3:Int) (k10:((List UInt8)×Int×(List (List UInt8))→Option ((List (List UInt8))))):Nat→Int→(List UInt8)→(List (List UInt8))→Option ((List (List UInt8)))
  |0,s10,s0,bn6=>
  k10 (s0,s10,bn6)
  |k+1,s10,s0,bn6=>
  Option.bind (strings_Index N s0 a1) fun y14=>
  if(decide (y14<0))=true then
   k10 (s0,s10,bn6)
  else
   Option.bind (sub s0 0 (wr .i64 (y14+a2))) fun x16=>
   grd (0≤s10∧s10<((if(wr .i64 ((a0.length:Int)+1))<j3 then(wr .i64 ((a0.length:Int)+1))else j3).toNat:Int)) (
   grd (s10.toNat+1≤bn6.length) (
   Option.bind (sub s0 (wr .i64 (y14+(a1.length:Int))) (s0.length:Int)) fun x17=>
   Bu N a0 a1 a2 j3 k10 k (s10+1) x17 (bn6.set s10.toNat x16)))
def strings_genSplit (N:Nat) (a0:(List UInt8)) (a1:(List UInt8)) (a2:Int) (a3:Int):Option ((List (List UInt8))):=
 if(a3==0)=true then
  (none:Option ((List (List UInt8))))
 else
  if(a1==[])=true then
   Option.bind (Gv N a0 a3) fun y1=>
   (none:Option ((List (List UInt8))))
  else
   AO (fun j3:Int=>
    grd (M5 (if(wr .i64 ((a0.length:Int)+1))<j3 then(wr .i64 ((a0.length:Int)+1))else j3) 16) (
    AO (fun j9:(List UInt8)×Int×(List (List UInt8))=>
     grd (0≤j9.2.1∧j9.2.1<((if(wr .i64 ((a0.length:Int)+1))<j3 then(wr .i64 ((a0.length:Int)+1))else j3).toNat:Int)) (
     grd (j9.2.1.toNat+1≤j9.2.2.length) (
     grd (0≤(wr .i64 (j9.2.1+1))∧(wr .i64 (j9.2.1+1))≤((if(wr .i64 ((a0.length:Int)+1))<j3 then(wr .i64 ((a0.length:Int)+1))else j3).toNat:Int)) (
     grd ((wr .i64 (j9.2.1+1)).toNat≤j9.2.2.length) (
     some (List.take ((wr .i64 (j9.2.1+1)).toNat) (j9.2.2.set j9.2.1.toNat j9.1))))))) fun k10=>
    grd ((-4611686018427387904:Int)≤0∧((wr .i64 ((if(wr .i64 ((a0.length:Int)+1))<j3 then(wr .i64 ((a0.length:Int)+1))else j3)-1)):Int)≤4611686018427387904) (
     Bu N a0 a1 a2 j3 k10 (((wr .i64 ((if(wr .i64 ((a0.length:Int)+1))<j3 then(wr .i64 ((a0.length:Int)+1))else j3)-1)):Int)-0).toNat 0 a0 (List.replicate (if(wr .i64 ((a0.length:Int)+1))<j3 then(wr .i64 ((a0.length:Int)+1))else j3).toNat ([]:List UInt8))))) fun k4=>
   if(decide (a3<0))=true then
    Option.bind (strings_Count N a0 a1) fun y7=>
    k4 (wr .i64 (y7+1))
   else
    k4 a3
def strings_Split (N:Nat) (a0:(List UInt8)) (a1:(List UInt8)):Option ((List (List UInt8))):=
 Option.bind (strings_genSplit N a0 a1 0 (-1)) fun y1=>
 some (y1)
def DX (N:Nat) (k4:(Unit→Option (Bool))):List (List UInt8)→Option (Bool)
  |[]=>
  k4 ()
  |xk7::xs=>
  Option.bind (Gm N xk7 255) fun y8=>
  if(y8.2 !=0)=true then
   some (false)
  else
   DX N k4 xs
def Jq (N:Nat) (a0:(List UInt8)):Option (Bool):=
 Option.bind (strings_Split N a0 ([46]:List UInt8)) fun y1=>
 if((y1.length:Int) !=4)=true then
  some (false)
 else
  AO (fun j3:Unit=>
   some (true)) fun k4=>
  grd (Ak (y1.length)) (
   DX N k4 y1)
def D8 (N:Nat) (k8:(Unit→Option (Bool))):List UInt8→Option (Bool)
  |[]=>
  k8 ()
  |xk11::xs=>
  AO (fun j12:Bool=>
   if j12=true then
    some (false)
   else
    D8 N k8 xs) fun k13=>
  Option.bind (FV N (AV xk11)) fun y16=>
  if y16=true then
   k13 false
  else
   Option.bind (CP N (AV xk11)) fun y18=>
   if y18=true then
    k13 false
   else
    k13 ((AV xk11) !=45)
def K4 (N:Nat) (a0:(List UInt8)):Option (Bool):=
 AO (fun j1:Bool=>
  if j1=true then
   some (false)
  else
   AO (fun j7:Unit=>
    some (true)) fun k8=>
   grd (Ak (a0.length)) (
    D8 N k8 a0)) fun k2=>
 if(a0==[])=true then
  k2 true
 else
  if(decide ((a0.length:Int)>63))=true then
   k2 true
  else
   Option.bind (idx a0 0) fun x5=>
   if((AV x5)==45)=true then
    k2 true
   else
    Option.bind (idx a0 (wr .i64 ((a0.length:Int)-1))) fun x6=>
    k2 ((AV x6)==45)
def F4 (N:Nat):Nat→(List UInt8)→Option (Bool)
  |0,_=>none
  |k+1,s0=>
  Option.bind (strings_Cut N s0 ([46]:List UInt8)) fun y2=>
  Option.bind (K4 N y2.1) fun y4=>
  if y4=true then
   if y2.2.2=true then
    F4 N k y2.2.1
   else
    Option.bind (HY N y2.1) fun y6=>
    some ((!y6))
  else
   some (false)
def Mm (N:Nat) (a0:(List UInt8)):Option (Bool):=
 F4 N N a0
def Mk (N:Nat) (a0:(List UInt8)):Option ((List UInt8)×Int):=
 if(a0==[])=true then
  some ([],3)
 else
  if(decide ((a0.length:Int)>253))=true then
   some ([],5)
  else
   AO (fun j1:Bool=>
    if j1=true then
     some ([],50)
    else
     Option.bind (Gt N a0) fun y9=>
     some (y9,0)) fun k2=>
   Option.bind (Jq N a0) fun y5=>
   if y5=true then
    k2 false
   else
    Option.bind (Mm N a0) fun y7=>
    k2 (!y7)
def Md (N:Nat) (a0:(List UInt8)):Option (Int×Int):=
 Option.bind (Gm N a0 65535) fun y1=>
 AO (fun j3:Bool=>
  if j3=true then
   some (0,51)
  else
   some ((wr .i64 y1.1),0)) fun k4=>
 if(y1.2 !=0)=true then
  k4 true
 else
  k4 (y1.1==0)
def Kz (N:Nat) (a0:(List UInt8)):Option (ApiHostPort×Int):=
 Option.bind (strings_Cut N a0 ([58]:List UInt8)) fun y1=>
 Option.bind (Mk N y1.1) fun y3=>
 if(y3.2 !=0)=true then
  some ((ApiHostPort.mk [] 0),y3.2)
 else
  AO (fun j5:Int=>
   AO (fun j11:Int=>
    some ((ApiHostPort.mk y3.1 j11),0)) fun k12=>
   if(j5==443)=true then
    k12 0
   else
    k12 j5) fun k6=>
  if y1.2.2=true then
   Option.bind (Md N y1.2.1) fun y9=>
   if(y9.2 !=0)=true then
    some ((ApiHostPort.mk [] 0),y9.2)
   else
    k6 y9.1
  else
   k6 0
def Cn (N:Nat) (a0:(List UInt8)) (a1:(List UInt8)):Option ((List UInt8)):=
 Option.bind (BU N a0 a1) fun y1=>
 if y1=true then
  Option.bind (sub a0 (a1.length:Int) (a0.length:Int)) fun x3=>
  some (x3)
 else
  some (a0)
def strings_TrimPrefix (N:Nat) (a0:(List UInt8)) (a1:(List UInt8)):Option ((List UInt8)):=
 Option.bind (Cn N a0 a1) fun y1=>
 some (y1)
def Aq (N:Nat) (a0:(List UInt8)) (a1:Int) (k2:(Unit→Option (Int))):Nat→Int→Option (Int)
  |0,_=>none
  |k+1,s5=>
  if(decide (s5≥0))=true then
   Option.bind (idx a0 s5) fun x6=>
   if((AV x6)==a1)=true then
    some (s5)
   else
    Aq N a0 a1 k2 k (wr .i64 (s5-1))
  else
   k2 ()
def Bq (N:Nat) (a0:(List UInt8)) (a1:Int):Option (Int):=
 AO (fun j1:Unit=>
  some ((-1))) fun k2=>
 Aq N a0 a1 k2 N (wr .i64 ((a0.length:Int)-1))
def strings_LastIndexByte (N:Nat) (a0:(List UInt8)) (a1:Int):Option (Int):=
 Option.bind (Bq N a0 a1) fun y1=>
 some (y1)
def BM (N:Nat):Nat→(List UInt8)→Nat→(List Int)→Option ((List UInt8))
  |0,_,_,_=>none
  |k+1,s0,s3_len,bq3=>
  if(s0==[])=true then
   grd (s3_len≤bq3.length∧Ak s3_len) (
   some ((List.map FQ (List.take s3_len bq3))))
  else
   Option.bind (strings_HasPrefix N s0 ([46,46,47]:List UInt8)) fun y2=>
   if y2=true then
    Option.bind (sub s0 3 (s0.length:Int)) fun x4=>
    BM N k x4 s3_len bq3
   else
    Option.bind (strings_HasPrefix N s0 ([46,47]:List UInt8)) fun y5=>
    if y5=true then
     Option.bind (sub s0 2 (s0.length:Int)) fun x7=>
     BM N k x7 s3_len bq3
    else
     Option.bind (strings_HasPrefix N s0 ([47,46,47]:List UInt8)) fun y8=>
     if y8=true then
      Option.bind (sub s0 2 (s0.length:Int)) fun x10=>
      BM N k x10 s3_len bq3
     else
      if(s0==([47,46]:List UInt8))=true then
       BM N k ([47]:List UInt8) s3_len bq3
      else
       AO (fun j11:Bool=>
        if j11=true then
         Option.bind (sub s0 3 (s0.length:Int)) fun x17=>
         Option.bind (strings_TrimPrefix N x17 ([47]:List UInt8)) fun y18=>
         grd (Ak (([47]:List UInt8).length+y18.length)) (
         grd (s3_len≤bq3.length∧Ak s3_len) (
         Option.bind (strings_LastIndexByte N (List.map FQ (List.take s3_len bq3)) 47) fun y20=>
         grd (0≤(if y20>0 then y20 else 0)∧(if y20>0 then y20 else 0)≤(s3_len:Int)) (
         BM N k (([47]:List UInt8)++y18) ((if y20>0 then y20 else 0).toNat) bq3)))
        else
         AO (fun j22:Bool=>
          if j22=true then
           BM N k [] s3_len bq3
          else
           Option.bind (sub s0 1 (s0.length:Int)) fun x26=>
           Option.bind (strings_IndexByte N x26 47) fun y27=>
           AO (fun j29:Int=>
            Option.bind (sub s0 0 j29) fun x33=>
            grd (s3_len≤bq3.length∧Ck (s3_len+x33.length) 1) (
            Option.bind (sub s0 j29 (s0.length:Int)) fun x35=>
            BM N k x35 (s3_len+x33.length) (List.take s3_len bq3++List.map AV x33))) fun k30=>
           if((wr .i64 (1+y27))==0)=true then
            k30 (s0.length:Int)
           else
            k30 (wr .i64 (1+y27))) fun k23=>
         if(s0==([46]:List UInt8))=true then
          k23 true
         else
          k23 (s0==([46,46]:List UInt8))) fun k12=>
       Option.bind (strings_HasPrefix N s0 ([47,46,46,47]:List UInt8)) fun y15=>
       if y15=true then
        k12 true
       else
        k12 (s0==([47,46,46]:List UInt8))
def EE (N:Nat) (a0:(List UInt8)):Option ((List UInt8)):=
 grd (Nw 0 (a0.length:Int) 1) (
 BM N N a0 ((0:Int).toNat) (List.replicate (0:Int).toNat 0))
def F8 (N:Nat) (a0:(List UInt8)):Option (ApiURL×Int):=
 if(decide ((a0.length:Int)>4096))=true then
  some ((ApiURL.mk [] 0 [] [] [] false false),5)
 else
  Option.bind (I1 N a0) fun y1=>
  if(y1.2 !=0)=true then
   some ((ApiURL.mk [] 0 [] [] [] false false),y1.2)
  else
   AO (fun j3:Bool=>
    if j3=true then
     some ((ApiURL.mk [] 0 [] [] [] false false),60)
    else
     if y1.1.hasAuthority=true then
      Option.bind (strings_Contains N y1.1.authority ([64]:List UInt8)) fun y9=>
      if y9=true then
       some ((ApiURL.mk [] 0 [] [] [] false false),70)
      else
       Option.bind (Kz N y1.1.authority) fun y11=>
       if(y11.2 !=0)=true then
        some ((ApiURL.mk [] 0 [] [] [] false false),y11.2)
       else
        Option.bind (Bf N y1.1.path ([33,36,38,39,40,41,42,43,44,59,61,58,64,47]:List UInt8)) fun y13=>
        if(y13.2 !=0)=true then
         some ((ApiURL.mk [] 0 [] [] [] false false),y13.2)
        else
         Option.bind (Bf N y1.1.query ([33,36,38,39,40,41,42,43,44,59,61,58,64,47,63]:List UInt8)) fun y15=>
         if(y15.2 !=0)=true then
          some ((ApiURL.mk [] 0 [] [] [] false false),y15.2)
         else
          Option.bind (Bf N y1.1.fragment ([33,36,38,39,40,41,42,43,44,59,61,58,64,47,63]:List UInt8)) fun y17=>
          if(y17.2 !=0)=true then
           some ((ApiURL.mk [] 0 [] [] [] false false),y17.2)
          else
           AO (fun j19:(List UInt8)=>
            Option.bind (Eh N (ApiURL.mk y11.1.host y11.1.port j19 y15.1 y17.1 y1.1.hasQuery y1.1.hasFrag)) fun y25=>
            if(decide ((y25.length:Int)>4096))=true then
             some ((ApiURL.mk [] 0 [] [] [] false false),5)
            else
             some ((ApiURL.mk y11.1.host y11.1.port j19 y15.1 y17.1 y1.1.hasQuery y1.1.hasFrag),0)) fun k20=>
           Option.bind (EE N y13.1) fun y23=>
           if(y23==[])=true then
            k20 ([47]:List UInt8)
           else
            k20 y23
     else
      some ((ApiURL.mk [] 0 [] [] [] false false),71)) fun k4=>
   if y1.1.hasScheme=true then
    Option.bind (IM N y1.1.scheme ([104,116,116,112,115]:List UInt8)) fun y7=>
    k4 (!y7)
   else
    k4 true
def JW (N:Nat) (a0:ApiURL):Option (Bool):=
 Option.bind (Eh N a0) fun y1=>
 Option.bind (F8 N y1) fun y3=>
 if(y3.2==0)=true then
  some ((a0.host==y3.1.host&&(a0.port==y3.1.port&&(a0.path==y3.1.path&&(a0.query==y3.1.query&&(a0.fragment==y3.1.fragment&&(a0.hasQuery==y3.1.hasQuery&&a0.hasFrag==y3.1.hasFrag)))))))
 else
  some (false)
def MP (N:Nat) (a0:ApiURI) (a1:ApiURI):Option ((List UInt8)):=
 Option.bind (strings_HasPrefix N a1.path ([47]:List UInt8)) fun y1=>
 if y1=true then
  some (a1.path)
 else
  AO (fun j3:Bool=>
   if j3=true then
    grd (Ak (([47]:List UInt8).length+a1.path.length)) (
    some ((([47]:List UInt8)++a1.path)))
   else
    Option.bind (strings_LastIndexByte N a0.path 47) fun y7=>
    Option.bind (sub a0.path 0 (wr .i64 (y7+1))) fun x9=>
    grd (Ak (x9.length+a1.path.length)) (
    some ((x9++a1.path)))) fun k4=>
  if a0.hasAuthority=true then
   k4 (a0.path==[])
  else
   k4 false
def KP (N:Nat) (a0:ApiURI) (a1:ApiURI):Option (ApiURI):=
 AO (fun j1:(List UInt8)×(List UInt8)×Bool=>
  AO (fun j13:(List UInt8)×Bool=>
   some ((ApiURI.mk a0.scheme j13.1 j1.1 j1.2.1 a1.fragment a0.hasScheme j13.2 j1.2.2 a1.hasFrag))) fun k14=>
  if a1.hasAuthority=true then
   k14 (a1.authority,a1.hasAuthority)
  else
   k14 (a0.authority,a0.hasAuthority)) fun k2=>
 if a1.hasScheme=true then
  Option.bind (EE N a1.path) fun y5=>
  some ((ApiURI.mk a1.scheme a1.authority y5 a1.query a1.fragment a1.hasScheme a1.hasAuthority a1.hasQuery a1.hasFrag))
 else
  if a1.hasAuthority=true then
   Option.bind (EE N a1.path) fun y7=>
   k2 (y7,a1.query,a1.hasQuery)
  else
   if(a1.path==[])=true then
    if a1.hasQuery=true then
     k2 (a0.path,a1.query,a1.hasQuery)
    else
     k2 (a0.path,a0.query,a0.hasQuery)
   else
    Option.bind (MP N a0 a1) fun y9=>
    Option.bind (EE N y9) fun y11=>
    k2 (y11,a1.query,a1.hasQuery)
def EA (N:Nat) (a0:Bool):List (List UInt8)→StringsBuilder→Option (StringsBuilder)
  |[],bi2=>
  some (bi2)
  |xk1::xs,bi2=>
  AO (fun j2:StringsBuilder=>
   EA N a0 xs j2) fun k3=>
  if a0=true then
   Option.bind (Ai N bi2 xk1) fun y6=>
   k3 y6.2.2
  else
   k3 bi2
def Fe (N:Nat) (a0:Bool) (a1:(List (List UInt8))) (a2:StringsBuilder):Option (StringsBuilder):=
 grd (Ak (a1.length)) (
  EA N a0 a1 a2)
def Ns (N:Nat) (a0:ApiURI):Option ((List UInt8)):=
 letL ([a0.scheme,([58]:List UInt8)]:(List (List UInt8))) fun l1=>
 Option.bind (Fe N a0.hasScheme l1 (StringsBuilder.mk false [])) fun y2=>
 letL ([([47,47]:List UInt8),a0.authority]:(List (List UInt8))) fun l4=>
 Option.bind (Fe N a0.hasAuthority l4 y2) fun y5=>
 Option.bind (Fe N true [a0.path] y5) fun y7=>
 letL ([([63]:List UInt8),a0.query]:(List (List UInt8))) fun l9=>
 Option.bind (Fe N a0.hasQuery l9 y7) fun y10=>
 letL ([([35]:List UInt8),a0.fragment]:(List (List UInt8))) fun l12=>
 Option.bind (Fe N a0.hasFrag l12 y10) fun y13=>
 Option.bind (DN N y13) fun y15=>
 some (y15.1)
def Gz (N:Nat) (a0:ApiURL) (a1:(List UInt8)):Option (ApiURL×Int):=
 Option.bind (JW N a0) fun y1=>
 if y1=true then
  Option.bind (Eh N a0) fun y3=>
  Option.bind (I1 N y3) fun y5=>
  Option.bind (I1 N a1) fun y7=>
  if(y7.2 !=0)=true then
   some ((ApiURL.mk [] 0 [] [] [] false false),y7.2)
  else
   Option.bind (KP N y5.1 y7.1) fun y9=>
   Option.bind (IM N y9.scheme ([104,116,116,112,115]:List UInt8)) fun y11=>
   if y11=true then
    Option.bind (Ns N y9) fun y13=>
    Option.bind (F8 N y13) fun y15=>
    some (y15.1,y15.2)
   else
    some ((ApiURL.mk [] 0 [] [] [] false false),253)
 else
  some ((ApiURL.mk [] 0 [] [] [] false false),8)
def IY (N:Nat) (a0:ApiValue) (a1:ApiDIDURL):Option ((List UInt8)×Int):=
 Option.bind (Ia N a0) fun y1=>
 if(y1.2 !=0)=true then
  some ([],y1.2)
 else
  Option.bind (JK N a1) fun y3=>
  Option.bind (IU N y3 ([115,101,114,118,105,99,101]:List UInt8)) fun y5=>
  AO (fun j7:(List (List UInt8))×Bool=>
   AO (fun j15:Bool=>
    if j15=true then
     some ([],290)
    else
     if((j7.1.length:Int)==0)=true then
      some ([],292)
     else
      Option.bind (idx j7.1 0) fun x19=>
      Option.bind (F8 N x19) fun y20=>
      AO (fun j22:Int×ApiURL=>
       if(j22.1 !=0)=true then
        some ([],292)
       else
        AO (fun j34:(List UInt8)×Bool=>
         Option.bind (Eh N (ApiURL.mk j22.2.host j22.2.port j22.2.path j22.2.query j34.1 j22.2.hasQuery j34.2)) fun y42=>
         if(decide ((y42.length:Int)>4096))=true then
          some ([],292)
         else
          some (y42,0)) fun k35=>
        AO (fun j38:Bool=>
         if j38=true then
          k35 (a1.fragment,true)
         else
          k35 (j22.2.fragment,j22.2.hasFrag)) fun k39=>
        if a1.hasFrag=true then
         k39 (!j22.2.hasFrag)
        else
         k39 false) fun k23=>
      Option.bind (IU N y3 ([114,101,108,97,116,105,118,101,82,101,102]:List UInt8)) fun y26=>
      AO (fun j28:Bool=>
       if j28=true then
        Option.bind (Gz N y20.1 y26.1) fun y32=>
        k23 (y32.2,y32.1)
       else
        k23 (y20.2,y20.1)) fun k29=>
      if y26.2=true then
       k29 (y20.2==0)
      else
       k29 false) fun k16=>
   if y5.2=true then
    k16 (!j7.2)
   else
    k16 true) fun k8=>
  Option.bind (Ej N a1.dID) fun y11=>
  grd (Ak (y11.length+([35]:List UInt8).length)) (
  grd (Ak ((y11++([35]:List UInt8)).length+y5.1.length)) (
  Option.bind (Gw N y1.1 ((y11++([35]:List UInt8))++y5.1)) fun y13=>
  k8 (y13.1,y13.2)))
def JJ (N:Nat):Option (Bool):=
 Option.bind (KH N ([123,34,105,100,34,58,34,100,105,100,58,119,101,98,58,97,46,101,120,97,109,112,108,101,34,44,34,115,101,114,118,105,99,101,34,58,91,123,34,105,100,34,58,34,35,102,105,108,101,115,34,44,34,116,121,112,101,34,58,34,88,34,44,34,115,101,114,118,105,99,101,69,110,100,112,111,105,110,116,34,58,34,104,116,116,112,115,58,47,47,97,46,101,120,97,109,112,108,101,47,102,47,34,125,93,125]:List UInt8)) fun y1=>
 Option.bind (IY N y1.1 (ApiDIDURL.mk (ApiDID.mk ([119,101,98]:List UInt8) ([97,46,101,120,97,109,112,108,101]:List UInt8)) [] ([115,101,114,118,105,99,101,61,102,105,108,101,115,38,114,101,108,97,116,105,118,101,82,101,102,61,120,37,50,70,121]:List UInt8) [] true false)) fun y3=>
 if(y3.2==0)=true then
  if(y3.1==([104,116,116,112,115,58,47,47,97,46,101,120,97,109,112,108,101,47,102,47,120,47,121]:List UInt8))=true then
   Option.bind (GK N ([97,38,38,98,61,49,38,99,61,37,120]:List UInt8)) fun y5=>
   some (((y5.length:Int)==2))
  else
   some (false)
 else
  some (false)
def BJ (N:Nat) (a1:(List ApiField)) (k2:(Unit→Option (Bool))):List ApiField→Int→Option (Bool)
  |[],s13=>
  k2 ()
  |xk5::xs,s13=>
  Option.bind (idx a1 s13) fun x6=>
  if(xk5.name==x6.name&&xk5.value==x6.value)=true then
   BJ N a1 k2 xs (s13+1)
  else
   some (false)
def EC (N:Nat) (a0:(List ApiField)) (a1:(List ApiField)):Option (Bool):=
 if((a0.length:Int) !=(a1.length:Int))=true then
  some (false)
 else
  AO (fun j1:Unit=>
   some (true)) fun k2=>
  grd (Ak (a0.length)) (
   BJ N a1 k2 a0 0)
def CK (N:Nat) (a0:(List UInt8)) (a1:Int) (k2:((List (List UInt8))×Int→Option ((List (List UInt8))))):List UInt8→Int→(List (List UInt8))→Int→Option ((List (List UInt8)))
  |[],s7,s5,s6=>
  k2 (s5,s6)
  |xk5::xs,s7,s5,s6=>
  AO (fun j6:(List (List UInt8))×Int=>
   CK N a0 a1 k2 xs (s7+1) j6.1 j6.2) fun k7=>
  if((AV xk5)==a1)=true then
   Option.bind (sub a0 s6 s7) fun x10=>
   grd (Ck (s5.length+1) 16) (
   k7 ((s5++[x10]),(s7+1)))
  else
   k7 (s5,s6)
def Gq (N:Nat) (a0:(List UInt8)) (a1:Int):Option ((List (List UInt8))):=
 AO (fun j1:(List (List UInt8))×Int=>
  Option.bind (sub a0 j1.2 (a0.length:Int)) fun x11=>
  grd (Ck (j1.1.length+1) 16) (
  some ((j1.1++[x11])))) fun k2=>
 grd (Ak (a0.length)) (
  CK N a0 a1 k2 a0 0 [] 0)
def Fw (N:Nat) (a0:Int):Option (Int):=
 if(decide (a0≤57))=true then
  some ((wr .u8 (a0-48)))
 else
  if(decide (a0≤70))=true then
   some ((wr .u8 ((wr .u8 (a0-65))+10)))
  else
   some ((wr .u8 ((wr .u8 (a0-97))+10)))
def GL (N:Nat) (a0:(List UInt8)) (a1:Int):Option (Int×Bool):=
 AO (fun j1:Bool=>
  if j1=true then
   some (0,false)
  else
   Option.bind (idx a0 (wr .i64 (a1+1))) fun x12=>
   Option.bind (Fw N (AV x12)) fun y13=>
   Option.bind (idx a0 (wr .i64 (a1+2))) fun x15=>
   Option.bind (Fw N (AV x15)) fun y16=>
   some ((wr .u8 ((wr .u8 (16 * y13))+y16)),true)) fun k2=>
 if(decide ((wr .i64 (a1+2))≥(a0.length:Int)))=true then
  k2 true
 else
  Option.bind (idx a0 a1) fun x5=>
  if((AV x5) !=37)=true then
   k2 true
  else
   Option.bind (idx a0 (wr .i64 (a1+1))) fun x6=>
   Option.bind (EN N (AV x6)) fun y7=>
   if y7=true then
    Option.bind (idx a0 (wr .i64 (a1+2))) fun x9=>
    Option.bind (EN N (AV x9)) fun y10=>
    k2 (!y10)
   else
    k2 true
def Cj (N:Nat) (a0:(List UInt8)) (k2:((List Int)→Option ((List UInt8)×Int))):Nat→(List Int)→Int→Option ((List UInt8)×Int)
  |0,_,_=>none
  |k+1,s4,s5=>
  if(decide (s5<(a0.length:Int)))=true then
   Option.bind (idx a0 s5) fun x6=>
   AO (fun j7:Int×Int=>
    grd (Ck (s4.length+1) 1) (
    Cj N a0 k2 k (s4++[j7.2]) (wr .i64 (j7.1+1)))) fun k8=>
   if((AV x6)==37)=true then
    Option.bind (GL N a0 s5) fun y11=>
    if y11.2=true then
     k8 ((wr .i64 (s5+2)),y11.1)
    else
     some ([],2)
   else
    k8 (s5,(AV x6))
  else
   k2 s4
def F5 (N:Nat) (a0:(List UInt8)):Option ((List UInt8)×Int):=
 if(decide ((a0.length:Int)>16384))=true then
  some ([],5)
 else
  AO (fun j1:(List Int)=>
   some ((List.map FQ j1),0)) fun k2=>
  Cj N a0 k2 N [] 0
def Hw (N:Nat) (a0:(List UInt8)) (a1:Int):Option ((List UInt8)):=
 if(decide (a1≥(a0.length:Int)))=true then
  some ([])
 else
  Option.bind (sub a0 a1 (a0.length:Int)) fun x1=>
  some (x1)
def Bl (N:Nat) (k2:((List ApiField)→Option ((List ApiField)))):List (List UInt8)→(List ApiField)→Option ((List ApiField))
  |[],s3=>
  k2 s3
  |xk7::xs,s3=>
  AO (fun j8:(List ApiField)=>
   Bl N k2 xs j8) fun k9=>
  Option.bind (EK N xk7 ([61]:List UInt8)) fun y12=>
  Option.bind (Hw N xk7 (wr .i64 (y12+1))) fun y14=>
  Option.bind (F5 N y14) fun y16=>
  AO (fun j18:Bool=>
   if j18=true then
    Option.bind (sub xk7 0 y12) fun x22=>
    grd (Ck (s3.length+1) 32) (
    k9 (s3++[(ApiField.mk x22 y16.1)]))
   else
    k9 s3) fun k19=>
  if(xk7==[])=true then
   k19 false
  else
   k19 (y16.2==0)
def F3 (N:Nat) (a0:(List UInt8)):Option ((List ApiField)):=
 AO (fun j1:(List ApiField)=>
  some (j1)) fun k2=>
 Option.bind (Gq N a0 38) fun y5=>
 grd (Ak (y5.length)) (
  Bl N k2 y5 [])
def Er (N:Nat) (a0:(List UInt8)):Option (Bool):=
 Option.bind (JJ N) fun y1=>
 if y1=true then
  if(decide ((a0.length:Int)>1000))=true then
   some (true)
  else
   Option.bind (GK N a0) fun y3=>
   Option.bind (F3 N a0) fun y5=>
   Option.bind (EC N y3 y5) fun y7=>
   some (y7)
 else
  some (false)
end Go.VM
