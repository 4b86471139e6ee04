import Derived.Test.YtjgdhjpafjpjgaaGreatDoorTy
set_option linter.unusedVariables false
namespace Go.VM
def Am (N:Nat) (a0:(List UInt8)) (a1:Int):Option (Int):=
 some ((Go.Lib.indexByte a0 (Fx a1)))
def Io (N:Nat) (a0:Int):Option (Int):=
 some ((wr .i64 ((wr .i64 (a0+16)).tdiv 8)))
def BH (N:Nat) (k7:(Int→Option (Int×Int))):Nat→Int→Int→Int→Option (Int×Int)
  |0,_,_,_=>none
  |k+1,s6,s7,s8=>
  if(decide (s8>0))=true then
   AA (d:=.a (10,5) [(28,6)] [6] (fun j11:Int=>[.int .u32 j11])) (fun j11:Int=>
    BH N k7 k j11 (wr .u32 (s7 * s7)) (Uc .i64 s8 1)) fun k12=>
   if((Jq .i64 s8 1) !=0)=true then
    k12 (wr .u32 (s6 * s7))
   else
    k12 s6
  else
   k7 s6
def BF (N:Nat) (k2:(Int→Option (Int×Int))):List UInt8→Int→Option (Int×Int)
  |[],s4=>
  k2 s4
  |xk5::xs,s4=>
  BF N k2 xs (wr .u32 ((wr .u32 (s4 * 16777619))+(wr .u32 (AJ xk5))))
def Eg (N:Nat) (a0:(List UInt8)):Option (Int×Int):=
 AA (d:=.a (2,14) [(5,1),(9,13)] [4] (fun j1:Int=>[.int .u32 j1])) (fun j1:Int=>
  AA (d:=.a (7,20) [(7,2),(22,15)] [6] (fun j6:Int=>[.int .u32 j6])) (fun j6:Int=>
   some (j1,j6)) fun k7=>
  BH N k7 N 1 16777619 (a0.length:Int)) fun k2=>
 grd (AO (a0.length)) (
  BF N k2 a0 0)
def Ap (N:Nat) (a0:(List UInt8)) (a1:(List UInt8)) (y1:Int×Int) (k15:(Unit→Option (Int))):Nat→Int→Int→Option (Int)
  |0,s10,s8=>
  k15 ()
  |k+1,s10,s8=>
  Option.bind (idx a0 s10) fun x19=>
  Option.bind (idx a0 (wr .i64 (s10-(a1.length:Int)))) fun x20=>
  AA (d:=.a (16,1) [(65,12)] [77] (fun j21:Bool=>[.bool j21])) (fun j21:Bool=>
   if j21=true then
    some ((wr .i64 ((s10+1)-(a1.length:Int))))
   else
    Ap N a0 a1 y1 k15 k (s10+1) (wr .u32 ((wr .u32 ((wr .u32 (s8 * 16777619))+(wr .u32 (AJ x19))))-(wr .u32 (y1.2 * (wr .u32 (AJ x20))))))) fun k22=>
  if((wr .u32 ((wr .u32 ((wr .u32 (s8 * 16777619))+(wr .u32 (AJ x19))))-(wr .u32 (y1.2 * (wr .u32 (AJ x20))))))==y1.1)=true then
   Option.bind (sub a0 (wr .i64 ((s10+1)-(a1.length:Int))) (s10+1)) fun x25=>
   k22 (x25==a1)
  else
   k22 false
def Ao (N:Nat) (a0:(List UInt8)) (k4:(Int→Option (Int))):List UInt8→Int→Int→Option (Int)
  |[],s9,s8=>
  k4 s8
  |xk7::xs,s9,s8=>
  Option.bind (idx a0 s9) fun x8=>
  Ao N a0 k4 xs (s9+1) (wr .u32 ((wr .u32 (s8 * 16777619))+(wr .u32 (AJ x8))))
def FB (N:Nat) (a0:(List UInt8)) (a1:(List UInt8)):Option (Int):=
 Option.bind (Eg N a1) fun y1=>
 AA (d:=.a (4,14) [(9,1),(18,12)] [8] (fun j3:Int=>[.int .u32 j3])) (fun j3:Int=>
  AA (d:=.a (8,1) [(30,9)] [39] (fun j9:Bool=>[.bool j9])) (fun j9:Bool=>
   if j9=true then
    some (0)
   else
    AA (d:=.a (10,26) [(4,1),(8,1),(10,1),(40,41)] [] (fun j14:Unit=>[])) (fun j14:Unit=>
     some ((-1))) fun k15=>
    grd ((-4611686018427387904:Int)≤(a1.length:Int)∧((a0.length:Int):Int)≤4611686018427387904) (
     Ap N a0 a1 y1 k15 (((a0.length:Int):Int)-(a1.length:Int)).toNat (a1.length:Int) j3)) fun k10=>
  if(j3==y1.1)=true then
   Option.bind (sub a0 0 (a1.length:Int)) fun x13=>
   k10 (x13==a1)
  else
   k10 false) fun k4=>
 grd (AO (a1.length)) (
  Ao N a0 k4 a1 0 0)
def CS (N:Nat) (a0:(List UInt8)) (a1:(List UInt8)):Option (Int):=
 AA (d:=.a (2,1) [(17,7)] [16] (fun j1:Bool=>[.bool j1])) (fun j1:Bool=>
  if j1=true then
   some (0)
  else
   if((a1.length:Int)==1)=true then
    Option.bind (idx a1 0) fun x5=>
    Option.bind (Am N a0 (AJ x5)) fun y6=>
    some (y6)
   else
    if(decide ((a1.length:Int)≥(a0.length:Int)))=true then
     some ((-1))
    else
     (none:Option (Int))) fun k2=>
 if((a1.length:Int)==0)=true then
  k2 true
 else
  k2 (a1==a0)
def Ey (N:Nat) (a0:(List UInt8)) (a1:(List UInt8)):Option ((List UInt8)×(List UInt8)×Bool):=
 Option.bind (CS N a0 a1) fun y1=>
 if(decide (y1≥0))=true then
  Option.bind (sub a0 0 y1) fun x3=>
  Option.bind (sub a0 (wr .i64 (y1+(a1.length:Int))) (a0.length:Int)) fun x4=>
  some (x3,x4,true)
 else
  some (a0,[],false)
def strings_Cut (N:Nat) (a0:(List UInt8)) (a1:(List UInt8)):Option ((List UInt8)×(List UInt8)×Bool):=
 Option.bind (Ey N a0 a1) fun y1=>
 some (y1.1,y1.2.1,y1.2.2)
def Cu (N:Nat) (a0:Int):Option (Bool):=
 if(decide (48≤a0))=true then
  some ((decide (a0≤57)))
 else
  some (false)
def JF (N:Nat) (a0:Int):Option (Bool):=
 Option.bind (Cu N a0) fun y1=>
 if y1=true then
  some (true)
 else
  if(decide (97≤(Li .u8 a0 32)))=true then
   some ((decide ((Li .u8 a0 32)≤102)))
  else
   some (false)
def Gu (N:Nat) (a0:Int):Option (Int):=
 Option.bind (Cu N a0) fun y1=>
 if y1=true then
  some ((wr .u8 (a0-48)))
 else
  some ((wr .u8 ((wr .u8 ((Li .u8 a0 32)-97))+10)))
def Fu (N:Nat) (a0:(List UInt8)) (a1:Int):Option (Int×Bool):=
 AA (d:=.a (1,1) [(6,20)] [26] (fun j1:Bool=>[.bool j1])) (fun j1:Bool=>
  if j1=true then
   some (0,false)
  else
   Option.bind (idx a0 (wr .i64 (a1+1))) fun x11=>
   Option.bind (Gu N (AJ x11)) fun y12=>
   Option.bind (idx a0 (wr .i64 (a1+2))) fun x14=>
   Option.bind (Gu N (AJ x14)) fun y15=>
   some ((Li .u8 (AIZ .u8 y12 4) y15),true)) fun k2=>
 if(decide ((wr .i64 ((a0.length:Int)-a1))<3))=true then
  k2 true
 else
  Option.bind (idx a0 (wr .i64 (a1+1))) fun x5=>
  Option.bind (JF N (AJ x5)) fun y6=>
  if y6=true then
   Option.bind (idx a0 (wr .i64 (a1+2))) fun x8=>
   Option.bind (JF N (AJ x8)) fun y9=>
   k2 (!y9)
  else
   k2 true
def DL (N:Nat) (a0:(List UInt8)) (k2:((List Int)→Option ((List UInt8)×Int))):Nat→(List Int)→Int→Option ((List UInt8)×Int)
  |0,_,_=>none
  |k+1,s4,s5=>
  if(decide (s5<(a0.length:Int)))=true then
   Option.bind (idx a0 s5) fun x6=>
   AA (d:=.a (8,17) [(2,2),(7,2),(21,13)] [5,6] (fun j7:Int×Int=>[.int .i64 j7.1,.int .u8 j7.2])) (fun j7:Int×Int=>
    grd (Cg (s4.length+1) 1) (
    DL N a0 k2 k (s4++[j7.2]) (wr .i64 (j7.1+1)))) fun k8=>
   if((AJ x6)==37)=true then
    Option.bind (Fu N a0 s5) fun y11=>
    if y11.2=true then
     k8 ((wr .i64 (s5+2)),y11.1)
    else
     some ([],2)
   else
    k8 (s5,(AJ x6))
  else
   k2 s4
def E9 (N:Nat) (a0:(List UInt8)):Option ((List UInt8)×Int):=
 if(decide ((a0.length:Int)>16384))=true then
  some ([],5)
 else
  AA (d:=.a (4,34) [(2,2),(5,4),(12,26)] [4] (fun j1:(List Int)=>[.slice 1 (List.map (AVal.int .u8) j1) true])) (fun j1:(List Int)=>
   some ((List.map Fx j1),0)) fun k2=>
  DL N a0 k2 N [] 0
def Fz (N:Nat) (s:List UInt8) (out:List ApiField):Option (List ApiField):=
 Option.bind (strings_Cut N s [61]) fun c=>
 Option.bind (E9 N c.2.1) fun d=>
 if(d.2==0)=true then grd (Cg (out.length+1) 32) (some (out++[⟨c.1,d.1⟩]))else some out
def D5 (N:Nat):Nat→List UInt8→List ApiField→Option (List ApiField)
  |0,_,_=>none
  |k+1,q,out=>
   Option.bind (strings_Cut N q [38]) fun y=>
   Option.bind (if(y.1==[])=true then some out else Fz N y.1 out) fun o=>
   if y.2.2=true then D5 N k y.2.1 o else some o
def J2 (N:Nat) (a0:List UInt8):Option (List ApiField):=D5 N N a0 []
def Aw (N:Nat) (a0:Ref14Parser) (a1:Int) (a2:Int):Option (Ref14Parser):=
 if(a0.fail==0)=true then
  some ((Ref14Parser.mk a0.s a0.at_ a0.nodes a2 a1))
 else
  some (a0)
def Fa (N:Nat) (a0:ApiToken) (a1:(List UInt8)):Option (Bool):=
 if(a0.kind==2)=true then
  some ((a0.text==a1))
 else
  some (false)
def Ef (N:Nat) (a0:Int) (k2:(Unit→Option (Bool))):List UInt8→Option (Bool)
  |[]=>
  k2 ()
  |xk5::xs=>
  if((AJ xk5)==a0)=true then
   some (true)
  else
   Ef N a0 k2 xs
def E8 (N:Nat) (a0:Int) (a1:(List UInt8)):Option (Bool):=
 AA (d:=.a (1,20) [(4,13)] [] (fun j1:Unit=>[])) (fun j1:Unit=>
  some (false)) fun k2=>
 grd (AO (a1.length)) (
  Ef N a0 k2 a1)
def Ce (N:Nat) (a1:(List UInt8)) (k2:(Unit→Option (Int))):List UInt8→Int→Option (Int)
  |[],s5=>
  k2 ()
  |xk5::xs,s5=>
  Option.bind (E8 N (AJ xk5) a1) fun y6=>
  if y6=true then
   some (s5)
  else
   Ce N a1 k2 xs (s5+1)
def BC (N:Nat) (a0:(List UInt8)) (a1:(List UInt8)):Option (Int):=
 AA (d:=.a (1,20) [(4,14)] [] (fun j1:Unit=>[])) (fun j1:Unit=>
  some ((a0.length:Int))) fun k2=>
 grd (AO (a0.length)) (
  Ce N a1 k2 a0 0)
def BV (N:Nat) (a0:Int):Option (Bool):=
 if(decide (a0≥48))=true then
  some ((decide (a0≤57)))
 else
  some (false)
def I5 (N:Nat) (a0:(List UInt8)) (a1:Int):Option ((List UInt8)):=
 if(decide (a1≥(a0.length:Int)))=true then
  some ([])
 else
  Option.bind (sub a0 a1 (a0.length:Int)) fun x1=>
  some (x1)
def FQ (N:Nat) (a0:(List UInt8)) (k2:(Int→Option (Int))):Nat→Int→Option (Int)
  |0,_=>none
  |k+1,s3=>
  AA (d:=.a (2,1) [(4,9)] [13] (fun j6:Bool=>[.bool j6])) (fun j6:Bool=>
   if j6=true then
    FQ N a0 k2 k (wr .i64 (s3+1))
   else
    k2 s3) fun k7=>
  if(decide (s3<(a0.length:Int)))=true then
   Option.bind (idx a0 s3) fun x10=>
   Option.bind (BV N (AJ x10)) fun y11=>
   k7 y11
  else
   k7 false
def JR (N:Nat) (a0:(List UInt8)):Option (Int):=
 AA (d:=.a (0,10) [(4,12)] [3] (fun j1:Int=>[.int .i64 j1])) (fun j1:Int=>
  some (j1)) fun k2=>
 FQ N a0 k2 N 0
def Gs (N:Nat) (a0:(List UInt8)):Option (Int):=
 AA (d := .a (2,5) [(7,12)] [3] (fun j1:Int=>[.int .i64 j1])) (fun j1:Int=>
  AA (d:=.a (4,1) [(19,10)] [29] (fun j10:Bool=>[.bool j10])) (fun j10:Bool=>
   if j10=true then
    some (0)
   else
    AA (d:=.a (6,5) [(30,12)] [3] (fun j17:Int=>[.int .i64 j17])) (fun j17:Int=>
     AA (d:=.a (9,7) [(4,1),(42,23)] [3] (fun j25:Int=>[.int .i64 j25])) (fun j25:Int=>
      AA (d:=.a (12,19) [(5,2),(65,33)] [3] (fun j38:Int=>[.int .i64 j38])) (fun j38:Int=>
       some (j38)) fun k39=>
      AA (d:=.a (12,1) [(65,9)] [74] (fun j42:Bool=>[.bool j42])) (fun j42:Bool=>
       if j42=true then
        AA (d:=.a (14,5) [(77,12)] [5] (fun j49:Int=>[.int .i64 j49])) (fun j49:Int=>
         Option.bind (I5 N a0 j49) fun y60=>
         Option.bind (JR N y60) fun y62=>
         if(decide (y62>0))=true then
          k39 (wr .i64 (j49+y62))
         else
          k39 j25) fun k50=>
        AA (d:=.a (14,1) [(77,9)] [86] (fun j53:Bool=>[.bool j53])) (fun j53:Bool=>
         if j53=true then
          k50 (wr .i64 ((wr .i64 (j25+1))+1))
         else
          k50 (wr .i64 (j25+1))) fun k54=>
        if(decide ((wr .i64 (j25+1))<(a0.length:Int)))=true then
         Option.bind (idx a0 (wr .i64 (j25+1))) fun x57=>
         Option.bind (E8 N (AJ x57) ([43,45]:List UInt8)) fun y58=>
         k54 y58
        else
         k54 false
       else
        k39 j25) fun k43=>
      if(decide (j25<(a0.length:Int)))=true then
       Option.bind (idx a0 j25) fun x46=>
       Option.bind (E8 N (AJ x46) ([101,69]:List UInt8)) fun y47=>
       k43 y47
      else
       k43 false) fun k26=>
     Option.bind (I5 N a0 (wr .i64 (j17+1))) fun y29=>
     Option.bind (JR N y29) fun y31=>
     AA (d:=.a (10,1) [(47,13)] [60] (fun j33:Bool=>[.bool j33])) (fun j33:Bool=>
      if j33=true then
       k26 (wr .i64 (j17+(wr .i64 (1+y31))))
      else
       k26 j17) fun k34=>
     if(decide (j17<(a0.length:Int)))=true then
      Option.bind (idx a0 j17) fun x37=>
      if((AJ x37)==46)=true then
       k34 (decide (y31>0))
      else
       k34 false
     else
      k34 false) fun k18=>
    Option.bind (idx a0 j1) fun x21=>
    if((AJ x21)==48)=true then
     k18 (wr .i64 (j1+1))
    else
     Option.bind (sub a0 j1 (a0.length:Int)) fun x22=>
     Option.bind (JR N x22) fun y23=>
     k18 (wr .i64 (j1+y23))) fun k11=>
  if(j1==(a0.length:Int))=true then
   k11 true
  else
   Option.bind (idx a0 j1) fun x14=>
   Option.bind (BV N (AJ x14)) fun y15=>
   k11 (!y15)) fun k2=>
 AA (d:=.a (2,1) [(7,9)] [16] (fun j5:Bool=>[.bool j5])) (fun j5:Bool=>
  if j5=true then
   k2 (wr .i64 (0+1))
  else
   k2 0) fun k6=>
 if(decide (0<(a0.length:Int)))=true then
  Option.bind (idx a0 0) fun x9=>
  k6 ((AJ x9)==45)
 else
  k6 false
def C9 (N:Nat) (k19:(Int→Option (Int))):List UInt8→Int→Option (Int)
  |[],s4=>
  k19 s4
  |xk22::xs,s4=>
  C9 N k19 xs (if 1073741824<(wr .i64 ((wr .i64 (s4 * 10))+(wr .i64 (wr .u8 ((AJ xk22)-48)))))then 1073741824 else(wr .i64 ((wr .i64 (s4 * 10))+(wr .i64 (wr .u8 ((AJ xk22)-48))))))
def Ho (N:Nat) (a0:(List UInt8)):Option (Int):=
 AA (d:=.a (1,1) [(6,7)] [3] (fun j1:Bool=>[.bool j1])) (fun j1:Bool=>
  AA (d:=.a (2,5) [(13,9)] [0] (fun j6:(List UInt8)=>[.str j6])) (fun j6:(List UInt8)=>
   AA (d:=.a (5,14) [(5,1),(22,15)] [4] (fun j18:Int=>[.int .i64 j18])) (fun j18:Int=>
    if j1=true then
     some ((wr .i64 (0-j18)))
    else
     some (j18)) fun k19=>
   grd (AO (j6.length)) (
    C9 N k19 j6 0)) fun k7=>
  AA (d:=.a (2,1) [(13,6)] [19] (fun j10:Bool=>[.bool j10])) (fun j10:Bool=>
   if j10=true then
    Option.bind (sub a0 1 (a0.length:Int)) fun x17=>
    k7 x17
   else
    k7 a0) fun k11=>
  if(a0==[])=true then
   k11 false
  else
   Option.bind (idx a0 0) fun x14=>
   Option.bind (E8 N (AJ x14) ([43,45]:List UInt8)) fun y15=>
   k11 y15) fun k2=>
 if(a0==[])=true then
  k2 false
 else
  Option.bind (idx a0 0) fun x5=>
  k2 ((AJ x5)==45)
def DW (N:Nat):Nat→Int→(List UInt8)→Option ((List UInt8))
  |0,_,_=>none
  |k+1,s0,s3=>
  grd (AO ((List.map Fx [(wr .u8 (wr .u64 (48+(s0.tmod 10))))]).length+s3.length)) (
  if((wr .u64 (s0.tdiv 10))==0)=true then
   some (((List.map Fx [(wr .u8 (wr .u64 (48+(s0.tmod 10))))])++s3))
  else
   DW N k (wr .u64 (s0.tdiv 10)) ((List.map Fx [(wr .u8 (wr .u64 (48+(s0.tmod 10))))])++s3))
def Ew (N:Nat) (a0:Int):Option ((List UInt8)):=
 DW N N a0 []
def Ee (N:Nat) (k40:(Int×(List UInt8)→Option ((List UInt8)×Int))):Nat→Int→(List UInt8)→Option ((List UInt8)×Int)
  |0,_,_=>none
  |k+1,s6,s7=>
  Option.bind (idx s7 (wr .i64 ((s7.length:Int)-1))) fun x44=>
  if((AJ x44)==48)=true then
   Option.bind (sub s7 0 (wr .i64 ((s7.length:Int)-1))) fun x45=>
   Ee N k40 k (wr .i64 (s6+1)) x45
  else
   k40 (s6,s7)
def Ec (N:Nat) (k29:((List UInt8)→Option ((List UInt8)×Int))):Nat→(List UInt8)→Option ((List UInt8)×Int)
  |0,_=>none
  |k+1,s7=>
  AA (d:=.a (11,1) [(54,7)] [61] (fun j33:Bool=>[.bool j33])) (fun j33:Bool=>
   if j33=true then
    Option.bind (sub s7 1 (s7.length:Int)) fun x38=>
    Ec N k29 k x38
   else
    k29 s7) fun k34=>
  if(decide ((s7.length:Int)>0))=true then
   Option.bind (idx s7 0) fun x37=>
   k34 ((AJ x37)==48)
  else
   k34 false
def Je (N:Nat) (a0:(List UInt8)):Option ((List UInt8)×Int):=
 AA (d := .a (1,1) [(9,8)] [17] (fun j1:Bool=>[.bool j1])) (fun j1:Bool=>
  if j1=true then
   some ([],130)
  else
   AA (d := .a (4,5) [(18,5)] [0,4] (fun j7:(List UInt8)×(List UInt8)=>[.str j7.1,.str j7.2])) (fun j7:(List UInt8)×(List UInt8)=>
    Option.bind (BC N j7.1 ([101,69]:List UInt8)) fun y13=>
    Option.bind (I5 N j7.1 (wr .i64 (y13+1))) fun y15=>
    Option.bind (Ho N y15) fun y17=>
    Option.bind (sub j7.1 0 y13) fun x19=>
    AA (d:=.a (8,7) [(8,1),(33,21)] [6,7] (fun j20:Int×(List UInt8)=>[.int .i64 j20.1,.str j20.2])) (fun j20:Int×(List UInt8)=>
     AA (d:=.a (0,10) [(54,10)] [7] (fun j28:(List UInt8)=>[.str j28])) (fun j28:(List UInt8)=>
      if(j28==[])=true then
       some (([48]:List UInt8),0)
      else
       AA (d:=.a (2,10) [(66,13)] [6,7] (fun j39:Int×(List UInt8)=>[.int .i64 j39.1,.str j39.2])) (fun j39:Int×(List UInt8)=>
        AA (d:=.a (17,1) [(80,11)] [79] (fun j46:Bool=>[.bool j46])) (fun j46:Bool=>
         if j46=true then
          some ([],144)
         else
          if(decide (j39.1<0))=true then
           grd (AO (j7.2.length+j39.2.length)) (
           grd (AO ((j7.2++j39.2).length+([101,45]:List UInt8).length)) (
           Option.bind (Ew N (wr .u64 (wr .i64 (0-j39.1)))) fun y50=>
           grd (AO (((j7.2++j39.2)++([101,45]:List UInt8)).length+y50.length)) (
           some ((((j7.2++j39.2)++([101,45]:List UInt8))++y50),0))))
          else
           if(decide (j39.1>0))=true then
            grd (AO (j7.2.length+j39.2.length)) (
            grd (AO ((j7.2++j39.2).length+([101]:List UInt8).length)) (
            Option.bind (Ew N (wr .u64 j39.1)) fun y52=>
            grd (AO (((j7.2++j39.2)++([101]:List UInt8)).length+y52.length)) (
            some ((((j7.2++j39.2)++([101]:List UInt8))++y52),0))))
           else
            grd (AO (j7.2.length+j39.2.length)) (
            some ((j7.2++j39.2),0))) fun k47=>
        if(decide ((j39.2.length:Int)>40))=true then
         k47 true
        else
         if(decide (j39.1>400))=true then
          k47 true
         else
          k47 (decide (j39.1<(-400)))) fun k40=>
       Ee N k40 N j20.1 j28) fun k29=>
     Ec N k29 N j20.2) fun k21=>
    Option.bind (BC N x19 ([46]:List UInt8)) fun y24=>
    if(decide (y24<(x19.length:Int)))=true then
     Option.bind (sub x19 0 y24) fun x26=>
     Option.bind (sub x19 (wr .i64 (y24+1)) (x19.length:Int)) fun x27=>
     grd (AO (x26.length+x27.length)) (
     k21 ((wr .i64 (y17-(wr .i64 ((wr .i64 ((x19.length:Int)-y24))-1)))),(x26++x27)))
    else
     k21 (y17,x19)) fun k8=>
   Option.bind (idx a0 0) fun x11=>
   if((AJ x11)==45)=true then
    Option.bind (sub a0 1 (a0.length:Int)) fun x12=>
    k8 (x12,([45]:List UInt8))
   else
    k8 (a0,[])) fun k2=>
 if(a0==[])=true then
  k2 true
 else
  Option.bind (Gs N a0) fun y5=>
  k2 (y5 !=(a0.length:Int))
def LP (N:Nat) (a0:(List UInt8)):Option (Int):=
 if(a0==([116,114,117,101]:List UInt8))=true then
  some (3)
 else
  if(a0==([102,97,108,115,101]:List UInt8))=true then
   some (2)
  else
   some (1)
def Dn (N:Nat) (a0:Int):Option (Bool):=
 if(decide (a0≥65))=true then
  if(decide (a0≤90))=true then
   some (true)
  else
   if(decide (a0≥97))=true then
    some ((decide (a0≤122)))
   else
    some (false)
 else
  if(decide (a0≥97))=true then
   some ((decide (a0≤122)))
  else
   some (false)
def L6 (N:Nat) (a0:Int):Option (Bool):=
 Option.bind (E8 N a0 ([32,9,10,13]:List UInt8)) fun y1=>
 some (y1)
def FT (N:Nat) (a0:Int):Option (Bool):=
 Option.bind (BV N a0) fun y1=>
 if y1=true then
  some (true)
 else
  if(decide (a0≥65))=true then
   if(decide (a0≤70))=true then
    some (true)
   else
    if(decide (a0≥97))=true then
     some ((decide (a0≤102)))
    else
     some (false)
  else
   if(decide (a0≥97))=true then
    some ((decide (a0≤102)))
   else
    some (false)
def Ci (N:Nat) (a1:Int) (a2:Int) (k17:(Int→Option (Int×Int))):List UInt8→Int→Option (Int×Int)
  |[],s9=>
  k17 s9
  |xk20::xs,s9=>
  AA (d:=.a (13,5) [(51,11)] [11] (fun j21:Int=>[.int .u64 j21])) (fun j21:Int=>
   AA (d:=.a (15,1) [(62,18)] [80] (fun j25:Bool=>[.bool j25])) (fun j25:Bool=>
    if j25=true then
     some (0,4)
    else
     Ci N a1 a2 k17 xs (wr .u64 ((wr .u64 (s9 * a1))+j21))) fun k26=>
   grd (a1≠0) (
   if(decide (s9>(wr .u64 (a2.tdiv a1))))=true then
    k26 true
   else
    if(decide ((wr .u64 (s9 * a1))>(wr .u64 (a2-j21))))=true then
     k26 true
    else
     k26 (decide (j21>a2)))) fun k22=>
  if(decide ((AJ xk20)>57))=true then
   k22 (wr .u64 ((wr .u64 ((wr .u64 (Li .u8 (AJ xk20) 32))-97))+10))
  else
   k22 (wr .u64 (wr .u8 ((AJ xk20)-48)))
def Cf (N:Nat) (a1:Int) (k2:(Unit→Option (Int×Int))):List UInt8→Option (Int×Int)
  |[]=>
  k2 ()
  |xk5::xs=>
  AA (d:=.a (6,1) [(20,19)] [39] (fun j6:Bool=>[.bool j6])) (fun j6:Bool=>
   if j6=true then
    some (0,1)
   else
    Cf N a1 k2 xs) fun k7=>
  if(a1==10)=true then
   Option.bind (BV N (AJ xk5)) fun y10=>
   if y10=true then
    if(a1==16)=true then
     Option.bind (FT N (AJ xk5)) fun y12=>
     k7 (!y12)
    else
     k7 false
   else
    k7 true
  else
   if(a1==16)=true then
    Option.bind (FT N (AJ xk5)) fun y14=>
    k7 (!y14)
   else
    k7 false
def HV (N:Nat) (a0:(List UInt8)) (a1:Int) (a2:Int):Option (Int×Int):=
 if(a0==[])=true then
  some (0,3)
 else
  AA (d:=.a (3,20) [(6,3),(14,26)] [] (fun j1:Unit=>[])) (fun j1:Unit=>
   AA (d:=.a (9,30) [(6,2),(10,2),(40,46)] [9] (fun j16:Int=>[.int .u64 j16])) (fun j16:Int=>
    some (j16,0)) fun k17=>
   grd (AO (a0.length)) (
    Ci N a1 a2 k17 a0 0)) fun k2=>
  grd (AO (a0.length)) (
   Cf N a1 k2 a0)
def Ml (N:Nat) (a0:(List UInt8)) (a1:Int):Option (Int×Int):=
 Option.bind (HV N a0 16 a1) fun y1=>
 some (y1.1,y1.2)
def KI (N:Nat) (a0:(List UInt8)) (a1:Int):Option (Int×Bool):=
 AA (d:=.a (1,1) [(8,17)] [25] (fun j1:Bool=>[.bool j1])) (fun j1:Bool=>
  if j1=true then
   some (0,false)
  else
   Option.bind (sub a0 (wr .i64 (a1+2)) (wr .i64 (a1+6))) fun x7=>
   Option.bind (Ml N x7 65535) fun y8=>
   some ((wr .i64 y8.1),(y8.2==0))) fun k2=>
 if(decide ((wr .i64 (a1+6))>(a0.length:Int)))=true then
  k2 true
 else
  Option.bind (idx a0 a1) fun x5=>
  if((AJ x5) !=92)=true then
   k2 true
  else
   Option.bind (idx a0 (wr .i64 (a1+1))) fun x6=>
   k2 ((AJ x6) !=117)
def Lx (N:Nat) (a0:Int):Option (Bool):=
 if(decide (a0≥0))=true then
  if(decide (a0≤1114111))=true then
   if(decide (a0<55296))=true then
    some (true)
   else
    some ((decide (a0>57343)))
  else
   some (false)
 else
  some (false)
def Gb (N:Nat) (a0:Int):Option ((List UInt8)×Int):=
 Option.bind (Lx N a0) fun y1=>
 if y1=true then
  if(decide (a0<128))=true then
   some ((List.map Fx [(wr .u8 a0)]),0)
  else
   if(decide (a0<2048))=true then
    letL ([(wr .u8 (Li .i64 192 (Uc .i64 a0 6))),(wr .u8 (Li .i64 128 (Jq .i64 a0 63)))]:(List Int)) fun l3=>
    some ((List.map Fx l3),0)
   else
    if(decide (a0<65536))=true then
     letL ([(wr .u8 (Li .i64 224 (Uc .i64 a0 12))),(wr .u8 (Li .i64 128 (Jq .i64 (Uc .i64 a0 6) 63))),(wr .u8 (Li .i64 128 (Jq .i64 a0 63)))]:(List Int)) fun l4=>
     some ((List.map Fx l4),0)
    else
     letL ([(wr .u8 (Li .i64 240 (Uc .i64 a0 18))),(wr .u8 (Li .i64 128 (Jq .i64 (Uc .i64 a0 12) 63))),(wr .u8 (Li .i64 128 (Jq .i64 (Uc .i64 a0 6) 63))),(wr .u8 (Li .i64 128 (Jq .i64 a0 63)))]:(List Int)) fun l5=>
     some ((List.map Fx l5),0)
 else
  some ([],4)
def Ed (N:Nat) (a0:(List UInt8)) (a1:Int) (k2:(Unit→Option ((List UInt8)×Int×Int))):Nat→Nat→Option ((List UInt8)×Int×Int)
  |0,_=>none
  |k+1,s20=>
  if(decide (s20<8))=true then
   Option.bind (idx ([34,92,47,98,102,110,114,116]:List UInt8) ((s20:Nat):Int)) fun x6=>
   Option.bind (idx a0 (wr .i64 (a1+1))) fun x7=>
   if((AJ x6)==(AJ x7))=true then
    Option.bind (sub ([34,92,47,8,12,10,13,9]:List UInt8) ((s20:Nat):Int) (wr .i64 (((s20:Nat):Int)+1))) fun x8=>
    some (x8,(wr .i64 (a1+2)),0)
   else
    Ed N a0 a1 k2 k (s20+(Cm ([34,92,47,98,102,110,114,116]:List UInt8) s20).2)
  else
   k2 ()
def Jl (N:Nat) (a0:(List UInt8)) (a1:Int):Option ((List UInt8)×Int×Int):=
 AA (d:=.a (1,24) [(4,4),(15,22)] [] (fun j1:Unit=>[])) (fun j1:Unit=>
  Option.bind (KI N a0 a1) fun y9=>
  if y9.2=true then
   AA (d:=.a (10,1) [(45,5)] [50] (fun j11:Bool=>[.bool j11])) (fun j11:Bool=>
    if j11=true then
     Option.bind (Gb N y9.1) fun y15=>
     some (y15.1,(wr .i64 (a1+6)),0)
    else
     Option.bind (KI N a0 (wr .i64 (a1+6))) fun y17=>
     AA (d:=.a (14,1) [(66,13)] [79] (fun j19:Bool=>[.bool j19])) (fun j19:Bool=>
      if j19=true then
       some ([],0,7)
      else
       Option.bind (Gb N (wr .i64 ((wr .i64 ((wr .i64 (65536+(wr .i64 ((wr .i64 (y9.1-55296)) * 1024))))+y17.1))-56320))) fun y23=>
       some (y23.1,(wr .i64 (a1+12)),0)) fun k20=>
     if(decide (y9.1>56319))=true then
      k20 true
     else
      if y17.2=true then
       if(decide (y17.1<56320))=true then
        k20 true
       else
        k20 (decide (y17.1>57343))
      else
       k20 true) fun k12=>
   if(decide (y9.1<55296))=true then
    k12 true
   else
    k12 (decide (y9.1>57343))
  else
   some ([],0,130)) fun k2=>
 if(decide ((wr .i64 (a1+1))<(a0.length:Int)))=true then
  Ed N a0 a1 k2 N 0
 else
  k2 ()
def EZ (N:Nat) (a0:(List UInt8)) (k4:(Int→Option (Int))):Nat→Int→Int→Option (Int)
  |0,s4,s3=>
  k4 s3
  |k+1,s4,s3=>
  Option.bind (idx a0 s4) fun x8=>
  EZ N a0 k4 k (s4+1) (Li .i64 (AIZ .i64 s3 6) (Jq .i64 (wr .i64 (AJ x8)) 63))
def KU (N:Nat) (a0:(List UInt8)):Option (Int):=
 if((a0.length:Int)==1)=true then
  Option.bind (idx a0 0) fun x1=>
  some ((wr .i64 (AJ x1)))
 else
  Option.bind (idx a0 0) fun x2=>
  grd (¬(wr .i64 (7-(a0.length:Int)))<0) (
  AA (d:=.a (4,14) [(4,1),(20,14)] [3] (fun j3:Int=>[.int .i64 j3])) (fun j3:Int=>
   some (j3)) fun k4=>
  grd ((-4611686018427387904:Int)≤1∧((a0.length:Int):Int)≤4611686018427387904) (
   EZ N a0 k4 (((a0.length:Int):Int)-1).toNat 1 (Jq .i64 (wr .i64 (AJ x2)) (wr .i64 ((AIZ .i64 1 (wr .i64 (7-(a0.length:Int))))-1)))))
def Eb (N:Nat) (a0:(List UInt8)) (a1:Int) (k6:(Unit→Option (Int×Int×Int))):Nat→Int→Option (Int×Int×Int)
  |0,_=>none
  |k+1,s7=>
  AA (d:=.a (4,1) [(19,9)] [28] (fun j10:Bool=>[.bool j10])) (fun j10:Bool=>
   if j10=true then
    Option.bind (sub a0 a1 (wr .i64 (a1+s7))) fun x14=>
    Option.bind (KU N x14) fun y15=>
    Option.bind (Gb N y15) fun y17=>
    AA (d:=.a (8,1) [(43,11)] [54] (fun j19:Bool=>[.bool j19])) (fun j19:Bool=>
     if j19=true then
      some (y15,(wr .i64 (a1+s7)),0)
     else
      Eb N a0 a1 k6 k (wr .i64 (s7+1))) fun k20=>
    if(y17.2==0)=true then
     k20 (y17.1==x14)
    else
     k20 false
   else
    k6 ()) fun k11=>
  if(decide (s7≤4))=true then
   k11 (decide ((wr .i64 (a1+s7))≤(a0.length:Int)))
  else
   k11 false
def Jo (N:Nat) (a0:(List UInt8)) (a1:Int):Option (Int×Int×Int):=
 AA (d:=.a (1,1) [(11,7)] [18] (fun j1:Bool=>[.bool j1])) (fun j1:Bool=>
  if j1=true then
   some (0,0,4)
  else
   AA (d:=.a (3,24) [(4,7),(19,40)] [] (fun j5:Unit=>[])) (fun j5:Unit=>
    some (0,0,7)) fun k6=>
   Eb N a0 a1 k6 N 1) fun k2=>
 if(decide (a1<0))=true then
  k2 true
 else
  k2 (decide (a1≥(a0.length:Int)))
def Er (N:Nat) (a0:(List UInt8)) (k2:(Unit→Option ((List UInt8)×Int×Int))):Nat→(List UInt8)→Int→Option ((List UInt8)×Int×Int)
  |0,_,_=>none
  |k+1,s7,s8=>
  if (decide (s8<(a0.length:Int)))=true then
   Option.bind (idx a0 s8) fun x6=>
   if((AJ x6)==34)=true then
    some (s7,(wr .i64 (s8+1)),0)
   else
    if((AJ x6)==92)=true then
     Option.bind (Jl N a0 s8) fun y7=>
     if(y7.2.2 !=0)=true then
      some ([],0,y7.2.2)
     else
      grd (AO (s7.length+y7.1.length)) (
      Er N a0 k2 k (s7++y7.1) y7.2.1)
    else
     if(decide ((AJ x6)<32))=true then
      some ([],0,130)
     else
      Option.bind (Jo N a0 s8) fun y9=>
      if(y9.2.2 !=0)=true then
       some ([],0,y9.2.2)
      else
       Option.bind (sub a0 s8 y9.2.1) fun x11=>
       grd (AO (s7.length+x11.length)) (
       Er N a0 k2 k (s7++x11) y9.2.1)
  else
   k2 ()
def LW (N:Nat) (a0:(List UInt8)) (a1:Int):Option ((List UInt8)×Int×Int):=
 AA (d:=.a (2,49) [(4,66)] [] (fun j1:Unit=>[])) (fun j1:Unit=>
  some ([],0,130)) fun k2=>
 Er N a0 k2 N [] (wr .i64 (a1+1))
def FX (N:Nat) (a0:(List UInt8)) (j5:Int) (k34:(Int→Option (ApiToken×Int×Int))):Nat→Int→Option (ApiToken×Int×Int)
  |0,_=>none
  |k+1,s12=>
  AA (d:=.a (21,1) [(100,13)] [113] (fun j38:Bool=>[.bool j38])) (fun j38:Bool=>
   if j38=true then
    FX N a0 j5 k34 k (wr .i64 (s12+1))
   else
    k34 s12) fun k39=>
  if(decide ((wr .i64 (j5+s12))<(a0.length:Int)))=true then
   Option.bind (idx a0 (wr .i64 (j5+s12))) fun x42=>
   Option.bind (Dn N (AJ x42)) fun y43=>
   k39 y43
  else
   k39 false
def FV (N:Nat) (a0:(List UInt8)) (k6:(Int→Option (ApiToken×Int×Int))):Nat→Int→Option (ApiToken×Int×Int)
  |0,_=>none
  |k+1,s1=>
  AA (d:=.a (3,1) [(23,9)] [32] (fun j10:Bool=>[.bool j10])) (fun j10:Bool=>
   if j10=true then
    FV N a0 k6 k (wr .i64 (s1+1))
   else
    k6 s1) fun k11=>
  if(decide (s1<(a0.length:Int)))=true then
   Option.bind (idx a0 s1) fun x14=>
   Option.bind (L6 N (AJ x14)) fun y15=>
   k11 y15
  else
   k11 false
def KD (N:Nat) (a0:(List UInt8)) (a1:Int):Option (ApiToken×Int×Int):=
 AA (d := .a (1,1) [(14,7)] [21] (fun j1:Bool=>[.bool j1])) (fun j1:Bool=>
  if j1=true then
   some ((ApiToken.mk 0 [] 0),0,4)
  else
   AA (d := .a (0,10) [(23,12)] [1] (fun j5:Int=>[.int .i64 j5])) (fun j5:Int=>
    if(j5==(a0.length:Int))=true then
     some ((ApiToken.mk 1 [] j5),j5,0)
    else
     Option.bind (idx a0 j5) fun x17=>
     Option.bind (E8 N (AJ x17) ([123,125,91,93,58,44]:List UInt8)) fun y18=>
     if y18=true then
      Option.bind (sub a0 j5 (wr .i64 (j5+1))) fun x20=>
      some ((ApiToken.mk 2 x20 j5),(wr .i64 (j5+1)),0)
     else
      if((AJ x17)==34)=true then
       Option.bind (LW N a0 j5) fun y21=>
       if(y21.2.2 !=0)=true then
        some ((ApiToken.mk 0 [] 0),0,y21.2.2)
       else
        some ((ApiToken.mk 3 y21.1 j5),y21.2.1,0)
      else
       AA (d:=.a (15,1) [(76,6)] [75] (fun j23:Bool=>[.bool j23])) (fun j23:Bool=>
        if j23=true then
         Option.bind (sub a0 j5 (a0.length:Int)) fun x29=>
         Option.bind (Gs N x29) fun y30=>
         if(y30==0)=true then
          some ((ApiToken.mk 0 [] 0),0,130)
         else
          Option.bind (sub a0 j5 (wr .i64 (j5+y30))) fun x32=>
          some ((ApiToken.mk 4 x32 j5),(wr .i64 (j5+y30)),0)
        else
         AA (d:=.a (3,10) [(100,16)] [12] (fun j33:Int=>[.int .i64 j33])) (fun j33:Int=>
          Option.bind (sub a0 j5 (wr .i64 (j5+j33))) fun x45=>
          AA (d:=.a (24,1) [(122,9)] [131] (fun j46:Bool=>[.bool j46])) (fun j46:Bool=>
           if j46=true then
            some ((ApiToken.mk 5 x45 j5),(wr .i64 (j5+j33)),0)
           else
            some ((ApiToken.mk 0 [] 0),0,130)) fun k47=>
          if(x45==([116,114,117,101]:List UInt8))=true then
           k47 true
          else
           if(x45==([102,97,108,115,101]:List UInt8))=true then
            k47 true
           else
            k47 (x45==([110,117,108,108]:List UInt8))) fun k34=>
         FX N a0 j5 k34 N 0) fun k24=>
       if((AJ x17)==45)=true then
        k24 true
       else
        Option.bind (BV N (AJ x17)) fun y27=>
        k24 y27) fun k6=>
   FV N a0 k6 N a1) fun k2=>
 if(decide (a1<0))=true then
  k2 true
 else
  k2 (decide (a1>(a0.length:Int)))
def BA (N:Nat) (a0:Ref14Parser):Option (ApiToken×Ref14Parser):=
 if(a0.fail !=0)=true then
  some ((ApiToken.mk 0 [] 0),a0)
 else
  AA (fun j2:Int×Int×ApiToken=>
   if(j2.2.1 !=0)=true then
    Option.bind (Aw N a0 a0.at_ j2.2.1) fun y8=>
    some ((ApiToken.mk 0 [] 0),y8)
   else
    some (j2.2.2,(Ref14Parser.mk a0.s j2.1 a0.nodes a0.fail a0.where_))) fun k3=>
  Option.bind (KD N a0.s a0.at_) fun y6=>
  k3 (y6.2.1,y6.2.2,y6.1)
def Dw (N:Nat) (a0:ApiValue) (a1:(List UInt8)) (k2:(Unit→Option (ApiValue×Bool))):List (List UInt8)→Int→Option (ApiValue×Bool)
  |[],s14=>
  k2 ()
  |xk5::xs,s14=>
  AA (d:=.a (6,1) [(17,13)] [30] (fun j6:Bool=>[.bool j6])) (fun j6:Bool=>
   if j6=true then
    Option.bind (idx a0.items s14) fun x10=>
    some (x10,true)
   else
    Dw N a0 a1 k2 xs (s14+1)) fun k7=>
  if(xk5==a1)=true then
   k7 (decide (s14<(a0.items.length:Int)))
  else
   k7 false
def Fq (N:Nat) (a0:ApiValue) (a1:(List UInt8)):Option (ApiValue×Bool):=
 if(a0.kind !=7)=true then
  some ((ApiValue.mk 0 [] [] []),false)
 else
  AA (d:=.a (3,22) [(5,2),(11,26)] [] (fun j1:Unit=>[])) (fun j1:Unit=>
   some ((ApiValue.mk 0 [] [] []),false)) fun k2=>
  grd (AO (a0.keys.length)) (
   Dw N a0 a1 k2 a0.keys 0)
def CO (N:Nat) (a1:Int) (rec_ref14_parser_value:(Ref14Parser→ApiToken→Int→Option (ApiValue×Ref14Parser))) (k6:(ApiToken×(List ApiValue)×Ref14Parser→Option (ApiValue×Ref14Parser))):Nat→ApiToken→(List ApiValue)→Ref14Parser→Option (ApiValue×Ref14Parser)
  |0,_,_,_=>none
  |k+1,bn2,bn1_items,bi0=>
  if (bi0.fail==0)=true then
   AA (d:=.b (6,1) [(18,9)] [] (fun j10:(List ApiValue)×Ref14Parser=>[]) fun j10=>[.k,.s ([.int .i64 6,.str [],.slice 1 (List.map AVal.str []) true,.slice 4 (List.map AC j10.1) true]),.k,.s ([.str j10.2.s,.int .i64 j10.2.at_,.int .i64 j10.2.nodes,.int .i64 j10.2.fail,.int .i64 j10.2.where_])]) (fun j10:(List ApiValue)×Ref14Parser=>
    Option.bind (BA N j10.2) fun y16=>
    Option.bind (Fa N y16.1 ([93]:List UInt8)) fun y18=>
    if y18=true then
     some ((ApiValue.mk 6 [] [] j10.1),y16.2)
    else
     AA (d:=.b (10,5) [(32,14)] [] (fun j20:Ref14Parser=>[]) fun j20=>[.k,.k,.k,.s ([.str j20.s,.int .i64 j20.at_,.int .i64 j20.nodes,.int .i64 j20.fail,.int .i64 j20.where_])]) (fun j20:Ref14Parser=>
      Option.bind (BA N j20) fun y32=>
      CO N a1 rec_ref14_parser_value k6 k y32.1 j10.1 y32.2) fun k21=>
     AA (d:=.a (10,1) [(32,9)] [41] (fun j24:Bool=>[.bool j24])) (fun j24:Bool=>
      if j24=true then
       Option.bind (Aw N y16.2 y16.1.at_ 140) fun y30=>
       k21 y30
      else
       k21 y16.2) fun k25=>
     if(y16.2.fail==0)=true then
      Option.bind (Fa N y16.1 ([44]:List UInt8)) fun y28=>
      k25 (!y28)
     else
      k25 false) fun k11=>
   Option.bind (rec_ref14_parser_value bi0 bn2 a1) fun y14=>
   grd (Cg (bn1_items.length+1) 72) (
   k11 ((bn1_items++[y14.1]),y14.2))
  else
   k6 (bn2,bn1_items,bi0)
def Bq (N:Nat) (a1:Int) (rec_ref14_parser_value:(Ref14Parser→ApiToken→Int→Option (ApiValue×Ref14Parser))) (k6:(ApiToken×(List (List UInt8))×(List ApiValue)×Ref14Parser→Option (ApiValue×Ref14Parser))):Nat→ApiToken→(List (List UInt8))→(List ApiValue)→Ref14Parser→Option (ApiValue×Ref14Parser)
  |0,_,_,_,_=>none
  |k+1,bn2,bn1_keys,bn1_items,bi0=>
  if (bi0.fail==0)=true then
   AA (d:=.b (6,5) [(22,7)] [] (fun j10:Ref14Parser=>[]) fun j10=>[.k,.k,.k,.s ([.str j10.s,.int .i64 j10.at_,.int .i64 j10.nodes,.int .i64 j10.fail,.int .i64 j10.where_])]) (fun j10:Ref14Parser=>
    AA (d:=.b (8,7) [(7,2),(29,12)] [] (fun j16:Ref14Parser=>[]) fun j16=>[.k,.k,.k,.s ([.str j16.s,.int .i64 j16.at_,.int .i64 j16.nodes,.int .i64 j16.fail,.int .i64 j16.where_])]) (fun j16:Ref14Parser=>
     AA (d:=.b (12,7) [(43,16)] [] (fun j24:ApiToken×Ref14Parser=>[]) fun j24=>[.s ([.int .i64 j24.1.kind,.str j24.1.text,.int .i64 j24.1.at_]),.k,.k,.s ([.str j24.2.s,.int .i64 j24.2.at_,.int .i64 j24.2.nodes,.int .i64 j24.2.fail,.int .i64 j24.2.where_])]) (fun j24:ApiToken×Ref14Parser=>
      Option.bind (BA N j24.2) fun y38=>
      Option.bind (rec_ref14_parser_value y38.2 y38.1 a1) fun y40=>
      grd (Cg (bn1_keys.length+1) 16) (
      grd (Cg (bn1_items.length+1) 72) (
      Option.bind (BA N y40.2) fun y42=>
      Option.bind (Fa N y42.1 ([125]:List UInt8)) fun y44=>
      if y44=true then
       some ((ApiValue.mk 7 [] (bn1_keys++[bn2.text]) (bn1_items++[y40.1])),y42.2)
      else
       AA (d:=.b (20,5) [(81,14)] [] (fun j46:Ref14Parser=>[]) fun j46=>[.k,.k,.k,.k,.s ([.str j46.s,.int .i64 j46.at_,.int .i64 j46.nodes,.int .i64 j46.fail,.int .i64 j46.where_])]) (fun j46:Ref14Parser=>
        Option.bind (BA N j46) fun y58=>
        Bq N a1 rec_ref14_parser_value k6 k y58.1 (bn1_keys++[bn2.text]) (bn1_items++[y40.1]) y58.2) fun k47=>
       AA (d:=.a (20,1) [(81,9)] [90] (fun j50:Bool=>[.bool j50])) (fun j50:Bool=>
        if j50=true then
         Option.bind (Aw N y42.2 y42.1.at_ 140) fun y56=>
         k47 y56
        else
         k47 y42.2) fun k51=>
       if(y42.2.fail==0)=true then
        Option.bind (Fa N y42.1 ([44]:List UInt8)) fun y54=>
        k51 (!y54)
       else
        k51 false))) fun k25=>
     Option.bind (BA N j16) fun y28=>
     AA (d:=.a (13,1) [(45,9)] [54] (fun j30:Bool=>[.bool j30])) (fun j30:Bool=>
      if j30=true then
       Option.bind (Aw N y28.2 y28.1.at_ 140) fun y36=>
       k25 (y28.1,y36)
      else
       k25 (y28.1,y28.2)) fun k31=>
     if(y28.2.fail==0)=true then
      Option.bind (Fa N y28.1 ([58]:List UInt8)) fun y34=>
      k31 (!y34)
     else
      k31 false) fun k17=>
    Option.bind (Fq N (ApiValue.mk 7 [] bn1_keys bn1_items) bn2.text) fun y20=>
    if y20.2=true then
     Option.bind (Aw N j10 bn2.at_ 143) fun y22=>
     k17 y22
    else
     k17 j10) fun k11=>
   if(bn2.kind !=3)=true then
    Option.bind (Aw N bi0 bn2.at_ 140) fun y14=>
    k11 y14
   else
    k11 bi0
  else
   k6 (bn2,bn1_keys,bn1_items,bi0)
mutual
def EA (N:Nat):Nat→Ref14Parser→Int→Option (ApiValue×Ref14Parser)
  |0,_,_=>none
  |D+1,a0,a1=>
  Option.bind (BA N a0) fun y1=>
  Option.bind (Fa N y1.1 ([93]:List UInt8)) fun y3=>
  if y3=true then
   some ((ApiValue.mk 6 [] [] []),y1.2)
  else
   AA (d:=.b (0,28) [(13,35)] [] (fun j5:ApiToken×(List ApiValue)×Ref14Parser=>[]) fun j5=>[.s ([.int .i64 j5.1.kind,.str j5.1.text,.int .i64 j5.1.at_]),.s ([.int .i64 6,.str [],.slice 1 (List.map AVal.str []) true,.slice 4 (List.map AC j5.2.1) true]),.k,.s ([.str j5.2.2.s,.int .i64 j5.2.2.at_,.int .i64 j5.2.2.nodes,.int .i64 j5.2.2.fail,.int .i64 j5.2.2.where_])]) (fun j5:ApiToken×(List ApiValue)×Ref14Parser=>
    some ((ApiValue.mk 6 [] [] j5.2.1),j5.2.2)) fun k6=>
   CO N a1 (Bf N D) k6 N y1.1 [] y1.2
def Dj (N:Nat):Nat→Ref14Parser→Int→Option (ApiValue×Ref14Parser)
  |0,_,_=>none
  |D+1,a0,a1=>
  Option.bind (BA N a0) fun y1=>
  Option.bind (Fa N y1.1 ([125]:List UInt8)) fun y3=>
  if y3=true then
   some ((ApiValue.mk 7 [] [] []),y1.2)
  else
   AA (d:=.b (0,54) [(7,4),(17,80)] [] (fun j5:ApiToken×(List (List UInt8))×(List ApiValue)×Ref14Parser=>[]) fun j5=>[.s ([.int .i64 j5.1.kind,.str j5.1.text,.int .i64 j5.1.at_]),.s ([.int .i64 7,.str [],.slice 1 (List.map AVal.str j5.2.1) true,.slice 4 (List.map AC j5.2.2.1) true]),.k,.s ([.str j5.2.2.2.s,.int .i64 j5.2.2.2.at_,.int .i64 j5.2.2.2.nodes,.int .i64 j5.2.2.2.fail,.int .i64 j5.2.2.2.where_])]) (fun j5:ApiToken×(List (List UInt8))×(List ApiValue)×Ref14Parser=>
    some ((ApiValue.mk 7 [] j5.2.1 j5.2.2.1),j5.2.2.2)) fun k6=>
   Bq N a1 (Bf N D) k6 N y1.1 [] [] y1.2
def Bf (N:Nat):Nat→Ref14Parser→ApiToken→Int→Option (ApiValue×Ref14Parser)
  |0,_,_,_=>none
  |D+1,a0,a1,a2=>
  AA (d := .a (1,1) [(11,21)] [7] (fun j1:Bool=>[.bool j1])) (fun j1:Bool=>
   if(a0.fail !=0)=true then
    some ((ApiValue.mk 0 [] [] []),a0)
   else
    if j1=true then
     AA (d:=.a (7,1) [(45,6)] [51] (fun j9:Bool=>[.bool j9])) (fun j9:Bool=>
      if j9=true then
       Option.bind (Aw N a0 a1.at_ 141) fun y13=>
       some ((ApiValue.mk 0 [] [] []),y13)
      else
       AA (d:=.b (11,13) [(9,2),(60,18)] [] (fun j15:Int×(List UInt8)×Ref14Parser=>[]) fun j15=>[.s ([.int .i64 j15.1,.str j15.2.1,.slice 1 (List.map AVal.str []) true,.slice 4 (List.map AC []) true]),.k,.k,.s ([.str j15.2.2.s,.int .i64 j15.2.2.at_,.int .i64 j15.2.2.nodes,.int .i64 j15.2.2.fail,.int .i64 j15.2.2.where_])]) (fun j15:Int×(List UInt8)×Ref14Parser=>
        AA (d:=.b (16,7) [(78,16)] [] (fun j27:(List UInt8)×Int×Int×Int×Int=>[]) fun j27=>[.k,.k,.k,.s ([.str j27.1,.int .i64 j27.2.1,.int .i64 j27.2.2.1,.int .i64 j27.2.2.2.1,.int .i64 j27.2.2.2.2])]) (fun j27:(List UInt8)×Int×Int×Int×Int=>
         if(a1.kind==5)=true then
          Option.bind (LP N a1.text) fun y33=>
          some ((ApiValue.mk y33 [] [] []),(Ref14Parser.mk j27.1 j27.2.1 j27.2.2.1 j27.2.2.2.1 j27.2.2.2.2))
         else
          Option.bind (Fa N a1 ([91]:List UInt8)) fun y35=>
          if y35=true then
           Option.bind ((EA N D) (Ref14Parser.mk j27.1 j27.2.1 j27.2.2.1 j27.2.2.2.1 j27.2.2.2.2) (wr .i64 (a2+1))) fun y37=>
           some (y37.1,y37.2)
          else
           Option.bind (Fa N a1 ([123]:List UInt8)) fun y39=>
           if y39=true then
            Option.bind ((Dj N D) (Ref14Parser.mk j27.1 j27.2.1 j27.2.2.1 j27.2.2.2.1 j27.2.2.2.2) (wr .i64 (a2+1))) fun y41=>
            some (y41.1,y41.2)
           else
            some ((ApiValue.mk j15.1 j15.2.1 [] []),(Ref14Parser.mk j27.1 j27.2.1 j27.2.2.1 j27.2.2.2.1 j27.2.2.2.2))) fun k28=>
        if(decide ((wr .i64 (j15.2.2.nodes+1))>20000))=true then
         Option.bind (Aw N (Ref14Parser.mk j15.2.2.s j15.2.2.at_ (wr .i64 (j15.2.2.nodes+1)) j15.2.2.fail j15.2.2.where_) a1.at_ 142) fun y31=>
         k28 (y31.s,y31.at_,y31.nodes,y31.fail,y31.where_)
        else
         k28 (j15.2.2.s,j15.2.2.at_,(wr .i64 (j15.2.2.nodes+1)),j15.2.2.fail,j15.2.2.where_)) fun k16=>
       if(a1.kind==4)=true then
        Option.bind (Je N a1.text) fun y19=>
        AA (d:=.b (13,5) [(69,7)] [] (fun j21:Ref14Parser=>[]) fun j21=>[.k,.k,.k,.s ([.str j21.s,.int .i64 j21.at_,.int .i64 j21.nodes,.int .i64 j21.fail,.int .i64 j21.where_])]) (fun j21:Ref14Parser=>
         k16 (4,y19.1,j21)) fun k22=>
        if(y19.2 !=0)=true then
         Option.bind (Aw N a0 a1.at_ y19.2) fun y25=>
         k22 y25
        else
         k22 a0
       else
        k16 (5,a1.text,a0)) fun k10=>
     if(a1.kind==2)=true then
      k10 (a2==64)
     else
      k10 false
    else
     Option.bind (Aw N a0 a1.at_ 140) fun y43=>
     some ((ApiValue.mk 0 [] [] []),y43)) fun k2=>
  if(a1.kind==3)=true then
   k2 true
  else
   if(a1.kind==4)=true then
    k2 true
   else
    if(a1.kind==5)=true then
     k2 true
    else
     Option.bind (Fa N a1 ([91]:List UInt8)) fun y5=>
     if y5=true then
      k2 true
     else
      Option.bind (Fa N a1 ([123]:List UInt8)) fun y7=>
      k2 y7
end
def Ht (N:Nat) (a0:(List UInt8)):Option (ApiValue×Int×Int):=
 if(decide ((a0.length:Int)>1048576))=true then
  some ((ApiValue.mk 0 [] [] []),0,142)
 else
  Option.bind (BA N (Ref14Parser.mk a0 0 0 0 0)) fun y1=>
  Option.bind (Bf N N y1.2 y1.1 0) fun y3=>
  AA (d:=.b (5,7) [(7,1),(19,16)] [] (fun j5:Ref14Parser=>[]) fun j5=>[.k,.s ([.str j5.s,.int .i64 j5.at_,.int .i64 j5.nodes,.int .i64 j5.fail,.int .i64 j5.where_])]) (fun j5:Ref14Parser=>
   if(j5.fail !=0)=true then
    some ((ApiValue.mk 0 [] [] []),j5.where_,j5.fail)
   else
    some (y3.1,(a0.length:Int),0)) fun k6=>
  Option.bind (BA N y3.2) fun y9=>
  AA (d:=.a (6,1) [(21,9)] [30] (fun j11:Bool=>[.bool j11])) (fun j11:Bool=>
   if j11=true then
    Option.bind (Aw N y9.2 y9.1.at_ 140) fun y15=>
    k6 y15
   else
    k6 y9.2) fun k12=>
  if(y9.2.fail==0)=true then
   k12 (y9.1.kind !=1)
  else
   k12 false
def EJ (N:Nat) (k2:(Int×Int×(List Int)→Option ((List UInt8)))):Nat→Int→Int→(List Int)→Option ((List UInt8))
  |0,_,_,_=>none
  |k+1,s0,s4,bn=>
  if(decide (s0≥10))=true then
   grd (0≤s4∧s4<20) (
   grd (s4.toNat+1≤bn.length) (
   EJ N k2 k (wr .u64 (s0.tdiv 10)) (wr .i64 (s4-1)) (bn.set s4.toNat (wr .u8 (wr .u64 (48+(s0.tmod 10)))))))
  else
   k2 (s0,s4,bn)
def Gv (N:Nat) (a0:Int):Option ((List UInt8)):=
 AA (d:=.b (0,14) [(5,12)] [0,4] (fun j1:Int×Int×(List Int)=>[.int .u64 j1.1,.int .i64 j1.2.1]) fun j1=>[.s (List.map (AVal.int .u8) j1.2.2)]) (fun j1:Int×Int×(List Int)=>
  grd (0≤j1.2.1∧j1.2.1<20) (
  grd (j1.2.1.toNat+1≤j1.2.2.length) (
  grd (0≤j1.2.1∧j1.2.1≤20) (
  grd ((20-j1.2.1.toNat)≤j1.2.2.length-j1.2.1.toNat∧AO (20-j1.2.1.toNat)) (
  some ((List.map Fx (List.take (20-j1.2.1.toNat) (List.drop j1.2.1.toNat (j1.2.2.set j1.2.1.toNat (wr .u8 (wr .u64 (48+j1.1))))))))))))) fun k2=>
 EJ N k2 N a0 19 (List.replicate 20 0)
def KY (N:Nat) (a0:ApiHostPort):Option ((List UInt8)):=
 if(a0.port==0)=true then
  some (a0.host)
 else
  if(decide (a0.port<0))=true then
   grd (AO (a0.host.length+([58,45]:List UInt8).length)) (
   Option.bind (Gv N (wr .u64 (0-(wr .u64 a0.port)))) fun y1=>
   grd (AO ((a0.host++([58,45]:List UInt8)).length+y1.length)) (
   some (((a0.host++([58,45]:List UInt8))++y1))))
  else
   grd (AO (a0.host.length+([58]:List UInt8).length)) (
   Option.bind (Gv N (wr .u64 a0.port)) fun y3=>
   grd (AO ((a0.host++([58]:List UInt8)).length+y3.length)) (
   some (((a0.host++([58]:List UInt8))++y3))))
def KO (N:Nat) (a0:ApiURL):Option (ApiHostPort):=
 some ((ApiHostPort.mk a0.host a0.port))
def Ie (N:Nat) (a0:ApiURL):Option ((List UInt8)):=
 if a0.hasQuery=true then
  grd (AO (a0.path.length+([63]:List UInt8).length)) (
  grd (AO ((a0.path++([63]:List UInt8)).length+a0.query.length)) (
  some (((a0.path++([63]:List UInt8))++a0.query))))
 else
  some (a0.path)
def EM (N:Nat) (a0:ApiURL):Option ((List UInt8)):=
 Option.bind (KO N a0) fun y1=>
 Option.bind (KY N y1) fun y3=>
 grd (AO (([104,116,116,112,115,58,47,47]:List UInt8).length+y3.length)) (
 Option.bind (Ie N a0) fun y5=>
 grd (AO ((([104,116,116,112,115,58,47,47]:List UInt8)++y3).length+y5.length)) (
 AA (d:=.a (2,5) [(11,7)] [3] (fun j7:(List UInt8)=>[.str j7])) (fun j7:(List UInt8)=>
  some (j7)) fun k8=>
 if a0.hasFrag=true then
  grd (AO (([35]:List UInt8).length+a0.fragment.length)) (
  grd (AO (((([104,116,116,112,115,58,47,47]:List UInt8)++y3)++y5).length+(([35]:List UInt8)++a0.fragment).length)) (
  k8 (((([104,116,116,112,115,58,47,47]:List UInt8)++y3)++y5)++(([35]:List UInt8)++a0.fragment))))
 else
  k8 ((([104,116,116,112,115,58,47,47]:List UInt8)++y3)++y5)))
def Ez (N:Nat) (a0:ApiDID):Option ((List UInt8)):=
 grd (AO (([100,105,100,58]:List UInt8).length+a0.method.length)) (
 grd (AO ((([100,105,100,58]:List UInt8)++a0.method).length+([58]:List UInt8).length)) (
 grd (AO (((([100,105,100,58]:List UInt8)++a0.method)++([58]:List UInt8)).length+a0.iD.length)) (
 some ((((([100,105,100,58]:List UInt8)++a0.method)++([58]:List UInt8))++a0.iD)))))
def BG (N:Nat) (a0:(List UInt8)) (a1:(List UInt8)):Option (Bool):=
 if(decide ((a0.length:Int)≥(a1.length:Int)))=true then
  Option.bind (sub a0 0 (a1.length:Int)) fun x1=>
  some ((x1==a1))
 else
  some (false)
def DZ (N:Nat) (a0:(List UInt8)) (a1:(List UInt8)):Option ((List UInt8)×Bool):=
 Option.bind (BG N a0 a1) fun y1=>
 if y1=true then
  Option.bind (sub a0 (a1.length:Int) (a0.length:Int)) fun x3=>
  some (x3,true)
 else
  some (a0,false)
def strings_CutPrefix (N:Nat) (a0:(List UInt8)) (a1:(List UInt8)):Option ((List UInt8)×Bool):=
 Option.bind (DZ N a0 a1) fun y1=>
 some (y1.1,y1.2)
def Ex (N:Nat) (k2:(Unit→Option (Bool))):List UInt8→Option (Bool)
  |[]=>
  k2 ()
  |xk5::xs=>
  AA (d:=.a (4,1) [(9,16)] [25] (fun j6:Bool=>[.bool j6])) (fun j6:Bool=>
   if j6=true then
    some (false)
   else
    Ex N k2 xs) fun k7=>
  Option.bind (Cu N (AJ xk5)) fun y10=>
  if y10=true then
   k7 false
  else
   if(decide ((AJ xk5)<97))=true then
    k7 true
   else
    k7 (decide ((AJ xk5)>122))
def LY (N:Nat) (a0:(List UInt8)):Option (Bool):=
 AA (d:=.a (1,22) [(2,25)] [] (fun j1:Unit=>[])) (fun j1:Unit=>
  some ((!(a0==[])))) fun k2=>
 grd (AO (a0.length)) (
  Ex N k2 a0)
def strings_Index (N:Nat) (a0:(List UInt8)) (a1:(List UInt8)):Option (Int):=
 Option.bind (CS N a0 a1) fun y1=>
 some (y1)
def strings_Contains (N:Nat) (a0:(List UInt8)) (a1:(List UInt8)):Option (Bool):=
 Option.bind (strings_Index N a0 a1) fun y1=>
 some ((decide (y1≥0)))
def F7 (N:Nat) (a0:Int):Option (Bool):=
 if(decide (97≤(Li .u8 a0 32)))=true then
  some ((decide ((Li .u8 a0 32)≤122)))
 else
  some (false)
def Nr (N:Nat) (a0:Int):Option (Bool):=
 Option.bind (F7 N a0) fun y1=>
 if y1=true then
  some (true)
 else
  Option.bind (Cu N a0) fun y3=>
  some (y3)
def strings_IndexByte (N:Nat) (a0:(List UInt8)) (a1:Int):Option (Int):=
 Option.bind (Am N a0 a1) fun y1=>
 some (y1)
def Ny (N:Nat) (a0:Int) (a1:(List UInt8)):Option (Bool):=
 Option.bind (strings_IndexByte N a1 a0) fun y1=>
 some ((decide (y1≥0)))
def El (N:Nat) (a0:Int):Option (Bool):=
 Option.bind (Nr N a0) fun y1=>
 if y1=true then
  some (true)
 else
  Option.bind (Ny N a0 ([45,46,95,126]:List UInt8)) fun y3=>
  some (y3)
def FH (N:Nat) (a0:(List Int)) (a1:Int):Option ((List Int)):=
 Option.bind (idx ([48,49,50,51,52,53,54,55,56,57,65,66,67,68,69,70]:List UInt8) (Uc .u8 a1 4)) fun x1=>
 Option.bind (idx ([48,49,50,51,52,53,54,55,56,57,65,66,67,68,69,70]:List UInt8) (Jq .u8 a1 15)) fun x2=>
 grd (Cg (a0.length+3) 1) (
 some ((a0++[37,(AJ x1),(AJ x2)])))
def BZ (N:Nat) (a0:(List UInt8)) (a1:(List UInt8)) (k2:((List Int)→Option ((List UInt8)×Int))):Nat→Int→(List Int)→Option ((List UInt8)×Int)
  |0,_,_=>none
  |k+1,s7,bn=>
  if (decide (s7<(a0.length:Int)))=true then
   AA (d:=.b (1,31) [(4,2),(8,3),(20,37)] [7] (fun j6:Int×(List Int)=>[.int .i64 j6.1]) fun j6=>[.s ([.slice 1 (List.map (AVal.int .u8) j6.2) true])]) (fun j6:Int×(List Int)=>
    BZ N a0 a1 k2 k (wr .i64 (j6.1+1)) j6.2) fun k7=>
   Option.bind (idx a0 s7) fun x10=>
   if((AJ x10)==37)=true then
    Option.bind (Fu N a0 s7) fun y11=>
    if y11.2=true then
     Option.bind (El N y11.1) fun y13=>
     if y13=true then
      grd (Cg (bn.length+1) 1) (
      k7 ((wr .i64 (s7+2)),(bn++[y11.1])))
     else
      Option.bind (FH N bn y11.1) fun y15=>
      k7 ((wr .i64 (s7+2)),y15)
    else
     some ([],2)
   else
    AA (d:=.a (17,1) [(45,8)] [44] (fun j17:Bool=>[.bool j17])) (fun j17:Bool=>
     if j17=true then
      grd (Cg (bn.length+1) 1) (
      k7 (s7,(bn++[(AJ x10)])))
     else
      some ([],1)) fun k18=>
    Option.bind (El N (AJ x10)) fun y21=>
    if y21=true then
     k18 true
    else
     Option.bind (strings_IndexByte N a1 (AJ x10)) fun y23=>
     k18 (decide (y23≥0))
  else
   k2 bn
def Bt (N:Nat) (a0:(List UInt8)) (a1:(List UInt8)):Option ((List UInt8)×Int):=
 if(decide ((a0.length:Int)>16384))=true then
  some ([],5)
 else
  AA (d:=.b (4,43) [(4,2),(7,4),(14,43)] [] (fun j1:(List Int)=>[]) fun j1=>[.s ([.slice 1 (List.map (AVal.int .u8) j1) true])]) (fun j1:(List Int)=>
   some ((List.map Fx j1),0)) fun k2=>
  BZ N a0 a1 k2 N 0 []
def Df (N:Nat) (a0:StringsBuilder):Option (StringsBuilder):=
 if a0.addr=true then
  some (a0)
 else
  some ((StringsBuilder.mk true a0.buf))
def AZ (N:Nat) (a0:StringsBuilder) (a1:(List UInt8)):Option (Int×Unit×StringsBuilder):=
 Option.bind (Df N a0) fun y1=>
 grd (Cg (y1.buf.length+a1.length) 1) (
 some ((a1.length:Int),(),(StringsBuilder.mk y1.addr (y1.buf++a1))))
def CX (N:Nat) (a0:StringsBuilder):Option ((List UInt8)×StringsBuilder):=
 some (a0.buf,a0)
def BL (N:Nat) (a0:(List UInt8)) (k2:(Int→Option (Int))):Nat→Int→Nat→Option (Int)
  |0,_,_=>none
  |k+1,s2,s4=>
  if(decide (s4<a0.length))=true then
   BL N a0 k2 k (wr .i64 (s2+1)) (s4+(Cm a0 s4).2)
  else
   k2 s2
def CU (N:Nat) (a0:(List UInt8)):Option (Int):=
 AA (d:=.a (1,12) [(3,6)] [2] (fun j1:Int=>[.int .i64 j1])) (fun j1:Int=>
  some (j1)) fun k2=>
 BL N a0 k2 N 0 0
def GD (N:Nat) (a1:(List UInt8)):Nat→(List UInt8)→Int→Option (Int)
  |0,_,_=>none
  |k+1,s0,s5=>
  Option.bind (strings_Index N s0 a1) fun y5=>
  if(y5==(-1))=true then
   some (s5)
  else
   Option.bind (sub s0 (wr .i64 (y5+(a1.length:Int))) (s0.length:Int)) fun x7=>
   GD N a1 k x7 (wr .i64 (s5+1))
def strings_Count (N:Nat) (a0:(List UInt8)) (a1:(List UInt8)):Option (Int):=
 if((a1.length:Int)==0)=true then
  Option.bind (CU N a0) fun y1=>
  some ((wr .i64 (y1+1)))
 else
  if((a1.length:Int)==1)=true then
   Option.bind (idx a1 0) fun x3=>
   some (((Go.Lib.countByte a0 (Fx (AJ x3)):Nat):Int))
  else
   GD N a1 N a0 0
def Fw (N:Nat) (n:Int):Option Unit:=grd (0<n∧n≤140737488355328) (some ())
def Dr (N:Nat) (a0:(List UInt8)):Option (Int×Int):=
 if(decide ((a0.length:Int)<1))=true then
  some (65533,0)
 else
  Option.bind (idx a0 0) fun x1=>
  (none:Option (Int×Int))
def CL (N:Nat) (a0:(List UInt8)):Option (Int×Int):=
 AA (d:=.a (1,1) [(4,6)] [10] (fun j1:Bool=>[.bool j1])) (fun j1:Bool=>
  if j1=true then
   Option.bind (idx a0 0) fun x6=>
   some ((wr .i32 (AJ x6)),1)
  else
   Option.bind (Dr N a0) fun y7=>
   some (y7.1,y7.2)) fun k2=>
 if(a0==[])=true then
  k2 false
 else
  Option.bind (idx a0 0) fun x5=>
  k2 (decide ((AJ x5)<128))
def EC (N:Nat) (a0:(List UInt8)) (a2:(List UInt8)) (k18:(Int×Bool×(List UInt8)→Option ((List UInt8)))):Nat→Int→StringsBuilder→Option ((List UInt8))
  |0,s11,bn8=>
  k18 (s11,bn8.addr,bn8.buf)
  |k+1,s11,bn8=>
  Option.bind (sub a0 s11 (a0.length:Int)) fun x33=>
  Option.bind (CL N x33) fun y34=>
  Option.bind (sub a0 s11 (wr .i64 (s11+y34.2))) fun x36=>
  Option.bind (AZ N bn8 x36) fun y37=>
  Option.bind (AZ N y37.2.2 a2) fun y39=>
  EC N a0 a2 k18 k (wr .i64 (s11+y34.2)) y39.2.2
def CJ (N:Nat) (a0:(List UInt8)) (a1:(List UInt8)) (a2:(List UInt8)) (k18:(Int×Bool×(List UInt8)→Option ((List UInt8)))):Nat→Int→Bool→(List UInt8)→Option ((List UInt8))
  |0,s11,bn8_addr,bn8_buf=>
  k18 (s11,bn8_addr,bn8_buf)
  |k+1,s11,bn8_addr,bn8_buf=>
  Option.bind (sub a0 s11 (a0.length:Int)) fun x22=>
  Option.bind (strings_Index N x22 a1) fun y23=>
  Option.bind (sub a0 s11 (wr .i64 (s11+y23))) fun x25=>
  Option.bind (AZ N (StringsBuilder.mk bn8_addr bn8_buf) x25) fun y26=>
  Option.bind (AZ N y26.2.2 a2) fun y28=>
  CJ N a0 a1 a2 k18 k (wr .i64 ((wr .i64 (s11+y23))+(a1.length:Int))) y28.2.2.addr y28.2.2.buf
def strings_Replace (N:Nat) (a0:(List UInt8)) (a1:(List UInt8)) (a2:(List UInt8)) (a3:Int):Option ((List UInt8)):=
 AA (d:=.a (1,1) [(16,6)] [22] (fun j1:Bool=>[.bool j1])) (fun j1:Bool=>
  if j1=true then
   some (a0)
  else
   AA (d:=.a (3,13) [(8,2),(24,14)] [3] (fun j5:Int=>[.int .i64 j5])) (fun j5:Int=>
    Option.bind (Fw N (wr .i64 ((a0.length:Int)+(wr .i64 (j5 * (wr .i64 ((a2.length:Int)-(a1.length:Int)))))))) fun y15=>
    AA (fun j17:Int×Bool×(List UInt8)=>
     Option.bind (sub a0 j17.1 (a0.length:Int)) fun x41=>
     Option.bind (AZ N (StringsBuilder.mk j17.2.1 j17.2.2) x41) fun y42=>
     Option.bind (CX N y42.2.2) fun y44=>
     some (y44.1)) fun k18=>
    if(decide ((a1.length:Int)>0))=true then
     grd ((-4611686018427387904:Int)≤0∧(j5:Int)≤4611686018427387904) (
      CJ N a0 a1 a2 k18 ((j5:Int)-0).toNat 0 true [])
    else
     Option.bind (AZ N (StringsBuilder.mk true []) a2) fun y30=>
     grd ((-4611686018427387904:Int)≤0∧((wr .i64 (j5-1)):Int)≤4611686018427387904) (
      EC N a0 a2 k18 (((wr .i64 (j5-1)):Int)-0).toNat 0 y30.2.2)) fun k6=>
   Option.bind (strings_Count N a0 a1) fun y9=>
   if(y9==0)=true then
    some (a0)
   else
    AA (d:=.a (6,1) [(30,6)] [36] (fun j11:Bool=>[.bool j11])) (fun j11:Bool=>
     if j11=true then
      k6 y9
     else
      k6 a3) fun k12=>
    if(decide (a3<0))=true then
     k12 true
    else
     k12 (decide (y9<a3))) fun k2=>
 if(a1==a2)=true then
  k2 true
 else
  k2 (a3==0)
def strings_ReplaceAll (N:Nat) (a0:(List UInt8)) (a1:(List UInt8)) (a2:(List UInt8)):Option ((List UInt8)):=
 Option.bind (strings_Replace N a0 a1 a2 (-1)) fun y1=>
 some (y1)
def Im (N:Nat) (a0:(List UInt8)):Option ((List UInt8)×Int):=
 Option.bind (Bt N a0 ([58]:List UInt8)) fun y1=>
 Option.bind (E9 N a0) fun y3=>
 if(y3.2 !=0)=true then
  some ([],y3.2)
 else
  AA (d:=.a (5,5) [(21,6)] [5] (fun j5:Int=>[.int .i64 j5])) (fun j5:Int=>
   Option.bind (strings_ReplaceAll N y1.1 ([126]:List UInt8) ([37,55,69]:List UInt8)) fun y15=>
   some (y15,j5)) fun k6=>
  AA (d:=.a (5,1) [(21,5)] [26] (fun j9:Bool=>[.bool j9])) (fun j9:Bool=>
   if j9=true then
    k6 1
   else
    k6 y1.2) fun k10=>
  if(y1.2==0)=true then
   Option.bind (strings_Contains N a0 ([126]:List UInt8)) fun y13=>
   k10 y13
  else
   k10 false
def Db (N:Nat) (a0:(List UInt8)) (a1:(List UInt8)):Option (Bool):=
 if(decide ((a0.length:Int)≥(a1.length:Int)))=true then
  Option.bind (sub a0 (wr .i64 ((a0.length:Int)-(a1.length:Int))) (a0.length:Int)) fun x1=>
  some ((x1==a1))
 else
  some (false)
def strings_HasSuffix (N:Nat) (a0:(List UInt8)) (a1:(List UInt8)):Option (Bool):=
 Option.bind (Db N a0 a1) fun y1=>
 some (y1)
def Ga (N:Nat) (a0:(List UInt8)):Option (ApiDID×Int):=
 if(decide ((a0.length:Int)>4096))=true then
  some ((ApiDID.mk [] []),5)
 else
  Option.bind (strings_CutPrefix N a0 ([100,105,100,58]:List UInt8)) fun y1=>
  if y1.2=true then
   Option.bind (strings_Cut N y1.1 ([58]:List UInt8)) fun y3=>
   if y3.2.2=true then
    Option.bind (LY N y3.1) fun y5=>
    if y5=true then
     Option.bind (Im N y3.2.1) fun y7=>
     if(y7.2 !=0)=true then
      some ((ApiDID.mk [] []),y7.2)
     else
      AA (d:=.a (14,1) [(47,6)] [46] (fun j9:Bool=>[.bool j9])) (fun j9:Bool=>
       if j9=true then
        some ((ApiDID.mk [] []),3)
       else
        some ((ApiDID.mk y3.1 y7.1),0)) fun k10=>
      if(y7.1==[])=true then
       k10 true
      else
       Option.bind (strings_HasSuffix N y7.1 ([58]:List UInt8)) fun y13=>
       k10 y13
    else
     some ((ApiDID.mk [] []),100)
   else
    some ((ApiDID.mk [] []),6)
  else
   some ((ApiDID.mk [] []),60)
def Cx (N:Nat) (a0:DiddocDecoder) (a1:Int):Option (DiddocDecoder):=
 if(a0.e==0)=true then
  some ((DiddocDecoder.mk a0.did a1))
 else
  some (a0)
def BP (N:Nat) (k2:((List (List UInt8))×DiddocDecoder→Option ((List (List UInt8))×DiddocDecoder))):List ApiValue→(List (List UInt8))→DiddocDecoder→Option ((List (List UInt8))×DiddocDecoder)
  |[],s5,bi0=>
  k2 (s5,bi0)
  |xk5::xs,s5,bi0=>
  AA (d:=.b (5,5) [(14,5)] [] (fun j6:DiddocDecoder=>[]) fun j6=>[.k,.s ([.str j6.did.method,.str j6.did.iD,.int .i64 j6.e])]) (fun j6:DiddocDecoder=>
   grd (Cg (s5.length+1) 16) (
   BP N k2 xs (s5++[xk5.text]) j6)) fun k7=>
  if(xk5.kind !=5)=true then
   Option.bind (Cx N bi0 160) fun y10=>
   k7 y10
  else
   k7 bi0
def Br (N:Nat) (a0:DiddocDecoder) (a1:(List ApiValue)):Option ((List (List UInt8))×DiddocDecoder):=
 AA (d:=.b (2,22) [(7,18)] [5] (fun j1:(List (List UInt8))×DiddocDecoder=>[.slice 1 (List.map AVal.str j1.1) true]) fun j1=>[.s ([.str j1.2.did.method,.str j1.2.did.iD,.int .i64 j1.2.e])]) (fun j1:(List (List UInt8))×DiddocDecoder=>
  some (j1.1,j1.2)) fun k2=>
 grd (AO (a1.length)) (
  BP N k2 a1 [] a0)
def Ch (N:Nat) (a0:ApiValue) (a1:(List UInt8)) (k2:(Unit→Option (ApiValue×Bool))):List (List UInt8)→Int→Option (ApiValue×Bool)
  |[],s11=>
  k2 ()
  |xk5::xs,s11=>
  AA (d:=.a (4,1) [(16,14)] [30] (fun j6:Bool=>[.bool j6])) (fun j6:Bool=>
   if j6=true then
    Option.bind (idx a0.items s11) fun x10=>
    some (x10,true)
   else
    Ch N a0 a1 k2 xs (s11+1)) fun k7=>
  if(a0.kind==7)=true then
   if(decide (s11<(a0.items.length:Int)))=true then
    k7 (xk5==a1)
   else
    k7 false
  else
   k7 false
def FU (N:Nat) (a0:ApiValue) (a1:(List UInt8)):Option (ApiValue×Bool):=
 AA (d:=.a (1,22) [(5,32)] [] (fun j1:Unit=>[])) (fun j1:Unit=>
  some ((ApiValue.mk 0 [] [] []),false)) fun k2=>
 grd (AO (a0.keys.length)) (
  Ch N a0 a1 k2 a0.keys 0)
def Bh (N:Nat) (a0:DiddocDecoder) (a1:ApiValue) (a2:(List UInt8)):Option ((List UInt8)×DiddocDecoder):=
 Option.bind (FU N a1 a2) fun y1=>
 Option.bind (Br N a0 [y1.1]) fun y3=>
 Option.bind (idx y3.1 0) fun x5=>
 some (x5,y3.2)
def EK (N:Nat) (a0:DiddocDecoder) (a1:ApiValue):Option ((List ApiValue)×DiddocDecoder):=
 if(a1.kind !=6)=true then
  Option.bind (Cx N a0 160) fun y1=>
  some ([],y1)
 else
  if(decide ((a1.items.length:Int)>64))=true then
   Option.bind (Cx N a0 161) fun y3=>
   some ([],y3)
  else
   some (a1.items,a0)
def Cw (N:Nat) (a0:DiddocDecoder) (a1:ApiValue) (a2:(List UInt8)):Option ((List ApiValue)×DiddocDecoder):=
 Option.bind (FU N a1 a2) fun y1=>
 if y1.2=true then
  Option.bind (EK N a0 y1.1) fun y3=>
  some (y3.1,y3.2)
 else
  some ([],a0)
def BJ (N:Nat) (a0:DiddocDecoder) (a1:ApiValue):Option ((List (List UInt8))×DiddocDecoder):=
 if(a1.kind==5)=true then
  Option.bind (Br N a0 [a1]) fun y1=>
  some (y1.1,y1.2)
 else
  Option.bind (EK N a0 a1) fun y3=>
  Option.bind (Br N y3.2 y3.1) fun y5=>
  some (y5.1,y5.2)
def strings_HasPrefix (N:Nat) (a0:(List UInt8)) (a1:(List UInt8)):Option (Bool):=
 Option.bind (BG N a0 a1) fun y1=>
 some (y1)
def K8 (N:Nat) (a0:(List UInt8)):Option (ApiDIDURL×Int):=
 if(decide ((a0.length:Int)>4096))=true then
  some ((ApiDIDURL.mk (ApiDID.mk [] []) [] [] [] false false),5)
 else
  Option.bind (strings_Cut N a0 ([35]:List UInt8)) fun y1=>
  Option.bind (strings_Cut N y1.1 ([63]:List UInt8)) fun y3=>
  AA (d:=.b (7,7) [(6,1),(27,11)] [0] (fun j5:(List UInt8)×(List UInt8)=>[.str j5.1]) fun j5=>[.s ([.str [],.str [],.str j5.2,.str y3.2.1,.str y1.2.1,.bool y3.2.2,.bool y1.2.2])]) (fun j5:(List UInt8)×(List UInt8)=>
   Option.bind (Ga N j5.1) fun y13=>
   if(y13.2 !=0)=true then
    some ((ApiDIDURL.mk (ApiDID.mk [] []) [] [] [] false false),y13.2)
   else
    Option.bind (Bt N j5.2 ([33,36,38,39,40,41,42,43,44,59,61,58,64,47]:List UInt8)) fun y15=>
    if(y15.2 !=0)=true then
     some ((ApiDIDURL.mk (ApiDID.mk [] []) [] [] [] false false),y15.2)
    else
     Option.bind (Bt N y3.2.1 ([33,36,38,39,40,41,42,43,44,59,61,58,64,47,63]:List UInt8)) fun y17=>
     if(y17.2 !=0)=true then
      some ((ApiDIDURL.mk (ApiDID.mk [] []) [] [] [] false false),y17.2)
     else
      Option.bind (Bt N y1.2.1 ([33,36,38,39,40,41,42,43,44,59,61,58,64,47,63]:List UInt8)) fun y19=>
      if(y19.2 !=0)=true then
       some ((ApiDIDURL.mk (ApiDID.mk [] []) [] [] [] false false),y19.2)
      else
       some ((ApiDIDURL.mk y13.1 y15.1 y17.1 y19.1 y3.2.2 y1.2.2),0)) fun k6=>
  Option.bind (strings_IndexByte N y3.1 47) fun y9=>
  if(decide (y9≥0))=true then
   Option.bind (sub y3.1 0 y9) fun x11=>
   Option.bind (sub y3.1 y9 (y3.1.length:Int)) fun x12=>
   k6 (x11,x12)
  else
   k6 (y3.1,[])
def Kb (N:Nat) (a0:ApiDID) (a1:(List UInt8)):Option (ApiDIDURL×Int):=
 Option.bind (strings_HasPrefix N a1 ([100,105,100,58]:List UInt8)) fun y1=>
 if y1=true then
  Option.bind (K8 N a1) fun y3=>
  some (y3.1,y3.2)
 else
  AA (d:=.a (3,1) [(14,8)] [13] (fun j5:Bool=>[.bool j5])) (fun j5:Bool=>
   if j5=true then
    Option.bind (Ez N a0) fun y12=>
    grd (AO (y12.length+a1.length)) (
    Option.bind (K8 N (y12++a1)) fun y14=>
    some (y14.1,y14.2))
   else
    some ((ApiDIDURL.mk (ApiDID.mk [] []) [] [] [] false false),6)) fun k6=>
  if(a1==[])=true then
   k6 true
  else
   Option.bind (idx a1 0) fun x9=>
   Option.bind (strings_IndexByte N ([47,63,35]:List UInt8) (AJ x9)) fun y10=>
   k6 (decide (y10≥0))
def K9 (N:Nat) (a0:ApiDIDURL):Option ((List UInt8)):=
 Option.bind (Ez N a0.dID) fun y1=>
 grd (AO (y1.length+a0.path.length)) (
 AA (d:=.a (2,5) [(10,7)] [3] (fun j3:(List UInt8)=>[.str j3])) (fun j3:(List UInt8)=>
  AA (d:=.a (4,5) [(17,7)] [3] (fun j7:(List UInt8)=>[.str j7])) (fun j7:(List UInt8)=>
   some (j7)) fun k8=>
  if a0.hasFrag=true then
   grd (AO (([35]:List UInt8).length+a0.fragment.length)) (
   grd (AO (j3.length+(([35]:List UInt8)++a0.fragment).length)) (
   k8 (j3++(([35]:List UInt8)++a0.fragment))))
  else
   k8 j3) fun k4=>
 if a0.hasQuery=true then
  grd (AO (([63]:List UInt8).length+a0.query.length)) (
  grd (AO ((y1++a0.path).length+(([63]:List UInt8)++a0.query).length)) (
  k4 ((y1++a0.path)++(([63]:List UInt8)++a0.query))))
 else
  k4 (y1++a0.path))
def EW (N:Nat) (a0:DiddocDecoder) (a1:ApiValue):Option ((List UInt8)×DiddocDecoder):=
 Option.bind (Bh N a0 a1 ([105,100]:List UInt8)) fun y1=>
 Option.bind (Kb N y1.2.did y1.1) fun y3=>
 if(y3.2 !=0)=true then
  Option.bind (Cx N y1.2 160) fun y5=>
  some ([],y5)
 else
  Option.bind (K9 N y3.1) fun y7=>
  some (y7,y1.2)
def De (N:Nat) (a0:DiddocDecoder) (a1:ApiValue):Option (ApiService×DiddocDecoder):=
 Option.bind (EW N a0 a1) fun y1=>
 Option.bind (FU N a1 ([116,121,112,101]:List UInt8)) fun y3=>
 Option.bind (BJ N y1.2 y3.1) fun y5=>
 AA (fun j7:(List (List UInt8))×DiddocDecoder=>
  some ((ApiService.mk y1.1 y5.1 j7.1),j7.2)) fun k8=>
 Option.bind (FU N a1 ([115,101,114,118,105,99,101,69,110,100,112,111,105,110,116]:List UInt8)) fun y11=>
 if(y11.1.kind !=7)=true then
  Option.bind (BJ N y5.2 y11.1) fun y13=>
  k8 (y13.1,y13.2)
 else
  k8 ([],y5.2)
def Cr (N:Nat) (y9:(List UInt8)) (y13:(List (List UInt8))×DiddocDecoder) (j15:(List (List UInt8))×DiddocDecoder) (j23:(List ApiMethod)×DiddocDecoder) (k37:((List ApiService)×DiddocDecoder→Option (ApiDoc×Int))):List ApiValue→(List ApiService)→DiddocDecoder→Option (ApiDoc×Int)
  |[],bn3_services,bn2=>
  k37 (bn3_services,bn2)
  |xk42::xs,bn3_services,bn2=>
  AA (d:=.b (3,4) [(14,1),(79,9)] [] (fun j43:(List ApiService)×DiddocDecoder=>[]) fun j43=>[.k,.s ([.str y9,.slice 1 (List.map AVal.str y13.1) false,.slice 1 (List.map AVal.str j15.1) false,.slice 3 (List.map AU j23.1) true,.slice 3 (List.map AP j43.1) true]),.s ([.str j43.2.did.method,.str j43.2.did.iD,.int .i64 j43.2.e])]) (fun j43:(List ApiService)×DiddocDecoder=>
   Cr N y9 y13 j15 j23 k37 xs j43.1 j43.2) fun k44=>
  Option.bind (De N bn2 xk42) fun y47=>
  grd (Cg (bn3_services.length+1) 64) (
  k44 ((bn3_services++[y47.1]),y47.2))
def Ct (N:Nat) (k24:((List ApiMethod)×DiddocDecoder→Option (ApiDoc×Int))):List ApiValue→(List ApiMethod)→DiddocDecoder→Option (ApiDoc×Int)
  |[],bn3_methods,bn2=>
  k24 (bn3_methods,bn2)
  |xk29::xs,bn3_methods,bn2=>
  Option.bind (EW N bn2 xk29) fun y30=>
  Option.bind (Bh N y30.2 xk29 ([116,121,112,101]:List UInt8)) fun y32=>
  Option.bind (Bh N y32.2 xk29 ([99,111,110,116,114,111,108,108,101,114]:List UInt8)) fun y34=>
  grd (Cg (bn3_methods.length+1) 48) (
  Ct N k24 xs (bn3_methods++[(ApiMethod.mk y30.1 y32.1 y34.1)]) y34.2)
def Gp (N:Nat) (a0:ApiValue):Option (ApiDoc×Int):=
 if(a0.kind !=7)=true then
  some ((ApiDoc.mk [] [] [] [] []),160)
 else
  Option.bind (Bh N (DiddocDecoder.mk (ApiDID.mk [] []) 0) a0 ([105,100]:List UInt8)) fun y1=>
  Option.bind (Ga N y1.1) fun y3=>
  AA (d:=.a (6,1) [(25,6)] [31] (fun j5:Bool=>[.bool j5])) (fun j5:Bool=>
   if j5=true then
    some ((ApiDoc.mk [] [] [] [] []),160)
   else
    Option.bind (Ez N y3.1) fun y9=>
    Option.bind (Cw N (DiddocDecoder.mk y3.1 y1.2.e) a0 ([97,108,115,111,75,110,111,119,110,65,115]:List UInt8)) fun y11=>
    Option.bind (Br N y11.2 y11.1) fun y13=>
    AA (fun j15:(List (List UInt8))×DiddocDecoder=>
     AA (d:=.b (13,20) [(11,2),(51,23)] [] (fun j23:(List ApiMethod)×DiddocDecoder=>[]) fun j23=>[.k,.s ([.str y9,.slice 1 (List.map AVal.str y13.1) false,.slice 1 (List.map AVal.str j15.1) false,.slice 3 (List.map AU j23.1) true,.slice 3 (List.map AP []) true]),.s ([.str j23.2.did.method,.str j23.2.did.iD,.int .i64 j23.2.e])]) (fun j23:(List ApiMethod)×DiddocDecoder=>
      AA (d:=.b (20,16) [(14,1),(74,15)] [] (fun j36:(List ApiService)×DiddocDecoder=>[]) fun j36=>[.k,.s ([.str y9,.slice 1 (List.map AVal.str y13.1) false,.slice 1 (List.map AVal.str j15.1) false,.slice 3 (List.map AU j23.1) true,.slice 3 (List.map AP j36.1) true]),.s ([.str j36.2.did.method,.str j36.2.did.iD,.int .i64 j36.2.e])]) (fun j36:(List ApiService)×DiddocDecoder=>
       if(j36.2.e !=0)=true then
        some ((ApiDoc.mk [] [] [] [] []),j36.2.e)
       else
        some ((ApiDoc.mk y9 y13.1 j15.1 j23.1 j36.1),0)) fun k37=>
      Option.bind (Cw N j23.2 a0 ([115,101,114,118,105,99,101]:List UInt8)) fun y40=>
      grd (AO (y40.1.length)) (
       Cr N y9 y13 j15 j23 k37 y40.1 [] y40.2)) fun k24=>
     Option.bind (Cw N j15.2 a0 ([118,101,114,105,102,105,99,97,116,105,111,110,77,101,116,104,111,100]:List UInt8)) fun y27=>
     grd (AO (y27.1.length)) (
      Ct N k24 y27.1 [] y27.2)) fun k16=>
    Option.bind (FU N a0 ([99,111,110,116,114,111,108,108,101,114]:List UInt8)) fun y19=>
    if y19.2=true then
     Option.bind (BJ N y13.2 y19.1) fun y21=>
     k16 (y21.1,y21.2)
    else
     k16 ([],y13.2)) fun k6=>
  if(y1.2.e !=0)=true then
   k6 true
  else
   k6 (y3.2 !=0)
def Jg (N:Nat) (a0:ApiDIDURL):Option ((List ApiField)):=
 if a0.hasQuery=true then
  Option.bind (J2 N a0.query) fun y1=>
  some (y1)
 else
  some ([])
def ER (N:Nat) (a1:(List UInt8)) (k2:(Unit→Option ((List UInt8)×Bool))):List ApiField→Option ((List UInt8)×Bool)
  |[]=>
  k2 ()
  |xk5::xs=>
  if(xk5.name==a1)=true then
   some (xk5.value,true)
  else
   ER N a1 k2 xs
def JC (N:Nat) (a0:(List ApiField)) (a1:(List UInt8)):Option ((List UInt8)×Bool):=
 AA (d:=.a (1,22) [(4,2),(7,14)] [] (fun j1:Unit=>[])) (fun j1:Unit=>
  some ([],false)) fun k2=>
 grd (AO (a0.length)) (
  ER N a1 k2 a0)
def CZ (N:Nat) (a1:(List UInt8)) (k2:(Unit→Option ((List (List UInt8))×Bool))):List ApiService→Option ((List (List UInt8))×Bool)
  |[]=>
  k2 ()
  |xk5::xs=>
  if(xk5.iD==a1)=true then
   some (xk5.endpoints,true)
  else
   CZ N a1 k2 xs
def Gj (N:Nat) (a0:ApiDoc) (a1:(List UInt8)):Option ((List (List UInt8))×Bool):=
 AA (d:=.a (1,22) [(4,2),(7,15)] [] (fun j1:Unit=>[])) (fun j1:Unit=>
  some ([],false)) fun k2=>
 grd (AO (a0.services.length)) (
  CZ N a1 k2 a0.services)
def CY (N:Nat) (a0:Int):Option (Bool):=
 AA (d:=.a (1,1) [(4,6)] [3] (fun j1:Bool=>[.bool j1])) (fun j1:Bool=>
  if j1=true then
   some (true)
  else
   AA (d:=.a (3,1) [(11,6)] [10] (fun j5:Bool=>[.bool j5])) (fun j5:Bool=>
    if j5=true then
     some (true)
    else
     some (false)) fun k6=>
   if(decide (57343<a0))=true then
    k6 (decide (a0≤1114111))
   else
    k6 false) fun k2=>
 if(decide (0≤a0))=true then
  k2 (decide (a0<55296))
 else
  k2 false
def EF (N:Nat) (a0:(List UInt8)) (a1:Int) (j19:Int) (k29:(Unit→Option (Int))):Nat→Int→Option (Int)
  |0,s12=>
  k29 ()
  |k+1,s12=>
  Option.bind (idx a0 (wr .i64 (j19-s12))) fun x33=>
  Option.bind (idx (G5 a1) (wr .i64 ((wr .i64 (((G5 a1).length:Int)-1))-s12))) fun x34=>
  if((AJ x33) !=(AJ x34))=true then
   (none:Option (Int))
  else
   EF N a0 a1 j19 k29 k (s12+1)
def Bb (N:Nat) (a0:(List UInt8)) (a1:Int) (k15:(Unit→Option (Int))):Nat→Int→Option (Int)
  |0,_=>none
  |k+1,s9=>
  if(decide (s9<(a0.length:Int)))=true then
   AA (d:=.a (6,15) [(4,1),(11,1),(27,21)] [9] (fun j19:Int=>[.int .i64 j19])) (fun j19:Int=>
    AA (d:=.a (11,18) [(12,1),(48,17)] [] (fun j28:Unit=>[])) (fun j28:Unit=>
     some ((wr .i64 (j19-(wr .i64 (((G5 a1).length:Int)-1)))))) fun k29=>
    grd ((-4611686018427387904:Int)≤1∧(((G5 a1).length:Int):Int)≤4611686018427387904) (
     EF N a0 a1 j19 k29 ((((G5 a1).length:Int):Int)-1).toNat 1)) fun k20=>
   Option.bind (idx a0 s9) fun x23=>
   Option.bind (idx (G5 a1) (wr .i64 (((G5 a1).length:Int)-1))) fun x24=>
   if((AJ x23) !=(AJ x24))=true then
    Option.bind (sub a0 (wr .i64 (s9+1)) (a0.length:Int)) fun x25=>
    Option.bind (strings_IndexByte N x25 (AJ x24)) fun y26=>
    if(decide (y26<0))=true then
     some ((-1))
    else
     k20 (wr .i64 (s9+(wr .i64 (y26+1))))
   else
    k20 s9
  else
   k15 ()
def Ba (N:Nat) (a0:(List UInt8)) (k8:(Unit→Option (Int))):Nat→Nat→Option (Int)
  |0,_=>none
  |k+1,s175=>
  if(decide (s175<a0.length))=true then
   if(((Cm a0 s175).1:Int)==65533)=true then
    some (((s175:Nat):Int))
   else
    Ba N a0 k8 k (s175+(Cm a0 s175).2)
  else
   k8 ()
def DC (N:Nat) (a0:(List UInt8)) (a1:Int):Option (Int):=
 AA (d:=.a (34,1) [(161,6)] [160] (fun j1:Bool=>[.bool j1])) (fun j1:Bool=>
  if j1=true then
   Option.bind (strings_IndexByte N a0 (wr .u8 a1)) fun y5=>
   some (y5)
  else
   if(a1==65533)=true then
    AA (d:=.a (37,20) [(4,3),(174,9)] [] (fun j7:Unit=>[])) (fun j7:Unit=>
     some ((-1))) fun k8=>
    Ba N a0 k8 N 0
   else
    Option.bind (CY N a1) fun y12=>
    if y12=true then
     AA (d:=.a (1,60) [(4,1),(9,4),(23,76)] [] (fun j14:Unit=>[])) (fun j14:Unit=>
      some ((-1))) fun k15=>
     Bb N a0 a1 k15 N (wr .i64 (((G5 a1).length:Int)-1))
    else
     some ((-1))) fun k2=>
 if(decide (0≤a1))=true then
  k2 (decide (a1<128))
 else
  k2 false
def strings_shouldUseASCIISet (N:Nat) (a0:Int):Option (Bool):=
 some ((decide (a0>8)))
def BQ (N:Nat) (k2:((List Bool)→Option ((List Bool)×Bool))):List UInt8→(List Bool)→Option ((List Bool)×Bool)
  |[],bn=>
  k2 bn
  |xk5::xs,bn=>
  if(decide ((AJ xk5)≥128))=true then
   grd (bn.length=256) (
   some (bn,false))
  else
   grd (0≤(AJ xk5)∧(AJ xk5)<256) (
   grd ((AJ xk5).toNat+1≤bn.length) (
   BQ N k2 xs (bn.set ((AJ xk5).toNat) true)))
def strings_makeASCIISet (N:Nat) (a0:(List UInt8)):Option ((List Bool)×Bool):=
 AA (d:=.b (1,24) [(3,17)] [] (fun j1:(List Bool)=>[]) fun j1=>[.s (List.map AVal.bool j1)]) (fun j1:(List Bool)=>
  grd (j1.length=256) (
  some (j1,true))) fun k2=>
 grd (AO (a0.length)) (
  BQ N k2 a0 (AHQ 256))
def Dh (N:Nat) (a0:(List Bool)) (a1:Int):Option (Bool×(List Bool)):=
 grd (0≤a1∧a1<256) (
 Option.bind (idx a0 a1) fun x1=>
 some (x1,a0))
def BU (N:Nat) (a0:(List UInt8)) (a1:(List UInt8)) (k24:(Unit→Option (Int))):Nat→Nat→Option (Int)
  |0,_=>none
  |k+1,s45=>
  if(decide (s45<a0.length))=true then
   Option.bind (DC N a1 ((Cm a0 s45).1:Int)) fun y28=>
   if(decide (y28≥0))=true then
    some (((s45:Nat):Int))
   else
    BU N a0 a1 k24 k (s45+(Cm a0 s45).2)
  else
   k24 ()
def CQ (N:Nat) (k17:((List Bool)→Option (Int))):List UInt8→Int→(List Bool)→Option (Int)
  |[],s8,AJU=>
  k17 AJU
  |xk20::xs,s8,AJU=>
  Option.bind (Dh N AJU (AJ xk20)) fun y21=>
  if y21.1=true then
   some (s8)
  else
   CQ N k17 xs (s8+1) y21.2
def strings_IndexAny (N:Nat) (a0:(List UInt8)) (a1:(List UInt8)):Option (Int):=
 if(a1==[])=true then
  some ((-1))
 else
  if((a1.length:Int)==1)=true then
   Option.bind (idx a1 0) fun x1=>
   AA (d:=.a (5,5) [(19,2)] [5] (fun j2:Int=>[.int .i32 j2])) (fun j2:Int=>
    Option.bind (DC N a0 j2) fun y6=>
    some (y6)) fun k3=>
   if(decide ((wr .i32 (AJ x1))≥128))=true then
    k3 65533
   else
    k3 (wr .i32 (AJ x1))
  else
   AA (d:=.a (8,34) [(4,1),(6,3),(24,20)] [] (fun j8:Unit=>[])) (fun j8:Unit=>
    AA (d:=.a (17,20) [(4,1),(9,2),(44,11)] [] (fun j23:Unit=>[])) (fun j23:Unit=>
     some ((-1))) fun k24=>
    BU N a0 a1 k24 N 0) fun k9=>
   Option.bind (strings_shouldUseASCIISet N (a0.length:Int)) fun y12=>
   if y12=true then
    Option.bind (strings_makeASCIISet N a1) fun y14=>
    grd ((AHQ 256).length=256) (
    grd (y14.1.length=256) (
    if y14.2=true then
     AA (d:=.b (11,20) [(4,1),(8,1),(33,11)] [] (fun j16:(List Bool)=>[]) fun j16=>[.s (List.map AVal.bool j16)]) (fun j16:(List Bool)=>
      some ((-1))) fun k17=>
     grd (AO (a0.length)) (
      CQ N k17 a0 0 y14.1)
    else
     k9 ()))
   else
    k9 ()
def CV (N:Nat) (k2:(Unit→Option (Bool))):List UInt8→Int→Option (Bool)
  |[],s6=>
  k2 ()
  |xk5::xs,s6=>
  AA (d:=.a (4,1) [(9,22)] [31] (fun j6:Bool=>[.bool j6])) (fun j6:Bool=>
   if j6=true then
    some (false)
   else
    CV N k2 xs (s6+1)) fun k7=>
  Option.bind (F7 N (AJ xk5)) fun y10=>
  if y10=true then
   k7 false
  else
   if(s6==0)=true then
    k7 true
   else
    Option.bind (Cu N (AJ xk5)) fun y12=>
    if y12=true then
     k7 false
    else
     Option.bind (strings_IndexByte N ([43,45,46]:List UInt8) (AJ xk5)) fun y14=>
     k7 (decide (y14<0))
def Hg (N:Nat) (a0:(List UInt8)):Option (Bool):=
 AA (d:=.a (1,22) [(2,31)] [] (fun j1:Unit=>[])) (fun j1:Unit=>
  some ((!(a0==[])))) fun k2=>
 grd (AO (a0.length)) (
  CV N k2 a0 0)
def IK (N:Nat) (a0:(List UInt8)):Option (ApiURI×Int):=
 if(decide ((a0.length:Int)>16384))=true then
  some ((ApiURI.mk [] [] [] [] [] false false false false),5)
 else
  Option.bind (strings_Cut N a0 ([35]:List UInt8)) fun y1=>
  Option.bind (strings_Cut N y1.1 ([63]:List UInt8)) fun y3=>
  AA (d:=.b (6,15) [(3,1),(5,1),(29,25)] [0] (fun j5:(List UInt8)×(List UInt8)×Bool=>[.str j5.1]) fun j5=>[.s ([.str j5.2.1,.str [],.str [],.str y3.2.1,.str y1.2.1,.bool j5.2.2,.bool false,.bool y3.2.2,.bool y1.2.2])]) (fun j5:(List UInt8)×(List UInt8)×Bool=>
   AA (d:=.b (11,17) [(6,3),(54,20)] [0] (fun j20:(List UInt8)×(List UInt8)×Bool=>[.str j20.1]) fun j20=>[.s ([.str j5.2.1,.str j20.2.1,.str [],.str y3.2.1,.str y1.2.1,.bool j5.2.2,.bool j20.2.2,.bool y3.2.2,.bool y1.2.2])]) (fun j20:(List UInt8)×(List UInt8)×Bool=>
    some ((ApiURI.mk j5.2.1 j20.2.1 j20.1 y3.2.1 y1.2.1 j5.2.2 j20.2.2 y3.2.2 y1.2.2),0)) fun k21=>
   Option.bind (strings_CutPrefix N j5.1 ([47,47]:List UInt8)) fun y24=>
   if y24.2=true then
    Option.bind (strings_IndexByte N y24.1 47) fun y26=>
    AA (d:=.a (15,5) [(63,4)] [8] (fun j28:Int=>[.int .i64 j28])) (fun j28:Int=>
     Option.bind (sub y24.1 0 j28) fun x32=>
     Option.bind (sub y24.1 j28 (y24.1.length:Int)) fun x33=>
     k21 (x33,x32,true)) fun k29=>
    if(decide (y26<0))=true then
     k29 (y24.1.length:Int)
    else
     k29 y26
   else
    k21 (j5.1,[],false)) fun k6=>
  Option.bind (strings_IndexAny N y3.1 ([58,47]:List UInt8)) fun y9=>
  AA (d:=.a (7,1) [(31,7)] [38] (fun j11:Bool=>[.bool j11])) (fun j11:Bool=>
   if j11=true then
    Option.bind (sub y3.1 0 y9) fun x16=>
    Option.bind (Hg N x16) fun y17=>
    if y17=true then
     Option.bind (sub y3.1 (wr .i64 (y9+1)) (y3.1.length:Int)) fun x19=>
     k6 (x19,x16,true)
    else
     some ((ApiURI.mk [] [] [] [] [] false false false false),6)
   else
    k6 (y3.1,[],false)) fun k12=>
  if(decide (y9≥0))=true then
   Option.bind (idx y3.1 y9) fun x15=>
   k12 ((AJ x15)==58)
  else
   k12 false
def EP (N:Nat) (a0:(List UInt8)) (k2:((List Int)→Option ((List UInt8)))):List UInt8→Int→(List Int)→Option ((List UInt8))
  |[],s10,bn=>
  k2 bn
  |xk5::xs,s10,bn=>
  AA (d:=.b (1,8) [(4,2),(12,14)] [] (fun j6:(List Int)=>[]) fun j6=>[.s (List.map (AVal.int .u8) j6)]) (fun j6:(List Int)=>
   EP N a0 k2 xs (s10+1) j6) fun k7=>
  grd (0≤s10∧s10<(a0.length:Int)) (
  Option.bind (idx bn s10) fun x10=>
  AA (d:=.a (5,1) [(15,5)] [20] (fun j11:Bool=>[.bool j11])) (fun j11:Bool=>
   if j11=true then
    grd (s10.toNat+1≤bn.length) (
    k7 (bn.set s10.toNat (wr .u8 (x10+32))))
   else
    k7 bn) fun k12=>
  if(decide (65≤x10))=true then
   k12 (decide (x10≤90))
  else
   k12 false)
def Hm (N:Nat) (a0:(List UInt8)):Option ((List UInt8)):=
 AA (d:=.b (2,20) [(4,2),(8,19)] [] (fun j1:(List Int)=>[]) fun j1=>[.s (List.map (AVal.int .u8) j1)]) (fun j1:(List Int)=>
  grd (a0.length≤j1.length∧AO a0.length) (
  some ((List.map Fx (List.take a0.length j1))))) fun k2=>
 grd (AO (a0.length)) (
  EP N a0 k2 a0 0 (List.map AJ a0))
def JO (N:Nat) (a0:(List UInt8)) (a1:(List UInt8)):Option (Bool):=
 Option.bind (Hm N a0) fun y1=>
 Option.bind (Hm N a1) fun y3=>
 some ((y1==y3))
def Aq (N:Nat) (k2:(Unit→Option (Bool))):List UInt8→Option (Bool)
  |[]=>
  k2 ()
  |xk5::xs=>
  Option.bind (Cu N (AJ xk5)) fun y6=>
  if y6=true then
   Aq N k2 xs
  else
   some (false)
def ET (N:Nat) (a0:(List UInt8)):Option (Bool):=
 AA (d:=.a (1,22) [(4,14)] [] (fun j1:Unit=>[])) (fun j1:Unit=>
  some (true)) fun k2=>
 grd (AO (a0.length)) (
  Aq N k2 a0)
def H7 (N:Nat) (a0:(List UInt8)):Option (Bool):=
 if(a0==[])=true then
  some (false)
 else
  Option.bind (ET N a0) fun y1=>
  some (y1)
def Jh (N:Nat) (a0:Int):Option (Int):=
 Option.bind (Cu N a0) fun y1=>
 if y1=true then
  some ((wr .u64 (wr .u8 (a0-48))))
 else
  some ((wr .u64 ((wr .u64 (wr .u8 ((Li .u8 a0 32)-97)))+10)))
def Ak (N:Nat) (a1:Int) (a2:Int) (k9:(Int→Option (Int×Int))):List UInt8→Int→Option (Int×Int)
  |[],s11=>
  k9 s11
  |xk12::xs,s11=>
  Option.bind (Jh N (AJ xk12)) fun y13=>
  AA (d:=.a (14,1) [(37,14)] [51] (fun j15:Bool=>[.bool j15])) (fun j15:Bool=>
   if j15=true then
    some (0,4)
   else
    Ak N a1 a2 k9 xs (wr .u64 ((wr .u64 (s11 * a1))+y13))) fun k16=>
  grd (a1≠0) (
  if(decide (s11>(wr .u64 ((wr .u64 (18446744073709551615-y13)).tdiv a1))))=true then
   k16 true
  else
   k16 (decide ((wr .u64 ((wr .u64 (s11 * a1))+y13))>a2)))
def Al (N:Nat) (k2:(Unit→Option (Int×Int))):List UInt8→Option (Int×Int)
  |[]=>
  k2 ()
  |xk5::xs=>
  Option.bind (Cu N (AJ xk5)) fun y6=>
  if y6=true then
   Al N k2 xs
  else
   some (0,1)
def EL (N:Nat) (a0:(List UInt8)) (a1:Int) (a2:Int):Option (Int×Int):=
 if(a0==[])=true then
  some (0,3)
 else
  AA (d:=.a (3,22) [(8,3),(16,12)] [] (fun j1:Unit=>[])) (fun j1:Unit=>
   AA (d:=.a (10,26) [(8,2),(12,2),(28,30)] [11] (fun j8:Int=>[.int .u64 j8])) (fun j8:Int=>
    some (j8,0)) fun k9=>
   grd (AO (a0.length)) (
    Ak N a1 a2 k9 a0 0)) fun k2=>
  grd (AO (a0.length)) (
   Al N k2 a0)
def Jv (N:Nat) (a0:(List UInt8)) (a1:Int):Option (Int×Int):=
 Option.bind (EL N a0 10 a1) fun y1=>
 some (y1.1,y1.2)
def Gt (N:Nat) (a0:(List UInt8)) (a1:Int):Option (Int×Int):=
 AA (d:=.a (1,1) [(6,11)] [17] (fun j1:Bool=>[.bool j1])) (fun j1:Bool=>
  if j1=true then
   some (0,6)
  else
   Option.bind (Jv N a0 a1) fun y8=>
   some (y8.1,y8.2)) fun k2=>
 Option.bind (H7 N a0) fun y5=>
 if y5=true then
  if(decide ((a0.length:Int)>1))=true then
   Option.bind (idx a0 0) fun x7=>
   k2 ((AJ x7)==48)
  else
   k2 false
 else
  k2 false
def Ej (N:Nat) (j3:Int) (k12:((List UInt8)×(List (List UInt8))→Option ((List (List UInt8))))):Nat→Int→(List UInt8)→(List (List UInt8))→Option ((List (List UInt8)))
  |0,s7,s0,bn6=>
  k12 (s0,bn6)
  |k+1,s7,s0,bn6=>
  Option.bind (CL N s0) fun y16=>
  Option.bind (sub s0 0 y16.2) fun x18=>
  grd (0≤s7∧s7<(j3.toNat:Int)) (
  grd (s7.toNat+1≤bn6.length) (
  Option.bind (sub s0 y16.2 (s0.length:Int)) fun x19=>
  Ej N j3 k12 k (s7+1) x19 (bn6.set s7.toNat x18)))
def Ir (N:Nat) (a0:(List UInt8)) (a1:Int):Option ((List (List UInt8))):=
 Option.bind (CU N a0) fun y1=>
 AA (d:=.a (2,5) [(12,8)] [1] (fun j3:Int=>[.int .i64 j3])) (fun j3:Int=>
  grd (Q7 j3 16) (
  AA (d:=.b (5,18) [(7,3),(22,20)] [0] (fun j11:(List UInt8)×(List (List UInt8))=>[.str j11.1]) fun j11=>[.s (List.map AVal.str j11.2)]) (fun j11:(List UInt8)×(List (List UInt8))=>
   AA (d:=.b (11,5) [(42,7)] [] (fun j20:(List (List UInt8))=>[]) fun j20=>[.s (List.map AVal.str j20)]) (fun j20:(List (List UInt8))=>
    (none:Option ((List (List UInt8))))) fun k21=>
   if(decide (j3>0))=true then
    grd (0≤(wr .i64 (j3-1))∧(wr .i64 (j3-1))<(j3.toNat:Int)) (
    grd ((wr .i64 (j3-1)).toNat+1≤j11.2.length) (
    k21 (j11.2.set ((wr .i64 (j3-1)).toNat) j11.1)))
   else
    k21 j11.2) fun k12=>
  grd ((-4611686018427387904:Int)≤0∧((wr .i64 (j3-1)):Int)≤4611686018427387904) (
   Ej N j3 k12 (((wr .i64 (j3-1)):Int)-0).toNat 0 a0 (List.replicate j3.toNat ([]:List UInt8))))) fun k4=>
 AA (d:=.a (2,1) [(12,6)] [18] (fun j7:Bool=>[.bool j7])) (fun j7:Bool=>
  if j7=true then
   k4 y1
  else
   k4 a1) fun k8=>
 if(decide (a1<0))=true then
  k8 true
 else
  k8 (decide (a1>y1))
def Bj (N:Nat) (a0:(List UInt8)) (a1:(List UInt8)) (a2:Int) (j3:Int) (k10:((List UInt8)×Int×(List (List UInt8))→Option ((List (List UInt8))))):Nat→Int→(List UInt8)→(List (List UInt8))→Option ((List (List UInt8)))
  |0,s10,s0,bn6=>
  k10 (s0,s10,bn6)
  |k+1,s10,s0,bn6=>
  Option.bind (strings_Index N s0 a1) fun y14=>
  if(decide (y14<0))=true then
   k10 (s0,s10,bn6)
  else
   Option.bind (sub s0 0 (wr .i64 (y14+a2))) fun x16=>
   grd (0≤s10∧s10<((if(wr .i64 ((a0.length:Int)+1))<j3 then(wr .i64 ((a0.length:Int)+1))else j3).toNat:Int)) (
   grd (s10.toNat+1≤bn6.length) (
   Option.bind (sub s0 (wr .i64 (y14+(a1.length:Int))) (s0.length:Int)) fun x17=>
   Bj N a0 a1 a2 j3 k10 k (s10+1) x17 (bn6.set s10.toNat x16)))
def strings_genSplit (N:Nat) (a0:(List UInt8)) (a1:(List UInt8)) (a2:Int) (a3:Int):Option ((List (List UInt8))):=
 if(a3==0)=true then
  (none:Option ((List (List UInt8))))
 else
  if(a1==[])=true then
   Option.bind (Ir N a0 a3) fun y1=>
   (none:Option ((List (List UInt8))))
  else
   AA (d:=.a (5,5) [(19,6)] [3] (fun j3:Int=>[.int .i64 j3])) (fun j3:Int=>
    grd (Q7 (if(wr .i64 ((a0.length:Int)+1))<j3 then(wr .i64 ((a0.length:Int)+1))else j3) 16) (
    AA (d:=.b (0,22) [(11,1),(34,24)] [0,10] (fun j9:(List UInt8)×Int×(List (List UInt8))=>[.str j9.1,.int .i64 j9.2.1]) fun j9=>[.s (List.map AVal.str j9.2.2)]) (fun j9:(List UInt8)×Int×(List (List UInt8))=>
     grd (0≤j9.2.1∧j9.2.1<((if(wr .i64 ((a0.length:Int)+1))<j3 then(wr .i64 ((a0.length:Int)+1))else j3).toNat:Int)) (
     grd (j9.2.1.toNat+1≤j9.2.2.length) (
     grd (0≤(wr .i64 (j9.2.1+1))∧(wr .i64 (j9.2.1+1))≤((if(wr .i64 ((a0.length:Int)+1))<j3 then(wr .i64 ((a0.length:Int)+1))else j3).toNat:Int)) (
     grd ((wr .i64 (j9.2.1+1)).toNat≤j9.2.2.length) (
     some (List.take ((wr .i64 (j9.2.1+1)).toNat) (j9.2.2.set j9.2.1.toNat j9.1))))))) fun k10=>
    grd ((-4611686018427387904:Int)≤0∧((wr .i64 ((if(wr .i64 ((a0.length:Int)+1))<j3 then(wr .i64 ((a0.length:Int)+1))else j3)-1)):Int)≤4611686018427387904) (
     Bj N a0 a1 a2 j3 k10 (((wr .i64 ((if(wr .i64 ((a0.length:Int)+1))<j3 then(wr .i64 ((a0.length:Int)+1))else j3)-1)):Int)-0).toNat 0 a0 (List.replicate (if(wr .i64 ((a0.length:Int)+1))<j3 then(wr .i64 ((a0.length:Int)+1))else j3).toNat ([]:List UInt8))))) fun k4=>
   if(decide (a3<0))=true then
    Option.bind (strings_Count N a0 a1) fun y7=>
    k4 (wr .i64 (y7+1))
   else
    k4 a3
def strings_Split (N:Nat) (a0:(List UInt8)) (a1:(List UInt8)):Option ((List (List UInt8))):=
 Option.bind (strings_genSplit N a0 a1 0 (-1)) fun y1=>
 some (y1)
def EY (N:Nat) (k4:(Unit→Option (Bool))):List (List UInt8)→Option (Bool)
  |[]=>
  k4 ()
  |xk7::xs=>
  Option.bind (Gt N xk7 255) fun y8=>
  if(y8.2 !=0)=true then
   some (false)
  else
   EY N k4 xs
def KX (N:Nat) (a0:(List UInt8)):Option (Bool):=
 Option.bind (strings_Split N a0 ([46]:List UInt8)) fun y1=>
 if((y1.length:Int) !=4)=true then
  some (false)
 else
  AA (d:=.a (4,24) [(2,1),(5,3),(13,14)] [] (fun j3:Unit=>[])) (fun j3:Unit=>
   some (true)) fun k4=>
  grd (AO (y1.length)) (
   EY N k4 y1)
def Es (N:Nat) (k8:(Unit→Option (Bool))):List UInt8→Option (Bool)
  |[]=>
  k8 ()
  |xk11::xs=>
  AA (d:=.a (6,1) [(29,17)] [46] (fun j12:Bool=>[.bool j12])) (fun j12:Bool=>
   if j12=true then
    some (false)
   else
    Es N k8 xs) fun k13=>
  Option.bind (F7 N (AJ xk11)) fun y16=>
  if y16=true then
   k13 false
  else
   Option.bind (Cu N (AJ xk11)) fun y18=>
   if y18=true then
    k13 false
   else
    k13 ((AJ xk11) !=45)
def LJ (N:Nat) (a0:(List UInt8)):Option (Bool):=
 AA (d:=.a (1,1) [(4,19)] [23] (fun j1:Bool=>[.bool j1])) (fun j1:Bool=>
  if j1=true then
   some (false)
  else
   AA (d:=.a (3,22) [(2,2),(24,24)] [] (fun j7:Unit=>[])) (fun j7:Unit=>
    some (true)) fun k8=>
   grd (AO (a0.length)) (
    Es N k8 a0)) fun k2=>
 if(a0==[])=true then
  k2 true
 else
  if(decide ((a0.length:Int)>63))=true then
   k2 true
  else
   Option.bind (idx a0 0) fun x5=>
   if((AJ x5)==45)=true then
    k2 true
   else
    Option.bind (idx a0 (wr .i64 ((a0.length:Int)-1))) fun x6=>
    k2 ((AJ x6)==45)
def Fy (N:Nat):Nat→(List UInt8)→Option (Bool)
  |0,_=>none
  |k+1,s0=>
  Option.bind (strings_Cut N s0 ([46]:List UInt8)) fun y2=>
  Option.bind (LJ N y2.1) fun y4=>
  if y4=true then
   if y2.2.2=true then
    Fy N k y2.2.1
   else
    Option.bind (H7 N y2.1) fun y6=>
    some ((!y6))
  else
   some (false)
def Oe (N:Nat) (a0:(List UInt8)):Option (Bool):=
 Fy N N a0
def Mh (N:Nat) (a0:(List UInt8)):Option ((List UInt8)×Int):=
 if(a0==[])=true then
  some ([],3)
 else
  if(decide ((a0.length:Int)>253))=true then
   some ([],5)
  else
   AA (d:=.a (5,1) [(12,8)] [11] (fun j1:Bool=>[.bool j1])) (fun j1:Bool=>
    if j1=true then
     some ([],50)
    else
     Option.bind (Hm N a0) fun y9=>
     some (y9,0)) fun k2=>
   Option.bind (KX N a0) fun y5=>
   if y5=true then
    k2 false
   else
    Option.bind (Oe N a0) fun y7=>
    k2 (!y7)
def Mq (N:Nat) (a0:(List UInt8)):Option (Int×Int):=
 Option.bind (Gt N a0 65535) fun y1=>
 AA (d:=.a (2,1) [(11,5)] [16] (fun j3:Bool=>[.bool j3])) (fun j3:Bool=>
  if j3=true then
   some (0,51)
  else
   some ((wr .i64 y1.1),0)) fun k4=>
 if(y1.2 !=0)=true then
  k4 true
 else
  k4 (y1.1==0)
def LV (N:Nat) (a0:(List UInt8)):Option (ApiHostPort×Int):=
 Option.bind (strings_Cut N a0 ([58]:List UInt8)) fun y1=>
 Option.bind (Mh N y1.1) fun y3=>
 if(y3.2 !=0)=true then
  some ((ApiHostPort.mk [] 0),y3.2)
 else
  AA (d:=.b (6,13) [(3,1),(8,1),(27,11)] [] (fun j5:Int=>[]) fun j5=>[.s ([.str y3.1,.int .i64 j5])]) (fun j5:Int=>
   AA (d:=.b (10,5) [(38,4)] [] (fun j11:Int=>[]) fun j11=>[.s ([.str y3.1,.int .i64 j11])]) (fun j11:Int=>
    some ((ApiHostPort.mk y3.1 j11),0)) fun k12=>
   if(j5==443)=true then
    k12 0
   else
    k12 j5) fun k6=>
  if y1.2.2=true then
   Option.bind (Mq N y1.2.1) fun y9=>
   if(y9.2 !=0)=true then
    some ((ApiHostPort.mk [] 0),y9.2)
   else
    k6 y9.1
  else
   k6 0
def DR (N:Nat) (a0:(List UInt8)) (a1:(List UInt8)):Option ((List UInt8)):=
 Option.bind (BG N a0 a1) fun y1=>
 if y1=true then
  Option.bind (sub a0 (a1.length:Int) (a0.length:Int)) fun x3=>
  some (x3)
 else
  some (a0)
def strings_TrimPrefix (N:Nat) (a0:(List UInt8)) (a1:(List UInt8)):Option ((List UInt8)):=
 Option.bind (DR N a0 a1) fun y1=>
 some (y1)
def AX (N:Nat) (a0:(List UInt8)) (a1:Int) (k2:(Unit→Option (Int))):Nat→Int→Option (Int)
  |0,_=>none
  |k+1,s5=>
  if(decide (s5≥0))=true then
   Option.bind (idx a0 s5) fun x6=>
   if((AJ x6)==a1)=true then
    some (s5)
   else
    AX N a0 a1 k2 k (wr .i64 (s5-1))
  else
   k2 ()
def CP (N:Nat) (a0:(List UInt8)) (a1:Int):Option (Int):=
 AA (d:=.a (1,20) [(4,15)] [] (fun j1:Unit=>[])) (fun j1:Unit=>
  some ((-1))) fun k2=>
 AX N a0 a1 k2 N (wr .i64 ((a0.length:Int)-1))
def strings_LastIndexByte (N:Nat) (a0:(List UInt8)) (a1:Int):Option (Int):=
 Option.bind (CP N a0 a1) fun y1=>
 some (y1)
def Af (N:Nat):Nat→(List UInt8)→Nat→(List Int)→Option ((List UInt8))
  |0,_,_,_=>none
  |k+1,s0,s3_len,bq3=>
  if(s0==[])=true then
   grd (s3_len≤bq3.length∧AO s3_len) (
   some ((List.map Fx (List.take s3_len bq3))))
  else
   Option.bind (strings_HasPrefix N s0 ([46,46,47]:List UInt8)) fun y2=>
   if y2=true then
    Option.bind (sub s0 3 (s0.length:Int)) fun x4=>
    Af N k x4 s3_len bq3
   else
    Option.bind (strings_HasPrefix N s0 ([46,47]:List UInt8)) fun y5=>
    if y5=true then
     Option.bind (sub s0 2 (s0.length:Int)) fun x7=>
     Af N k x7 s3_len bq3
    else
     Option.bind (strings_HasPrefix N s0 ([47,46,47]:List UInt8)) fun y8=>
     if y8=true then
      Option.bind (sub s0 2 (s0.length:Int)) fun x10=>
      Af N k x10 s3_len bq3
     else
      if(s0==([47,46]:List UInt8))=true then
       Af N k ([47]:List UInt8) s3_len bq3
      else
       AA (d:=.a (16,1) [(45,6)] [44] (fun j11:Bool=>[.bool j11])) (fun j11:Bool=>
        if j11=true then
         Option.bind (sub s0 3 (s0.length:Int)) fun x17=>
         Option.bind (strings_TrimPrefix N x17 ([47]:List UInt8)) fun y18=>
         grd (AO (([47]:List UInt8).length+y18.length)) (
         grd (s3_len≤bq3.length∧AO s3_len) (
         Option.bind (strings_LastIndexByte N (List.map Fx (List.take s3_len bq3)) 47) fun y20=>
         grd (0≤(if y20>0 then y20 else 0)∧(if y20>0 then y20 else 0)≤(s3_len:Int)) (
         Af N k (([47]:List UInt8)++y18) ((if y20>0 then y20 else 0).toNat) bq3)))
        else
         AA (d:=.a (19,1) [(62,6)] [61] (fun j22:Bool=>[.bool j22])) (fun j22:Bool=>
          if j22=true then
           Af N k [] s3_len bq3
          else
           Option.bind (sub s0 1 (s0.length:Int)) fun x26=>
           Option.bind (strings_IndexByte N x26 47) fun y27=>
           AA (d:=.a (4,5) [(14,4)] [4] (fun j29:Int=>[.int .i64 j29])) (fun j29:Int=>
            Option.bind (sub s0 0 j29) fun x33=>
            grd (s3_len≤bq3.length∧Cg (s3_len+x33.length) 1) (
            Option.bind (sub s0 j29 (s0.length:Int)) fun x35=>
            Af N k x35 (s3_len+x33.length) (List.take s3_len bq3++List.map AJ x33))) fun k30=>
           if((wr .i64 (1+y27))==0)=true then
            k30 (s0.length:Int)
           else
            k30 (wr .i64 (1+y27))) fun k23=>
         if(s0==([46]:List UInt8))=true then
          k23 true
         else
          k23 (s0==([46,46]:List UInt8))) fun k12=>
       Option.bind (strings_HasPrefix N s0 ([47,46,46,47]:List UInt8)) fun y15=>
       if y15=true then
        k12 true
       else
        k12 (s0==([47,46,46]:List UInt8))
def Dq (N:Nat) (a0:(List UInt8)):Option ((List UInt8)):=
 grd (SH 0 (a0.length:Int) 1) (
 Af N N a0 ((0:Int).toNat) (List.replicate (0:Int).toNat 0))
def F3 (N:Nat) (a0:(List UInt8)):Option (ApiURL×Int):=
 if(decide ((a0.length:Int)>4096))=true then
  some ((ApiURL.mk [] 0 [] [] [] false false),5)
 else
  Option.bind (IK N a0) fun y1=>
  if(y1.2 !=0)=true then
   some ((ApiURL.mk [] 0 [] [] [] false false),y1.2)
  else
   AA (d := .a (6,1) [(23,9)] [22] (fun j3:Bool=>[.bool j3])) (fun j3:Bool=>
    if j3=true then
     some ((ApiURL.mk [] 0 [] [] [] false false),60)
    else
     if y1.1.hasAuthority=true then
      Option.bind (strings_Contains N y1.1.authority ([64]:List UInt8)) fun y9=>
      if y9=true then
       some ((ApiURL.mk [] 0 [] [] [] false false),70)
      else
       Option.bind (LV N y1.1.authority) fun y11=>
       if(y11.2 !=0)=true then
        some ((ApiURL.mk [] 0 [] [] [] false false),y11.2)
       else
        Option.bind (Bt N y1.1.path ([33,36,38,39,40,41,42,43,44,59,61,58,64,47]:List UInt8)) fun y13=>
        if(y13.2 !=0)=true then
         some ((ApiURL.mk [] 0 [] [] [] false false),y13.2)
        else
         Option.bind (Bt N y1.1.query ([33,36,38,39,40,41,42,43,44,59,61,58,64,47,63]:List UInt8)) fun y15=>
         if(y15.2 !=0)=true then
          some ((ApiURL.mk [] 0 [] [] [] false false),y15.2)
         else
          Option.bind (Bt N y1.1.fragment ([33,36,38,39,40,41,42,43,44,59,61,58,64,47,63]:List UInt8)) fun y17=>
          if(y17.2 !=0)=true then
           some ((ApiURL.mk [] 0 [] [] [] false false),y17.2)
          else
           AA (d:=.b (25,7) [(95,8)] [] (fun j19:(List UInt8)=>[]) fun j19=>[.s ([.str y11.1.host,.int .i64 y11.1.port,.str j19,.str y15.1,.str y17.1,.bool y1.1.hasQuery,.bool y1.1.hasFrag])]) (fun j19:(List UInt8)=>
            Option.bind (EM N (ApiURL.mk y11.1.host y11.1.port j19 y15.1 y17.1 y1.1.hasQuery y1.1.hasFrag)) fun y25=>
            if(decide ((y25.length:Int)>4096))=true then
             some ((ApiURL.mk [] 0 [] [] [] false false),5)
            else
             some ((ApiURL.mk y11.1.host y11.1.port j19 y15.1 y17.1 y1.1.hasQuery y1.1.hasFrag),0)) fun k20=>
           Option.bind (Dq N y13.1) fun y23=>
           if(y23==[])=true then
            k20 ([47]:List UInt8)
           else
            k20 y23
     else
      some ((ApiURL.mk [] 0 [] [] [] false false),71)) fun k4=>
   if y1.1.hasScheme=true then
    Option.bind (JO N y1.1.scheme ([104,116,116,112,115]:List UInt8)) fun y7=>
    k4 (!y7)
   else
    k4 true
def JY (N:Nat) (a0:ApiURL):Option (Bool):=
 Option.bind (EM N a0) fun y1=>
 Option.bind (F3 N y1) fun y3=>
 if(y3.2==0)=true then
  some ((a0.host==y3.1.host&&(a0.port==y3.1.port&&(a0.path==y3.1.path&&(a0.query==y3.1.query&&(a0.fragment==y3.1.fragment&&(a0.hasQuery==y3.1.hasQuery&&a0.hasFrag==y3.1.hasFrag)))))))
 else
  some (false)
def Mc (N:Nat) (a0:ApiURI) (a1:ApiURI):Option ((List UInt8)):=
 Option.bind (strings_HasPrefix N a1.path ([47]:List UInt8)) fun y1=>
 if y1=true then
  some (a1.path)
 else
  AA (d:=.a (3,1) [(10,6)] [16] (fun j3:Bool=>[.bool j3])) (fun j3:Bool=>
   if j3=true then
    grd (AO (([47]:List UInt8).length+a1.path.length)) (
    some ((([47]:List UInt8)++a1.path)))
   else
    Option.bind (strings_LastIndexByte N a0.path 47) fun y7=>
    Option.bind (sub a0.path 0 (wr .i64 (y7+1))) fun x9=>
    grd (AO (x9.length+a1.path.length)) (
    some ((x9++a1.path)))) fun k4=>
  if a0.hasAuthority=true then
   k4 (a0.path==[])
  else
   k4 false
def KT (N:Nat) (a0:ApiURI) (a1:ApiURI):Option (ApiURI):=
 AA (d:=.b (0,24) [(7,36)] [] (fun j1:(List UInt8)×(List UInt8)×Bool=>[]) fun j1=>[.s ([.str a1.scheme,.str a1.authority,.str j1.1,.str j1.2.1,.str a1.fragment,.bool a1.hasScheme,.bool a1.hasAuthority,.bool j1.2.2,.bool a1.hasFrag])]) (fun j1:(List UInt8)×(List UInt8)×Bool=>
  AA (d:=.b (13,5) [(49,9)] [] (fun j13:(List UInt8)×Bool=>[]) fun j13=>[.s ([.str a0.scheme,.str j13.1,.str j1.1,.str j1.2.1,.str a1.fragment,.bool a0.hasScheme,.bool j13.2,.bool j1.2.2,.bool a1.hasFrag])]) (fun j13:(List UInt8)×Bool=>
   some ((ApiURI.mk a0.scheme j13.1 j1.1 j1.2.1 a1.fragment a0.hasScheme j13.2 j1.2.2 a1.hasFrag))) fun k14=>
  if a1.hasAuthority=true then
   k14 (a1.authority,a1.hasAuthority)
  else
   k14 (a0.authority,a0.hasAuthority)) fun k2=>
 if a1.hasScheme=true then
  Option.bind (Dq N a1.path) fun y5=>
  some ((ApiURI.mk a1.scheme a1.authority y5 a1.query a1.fragment a1.hasScheme a1.hasAuthority a1.hasQuery a1.hasFrag))
 else
  if a1.hasAuthority=true then
   Option.bind (Dq N a1.path) fun y7=>
   k2 (y7,a1.query,a1.hasQuery)
  else
   if(a1.path==[])=true then
    if a1.hasQuery=true then
     k2 (a0.path,a1.query,a1.hasQuery)
    else
     k2 (a0.path,a0.query,a0.hasQuery)
   else
    Option.bind (Mc N a0 a1) fun y9=>
    Option.bind (Dq N y9) fun y11=>
    k2 (y11,a1.query,a1.hasQuery)
def EN (N:Nat) (a0:Bool):List (List UInt8)→StringsBuilder→Option (StringsBuilder)
  |[],bi2=>
  some (bi2)
  |xk1::xs,bi2=>
  AA (fun j2:StringsBuilder=>
   EN N a0 xs j2) fun k3=>
  if a0=true then
   Option.bind (AZ N bi2 xk1) fun y6=>
   k3 y6.2.2
  else
   k3 bi2
def FD (N:Nat) (a0:Bool) (a1:(List (List UInt8))) (a2:StringsBuilder):Option (StringsBuilder):=
 grd (AO (a1.length)) (
  EN N a0 a1 a2)
def N8 (N:Nat) (a0:ApiURI):Option ((List UInt8)):=
 letL ([a0.scheme,([58]:List UInt8)]:(List (List UInt8))) fun l1=>
 Option.bind (FD N a0.hasScheme l1 (StringsBuilder.mk false [])) fun y2=>
 letL ([([47,47]:List UInt8),a0.authority]:(List (List UInt8))) fun l4=>
 Option.bind (FD N a0.hasAuthority l4 y2) fun y5=>
 Option.bind (FD N true [a0.path] y5) fun y7=>
 letL ([([63]:List UInt8),a0.query]:(List (List UInt8))) fun l9=>
 Option.bind (FD N a0.hasQuery l9 y7) fun y10=>
 letL ([([35]:List UInt8),a0.fragment]:(List (List UInt8))) fun l12=>
 Option.bind (FD N a0.hasFrag l12 y10) fun y13=>
 Option.bind (CX N y13) fun y15=>
 some (y15.1)
def Gi (N:Nat) (a0:ApiURL) (a1:(List UInt8)):Option (ApiURL×Int):=
 Option.bind (JY N a0) fun y1=>
 if y1=true then
  Option.bind (EM N a0) fun y3=>
  Option.bind (IK N y3) fun y5=>
  Option.bind (IK N a1) fun y7=>
  if(y7.2 !=0)=true then
   some ((ApiURL.mk [] 0 [] [] [] false false),y7.2)
  else
   Option.bind (KT N y5.1 y7.1) fun y9=>
   Option.bind (JO N y9.scheme ([104,116,116,112,115]:List UInt8)) fun y11=>
   if y11=true then
    Option.bind (N8 N y9) fun y13=>
    Option.bind (F3 N y13) fun y15=>
    some (y15.1,y15.2)
   else
    some ((ApiURL.mk [] 0 [] [] [] false false),253)
 else
  some ((ApiURL.mk [] 0 [] [] [] false false),8)
def F5 (N:Nat) (a0:ApiValue) (a1:ApiDIDURL):Option ((List UInt8)×Int):=
 Option.bind (Gp N a0) fun y1=>
 if(y1.2 !=0)=true then
  some ([],y1.2)
 else
  Option.bind (Jg N a1) fun y3=>
  Option.bind (JC N y3 ([115,101,114,118,105,99,101]:List UInt8)) fun y5=>
  AA (d:=.a (6,1) [(32,11)] [11,12] (fun j7:(List (List UInt8))×Bool=>[.slice 1 (List.map AVal.str j7.1) false,.bool j7.2])) (fun j7:(List (List UInt8))×Bool=>
   AA (d:=.a (7,1) [(44,6)] [43] (fun j15:Bool=>[.bool j15])) (fun j15:Bool=>
    if j15=true then
     some ([],290)
    else
     if((j7.1.length:Int)==0)=true then
      some ([],292)
     else
      Option.bind (idx j7.1 0) fun x19=>
      Option.bind (F3 N x19) fun y20=>
      AA (d:=.b (12,7) [(14,2),(61,16)] [7] (fun j22:Int×ApiURL=>[.int .i64 j22.1]) fun j22=>[.s ([.str j22.2.host,.int .i64 j22.2.port,.str j22.2.path,.str j22.2.query,.str j22.2.fragment,.bool j22.2.hasQuery,.bool j22.2.hasFrag])]) (fun j22:Int×ApiURL=>
       if(j22.1 !=0)=true then
        some ([],292)
       else
        AA (d:=.b (17,5) [(79,11)] [] (fun j34:(List UInt8)×Bool=>[]) fun j34=>[.s ([.str j22.2.host,.int .i64 j22.2.port,.str j22.2.path,.str j22.2.query,.str j34.1,.bool j22.2.hasQuery,.bool j34.2])]) (fun j34:(List UInt8)×Bool=>
         Option.bind (EM N (ApiURL.mk j22.2.host j22.2.port j22.2.path j22.2.query j34.1 j22.2.hasQuery j34.2)) fun y42=>
         if(decide ((y42.length:Int)>4096))=true then
          some ([],292)
         else
          some (y42,0)) fun k35=>
        AA (d:=.a (17,1) [(79,6)] [85] (fun j38:Bool=>[.bool j38])) (fun j38:Bool=>
         if j38=true then
          k35 (a1.fragment,true)
         else
          k35 (j22.2.fragment,j22.2.hasFrag)) fun k39=>
        if a1.hasFrag=true then
         k39 (!j22.2.hasFrag)
        else
         k39 false) fun k23=>
      Option.bind (JC N y3 ([114,101,108,97,116,105,118,101,82,101,102]:List UInt8)) fun y26=>
      AA (d:=.a (13,1) [(66,4)] [70] (fun j28:Bool=>[.bool j28])) (fun j28:Bool=>
       if j28=true then
        Option.bind (Gi N y20.1 y26.1) fun y32=>
        k23 (y32.2,y32.1)
       else
        k23 (y20.2,y20.1)) fun k29=>
      if y26.2=true then
       k29 (y20.2==0)
      else
       k29 false) fun k16=>
   if y5.2=true then
    k16 (!j7.2)
   else
    k16 true) fun k8=>
  Option.bind (Ez N a1.dID) fun y11=>
  grd (AO (y11.length+([35]:List UInt8).length)) (
  grd (AO ((y11++([35]:List UInt8)).length+y5.1.length)) (
  Option.bind (Gj N y1.1 ((y11++([35]:List UInt8))++y5.1)) fun y13=>
  k8 (y13.1,y13.2)))
def NS (N:Nat):Option (Bool):=
 Option.bind (Ht N ([123,34,105,100,34,58,34,100,105,100,58,119,101,98,58,97,46,101,120,97,109,112,108,101,34,44,34,115,101,114,118,105,99,101,34,58,91,123,34,105,100,34,58,34,35,102,105,108,101,115,34,44,34,116,121,112,101,34,58,34,88,34,44,34,115,101,114,118,105,99,101,69,110,100,112,111,105,110,116,34,58,34,104,116,116,112,115,58,47,47,97,46,101,120,97,109,112,108,101,47,102,47,34,125,93,125]:List UInt8)) fun y1=>
 Option.bind (F5 N y1.1 (ApiDIDURL.mk (ApiDID.mk ([119,101,98]:List UInt8) ([97,46,101,120,97,109,112,108,101]:List UInt8)) [] ([115,101,114,118,105,99,101,61,102,105,108,101,115,38,114,101,108,97,116,105,118,101,82,101,102,61,120,37,50,70,121]:List UInt8) [] true false)) fun y3=>
 if(y3.2==0)=true then
  if(y3.1==([104,116,116,112,115,58,47,47,97,46,101,120,97,109,112,108,101,47,102,47,120,47,121]:List UInt8))=true then
   Option.bind (J2 N ([97,38,38,98,61,49,38,99,61,37,120]:List UInt8)) fun y5=>
   some (((y5.length:Int)==2))
  else
   some (false)
 else
  some (false)
def D8 (N:Nat) (a0:ApiDID):Option ((List UInt8)):=
 grd (AO (([100,105,100,58]:List UInt8).length+a0.method.length)) (
 grd (AO ((([100,105,100,58]:List UInt8)++a0.method).length+([58]:List UInt8).length)) (
 grd (AO (((([100,105,100,58]:List UInt8)++a0.method)++([58]:List UInt8)).length+a0.iD.length)) (
 some ((((([100,105,100,58]:List UInt8)++a0.method)++([58]:List UInt8))++a0.iD)))))
def EU (N:Nat) (a0:(List UInt8)) (a1:Int) (k2:((List (List UInt8))×Int→Option ((List (List UInt8))))):List UInt8→Int→(List (List UInt8))→Int→Option ((List (List UInt8)))
  |[],s7,s5,s6=>
  k2 (s5,s6)
  |xk5::xs,s7,s5,s6=>
  AA (d:=.a (1,6) [(14,14)] [5,6] (fun j6:(List (List UInt8))×Int=>[.slice 1 (List.map AVal.str j6.1) true,.int .i64 j6.2])) (fun j6:(List (List UInt8))×Int=>
   EU N a0 a1 k2 xs (s7+1) j6.1 j6.2) fun k7=>
  if((AJ xk5)==a1)=true then
   Option.bind (sub a0 s6 s7) fun x10=>
   grd (Cg (s5.length+1) 16) (
   k7 ((s5++[x10]),(s7+1)))
  else
   k7 (s5,s6)
def GR (N:Nat) (a0:(List UInt8)) (a1:Int):Option ((List (List UInt8))):=
 AA (d:=.a (3,18) [(7,21)] [5,6] (fun j1:(List (List UInt8))×Int=>[.slice 1 (List.map AVal.str j1.1) true,.int .i64 j1.2])) (fun j1:(List (List UInt8))×Int=>
  Option.bind (sub a0 j1.2 (a0.length:Int)) fun x11=>
  grd (Cg (j1.1.length+1) 16) (
  some ((j1.1++[x11])))) fun k2=>
 grd (AO (a0.length)) (
  EU N a0 a1 k2 a0 0 [] 0)
def JH (N:Nat) (a0:Int):Option (Int):=
 if(decide (a0≤57))=true then
  some ((wr .u8 (a0-48)))
 else
  if(decide (a0≤70))=true then
   some ((wr .u8 ((wr .u8 (a0-65))+10)))
  else
   some ((wr .u8 ((wr .u8 (a0-97))+10)))
def IM (N:Nat) (a0:(List UInt8)) (a1:Int):Option (Int×Bool):=
 AA (d:=.a (1,1) [(6,26)] [32] (fun j1:Bool=>[.bool j1])) (fun j1:Bool=>
  if j1=true then
   some (0,false)
  else
   Option.bind (idx a0 (wr .i64 (a1+1))) fun x12=>
   Option.bind (JH N (AJ x12)) fun y13=>
   Option.bind (idx a0 (wr .i64 (a1+2))) fun x15=>
   Option.bind (JH N (AJ x15)) fun y16=>
   some ((wr .u8 ((wr .u8 (16 * y13))+y16)),true)) fun k2=>
 if(decide ((wr .i64 (a1+2))≥(a0.length:Int)))=true then
  k2 true
 else
  Option.bind (idx a0 a1) fun x5=>
  if((AJ x5) !=37)=true then
   k2 true
  else
   Option.bind (idx a0 (wr .i64 (a1+1))) fun x6=>
   Option.bind (FT N (AJ x6)) fun y7=>
   if y7=true then
    Option.bind (idx a0 (wr .i64 (a1+2))) fun x9=>
    Option.bind (FT N (AJ x9)) fun y10=>
    k2 (!y10)
   else
    k2 true
def Dv (N:Nat) (a0:(List UInt8)) (k2:((List Int)→Option ((List UInt8)×Int))):Nat→(List Int)→Int→Option ((List UInt8)×Int)
  |0,_,_=>none
  |k+1,s4,s5=>
  if(decide (s5<(a0.length:Int)))=true then
   Option.bind (idx a0 s5) fun x6=>
   AA (d:=.a (8,15) [(2,2),(7,2),(21,13)] [5,6] (fun j7:Int×Int=>[.int .i64 j7.1,.int .u8 j7.2])) (fun j7:Int×Int=>
    grd (Cg (s4.length+1) 1) (
    Dv N a0 k2 k (s4++[j7.2]) (wr .i64 (j7.1+1)))) fun k8=>
   if((AJ x6)==37)=true then
    Option.bind (IM N a0 s5) fun y11=>
    if y11.2=true then
     k8 ((wr .i64 (s5+2)),y11.1)
    else
     some ([],2)
   else
    k8 (s5,(AJ x6))
  else
   k2 s4
def Gd (N:Nat) (a0:(List UInt8)):Option ((List UInt8)×Int):=
 if(decide ((a0.length:Int)>16384))=true then
  some ([],5)
 else
  AA (d:=.a (4,32) [(2,2),(5,4),(12,26)] [4] (fun j1:(List Int)=>[.slice 1 (List.map (AVal.int .u8) j1) true])) (fun j1:(List Int)=>
   some ((List.map Fx j1),0)) fun k2=>
  Dv N a0 k2 N [] 0
def Dx (N:Nat) (a0:(List UInt8)) (a1:(List UInt8)):Option (Bool):=
 if(decide ((a0.length:Int)≥(a1.length:Int)))=true then
  Option.bind (sub a0 0 (a1.length:Int)) fun x1=>
  some ((x1==a1))
 else
  some (false)
def Dz (N:Nat) (k2:(Unit→Option (Bool))):List UInt8→Option (Bool)
  |[]=>
  k2 ()
  |xk5::xs=>
  AA (d:=.a (4,1) [(10,16)] [26] (fun j6:Bool=>[.bool j6])) (fun j6:Bool=>
   if j6=true then
    some (false)
   else
    Dz N k2 xs) fun k7=>
  Option.bind (BV N (AJ xk5)) fun y10=>
  if y10=true then
   k7 false
  else
   if(decide ((AJ xk5)<97))=true then
    k7 true
   else
    k7 (decide ((AJ xk5)>122))
def Jf (N:Nat) (a0:(List UInt8)):Option (Bool):=
 AA (d:=.a (1,20) [(2,25)] [] (fun j1:Unit=>[])) (fun j1:Unit=>
  some ((!(a0==[])))) fun k2=>
 grd (AO (a0.length)) (
  Dz N k2 a0)
def JI (N:Nat) (a0:Int):Option (Bool):=
 Option.bind (Dn N a0) fun y1=>
 if y1=true then
  some (true)
 else
  Option.bind (BV N a0) fun y3=>
  if y3=true then
   some (true)
  else
   Option.bind (E8 N a0 ([46,45,95]:List UInt8)) fun y5=>
   some (y5)
def IJ (N:Nat) (a0:Int):Option ((List UInt8)):=
 Option.bind (idx ([48,49,50,51,52,53,54,55,56,57,65,66,67,68,69,70]:List UInt8) (wr .u8 (a0.tdiv 16))) fun x1=>
 Option.bind (idx ([48,49,50,51,52,53,54,55,56,57,65,66,67,68,69,70]:List UInt8) (a0.tmod 16)) fun x2=>
 letL ([37,(AJ x1),(AJ x2)]:(List Int)) fun l3=>
 some ((List.map Fx l3))
def Cv (N:Nat) (a0:(List UInt8)) (k2:((List UInt8)→Option ((List UInt8)))):List UInt8→Int→(List UInt8)→Option ((List UInt8))
  |[],s4,s3=>
  k2 s3
  |xk5::xs,s4,s3=>
  AA (d:=.a (1,6) [(11,17)] [3] (fun j6:(List UInt8)=>[.str j6])) (fun j6:(List UInt8)=>
   Cv N a0 k2 xs (s4+1) j6) fun k7=>
  Option.bind (JI N (AJ xk5)) fun y10=>
  if y10=true then
   Option.bind (sub a0 s4 (s4+1)) fun x12=>
   grd (AO (s3.length+x12.length)) (
   k7 (s3++x12))
  else
   Option.bind (IJ N (AJ xk5)) fun y13=>
   grd (AO (s3.length+y13.length)) (
   k7 (s3++y13))
def Ik (N:Nat) (a0:(List UInt8)):Option ((List UInt8)):=
 AA (d:=.a (2,18) [(4,24)] [3] (fun j1:(List UInt8)=>[.str j1])) (fun j1:(List UInt8)=>
  some (j1)) fun k2=>
 grd (AO (a0.length)) (
  Cv N a0 k2 a0 0 [])
def DK (N:Nat) (k25:(Unit→Option (ApiDID×Int))):List UInt8→Option (ApiDID×Int)
  |[]=>
  k25 ()
  |xk28::xs=>
  AA (d:=.a (26,1) [(74,10)] [84] (fun j29:Bool=>[.bool j29])) (fun j29:Bool=>
   if j29=true then
    some ((ApiDID.mk [] []),1)
   else
    DK N k25 xs) fun k30=>
  Option.bind (JI N (AJ xk28)) fun y33=>
  if y33=true then
   k30 false
  else
   k30 ((AJ xk28) !=37)
def Bz (N:Nat) (k20:((List UInt8)→Option (ApiDID×Int))):List (List UInt8)→Int→(List UInt8)→Option (ApiDID×Int)
  |[],s63,s10=>
  k20 s10
  |xk23::xs,s63,s10=>
  AA (d:=.a (23,20) [(3,1),(13,1),(68,18)] [] (fun j24:Unit=>[])) (fun j24:Unit=>
   Option.bind (Gd N xk23) fun y35=>
   AA (d:=.a (29,5) [(91,4)] [10] (fun j37:(List UInt8)=>[.str j37])) (fun j37:(List UInt8)=>
    Option.bind (Ik N y35.1) fun y41=>
    grd (AO (j37.length+y41.length)) (
    Bz N k20 xs (s63+1) (j37++y41))) fun k38=>
   if(decide (s63>0))=true then
    grd (AO (s10.length+([58]:List UInt8).length)) (
    k38 (s10++([58]:List UInt8)))
   else
    k38 s10) fun k25=>
  grd (AO (xk23.length)) (
   DK N k25 xk23)
def DJ (N:Nat) (k13:(Unit→Option (ApiDID×Int))):List (List UInt8)→Option (ApiDID×Int)
  |[]=>
  k13 ()
  |xk16::xs=>
  Option.bind (Gd N xk16) fun y17=>
  if(y17.2 !=0)=true then
   some ((ApiDID.mk [] []),2)
  else
   DJ N k13 xs
def FZ (N:Nat) (a0:(List UInt8)):Option (ApiDID×Int):=
 if(decide ((a0.length:Int)>4096))=true then
  some ((ApiDID.mk [] []),5)
 else
  Option.bind (Dx N a0 ([100,105,100,58]:List UInt8)) fun y1=>
  if y1=true then
   Option.bind (sub a0 4 (a0.length:Int)) fun x3=>
   Option.bind (BC N x3 ([58]:List UInt8)) fun y4=>
   if(y4==(x3.length:Int))=true then
    some ((ApiDID.mk [] []),6)
   else
    Option.bind (sub x3 0 y4) fun x6=>
    Option.bind (Jf N x6) fun y7=>
    if y7=true then
     Option.bind (sub x3 (wr .i64 (y4+1)) (x3.length:Int)) fun x9=>
     Option.bind (GR N x9 58) fun y10=>
     AA (d:=.a (12,24) [(3,1),(7,3),(46,15)] [] (fun j12:Unit=>[])) (fun j12:Unit=>
      AA (d:=.a (20,45) [(3,1),(11,5),(61,39)] [10] (fun j19:(List UInt8)=>[.str j19])) (fun j19:(List UInt8)=>
       Option.bind (idx y10 (wr .i64 ((y10.length:Int)-1))) fun x43=>
       if(x43==[])=true then
        some ((ApiDID.mk [] []),3)
       else
        some ((ApiDID.mk x6 j19),0)) fun k20=>
      grd (AO (y10.length)) (
       Bz N k20 y10 0 [])) fun k13=>
     grd (AO (y10.length)) (
      DJ N k13 y10)
    else
     some ((ApiDID.mk [] []),100)
  else
   some ((ApiDID.mk [] []),60)
def Aj (N:Nat) (a0:Ref17Reader) (a1:Int):Option (Ref17Reader):=
 if(a0.fail==0)=true then
  some ((Ref17Reader.mk a0.d a1))
 else
  some (a0)
def DF (N:Nat) (a0:Ref17Reader) (a1:ApiValue) (a2:(List UInt8)):Option ((List UInt8)×Ref17Reader):=
 Option.bind (Fq N a1 a2) fun y1=>
 AA (d:=.b (2,5) [(15,5)] [] (fun j3:Ref17Reader=>[]) fun j3=>[.k,.k,.s ([.str j3.d.method,.str j3.d.iD,.int .i64 j3.fail])]) (fun j3:Ref17Reader=>
  some (y1.1.text,j3)) fun k4=>
 if(y1.1.kind !=5)=true then
  Option.bind (Aj N a0 160) fun y7=>
  k4 y7
 else
  k4 a0
def BO (N:Nat) (k12:((List (List UInt8))×Ref17Reader→Option ((List (List UInt8))×Ref17Reader))):List ApiValue→(List (List UInt8))→Ref17Reader→Option ((List (List UInt8))×Ref17Reader)
  |[],s11,bi0=>
  k12 (s11,bi0)
  |xk15::xs,s11,bi0=>
  AA (d:=.b (16,5) [(53,5)] [] (fun j16:Ref17Reader=>[]) fun j16=>[.k,.k,.k,.s ([.str j16.d.method,.str j16.d.iD,.int .i64 j16.fail])]) (fun j16:Ref17Reader=>
   grd (Cg (s11.length+1) 16) (
   BO N k12 xs (s11++[xk15.text]) j16)) fun k17=>
  if(xk15.kind !=5)=true then
   Option.bind (Aj N bi0 160) fun y20=>
   k17 y20
  else
   k17 bi0
def BB (N:Nat) (a0:Ref17Reader) (a1:ApiValue) (a2:(List UInt8)) (a3:Bool):Option ((List (List UInt8))×Ref17Reader):=
 Option.bind (Fq N a1 a2) fun y1=>
 if y1.2=true then
  AA (d:=.a (4,1) [(24,6)] [23] (fun j3:Bool=>[.bool j3])) (fun j3:Bool=>
   if j3=true then
    some ([y1.1.text],a0)
   else
    if(y1.1.kind !=6)=true then
     Option.bind (Aj N a0 160) fun y7=>
     some ([],y7)
    else
     if(decide ((y1.1.items.length:Int)>64))=true then
      Option.bind (Aj N a0 161) fun y9=>
      some ([],y9)
     else
      AA (d:=.b (13,22) [(13,1),(46,18)] [11] (fun j11:(List (List UInt8))×Ref17Reader=>[.slice 1 (List.map AVal.str j11.1) true]) fun j11=>[.k,.k,.s ([.str j11.2.d.method,.str j11.2.d.iD,.int .i64 j11.2.fail])]) (fun j11:(List (List UInt8))×Ref17Reader=>
       some (j11.1,j11.2)) fun k12=>
      grd (AO (y1.1.items.length)) (
       BO N k12 y1.1.items [] a0)) fun k4=>
  if a3=true then
   k4 (y1.1.kind==5)
  else
   k4 false
 else
  some ([],a0)
def Bp (N:Nat) (a0:Ref17Reader) (a1:ApiValue) (a2:(List UInt8)):Option ((List ApiValue)×Ref17Reader):=
 Option.bind (Fq N a1 a2) fun y1=>
 if y1.2=true then
  if(y1.1.kind !=6)=true then
   Option.bind (Aj N a0 160) fun y3=>
   some ([],y3)
  else
   if(decide ((y1.1.items.length:Int)>64))=true then
    Option.bind (Aj N a0 161) fun y5=>
    some ([],y5)
   else
    some (y1.1.items,a0)
 else
  some ([],a0)
def En (N:Nat) (a0:Int):Option (Bool):=
 Option.bind (Dn N a0) fun y1=>
 if y1=true then
  some (true)
 else
  Option.bind (BV N a0) fun y3=>
  if y3=true then
   some (true)
  else
   Option.bind (E8 N a0 ([45,46,95,126]:List UInt8)) fun y5=>
   some (y5)
def CG (N:Nat) (a0:(List UInt8)) (a1:(List UInt8)) (k2:((List Int)→Option ((List UInt8)×Int))):Nat→(List Int)→Int→Option ((List UInt8)×Int)
  |0,_,_=>none
  |k+1,s6,s7=>
  if (decide (s7<(a0.length:Int)))=true then
   AA (d:=.a (1,34) [(4,2),(8,2),(19,43)] [6,7] (fun j6:(List Int)×Int=>[.slice 1 (List.map (AVal.int .u8) j6.1) true,.int .i64 j6.2])) (fun j6:(List Int)×Int=>
    CG N a0 a1 k2 k j6.1 (wr .i64 (j6.2+1))) fun k7=>
   Option.bind (idx a0 s7) fun x10=>
   if((AJ x10) !=37)=true then
    AA (d:=.a (8,1) [(23,12)] [35] (fun j11:Bool=>[.bool j11])) (fun j11:Bool=>
     if j11=true then
      some ([],1)
     else
      grd (Cg (s6.length+1) 1) (
      k7 ((s6++[(AJ x10)]),s7))) fun k12=>
    Option.bind (En N (AJ x10)) fun y15=>
    if y15=true then
     k12 false
    else
     Option.bind (E8 N (AJ x10) a1) fun y17=>
     k12 (!y17)
   else
    Option.bind (IM N a0 s7) fun y19=>
    if y19.2=true then
     AA (d:=.a (14,5) [(50,10)] [6] (fun j21:(List Int)=>[.slice 1 (List.map (AVal.int .u8) j21) true])) (fun j21:(List Int)=>
      k7 (j21,(wr .i64 (s7+2)))) fun k22=>
     Option.bind (En N y19.1) fun y25=>
     if y25=true then
      grd (Cg (s6.length+1) 1) (
      k22 (s6++[y19.1]))
     else
      Option.bind (IJ N y19.1) fun y27=>
      grd (Cg (s6.length+y27.length) 1) (
      k22 (s6++(List.map AJ y27)))
    else
     some ([],2)
  else
   k2 s6
def DX (N:Nat) (a0:(List UInt8)) (a1:(List UInt8)):Option ((List UInt8)×Int):=
 if(decide ((a0.length:Int)>16384))=true then
  some ([],5)
 else
  AA (d:=.a (4,46) [(4,2),(7,3),(13,49)] [6] (fun j1:(List Int)=>[.slice 1 (List.map (AVal.int .u8) j1) true])) (fun j1:(List Int)=>
   some ((List.map Fx j1),0)) fun k2=>
  CG N a0 a1 k2 N [] 0
def I9 (N:Nat) (a0:(List UInt8)):Option (ApiDIDURL×Int):=
 if(decide ((a0.length:Int)>4096))=true then
  some ((ApiDIDURL.mk (ApiDID.mk [] []) [] [] [] false false),5)
 else
  Option.bind (BC N a0 ([47,63,35]:List UInt8)) fun y1=>
  Option.bind (sub a0 0 y1) fun x3=>
  Option.bind (FZ N x3) fun y4=>
  if(y4.2 !=0)=true then
   some ((ApiDIDURL.mk (ApiDID.mk [] []) [] [] [] false false),y4.2)
  else
   Option.bind (sub a0 y1 (a0.length:Int)) fun x6=>
   AA (d:=.b (8,7) [(9,1),(33,15)] [8] (fun j7:(List UInt8)×(List UInt8)×Bool=>[.str j7.1]) fun j7=>[.s ([.str y4.1.method,.str y4.1.iD,.str [],.str [],.str j7.2.1,.bool false,.bool j7.2.2])]) (fun j7:(List UInt8)×(List UInt8)×Bool=>
    AA (d:=.b (11,7) [(10,1),(48,15)] [8] (fun j15:(List UInt8)×(List UInt8)×Bool=>[.str j15.1]) fun j15=>[.s ([.str y4.1.method,.str y4.1.iD,.str [],.str j15.2.1,.str j7.2.1,.bool j15.2.2,.bool j7.2.2])]) (fun j15:(List UInt8)×(List UInt8)×Bool=>
     Option.bind (DX N j15.1 ([33,36,38,39,40,41,42,43,44,59,61,58,64,47]:List UInt8)) fun y23=>
     if(y23.2 !=0)=true then
      some ((ApiDIDURL.mk (ApiDID.mk [] []) [] [] [] false false),y23.2)
     else
      Option.bind (DX N j15.2.1 ([33,36,38,39,40,41,42,43,44,59,61,58,64,47,63]:List UInt8)) fun y25=>
      if(y25.2 !=0)=true then
       some ((ApiDIDURL.mk (ApiDID.mk [] []) [] [] [] false false),y25.2)
      else
       Option.bind (DX N j7.2.1 ([33,36,38,39,40,41,42,43,44,59,61,58,64,47,63]:List UInt8)) fun y27=>
       if(y27.2 !=0)=true then
        some ((ApiDIDURL.mk (ApiDID.mk [] []) [] [] [] false false),y27.2)
       else
        some ((ApiDIDURL.mk y4.1 y23.1 y25.1 y27.1 j15.2.2 j7.2.2),0)) fun k16=>
    Option.bind (BC N j7.1 ([63]:List UInt8)) fun y19=>
    if(decide (y19<(j7.1.length:Int)))=true then
     Option.bind (sub j7.1 (wr .i64 (y19+1)) (j7.1.length:Int)) fun x21=>
     Option.bind (sub j7.1 0 y19) fun x22=>
     k16 (x22,x21,true)
    else
     k16 (j7.1,[],false)) fun k8=>
   Option.bind (BC N x6 ([35]:List UInt8)) fun y11=>
   if(decide (y11<(x6.length:Int)))=true then
    Option.bind (sub x6 (wr .i64 (y11+1)) (x6.length:Int)) fun x13=>
    Option.bind (sub x6 0 y11) fun x14=>
    k8 (x14,x13,true)
   else
    k8 (x6,[],false)
def Il (N:Nat) (a0:ApiDID) (a1:(List UInt8)):Option (ApiDIDURL×Int):=
 Option.bind (Dx N a1 ([100,105,100,58]:List UInt8)) fun y1=>
 if y1=true then
  Option.bind (I9 N a1) fun y3=>
  some (y3.1,y3.2)
 else
  AA (d:=.a (3,1) [(12,7)] [19] (fun j5:Bool=>[.bool j5])) (fun j5:Bool=>
   if j5=true then
    some ((ApiDIDURL.mk (ApiDID.mk [] []) [] [] [] false false),6)
   else
    Option.bind (D8 N a0) fun y12=>
    grd (AO (y12.length+a1.length)) (
    Option.bind (I9 N (y12++a1)) fun y14=>
    some (y14.1,y14.2))) fun k6=>
  if(a1==[])=true then
   k6 false
  else
   Option.bind (idx a1 0) fun x9=>
   Option.bind (E8 N (AJ x9) ([47,63,35]:List UInt8)) fun y10=>
   k6 (!y10)
def Jr (N:Nat) (a0:ApiDIDURL):Option ((List UInt8)):=
 Option.bind (D8 N a0.dID) fun y1=>
 grd (AO (y1.length+a0.path.length)) (
 AA (d:=.a (2,5) [(10,7)] [3] (fun j3:(List UInt8)=>[.str j3])) (fun j3:(List UInt8)=>
  AA (d:=.a (4,5) [(17,7)] [3] (fun j7:(List UInt8)=>[.str j7])) (fun j7:(List UInt8)=>
   some (j7)) fun k8=>
  if a0.hasFrag=true then
   grd (AO (([35]:List UInt8).length+a0.fragment.length)) (
   grd (AO (j3.length+(([35]:List UInt8)++a0.fragment).length)) (
   k8 (j3++(([35]:List UInt8)++a0.fragment))))
  else
   k8 j3) fun k4=>
 if a0.hasQuery=true then
  grd (AO (([63]:List UInt8).length+a0.query.length)) (
  grd (AO ((y1++a0.path).length+(([63]:List UInt8)++a0.query).length)) (
  k4 ((y1++a0.path)++(([63]:List UInt8)++a0.query))))
 else
  k4 (y1++a0.path))
def FE (N:Nat) (a0:Ref17Reader) (a1:ApiValue):Option ((List UInt8)×Ref17Reader):=
 Option.bind (DF N a0 a1 ([105,100]:List UInt8)) fun y1=>
 Option.bind (Il N y1.2.d y1.1) fun y3=>
 if(y3.2 !=0)=true then
  Option.bind (Aj N y1.2 160) fun y5=>
  some ([],y5)
 else
  Option.bind (Jr N y3.1) fun y7=>
  some (y7,y1.2)
def Ea (N:Nat) (a0:Ref17Reader) (a1:ApiValue):Option (ApiMethod×Ref17Reader):=
 if(a1.kind !=7)=true then
  Option.bind (Aj N a0 160) fun y1=>
  some ((ApiMethod.mk [] [] []),y1)
 else
  Option.bind (FE N a0 a1) fun y3=>
  Option.bind (DF N y3.2 a1 ([116,121,112,101]:List UInt8)) fun y5=>
  Option.bind (DF N y5.2 a1 ([99,111,110,116,114,111,108,108,101,114]:List UInt8)) fun y7=>
  some ((ApiMethod.mk y3.1 y5.1 y7.1),y7.2)
def EH (N:Nat) (a0:Ref17Reader) (a1:ApiValue):Option (ApiService×Ref17Reader):=
 if(a1.kind !=7)=true then
  Option.bind (Aj N a0 160) fun y1=>
  some ((ApiService.mk [] [] []),y1)
 else
  Option.bind (FE N a0 a1) fun y3=>
  AA (d:=.b (5,7) [(6,2),(20,9)] [] (fun j5:Ref17Reader=>[]) fun j5=>[.k,.k,.k,.s ([.str j5.d.method,.str j5.d.iD,.int .i64 j5.fail])]) (fun j5:Ref17Reader=>
   Option.bind (BB N j5 a1 ([116,121,112,101]:List UInt8) true) fun y13=>
   Option.bind (Fq N a1 ([115,101,114,118,105,99,101,69,110,100,112,111,105,110,116]:List UInt8)) fun y15=>
   AA (d:=.b (10,5) [(38,4)] [] (fun j17:Ref17Reader=>[]) fun j17=>[.k,.k,.k,.k,.s ([.str j17.d.method,.str j17.d.iD,.int .i64 j17.fail])]) (fun j17:Ref17Reader=>
    AA (fun j23:(List (List UInt8))×Ref17Reader=>
     some ((ApiService.mk y3.1 y13.1 j23.1),j23.2)) fun k24=>
    if(y15.1.kind !=7)=true then
     Option.bind (BB N j17 a1 ([115,101,114,118,105,99,101,69,110,100,112,111,105,110,116]:List UInt8) true) fun y27=>
     k24 (y27.1,y27.2)
    else
     k24 ([],j17)) fun k18=>
   if y15.2=true then
    k18 y13.2
   else
    Option.bind (Aj N y13.2 160) fun y21=>
    k18 y21) fun k6=>
  Option.bind (Fq N a1 ([116,121,112,101]:List UInt8)) fun y9=>
  if y9.2=true then
   k6 y3.2
  else
   Option.bind (Aj N y3.2 160) fun y11=>
   k6 y11
def Co (N:Nat) (j6:(List UInt8)×(List (List UInt8))×Ref17Reader) (y14:(List (List UInt8))×Ref17Reader) (j16:(List ApiMethod)×Ref17Reader) (k30:((List ApiService)×Ref17Reader→Option (ApiDoc×Int))):List ApiValue→(List ApiService)→Ref17Reader→Option (ApiDoc×Int)
  |[],bq5_services,bn2=>
  k30 (bq5_services,bn2)
  |xk35::xs,bq5_services,bn2=>
  AA (d:=.b (3,4) [(11,1),(65,10)] [] (fun j36:(List ApiService)×Ref17Reader=>[]) fun j36=>[.s ([.str j6.1,.slice 1 (List.map AVal.str j6.2.1) false,.slice 1 (List.map AVal.str y14.1) false,.slice 3 (List.map AU j16.1) true,.slice 3 (List.map AP j36.1) true]),.k,.s ([.str j36.2.d.method,.str j36.2.d.iD,.int .i64 j36.2.fail])]) (fun j36:(List ApiService)×Ref17Reader=>
   Co N j6 y14 j16 k30 xs j36.1 j36.2) fun k37=>
  Option.bind (EH N bn2 xk35) fun y40=>
  grd (Cg (bq5_services.length+1) 64) (
  k37 ((bq5_services++[y40.1]),y40.2))
def Ck (N:Nat) (j6:(List UInt8)×(List (List UInt8))×Ref17Reader) (y14:(List (List UInt8))×Ref17Reader) (k17:((List ApiMethod)×Ref17Reader→Option (ApiDoc×Int))):List ApiValue→(List ApiMethod)→Ref17Reader→Option (ApiDoc×Int)
  |[],bq5_methods,bn2=>
  k17 (bq5_methods,bn2)
  |xk22::xs,bq5_methods,bn2=>
  AA (d:=.b (1,4) [(9,1),(48,10)] [] (fun j23:(List ApiMethod)×Ref17Reader=>[]) fun j23=>[.s ([.str j6.1,.slice 1 (List.map AVal.str j6.2.1) false,.slice 1 (List.map AVal.str y14.1) false,.slice 3 (List.map AU j23.1) true,.slice 3 (List.map AP []) true]),.k,.s ([.str j23.2.d.method,.str j23.2.d.iD,.int .i64 j23.2.fail])]) (fun j23:(List ApiMethod)×Ref17Reader=>
   Ck N j6 y14 k17 xs j23.1 j23.2) fun k24=>
  Option.bind (Ea N bn2 xk22) fun y27=>
  grd (Cg (bq5_methods.length+1) 48) (
  k24 ((bq5_methods++[y27.1]),y27.2))
def IG (N:Nat) (a0:ApiValue):Option (ApiDoc×Int):=
 if(a0.kind !=7)=true then
  some ((ApiDoc.mk [] [] [] [] []),160)
 else
  Option.bind (DF N (Ref17Reader.mk (ApiDID.mk [] []) 0) a0 ([105,100]:List UInt8)) fun y1=>
  Option.bind (FZ N y1.1) fun y3=>
  if(y3.2 !=0)=true then
   some ((ApiDoc.mk [] [] [] [] []),160)
  else
   AA (fun j6:(List UInt8)×(List (List UInt8))×Ref17Reader=>
    Option.bind (BB N j6.2.2 a0 ([99,111,110,116,114,111,108,108,101,114]:List UInt8) true) fun y14=>
    AA (d:=.b (10,16) [(9,1),(42,17)] [] (fun j16:(List ApiMethod)×Ref17Reader=>[]) fun j16=>[.s ([.str j6.1,.slice 1 (List.map AVal.str j6.2.1) false,.slice 1 (List.map AVal.str y14.1) false,.slice 3 (List.map AU j16.1) true,.slice 3 (List.map AP []) true]),.k,.s ([.str j16.2.d.method,.str j16.2.d.iD,.int .i64 j16.2.fail])]) (fun j16:(List ApiMethod)×Ref17Reader=>
     AA (d:=.b (15,16) [(11,1),(59,17)] [] (fun j29:(List ApiService)×Ref17Reader=>[]) fun j29=>[.s ([.str j6.1,.slice 1 (List.map AVal.str j6.2.1) false,.slice 1 (List.map AVal.str y14.1) false,.slice 3 (List.map AU j16.1) true,.slice 3 (List.map AP j29.1) true]),.k,.s ([.str j29.2.d.method,.str j29.2.d.iD,.int .i64 j29.2.fail])]) (fun j29:(List ApiService)×Ref17Reader=>
      if(j29.2.fail !=0)=true then
       some ((ApiDoc.mk [] [] [] [] []),j29.2.fail)
      else
       some ((ApiDoc.mk j6.1 j6.2.1 y14.1 j16.1 j29.1),0)) fun k30=>
     Option.bind (Bp N j16.2 a0 ([115,101,114,118,105,99,101]:List UInt8)) fun y33=>
     grd (AO (y33.1.length)) (
      Co N j6 y14 j16 k30 y33.1 [] y33.2)) fun k17=>
    Option.bind (Bp N y14.2 a0 ([118,101,114,105,102,105,99,97,116,105,111,110,77,101,116,104,111,100]:List UInt8)) fun y20=>
    grd (AO (y20.1.length)) (
     Ck N j6 y14 k17 y20.1 [] y20.2)) fun k7=>
   Option.bind (D8 N y3.1) fun y10=>
   Option.bind (BB N (Ref17Reader.mk y3.1 y1.2.fail) a0 ([97,108,115,111,75,110,111,119,110,65,115]:List UInt8) false) fun y12=>
   k7 (y10,y12.1,y12.2)
def ES (N:Nat) (a1:(List UInt8)) (k2:(Unit→Option ((List UInt8)×Bool))):List ApiField→Option ((List UInt8)×Bool)
  |[]=>
  k2 ()
  |xk5::xs=>
  if(xk5.name==a1)=true then
   some (xk5.value,true)
  else
   ES N a1 k2 xs
def JJ (N:Nat) (a0:(List ApiField)) (a1:(List UInt8)):Option ((List UInt8)×Bool):=
 AA (d:=.a (1,22) [(4,2),(7,14)] [] (fun j1:Unit=>[])) (fun j1:Unit=>
  some ([],false)) fun k2=>
 grd (AO (a0.length)) (
  ES N a1 k2 a0)
def Lf (N:Nat) (a0:(List UInt8)) (a1:Int):Option ((List UInt8)):=
 if(decide (a1≥(a0.length:Int)))=true then
  some ([])
 else
  Option.bind (sub a0 a1 (a0.length:Int)) fun x1=>
  some (x1)
def D6 (N:Nat) (k2:((List ApiField)→Option ((List ApiField)))):List (List UInt8)→(List ApiField)→Option ((List ApiField))
  |[],s3=>
  k2 s3
  |xk7::xs,s3=>
  AA (d:=.a (1,12) [(5,4),(14,26)] [3] (fun j8:(List ApiField)=>[.slice 2 (List.map DU j8) true])) (fun j8:(List ApiField)=>
   D6 N k2 xs j8) fun k9=>
  Option.bind (BC N xk7 ([61]:List UInt8)) fun y12=>
  Option.bind (Lf N xk7 (wr .i64 (y12+1))) fun y14=>
  Option.bind (Gd N y14) fun y16=>
  AA (d:=.a (7,1) [(26,5)] [31] (fun j18:Bool=>[.bool j18])) (fun j18:Bool=>
   if j18=true then
    Option.bind (sub xk7 0 y12) fun x22=>
    grd (Cg (s3.length+1) 32) (
    k9 (s3++[(ApiField.mk x22 y16.1)]))
   else
    k9 s3) fun k19=>
  if(xk7==[])=true then
   k19 false
  else
   k19 (y16.2==0)
def Jz (N:Nat) (a0:(List UInt8)):Option ((List ApiField)):=
 AA (d:=.a (2,24) [(5,36)] [3] (fun j1:(List ApiField)=>[.slice 2 (List.map DU j1) true])) (fun j1:(List ApiField)=>
  some (j1)) fun k2=>
 Option.bind (GR N a0 38) fun y5=>
 grd (AO (y5.length)) (
  D6 N k2 y5 [])
def H8 (N:Nat) (a0:ApiDIDURL):Option ((List ApiField)):=
 if a0.hasQuery=true then
  Option.bind (Jz N a0.query) fun y1=>
  some (y1)
 else
  some ([])
def KN (N:Nat) (a0:Int):Option ((List UInt8)):=
 if(decide (a0<0))=true then
  Option.bind (Ew N (wr .u64 ((wr .u64 (wr .i64 (0-(wr .i64 (a0+1)))))+1))) fun y1=>
  grd (AO (([45]:List UInt8).length+y1.length)) (
  some ((([45]:List UInt8)++y1)))
 else
  Option.bind (Ew N (wr .u64 a0)) fun y3=>
  some (y3)
def Jk (N:Nat) (a0:ApiHostPort):Option ((List UInt8)):=
 if(a0.port==0)=true then
  some (a0.host)
 else
  grd (AO (a0.host.length+([58]:List UInt8).length)) (
  Option.bind (KN N a0.port) fun y1=>
  grd (AO ((a0.host++([58]:List UInt8)).length+y1.length)) (
  some (((a0.host++([58]:List UInt8))++y1))))
def Kz (N:Nat) (a0:ApiURL):Option (ApiHostPort):=
 some ((ApiHostPort.mk a0.host a0.port))
def Jc (N:Nat) (a0:ApiURL):Option ((List UInt8)):=
 if a0.hasQuery=true then
  grd (AO (a0.path.length+([63]:List UInt8).length)) (
  grd (AO ((a0.path++([63]:List UInt8)).length+a0.query.length)) (
  some (((a0.path++([63]:List UInt8))++a0.query))))
 else
  some (a0.path)
def Ev (N:Nat) (a0:ApiURL):Option ((List UInt8)):=
 Option.bind (Kz N a0) fun y1=>
 Option.bind (Jk N y1) fun y3=>
 grd (AO (([104,116,116,112,115,58,47,47]:List UInt8).length+y3.length)) (
 Option.bind (Jc N a0) fun y5=>
 grd (AO ((([104,116,116,112,115,58,47,47]:List UInt8)++y3).length+y5.length)) (
 AA (d:=.a (2,5) [(11,7)] [3] (fun j7:(List UInt8)=>[.str j7])) (fun j7:(List UInt8)=>
  some (j7)) fun k8=>
 if a0.hasFrag=true then
  grd (AO (([35]:List UInt8).length+a0.fragment.length)) (
  grd (AO (((([104,116,116,112,115,58,47,47]:List UInt8)++y3)++y5).length+(([35]:List UInt8)++a0.fragment).length)) (
  k8 (((([104,116,116,112,115,58,47,47]:List UInt8)++y3)++y5)++(([35]:List UInt8)++a0.fragment))))
 else
  k8 ((([104,116,116,112,115,58,47,47]:List UInt8)++y3)++y5)))
def EO (N:Nat) (a0:(List UInt8)) (k2:((List Int)→Option ((List UInt8)))):List UInt8→Int→(List Int)→Option ((List UInt8))
  |[],s9,bn=>
  k2 bn
  |xk5::xs,s9,bn=>
  AA (d:=.b (1,8) [(4,1),(11,19)] [] (fun j6:(List Int)=>[]) fun j6=>[.s (List.map (AVal.int .u8) j6)]) (fun j6:(List Int)=>
   EO N a0 k2 xs (s9+1) j6) fun k7=>
  AA (d:=.a (5,1) [(12,11)] [23] (fun j10:Bool=>[.bool j10])) (fun j10:Bool=>
   if j10=true then
    grd (0≤s9∧s9<(a0.length:Int)) (
    Option.bind (idx bn s9) fun x15=>
    grd (s9.toNat+1≤bn.length) (
    k7 (bn.set s9.toNat (wr .u8 (x15+32)))))
   else
    k7 bn) fun k11=>
  grd (0≤s9∧s9<(a0.length:Int)) (
  Option.bind (idx bn s9) fun x14=>
  if(decide (x14≥65))=true then
   k11 (decide (x14≤90))
  else
   k11 false)
def Hy (N:Nat) (a0:(List UInt8)):Option ((List UInt8)):=
 AA (d:=.b (2,20) [(4,1),(7,24)] [] (fun j1:(List Int)=>[]) fun j1=>[.s (List.map (AVal.int .u8) j1)]) (fun j1:(List Int)=>
  grd (a0.length≤j1.length∧AO a0.length) (
  some ((List.map Fx (List.take a0.length j1))))) fun k2=>
 grd (AO (a0.length)) (
  EO N a0 k2 a0 0 (List.map AJ a0))
def JG (N:Nat) (a0:(List UInt8)) (a1:(List UInt8)):Option (Bool):=
 Option.bind (Hy N a0) fun y1=>
 Option.bind (Hy N a1) fun y3=>
 some ((y1==y3))
def Cj (N:Nat) (k2:(Unit→Option (Bool))):List UInt8→Int→Option (Bool)
  |[],s3=>
  k2 ()
  |xk5::xs,s3=>
  AA (d:=.a (4,1) [(10,22)] [32] (fun j6:Bool=>[.bool j6])) (fun j6:Bool=>
   if j6=true then
    some (false)
   else
    Cj N k2 xs (s3+1)) fun k7=>
  Option.bind (Dn N (AJ xk5)) fun y10=>
  if y10=true then
   k7 false
  else
   if(s3==0)=true then
    k7 true
   else
    Option.bind (BV N (AJ xk5)) fun y12=>
    if y12=true then
     k7 false
    else
     Option.bind (E8 N (AJ xk5) ([43,45,46]:List UInt8)) fun y14=>
     k7 (!y14)
def IE (N:Nat) (a0:(List UInt8)):Option (Bool):=
 AA (d:=.a (1,20) [(2,31)] [] (fun j1:Unit=>[])) (fun j1:Unit=>
  some ((!(a0==[])))) fun k2=>
 grd (AO (a0.length)) (
  Cj N k2 a0 0)
def Hr (N:Nat) (a0:(List UInt8)):Option (ApiURI×Int):=
 if(decide ((a0.length:Int)>16384))=true then
  some ((ApiURI.mk [] [] [] [] [] false false false false),5)
 else
  AA (d:=.b (4,7) [(5,1),(13,15)] [0] (fun j1:(List UInt8)×(List UInt8)×Bool=>[.str j1.1]) fun j1=>[.s ([.str [],.str [],.str [],.str [],.str j1.2.1,.bool false,.bool false,.bool false,.bool j1.2.2])]) (fun j1:(List UInt8)×(List UInt8)×Bool=>
   AA (d:=.b (7,7) [(6,1),(28,15)] [0] (fun j9:(List UInt8)×(List UInt8)×Bool=>[.str j9.1]) fun j9=>[.s ([.str [],.str [],.str [],.str j9.2.1,.str j1.2.1,.bool false,.bool false,.bool j9.2.2,.bool j1.2.2])]) (fun j9:(List UInt8)×(List UInt8)×Bool=>
    AA (d:=.b (10,15) [(3,1),(7,1),(43,27)] [0] (fun j17:(List UInt8)×(List UInt8)×Bool=>[.str j17.1]) fun j17=>[.s ([.str j17.2.1,.str [],.str [],.str j9.2.1,.str j1.2.1,.bool j17.2.2,.bool false,.bool j9.2.2,.bool j1.2.2])]) (fun j17:(List UInt8)×(List UInt8)×Bool=>
     AA (d:=.b (15,7) [(8,1),(70,14)] [0] (fun j32:(List UInt8)×(List UInt8)×Bool=>[.str j32.1]) fun j32=>[.s ([.str j17.2.1,.str j32.2.1,.str [],.str j9.2.1,.str j1.2.1,.bool j17.2.2,.bool j32.2.2,.bool j9.2.2,.bool j1.2.2])]) (fun j32:(List UInt8)×(List UInt8)×Bool=>
      some ((ApiURI.mk j17.2.1 j32.2.1 j32.1 j9.2.1 j1.2.1 j17.2.2 j32.2.2 j9.2.2 j1.2.2),0)) fun k33=>
     Option.bind (Dx N j17.1 ([47,47]:List UInt8)) fun y36=>
     if y36=true then
      Option.bind (sub j17.1 2 (j17.1.length:Int)) fun x38=>
      Option.bind (BC N x38 ([47]:List UInt8)) fun y39=>
      Option.bind (sub j17.1 2 (wr .i64 (2+y39))) fun x41=>
      Option.bind (sub j17.1 (wr .i64 (2+y39)) (j17.1.length:Int)) fun x42=>
      k33 (x42,x41,true)
     else
      k33 (j17.1,[],false)) fun k18=>
    Option.bind (BC N j9.1 ([58,47]:List UInt8)) fun y21=>
    AA (d:=.a (11,1) [(45,9)] [54] (fun j23:Bool=>[.bool j23])) (fun j23:Bool=>
     if j23=true then
      Option.bind (sub j9.1 0 y21) fun x28=>
      Option.bind (IE N x28) fun y29=>
      if y29=true then
       Option.bind (sub j9.1 (wr .i64 (y21+1)) (j9.1.length:Int)) fun x31=>
       k18 (x31,x28,true)
      else
       some ((ApiURI.mk [] [] [] [] [] false false false false),6)
     else
      k18 (j9.1,[],false)) fun k24=>
    if(decide (y21<(j9.1.length:Int)))=true then
     Option.bind (idx j9.1 y21) fun x27=>
     k24 ((AJ x27)==58)
    else
     k24 false) fun k10=>
   Option.bind (BC N j1.1 ([63]:List UInt8)) fun y13=>
   if(decide (y13<(j1.1.length:Int)))=true then
    Option.bind (sub j1.1 (wr .i64 (y13+1)) (j1.1.length:Int)) fun x15=>
    Option.bind (sub j1.1 0 y13) fun x16=>
    k10 (x16,x15,true)
   else
    k10 (j1.1,[],false)) fun k2=>
  Option.bind (BC N a0 ([35]:List UInt8)) fun y5=>
  if(decide (y5<(a0.length:Int)))=true then
   Option.bind (sub a0 (wr .i64 (y5+1)) (a0.length:Int)) fun x7=>
   Option.bind (sub a0 0 y5) fun x8=>
   k2 (x8,x7,true)
  else
   k2 (a0,[],false)
def II (N:Nat) (a0:(List UInt8)) (a1:Int):Option (Int×Int):=
 Option.bind (HV N a0 10 a1) fun y1=>
 AA (d:=.a (2,1) [(14,15)] [29] (fun j3:Bool=>[.bool j3])) (fun j3:Bool=>
  if j3=true then
   some (0,6)
  else
   some (y1.1,y1.2)) fun k4=>
 if(y1.2==0)=true then
  if(decide ((a0.length:Int)>1))=true then
   Option.bind (idx a0 0) fun x7=>
   k4 ((AJ x7)==48)
  else
   k4 false
 else
  if(y1.2==4)=true then
   if(decide ((a0.length:Int)>1))=true then
    Option.bind (idx a0 0) fun x8=>
    k4 ((AJ x8)==48)
   else
    k4 false
  else
   k4 false
def D7 (N:Nat) (k4:(Unit→Option (Bool))):List (List UInt8)→Option (Bool)
  |[]=>
  k4 ()
  |xk7::xs=>
  Option.bind (II N xk7 255) fun y8=>
  if(y8.2 !=0)=true then
   some (false)
  else
   D7 N k4 xs
def Jn (N:Nat) (a0:(List UInt8)):Option (Bool):=
 Option.bind (GR N a0 46) fun y1=>
 AA (d:=.a (2,24) [(2,1),(5,3),(10,14)] [] (fun j3:Unit=>[])) (fun j3:Unit=>
  some (((y1.length:Int)==4))) fun k4=>
 grd (AO (y1.length)) (
  D7 N k4 y1)
def EQ (N:Nat) (k2:(Unit→Option (Bool))):List UInt8→Option (Bool)
  |[]=>
  k2 ()
  |xk5::xs=>
  AA (d:=.a (4,1) [(10,17)] [27] (fun j6:Bool=>[.bool j6])) (fun j6:Bool=>
   if j6=true then
    some (false)
   else
    EQ N k2 xs) fun k7=>
  Option.bind (Dn N (AJ xk5)) fun y10=>
  if y10=true then
   k7 false
  else
   Option.bind (BV N (AJ xk5)) fun y12=>
   if y12=true then
    k7 false
   else
    k7 ((AJ xk5) !=45)
def KW (N:Nat) (a0:(List UInt8)):Option (Bool):=
 AA (d:=.a (1,20) [(2,26)] [] (fun j1:Unit=>[])) (fun j1:Unit=>
  if(a0==[])=true then
   some (false)
  else
   if(decide ((a0.length:Int)≤63))=true then
    Option.bind (idx a0 0) fun x14=>
    if((AJ x14) !=45)=true then
     Option.bind (idx a0 (wr .i64 ((a0.length:Int)-1))) fun x15=>
     some (((AJ x15) !=45))
    else
     some (false)
   else
    some (false)) fun k2=>
 grd (AO (a0.length)) (
  EQ N k2 a0)
def Dy (N:Nat) (k2:(Unit→Option (Bool))):List UInt8→Option (Bool)
  |[]=>
  k2 ()
  |xk5::xs=>
  Option.bind (BV N (AJ xk5)) fun y6=>
  if y6=true then
   Dy N k2 xs
  else
   some (false)
def J3 (N:Nat) (a0:(List UInt8)):Option (Bool):=
 AA (d:=.a (1,20) [(2,13)] [] (fun j1:Unit=>[])) (fun j1:Unit=>
  some ((!(a0==[])))) fun k2=>
 grd (AO (a0.length)) (
  Dy N k2 a0)
def Eu (N:Nat) (k4:(Unit→Option (Bool))):List (List UInt8)→Option (Bool)
  |[]=>
  k4 ()
  |xk7::xs=>
  Option.bind (KW N xk7) fun y8=>
  if y8=true then
   Eu N k4 xs
  else
   some (false)
def LG (N:Nat) (a0:(List UInt8)):Option (Bool):=
 Option.bind (GR N a0 46) fun y1=>
 AA (d:=.a (2,22) [(2,1),(5,1),(8,10)] [] (fun j3:Unit=>[])) (fun j3:Unit=>
  Option.bind (idx y1 (wr .i64 ((y1.length:Int)-1))) fun x10=>
  Option.bind (J3 N x10) fun y11=>
  some ((!y11))) fun k4=>
 grd (AO (y1.length)) (
  Eu N k4 y1)
def LH (N:Nat) (a0:(List UInt8)):Option ((List UInt8)×Int):=
 if(a0==[])=true then
  some ([],3)
 else
  if(decide ((a0.length:Int)>253))=true then
   some ([],5)
  else
   AA (d:=.a (5,1) [(12,8)] [11] (fun j1:Bool=>[.bool j1])) (fun j1:Bool=>
    if j1=true then
     some ([],50)
    else
     Option.bind (Hy N a0) fun y9=>
     some (y9,0)) fun k2=>
   Option.bind (Jn N a0) fun y5=>
   if y5=true then
    k2 false
   else
    Option.bind (LG N a0) fun y7=>
    k2 (!y7)
def LX (N:Nat) (a0:(List UInt8)):Option (Int×Int):=
 Option.bind (II N a0 65535) fun y1=>
 AA (d:=.a (2,1) [(11,5)] [16] (fun j3:Bool=>[.bool j3])) (fun j3:Bool=>
  if j3=true then
   some (0,51)
  else
   some ((wr .i64 y1.1),0)) fun k4=>
 if(y1.2 !=0)=true then
  k4 true
 else
  k4 (y1.1==0)
def Kg (N:Nat) (a0:(List UInt8)):Option (ApiHostPort×Int):=
 Option.bind (BC N a0 ([58]:List UInt8)) fun y1=>
 Option.bind (sub a0 0 y1) fun x3=>
 Option.bind (LH N x3) fun y4=>
 if(y4.2 !=0)=true then
  some ((ApiHostPort.mk [] 0),y4.2)
 else
  if(y1==(a0.length:Int))=true then
   some ((ApiHostPort.mk y4.1 0),0)
  else
   Option.bind (sub a0 (wr .i64 (y1+1)) (a0.length:Int)) fun x6=>
   Option.bind (LX N x6) fun y7=>
   if(y7.2 !=0)=true then
    some ((ApiHostPort.mk [] 0),y7.2)
   else
    AA (d:=.a (10,5) [(39,2)] [7] (fun j9:Int=>[.int .i64 j9])) (fun j9:Int=>
     some ((ApiHostPort.mk y4.1 j9),0)) fun k10=>
    if(y7.1==443)=true then
     k10 0
    else
     k10 y7.1
def Da (N:Nat) (a0:(List UInt8)) (k2:(Unit→Option ((List UInt8)))):Nat→Int→Option ((List UInt8))
  |0,_=>none
  |k+1,s3=>
  if(decide (s3≥0))=true then
   Option.bind (idx a0 s3) fun x6=>
   if((AJ x6)==47)=true then
    Option.bind (sub a0 0 s3) fun x7=>
    some (x7)
   else
    Da N a0 k2 k (wr .i64 (s3-1))
  else
   k2 ()
def Gr (N:Nat) (a0:(List UInt8)):Option ((List UInt8)):=
 AA (d:=.a (1,20) [(2,16)] [] (fun j1:Unit=>[])) (fun j1:Unit=>
  some ([])) fun k2=>
 Da N a0 k2 N (wr .i64 ((a0.length:Int)-1))
def Ae (N:Nat) (k2:((List UInt8)→Option ((List UInt8)))):Nat→(List UInt8)→(List UInt8)→Option ((List UInt8))
  |0,_,_=>none
  |k+1,s3,s4=>
  if(s3==[])=true then
   k2 s4
  else
   Option.bind (Dx N s3 ([46,46,47]:List UInt8)) fun y6=>
   if y6=true then
    Option.bind (sub s3 3 (s3.length:Int)) fun x8=>
    Ae N k2 k x8 s4
   else
    Option.bind (Dx N s3 ([46,47]:List UInt8)) fun y9=>
    if y9=true then
     Option.bind (sub s3 2 (s3.length:Int)) fun x11=>
     Ae N k2 k x11 s4
    else
     Option.bind (Dx N s3 ([47,46,47]:List UInt8)) fun y12=>
     if y12=true then
      Option.bind (sub s3 2 (s3.length:Int)) fun x14=>
      Ae N k2 k x14 s4
     else
      if(s3==([47,46]:List UInt8))=true then
       Ae N k2 k ([47]:List UInt8) s4
      else
       Option.bind (Dx N s3 ([47,46,46,47]:List UInt8)) fun y15=>
       if y15=true then
        Option.bind (sub s3 3 (s3.length:Int)) fun x17=>
        Option.bind (Gr N s4) fun y18=>
        Ae N k2 k x17 y18
       else
        if(s3==([47,46,46]:List UInt8))=true then
         Option.bind (Gr N s4) fun y20=>
         Ae N k2 k ([47]:List UInt8) y20
        else
         AA (d:=.a (17,1) [(52,6)] [51] (fun j22:Bool=>[.bool j22])) (fun j22:Bool=>
          if j22=true then
           Ae N k2 k [] s4
          else
           Option.bind (sub s3 1 (s3.length:Int)) fun x26=>
           Option.bind (BC N x26 ([47]:List UInt8)) fun y27=>
           Option.bind (sub s3 (wr .i64 (1+y27)) (s3.length:Int)) fun x29=>
           Option.bind (sub s3 0 (wr .i64 (1+y27))) fun x30=>
           grd (AO (s4.length+x30.length)) (
           Ae N k2 k x29 (s4++x30))) fun k23=>
         if(s3==([46]:List UInt8))=true then
          k23 true
         else
          k23 (s3==([46,46]:List UInt8))
def Cs (N:Nat) (a0:(List UInt8)):Option ((List UInt8)):=
 AA (d:=.a (0,41) [(3,1),(5,1),(7,51)] [4] (fun j1:(List UInt8)=>[.str j1])) (fun j1:(List UInt8)=>
  some (j1)) fun k2=>
 Ae N k2 N a0 []
def GU (N:Nat) (a0:(List UInt8)):Option (ApiURL×Int):=
 if(decide ((a0.length:Int)>4096))=true then
  some ((ApiURL.mk [] 0 [] [] [] false false),5)
 else
  Option.bind (Hr N a0) fun y1=>
  if(y1.2 !=0)=true then
   some ((ApiURL.mk [] 0 [] [] [] false false),y1.2)
  else
   AA (d := .a (6,1) [(25,9)] [24] (fun j3:Bool=>[.bool j3])) (fun j3:Bool=>
    if j3=true then
     some ((ApiURL.mk [] 0 [] [] [] false false),60)
    else
     if y1.1.hasAuthority=true then
      Option.bind (BC N y1.1.authority ([64]:List UInt8)) fun y9=>
      if(decide (y9<(y1.1.authority.length:Int)))=true then
       some ((ApiURL.mk [] 0 [] [] [] false false),70)
      else
       Option.bind (Kg N y1.1.authority) fun y11=>
       if(y11.2 !=0)=true then
        some ((ApiURL.mk [] 0 [] [] [] false false),y11.2)
       else
        Option.bind (DX N y1.1.path ([33,36,38,39,40,41,42,43,44,59,61,58,64,47]:List UInt8)) fun y13=>
        if(y13.2 !=0)=true then
         some ((ApiURL.mk [] 0 [] [] [] false false),y13.2)
        else
         Option.bind (DX N y1.1.query ([33,36,38,39,40,41,42,43,44,59,61,58,64,47,63]:List UInt8)) fun y15=>
         if(y15.2 !=0)=true then
          some ((ApiURL.mk [] 0 [] [] [] false false),y15.2)
         else
          Option.bind (DX N y1.1.fragment ([33,36,38,39,40,41,42,43,44,59,61,58,64,47,63]:List UInt8)) fun y17=>
          if(y17.2 !=0)=true then
           some ((ApiURL.mk [] 0 [] [] [] false false),y17.2)
          else
           AA (d:=.a (24,7) [(89,4)] [7] (fun j19:(List UInt8)=>[.str j19])) (fun j19:(List UInt8)=>
            Option.bind (Ev N (ApiURL.mk y11.1.host y11.1.port j19 y15.1 y17.1 y1.1.hasQuery y1.1.hasFrag)) fun y25=>
            if(decide ((y25.length:Int)>4096))=true then
             some ((ApiURL.mk [] 0 [] [] [] false false),5)
            else
             some ((ApiURL.mk y11.1.host y11.1.port j19 y15.1 y17.1 y1.1.hasQuery y1.1.hasFrag),0)) fun k20=>
           Option.bind (Cs N y13.1) fun y23=>
           if(y23==[])=true then
            k20 ([47]:List UInt8)
           else
            k20 y23
     else
      some ((ApiURL.mk [] 0 [] [] [] false false),71)) fun k4=>
   if y1.1.hasScheme=true then
    Option.bind (JG N y1.1.scheme ([104,116,116,112,115]:List UInt8)) fun y7=>
    k4 (!y7)
   else
    k4 true
def KV (N:Nat) (a0:ApiURL):Option (Bool):=
 Option.bind (Ev N a0) fun y1=>
 Option.bind (GU N y1) fun y3=>
 if(y3.2==0)=true then
  some ((a0.host==y3.1.host&&(a0.port==y3.1.port&&(a0.path==y3.1.path&&(a0.query==y3.1.query&&(a0.fragment==y3.1.fragment&&(a0.hasQuery==y3.1.hasQuery&&a0.hasFrag==y3.1.hasFrag)))))))
 else
  some (false)
def Du (N:Nat) (a0:ApiURI) (a1:ApiURI) (k6:(Unit→Option ((List UInt8)))):Nat→Int→Option ((List UInt8))
  |0,_=>none
  |k+1,s5=>
  if(decide (s5≥0))=true then
   Option.bind (idx a0.path s5) fun x10=>
   if((AJ x10)==47)=true then
    Option.bind (sub a0.path 0 (wr .i64 (s5+1))) fun x11=>
    grd (AO (x11.length+a1.path.length)) (
    some ((x11++a1.path)))
   else
    Du N a0 a1 k6 k (wr .i64 (s5-1))
  else
   k6 ()
def Jp (N:Nat) (a0:ApiURI) (a1:ApiURI):Option ((List UInt8)):=
 AA (d:=.a (1,1) [(6,6)] [12] (fun j1:Bool=>[.bool j1])) (fun j1:Bool=>
  if j1=true then
   grd (AO (([47]:List UInt8).length+a1.path.length)) (
   some ((([47]:List UInt8)++a1.path)))
  else
   AA (d:=.a (3,20) [(4,2),(16,21)] [] (fun j5:Unit=>[])) (fun j5:Unit=>
    some (a1.path)) fun k6=>
   Du N a0 a1 k6 N (wr .i64 ((a0.path.length:Int)-1))) fun k2=>
 if a0.hasAuthority=true then
  k2 (a0.path==[])
 else
  k2 false
def Ih (N:Nat) (a0:ApiURI) (a1:ApiURI):Option (ApiURI):=
 AA (d:=.b (0,34) [(7,56)] [] (fun j1:(List UInt8)×(List UInt8)×(List UInt8)×Bool×Bool=>[]) fun j1=>[.s ([.str a1.scheme,.str j1.1,.str j1.2.1,.str j1.2.2.1,.str a1.fragment,.bool a1.hasScheme,.bool j1.2.2.2.1,.bool j1.2.2.2.2,.bool a1.hasFrag])]) (fun j1:(List UInt8)×(List UInt8)×(List UInt8)×Bool×Bool=>
  some ((ApiURI.mk a0.scheme j1.1 j1.2.1 j1.2.2.1 a1.fragment a0.hasScheme j1.2.2.2.1 j1.2.2.2.2 a1.hasFrag))) fun k2=>
 if a1.hasScheme=true then
  Option.bind (Cs N a1.path) fun y5=>
  some ((ApiURI.mk a1.scheme a1.authority y5 a1.query a1.fragment a1.hasScheme a1.hasAuthority a1.hasQuery a1.hasFrag))
 else
  if a1.hasAuthority=true then
   Option.bind (Cs N a1.path) fun y7=>
   k2 (a1.authority,y7,a1.query,a1.hasAuthority,a1.hasQuery)
  else
   if(a1.path==[])=true then
    AA (d:=.b (13,5) [(48,9)] [] (fun j9:(List UInt8)×Bool=>[]) fun j9=>[.s ([.str a1.scheme,.str a1.authority,.str a0.path,.str j9.1,.str a1.fragment,.bool a1.hasScheme,.bool a1.hasAuthority,.bool j9.2,.bool a1.hasFrag])]) (fun j9:(List UInt8)×Bool=>
     k2 (a0.authority,a0.path,j9.1,a0.hasAuthority,j9.2)) fun k10=>
    if a1.hasQuery=true then
     k10 (a1.query,a1.hasQuery)
    else
     k10 (a0.query,a0.hasQuery)
   else
    Option.bind (Jp N a0 a1) fun y13=>
    Option.bind (Cs N y13) fun y15=>
    AA (d:=.b (3,5) [(12,8)] [] (fun j17:(List UInt8)=>[]) fun j17=>[.s ([.str a1.scheme,.str a1.authority,.str j17,.str a1.query,.str a1.fragment,.bool a1.hasScheme,.bool a1.hasAuthority,.bool a1.hasQuery,.bool a1.hasFrag])]) (fun j17:(List UInt8)=>
     k2 (a0.authority,j17,a1.query,a0.hasAuthority,a1.hasQuery)) fun k18=>
    Option.bind (idx a1.path 0) fun x21=>
    if((AJ x21)==47)=true then
     Option.bind (Cs N a1.path) fun y22=>
     k18 y22
    else
     k18 y15
def Le (N:Nat) (a0:ApiURI):Option ((List UInt8)):=
 AA (d:=.a (2,5) [(4,7)] [3] (fun j1:(List UInt8)=>[.str j1])) (fun j1:(List UInt8)=>
  AA (d:=.a (4,5) [(11,7)] [3] (fun j5:(List UInt8)=>[.str j5])) (fun j5:(List UInt8)=>
   grd (AO (j5.length+a0.path.length)) (
   AA (d:=.a (7,5) [(22,7)] [3] (fun j9:(List UInt8)=>[.str j9])) (fun j9:(List UInt8)=>
    AA (d:=.a (9,5) [(29,7)] [3] (fun j13:(List UInt8)=>[.str j13])) (fun j13:(List UInt8)=>
     some (j13)) fun k14=>
    if a0.hasFrag=true then
     grd (AO (([35]:List UInt8).length+a0.fragment.length)) (
     grd (AO (j9.length+(([35]:List UInt8)++a0.fragment).length)) (
     k14 (j9++(([35]:List UInt8)++a0.fragment))))
    else
     k14 j9) fun k10=>
   if a0.hasQuery=true then
    grd (AO (([63]:List UInt8).length+a0.query.length)) (
    grd (AO ((j5++a0.path).length+(([63]:List UInt8)++a0.query).length)) (
    k10 ((j5++a0.path)++(([63]:List UInt8)++a0.query))))
   else
    k10 (j5++a0.path))) fun k6=>
  if a0.hasAuthority=true then
   grd (AO (([47,47]:List UInt8).length+a0.authority.length)) (
   grd (AO (j1.length+(([47,47]:List UInt8)++a0.authority).length)) (
   k6 (j1++(([47,47]:List UInt8)++a0.authority))))
  else
   k6 j1) fun k2=>
 if a0.hasScheme=true then
  grd (AO (a0.scheme.length+([58]:List UInt8).length)) (
  grd (AO (([]:List UInt8).length+(a0.scheme++([58]:List UInt8)).length)) (
  k2 ([]++(a0.scheme++([58]:List UInt8)))))
 else
  k2 []
def Hq (N:Nat) (a0:ApiURL) (a1:(List UInt8)):Option (ApiURL×Int):=
 Option.bind (KV N a0) fun y1=>
 if y1=true then
  Option.bind (Ev N a0) fun y3=>
  Option.bind (Hr N y3) fun y5=>
  Option.bind (Hr N a1) fun y7=>
  if(y7.2 !=0)=true then
   some ((ApiURL.mk [] 0 [] [] [] false false),y7.2)
  else
   Option.bind (Ih N y5.1 y7.1) fun y9=>
   Option.bind (JG N y9.scheme ([104,116,116,112,115]:List UInt8)) fun y11=>
   if y11=true then
    Option.bind (Le N y9) fun y13=>
    Option.bind (GU N y13) fun y15=>
    some (y15.1,y15.2)
   else
    some ((ApiURL.mk [] 0 [] [] [] false false),253)
 else
  some ((ApiURL.mk [] 0 [] [] [] false false),8)
def He (N:Nat) (a0:ApiService) (a1:ApiDIDURL):Option ((List UInt8)×Int):=
 if((a0.endpoints.length:Int)==0)=true then
  some ([],292)
 else
  Option.bind (idx a0.endpoints 0) fun x1=>
  Option.bind (GU N x1) fun y2=>
  if(y2.2 !=0)=true then
   some ([],292)
  else
   AA (d:=.b (6,15) [(4,2),(7,3),(25,15)] [] (fun j4:ApiURL=>[]) fun j4=>[.s ([.str j4.host,.int .i64 j4.port,.str j4.path,.str j4.query,.str j4.fragment,.bool j4.hasQuery,.bool j4.hasFrag])]) (fun j4:ApiURL=>
    AA (d:=.b (11,5) [(40,11)] [] (fun j14:(List UInt8)×Bool=>[]) fun j14=>[.s ([.str j4.host,.int .i64 j4.port,.str j4.path,.str j4.query,.str j14.1,.bool j4.hasQuery,.bool j14.2])]) (fun j14:(List UInt8)×Bool=>
     Option.bind (Ev N (ApiURL.mk j4.host j4.port j4.path j4.query j14.1 j4.hasQuery j14.2)) fun y22=>
     if(decide ((y22.length:Int)≤4096))=true then
      some (y22,0)
     else
      some ([],292)) fun k15=>
    AA (d:=.a (11,1) [(40,6)] [46] (fun j18:Bool=>[.bool j18])) (fun j18:Bool=>
     if j18=true then
      k15 (a1.fragment,true)
     else
      k15 (j4.fragment,j4.hasFrag)) fun k19=>
    if a1.hasFrag=true then
     k19 (!j4.hasFrag)
    else
     k19 false) fun k5=>
   Option.bind (H8 N a1) fun y8=>
   Option.bind (JJ N y8 ([114,101,108,97,116,105,118,101,82,101,102]:List UInt8)) fun y10=>
   if y10.2=true then
    Option.bind (Hq N y2.1 y10.1) fun y12=>
    if(y12.2 !=0)=true then
     some ([],292)
    else
     k5 y12.1
   else
    k5 y2.1
def Dc (N:Nat) (a1:ApiDIDURL) (y5:(List UInt8)×Bool) (k8:(Unit→Option ((List UInt8)×Int))):List ApiService→Option ((List UInt8)×Int)
  |[]=>
  k8 ()
  |xk11::xs=>
  Option.bind (D8 N a1.dID) fun y12=>
  grd (AO (y12.length+([35]:List UInt8).length)) (
  grd (AO ((y12++([35]:List UInt8)).length+y5.1.length)) (
  if(xk11.iD==((y12++([35]:List UInt8))++y5.1))=true then
   Option.bind (He N xk11 a1) fun y14=>
   some (y14.1,y14.2)
  else
   Dc N a1 y5 k8 xs))
def Gq (N:Nat) (a0:ApiValue) (a1:ApiDIDURL):Option ((List UInt8)×Int):=
 Option.bind (IG N a0) fun y1=>
 if(y1.2 !=0)=true then
  some ([],y1.2)
 else
  Option.bind (H8 N a1) fun y3=>
  Option.bind (JJ N y3 ([115,101,114,118,105,99,101]:List UInt8)) fun y5=>
  if y5.2=true then
   AA (d:=.a (7,22) [(4,2),(11,1),(28,22)] [] (fun j7:Unit=>[])) (fun j7:Unit=>
    some ([],290)) fun k8=>
   grd (AO (y1.1.services.length)) (
    Dc N a1 y5 k8 y1.1.services)
  else
   some ([],290)
def FI (N:Nat) (a0:(List UInt8)) (a1:ApiDIDURL) (a2:(List UInt8)):Option (Bool):=
 Option.bind (NS N) fun y1=>
 if y1=true then
  AA (d:=.a (3,1) [(24,29)] [53] (fun j3:Bool=>[.bool j3])) (fun j3:Bool=>
   if j3=true then
    some (true)
   else
    Option.bind (Ht N a0) fun y7=>
    Option.bind (Ht N ([123,34,105,100,34,58,34,100,105,100,58,119,101,98,58,97,46,101,120,97,109,112,108,101,34,44,34,115,101,114,118,105,99,101,34,58,91,123,34,105,100,34,58,34,35,102,105,108,101,115,34,44,34,116,121,112,101,34,58,34,88,34,44,34,115,101,114,118,105,99,101,69,110,100,112,111,105,110,116,34,58,34,104,116,116,112,115,58,47,47,97,46,101,120,97,109,112,108,101,47,102,47,34,125,93,125]:List UInt8)) fun y9=>
    Option.bind (F5 N y7.1 a1) fun y11=>
    Option.bind (Gq N y7.1 a1) fun y13=>
    Option.bind (F5 N y9.1 (ApiDIDURL.mk (ApiDID.mk ([119,101,98]:List UInt8) ([97,46,101,120,97,109,112,108,101]:List UInt8)) [] a2 a1.fragment true a1.hasFrag)) fun y15=>
    Option.bind (Gq N y9.1 (ApiDIDURL.mk (ApiDID.mk ([119,101,98]:List UInt8) ([97,46,101,120,97,109,112,108,101]:List UInt8)) [] a2 a1.fragment true a1.hasFrag)) fun y17=>
    if(y11.1==y13.1)=true then
     if(y11.2==y13.2)=true then
      if(y15.1==y17.1)=true then
       some ((y15.2==y17.2))
      else
       some (false)
     else
      some (false)
    else
     some (false)) fun k4=>
  if(decide ((a0.length:Int)>1500))=true then
   k4 true
  else
   k4 (decide ((wr .i64 ((wr .i64 ((wr .i64 ((wr .i64 ((wr .i64 ((a2.length:Int)+(a1.query.length:Int)))+(a1.path.length:Int)))+(a1.fragment.length:Int)))+(a1.dID.iD.length:Int)))+(a1.dID.method.length:Int)))>1000))
 else
  some (false)
end Go.VM
