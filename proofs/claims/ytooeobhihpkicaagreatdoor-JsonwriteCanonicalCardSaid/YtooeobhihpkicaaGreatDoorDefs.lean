import Derived.Test.YtooeobhihpkicaaGreatDoorTy
set_option linter.unusedVariables false
namespace Go.VM
def BZ (N:Nat) (a0:Ref14Parser) (a1:Int) (a2:Int):Option (Ref14Parser):=
 if(a0.fail==0)=true then
  some ((Ref14Parser.mk a0.s a0.at_ a0.nodes a2 a1))
 else
  some (a0)
def Ew (N:Nat) (a0:ApiToken) (a1:(List UInt8)):Option (Bool):=
 if(a0.kind==2)=true then
  some ((a0.text==a1))
 else
  some (false)
def Hy (N:Nat) (a0:(List UInt8)) (a1:Int):Option ((List UInt8)):=
 if(decide (a1≥(a0.length:Int)))=true then
  some ([])
 else
  Option.bind (sub a0 a1 (a0.length:Int)) fun x1=>
  some (x1)
def Eo (N:Nat) (a0:Int) (k2:(Unit→Option (Bool))):List UInt8→Option (Bool)
  |[]=>
  k2 ()
  |xk5::xs=>
  if((Am xk5)==a0)=true then
   some (true)
  else
   Eo N a0 k2 xs
def Gr (N:Nat) (a0:Int) (a1:(List UInt8)):Option (Bool):=
 Ab (fun j1:Unit=>
  some (false)) fun k2=>
 grd (Bf (a1.length)) (
  Eo N a0 k2 a1)
def EQ (N:Nat) (a0:Int):Option (Bool):=
 if(decide (a0≥48))=true then
  some ((decide (a0≤57)))
 else
  some (false)
def FX (N:Nat) (a0:(List UInt8)) (k2:(Int→Option (Int))):Nat→Int→Option (Int)
  |0,_=>none
  |k+1,s3=>
  Ab (fun j6:Bool=>
   if j6=true then
    FX N a0 k2 k (wr .i64 (s3+1))
   else
    k2 s3) fun k7=>
  if(decide (s3<(a0.length:Int)))=true then
   Option.bind (idx a0 s3) fun x10=>
   Option.bind (EQ N (Am x10)) fun y11=>
   k7 y11
  else
   k7 false
def IB (N:Nat) (a0:(List UInt8)):Option (Int):=
 Ab (fun j1:Int=>
  some (j1)) fun k2=>
 FX N a0 k2 N 0
def Gc (N:Nat) (a0:(List UInt8)):Option (Int):=
 Ab (fun j1:Int=>
  Ab (fun j10:Bool=>
   if j10=true then
    some (0)
   else
    Ab (fun j17:Int=>
     Ab (fun j25:Int=>
      Ab (fun j38:Int=>
       some (j38)) fun k39=>
      Ab (fun j42:Bool=>
       if j42=true then
        Ab (fun j49:Int=>
         Option.bind (Hy N a0 j49) fun y60=>
         Option.bind (IB N y60) fun y62=>
         if(decide (y62>0))=true then
          k39 (wr .i64 (j49+y62))
         else
          k39 j25) fun k50=>
        Ab (fun j53:Bool=>
         if j53=true then
          k50 (wr .i64 ((wr .i64 (j25+1))+1))
         else
          k50 (wr .i64 (j25+1))) fun k54=>
        if(decide ((wr .i64 (j25+1))<(a0.length:Int)))=true then
         Option.bind (idx a0 (wr .i64 (j25+1))) fun x57=>
         Option.bind (Gr N (Am x57) ([43,45]:List UInt8)) fun y58=>
         k54 y58
        else
         k54 false
       else
        k39 j25) fun k43=>
      if(decide (j25<(a0.length:Int)))=true then
       Option.bind (idx a0 j25) fun x46=>
       Option.bind (Gr N (Am x46) ([101,69]:List UInt8)) fun y47=>
       k43 y47
      else
       k43 false) fun k26=>
     Option.bind (Hy N a0 (wr .i64 (j17+1))) fun y29=>
     Option.bind (IB N y29) fun y31=>
     Ab (fun j33:Bool=>
      if j33=true then
       k26 (wr .i64 (j17+(wr .i64 (1+y31))))
      else
       k26 j17) fun k34=>
     if(decide (j17<(a0.length:Int)))=true then
      Option.bind (idx a0 j17) fun x37=>
      if((Am x37)==46)=true then
       k34 (decide (y31>0))
      else
       k34 false
     else
      k34 false) fun k18=>
    Option.bind (idx a0 j1) fun x21=>
    if((Am x21)==48)=true then
     k18 (wr .i64 (j1+1))
    else
     Option.bind (sub a0 j1 (a0.length:Int)) fun x22=>
     Option.bind (IB N x22) fun y23=>
     k18 (wr .i64 (j1+y23))) fun k11=>
  if(j1==(a0.length:Int))=true then
   k11 true
  else
   Option.bind (idx a0 j1) fun x14=>
   Option.bind (EQ N (Am x14)) fun y15=>
   k11 (!y15)) fun k2=>
 Ab (fun j5:Bool=>
  if j5=true then
   k2 (wr .i64 (0+1))
  else
   k2 0) fun k6=>
 if(decide (0<(a0.length:Int)))=true then
  Option.bind (idx a0 0) fun x9=>
  k6 ((Am x9)==45)
 else
  k6 false
def Dn (N:Nat) (a1:(List UInt8)) (k2:(Unit→Option (Int))):List UInt8→Int→Option (Int)
  |[],s5=>
  k2 ()
  |xk5::xs,s5=>
  Option.bind (Gr N (Am xk5) a1) fun y6=>
  if y6=true then
   some (s5)
  else
   Dn N a1 k2 xs (s5+1)
def H7 (N:Nat) (a0:(List UInt8)) (a1:(List UInt8)):Option (Int):=
 Ab (fun j1:Unit=>
  some ((a0.length:Int))) fun k2=>
 grd (Bf (a0.length)) (
  Dn N a1 k2 a0 0)
def Cs (N:Nat) (k19:(Int→Option (Int))):List UInt8→Int→Option (Int)
  |[],s4=>
  k19 s4
  |xk22::xs,s4=>
  Cs N k19 xs (if 1073741824<(wr .i64 ((wr .i64 (s4 * 10))+(wr .i64 (wr .u8 ((Am xk22)-48)))))then 1073741824 else(wr .i64 ((wr .i64 (s4 * 10))+(wr .i64 (wr .u8 ((Am xk22)-48))))))
def Gz (N:Nat) (a0:(List UInt8)):Option (Int):=
 Ab (fun j1:Bool=>
  Ab (fun j6:(List UInt8)=>
   Ab (fun j18:Int=>
    if j1=true then
     some ((wr .i64 (0-j18)))
    else
     some (j18)) fun k19=>
   grd (Bf (j6.length)) (
    Cs N k19 j6 0)) fun k7=>
  Ab (fun j10:Bool=>
   if j10=true then
    Option.bind (sub a0 1 (a0.length:Int)) fun x17=>
    k7 x17
   else
    k7 a0) fun k11=>
  if(a0==[])=true then
   k11 false
  else
   Option.bind (idx a0 0) fun x14=>
   Option.bind (Gr N (Am x14) ([43,45]:List UInt8)) fun y15=>
   k11 y15) fun k2=>
 if(a0==[])=true then
  k2 false
 else
  Option.bind (idx a0 0) fun x5=>
  k2 ((Am x5)==45)
def Ec (N:Nat):Nat→Int→(List UInt8)→Option ((List UInt8))
  |0,_,_=>none
  |k+1,s0,s3=>
  grd (Bf ((List.map IR [(wr .u8 (wr .u64 (48+(s0.tmod 10))))]).length+s3.length)) (
  if((wr .u64 (s0.tdiv 10))==0)=true then
   some (((List.map IR [(wr .u8 (wr .u64 (48+(s0.tmod 10))))])++s3))
  else
   Ec N k (wr .u64 (s0.tdiv 10)) ((List.map IR [(wr .u8 (wr .u64 (48+(s0.tmod 10))))])++s3))
def G9 (N:Nat) (a0:Int):Option ((List UInt8)):=
 Ec N N a0 []
def EZ (N:Nat) (k40:(Int×(List UInt8)→Option ((List UInt8)×Int))):Nat→Int→(List UInt8)→Option ((List UInt8)×Int)
  |0,_,_=>none
  |k+1,s6,s7=>
  Option.bind (idx s7 (wr .i64 ((s7.length:Int)-1))) fun x44=>
  if((Am x44)==48)=true then
   Option.bind (sub s7 0 (wr .i64 ((s7.length:Int)-1))) fun x45=>
   EZ N k40 k (wr .i64 (s6+1)) x45
  else
   k40 (s6,s7)
def EC (N:Nat) (k29:((List UInt8)→Option ((List UInt8)×Int))):Nat→(List UInt8)→Option ((List UInt8)×Int)
  |0,_=>none
  |k+1,s7=>
  Ab (fun j33:Bool=>
   if j33=true then
    Option.bind (sub s7 1 (s7.length:Int)) fun x38=>
    EC N k29 k x38
   else
    k29 s7) fun k34=>
  if(decide ((s7.length:Int)>0))=true then
   Option.bind (idx s7 0) fun x37=>
   k34 ((Am x37)==48)
  else
   k34 false
def D6 (N:Nat) (a0:(List UInt8)):Option ((List UInt8)×Int):=
 Ab (fun j1:Bool=>
  if j1=true then
   some ([],130)
  else
   Ab (fun j7:(List UInt8)×(List UInt8)=>
    Option.bind (H7 N j7.1 ([101,69]:List UInt8)) fun y13=>
    Option.bind (Hy N j7.1 (wr .i64 (y13+1))) fun y15=>
    Option.bind (Gz N y15) fun y17=>
    Option.bind (sub j7.1 0 y13) fun x19=>
    Ab (fun j20:Int×(List UInt8)=>
     Ab (fun j28:(List UInt8)=>
      if(j28==[])=true then
       some (([48]:List UInt8),0)
      else
       Ab (fun j39:Int×(List UInt8)=>
        Ab (fun j46:Bool=>
         if j46=true then
          some ([],144)
         else
          if(decide (j39.1<0))=true then
           grd (Bf (j7.2.length+j39.2.length)) (
           grd (Bf ((j7.2++j39.2).length+([101,45]:List UInt8).length)) (
           Option.bind (G9 N (wr .u64 (wr .i64 (0-j39.1)))) fun y50=>
           grd (Bf (((j7.2++j39.2)++([101,45]:List UInt8)).length+y50.length)) (
           some ((((j7.2++j39.2)++([101,45]:List UInt8))++y50),0))))
          else
           if(decide (j39.1>0))=true then
            grd (Bf (j7.2.length+j39.2.length)) (
            grd (Bf ((j7.2++j39.2).length+([101]:List UInt8).length)) (
            Option.bind (G9 N (wr .u64 j39.1)) fun y52=>
            grd (Bf (((j7.2++j39.2)++([101]:List UInt8)).length+y52.length)) (
            some ((((j7.2++j39.2)++([101]:List UInt8))++y52),0))))
           else
            grd (Bf (j7.2.length+j39.2.length)) (
            some ((j7.2++j39.2),0))) fun k47=>
        if(decide ((j39.2.length:Int)>40))=true then
         k47 true
        else
         if(decide (j39.1>400))=true then
          k47 true
         else
          k47 (decide (j39.1<(-400)))) fun k40=>
       EZ N k40 N j20.1 j28) fun k29=>
     EC N k29 N j20.2) fun k21=>
    Option.bind (H7 N x19 ([46]:List UInt8)) fun y24=>
    if(decide (y24<(x19.length:Int)))=true then
     Option.bind (sub x19 0 y24) fun x26=>
     Option.bind (sub x19 (wr .i64 (y24+1)) (x19.length:Int)) fun x27=>
     grd (Bf (x26.length+x27.length)) (
     k21 ((wr .i64 (y17-(wr .i64 ((wr .i64 ((x19.length:Int)-y24))-1)))),(x26++x27)))
    else
     k21 (y17,x19)) fun k8=>
   Option.bind (idx a0 0) fun x11=>
   if((Am x11)==45)=true then
    Option.bind (sub a0 1 (a0.length:Int)) fun x12=>
    k8 (x12,([45]:List UInt8))
   else
    k8 (a0,[])) fun k2=>
 if(a0==[])=true then
  k2 true
 else
  Option.bind (Gc N a0) fun y5=>
  k2 (y5 !=(a0.length:Int))
def GA (N:Nat) (a0:(List UInt8)):Option (Int):=
 if(a0==([116,114,117,101]:List UInt8))=true then
  some (3)
 else
  if(a0==([102,97,108,115,101]:List UInt8))=true then
   some (2)
  else
   some (1)
def JK (N:Nat) (a0:Int):Option (Bool):=
 Option.bind (Gr N a0 ([32,9,10,13]:List UInt8)) fun y1=>
 some (y1)
def H9 (N:Nat) (a0:Int):Option (Bool):=
 Option.bind (EQ N a0) fun y1=>
 if y1=true then
  some (true)
 else
  if(decide (a0≥65))=true then
   if(decide (a0≤70))=true then
    some (true)
   else
    if(decide (a0≥97))=true then
     some ((decide (a0≤102)))
    else
     some (false)
  else
   if(decide (a0≥97))=true then
    some ((decide (a0≤102)))
   else
    some (false)
def Cn (N:Nat) (a1:Int) (a2:Int) (k17:(Int→Option (Int×Int))):List UInt8→Int→Option (Int×Int)
  |[],s9=>
  k17 s9
  |xk20::xs,s9=>
  Ab (fun j21:Int=>
   Ab (fun j25:Bool=>
    if j25=true then
     some (0,4)
    else
     Cn N a1 a2 k17 xs (wr .u64 ((wr .u64 (s9 * a1))+j21))) fun k26=>
   grd (a1≠0) (
   if(decide (s9>(wr .u64 (a2.tdiv a1))))=true then
    k26 true
   else
    if(decide ((wr .u64 (s9 * a1))>(wr .u64 (a2-j21))))=true then
     k26 true
    else
     k26 (decide (j21>a2)))) fun k22=>
  if(decide ((Am xk20)>57))=true then
   k22 (wr .u64 ((wr .u64 ((wr .u64 (Iy .u8 (Am xk20) 32))-97))+10))
  else
   k22 (wr .u64 (wr .u8 ((Am xk20)-48)))
def Dr (N:Nat) (a1:Int) (k2:(Unit→Option (Int×Int))):List UInt8→Option (Int×Int)
  |[]=>
  k2 ()
  |xk5::xs=>
  Ab (fun j6:Bool=>
   if j6=true then
    some (0,1)
   else
    Dr N a1 k2 xs) fun k7=>
  if(a1==10)=true then
   Option.bind (EQ N (Am xk5)) fun y10=>
   if y10=true then
    if(a1==16)=true then
     Option.bind (H9 N (Am xk5)) fun y12=>
     k7 (!y12)
    else
     k7 false
   else
    k7 true
  else
   if(a1==16)=true then
    Option.bind (H9 N (Am xk5)) fun y14=>
    k7 (!y14)
   else
    k7 false
def J8 (N:Nat) (a0:(List UInt8)) (a1:Int) (a2:Int):Option (Int×Int):=
 if(a0==[])=true then
  some (0,3)
 else
  Ab (fun j1:Unit=>
   Ab (fun j16:Int=>
    some (j16,0)) fun k17=>
   grd (Bf (a0.length)) (
    Cn N a1 a2 k17 a0 0)) fun k2=>
  grd (Bf (a0.length)) (
   Dr N a1 k2 a0)
def Kn (N:Nat) (a0:(List UInt8)) (a1:Int):Option (Int×Int):=
 Option.bind (J8 N a0 16 a1) fun y1=>
 some (y1.1,y1.2)
def G6 (N:Nat) (a0:(List UInt8)) (a1:Int):Option (Int×Bool):=
 Ab (fun j1:Bool=>
  if j1=true then
   some (0,false)
  else
   Option.bind (sub a0 (wr .i64 (a1+2)) (wr .i64 (a1+6))) fun x7=>
   Option.bind (Kn N x7 65535) fun y8=>
   some ((wr .i64 y8.1),(y8.2==0))) fun k2=>
 if(decide ((wr .i64 (a1+6))>(a0.length:Int)))=true then
  k2 true
 else
  Option.bind (idx a0 a1) fun x5=>
  if((Am x5) !=92)=true then
   k2 true
  else
   Option.bind (idx a0 (wr .i64 (a1+1))) fun x6=>
   k2 ((Am x6) !=117)
def JM (N:Nat) (a0:Int):Option (Bool):=
 if(decide (a0≥0))=true then
  if(decide (a0≤1114111))=true then
   if(decide (a0<55296))=true then
    some (true)
   else
    some ((decide (a0>57343)))
  else
   some (false)
 else
  some (false)
def GL (N:Nat) (a0:Int):Option ((List UInt8)×Int):=
 Option.bind (JM N a0) fun y1=>
 if y1=true then
  if(decide (a0<128))=true then
   some ((List.map IR [(wr .u8 a0)]),0)
  else
   if(decide (a0<2048))=true then
    letL ([(wr .u8 (Iy .i64 192 (JO .i64 a0 6))),(wr .u8 (Iy .i64 128 (Dc .i64 a0 63)))]:(List Int)) fun l3=>
    some ((List.map IR l3),0)
   else
    if(decide (a0<65536))=true then
     letL ([(wr .u8 (Iy .i64 224 (JO .i64 a0 12))),(wr .u8 (Iy .i64 128 (Dc .i64 (JO .i64 a0 6) 63))),(wr .u8 (Iy .i64 128 (Dc .i64 a0 63)))]:(List Int)) fun l4=>
     some ((List.map IR l4),0)
    else
     letL ([(wr .u8 (Iy .i64 240 (JO .i64 a0 18))),(wr .u8 (Iy .i64 128 (Dc .i64 (JO .i64 a0 12) 63))),(wr .u8 (Iy .i64 128 (Dc .i64 (JO .i64 a0 6) 63))),(wr .u8 (Iy .i64 128 (Dc .i64 a0 63)))]:(List Int)) fun l5=>
     some ((List.map IR l5),0)
 else
  some ([],4)
def DX (N:Nat) (a0:(List UInt8)) (a1:Int) (k2:(Unit→Option ((List UInt8)×Int×Int))):Nat→Nat→Option ((List UInt8)×Int×Int)
  |0,_=>none
  |k+1,s20=>
  if(decide (s20<8))=true then
   Option.bind (idx ([34,92,47,98,102,110,114,116]:List UInt8) ((s20:Nat):Int)) fun x6=>
   Option.bind (idx a0 (wr .i64 (a1+1))) fun x7=>
   if((Am x6)==(Am x7))=true then
    Option.bind (sub ([34,92,47,8,12,10,13,9]:List UInt8) ((s20:Nat):Int) (wr .i64 (((s20:Nat):Int)+1))) fun x8=>
    some (x8,(wr .i64 (a1+2)),0)
   else
    DX N a0 a1 k2 k (s20+(EE ([34,92,47,98,102,110,114,116]:List UInt8) s20).2)
  else
   k2 ()
def IQ (N:Nat) (a0:(List UInt8)) (a1:Int):Option ((List UInt8)×Int×Int):=
 Ab (fun j1:Unit=>
  Option.bind (G6 N a0 a1) fun y9=>
  if y9.2=true then
   Ab (fun j11:Bool=>
    if j11=true then
     Option.bind (GL N y9.1) fun y15=>
     some (y15.1,(wr .i64 (a1+6)),0)
    else
     Option.bind (G6 N a0 (wr .i64 (a1+6))) fun y17=>
     Ab (fun j19:Bool=>
      if j19=true then
       some ([],0,7)
      else
       Option.bind (GL N (wr .i64 ((wr .i64 ((wr .i64 (65536+(wr .i64 ((wr .i64 (y9.1-55296)) * 1024))))+y17.1))-56320))) fun y23=>
       some (y23.1,(wr .i64 (a1+12)),0)) fun k20=>
     if(decide (y9.1>56319))=true then
      k20 true
     else
      if y17.2=true then
       if(decide (y17.1<56320))=true then
        k20 true
       else
        k20 (decide (y17.1>57343))
      else
       k20 true) fun k12=>
   if(decide (y9.1<55296))=true then
    k12 true
   else
    k12 (decide (y9.1>57343))
  else
   some ([],0,130)) fun k2=>
 if(decide ((wr .i64 (a1+1))<(a0.length:Int)))=true then
  DX N a0 a1 k2 N 0
 else
  k2 ()
def Cq (N:Nat) (a0:(List UInt8)) (k4:(Int→Option (Int))):Nat→Int→Int→Option (Int)
  |0,s4,s3=>
  k4 s3
  |k+1,s4,s3=>
  Option.bind (idx a0 s4) fun x8=>
  Cq N a0 k4 k (s4+1) (Iy .i64 (JE .i64 s3 6) (Dc .i64 (wr .i64 (Am x8)) 63))
def F8 (N:Nat) (a0:(List UInt8)):Option (Int):=
 if((a0.length:Int)==1)=true then
  Option.bind (idx a0 0) fun x1=>
  some ((wr .i64 (Am x1)))
 else
  Option.bind (idx a0 0) fun x2=>
  grd (¬(wr .i64 (7-(a0.length:Int)))<0) (
  Ab (fun j3:Int=>
   some (j3)) fun k4=>
  grd ((-4611686018427387904:Int)≤1∧((a0.length:Int):Int)≤4611686018427387904) (
   Cq N a0 k4 (((a0.length:Int):Int)-1).toNat 1 (Dc .i64 (wr .i64 (Am x2)) (wr .i64 ((JE .i64 1 (wr .i64 (7-(a0.length:Int))))-1)))))
def DW (N:Nat) (a0:(List UInt8)) (a1:Int) (k6:(Unit→Option (Int×Int×Int))):Nat→Int→Option (Int×Int×Int)
  |0,_=>none
  |k+1,s7=>
  Ab (fun j10:Bool=>
   if j10=true then
    Option.bind (sub a0 a1 (wr .i64 (a1+s7))) fun x14=>
    Option.bind (F8 N x14) fun y15=>
    Option.bind (GL N y15) fun y17=>
    Ab (fun j19:Bool=>
     if j19=true then
      some (y15,(wr .i64 (a1+s7)),0)
     else
      DW N a0 a1 k6 k (wr .i64 (s7+1))) fun k20=>
    if(y17.2==0)=true then
     k20 (y17.1==x14)
    else
     k20 false
   else
    k6 ()) fun k11=>
  if(decide (s7≤4))=true then
   k11 (decide ((wr .i64 (a1+s7))≤(a0.length:Int)))
  else
   k11 false
def Ic (N:Nat) (a0:(List UInt8)) (a1:Int):Option (Int×Int×Int):=
 Ab (fun j1:Bool=>
  if j1=true then
   some (0,0,4)
  else
   Ab (fun j5:Unit=>
    some (0,0,7)) fun k6=>
   DW N a0 a1 k6 N 1) fun k2=>
 if(decide (a1<0))=true then
  k2 true
 else
  k2 (decide (a1≥(a0.length:Int)))
def EO (N:Nat) (a0:(List UInt8)) (k2:(Unit→Option ((List UInt8)×Int×Int))):Nat→(List UInt8)→Int→Option ((List UInt8)×Int×Int)
  |0,_,_=>none
  |k+1,s7,s8=>
  if (decide (s8<(a0.length:Int)))=true then
   Option.bind (idx a0 s8) fun x6=>
   if((Am x6)==34)=true then
    some (s7,(wr .i64 (s8+1)),0)
   else
    if((Am x6)==92)=true then
     Option.bind (IQ N a0 s8) fun y7=>
     if(y7.2.2 !=0)=true then
      some ([],0,y7.2.2)
     else
      grd (Bf (s7.length+y7.1.length)) (
      EO N a0 k2 k (s7++y7.1) y7.2.1)
    else
     if(decide ((Am x6)<32))=true then
      some ([],0,130)
     else
      Option.bind (Ic N a0 s8) fun y9=>
      if(y9.2.2 !=0)=true then
       some ([],0,y9.2.2)
      else
       Option.bind (sub a0 s8 y9.2.1) fun x11=>
       grd (Bf (s7.length+x11.length)) (
       EO N a0 k2 k (s7++x11) y9.2.1)
  else
   k2 ()
def Jm (N:Nat) (a0:(List UInt8)) (a1:Int):Option ((List UInt8)×Int×Int):=
 Ab (fun j1:Unit=>
  some ([],0,130)) fun k2=>
 EO N a0 k2 N [] (wr .i64 (a1+1))
def Hm (N:Nat) (a0:Int):Option (Bool):=
 if(decide (a0≥65))=true then
  if(decide (a0≤90))=true then
   some (true)
  else
   if(decide (a0≥97))=true then
    some ((decide (a0≤122)))
   else
    some (false)
 else
  if(decide (a0≥97))=true then
   some ((decide (a0≤122)))
  else
   some (false)
def El (N:Nat) (a0:(List UInt8)) (j5:Int) (k34:(Int→Option (ApiToken×Int×Int))):Nat→Int→Option (ApiToken×Int×Int)
  |0,_=>none
  |k+1,s12=>
  Ab (fun j38:Bool=>
   if j38=true then
    El N a0 j5 k34 k (wr .i64 (s12+1))
   else
    k34 s12) fun k39=>
  if(decide ((wr .i64 (j5+s12))<(a0.length:Int)))=true then
   Option.bind (idx a0 (wr .i64 (j5+s12))) fun x42=>
   Option.bind (Hm N (Am x42)) fun y43=>
   k39 y43
  else
   k39 false
def Ep (N:Nat) (a0:(List UInt8)) (k6:(Int→Option (ApiToken×Int×Int))):Nat→Int→Option (ApiToken×Int×Int)
  |0,_=>none
  |k+1,s1=>
  Ab (fun j10:Bool=>
   if j10=true then
    Ep N a0 k6 k (wr .i64 (s1+1))
   else
    k6 s1) fun k11=>
  if(decide (s1<(a0.length:Int)))=true then
   Option.bind (idx a0 s1) fun x14=>
   Option.bind (JK N (Am x14)) fun y15=>
   k11 y15
  else
   k11 false
def Jr (N:Nat) (a0:(List UInt8)) (a1:Int):Option (ApiToken×Int×Int):=
 Ab (fun j1:Bool=>
  if j1=true then
   some ((ApiToken.mk 0 [] 0),0,4)
  else
   Ab (fun j5:Int=>
    if(j5==(a0.length:Int))=true then
     some ((ApiToken.mk 1 [] j5),j5,0)
    else
     Option.bind (idx a0 j5) fun x17=>
     Option.bind (Gr N (Am x17) ([123,125,91,93,58,44]:List UInt8)) fun y18=>
     if y18=true then
      Option.bind (sub a0 j5 (wr .i64 (j5+1))) fun x20=>
      some ((ApiToken.mk 2 x20 j5),(wr .i64 (j5+1)),0)
     else
      if((Am x17)==34)=true then
       Option.bind (Jm N a0 j5) fun y21=>
       if(y21.2.2 !=0)=true then
        some ((ApiToken.mk 0 [] 0),0,y21.2.2)
       else
        some ((ApiToken.mk 3 y21.1 j5),y21.2.1,0)
      else
       Ab (fun j23:Bool=>
        if j23=true then
         Option.bind (sub a0 j5 (a0.length:Int)) fun x29=>
         Option.bind (Gc N x29) fun y30=>
         if(y30==0)=true then
          some ((ApiToken.mk 0 [] 0),0,130)
         else
          Option.bind (sub a0 j5 (wr .i64 (j5+y30))) fun x32=>
          some ((ApiToken.mk 4 x32 j5),(wr .i64 (j5+y30)),0)
        else
         Ab (fun j33:Int=>
          Option.bind (sub a0 j5 (wr .i64 (j5+j33))) fun x45=>
          Ab (fun j46:Bool=>
           if j46=true then
            some ((ApiToken.mk 5 x45 j5),(wr .i64 (j5+j33)),0)
           else
            some ((ApiToken.mk 0 [] 0),0,130)) fun k47=>
          if(x45==([116,114,117,101]:List UInt8))=true then
           k47 true
          else
           if(x45==([102,97,108,115,101]:List UInt8))=true then
            k47 true
           else
            k47 (x45==([110,117,108,108]:List UInt8))) fun k34=>
         El N a0 j5 k34 N 0) fun k24=>
       if((Am x17)==45)=true then
        k24 true
       else
        Option.bind (EQ N (Am x17)) fun y27=>
        k24 y27) fun k6=>
   Ep N a0 k6 N a1) fun k2=>
 if(decide (a1<0))=true then
  k2 true
 else
  k2 (decide (a1>(a0.length:Int)))
def A9 (N:Nat) (a0:Ref14Parser):Option (ApiToken×Ref14Parser):=
 if(a0.fail !=0)=true then
  some ((ApiToken.mk 0 [] 0),a0)
 else
  Ab (fun j2:Int×Int×ApiToken=>
   if(j2.2.1 !=0)=true then
    Option.bind (BZ N a0 a0.at_ j2.2.1) fun y8=>
    some ((ApiToken.mk 0 [] 0),y8)
   else
    some (j2.2.2,(Ref14Parser.mk a0.s j2.1 a0.nodes a0.fail a0.where_))) fun k3=>
  Option.bind (Jr N a0.s a0.at_) fun y6=>
  k3 (y6.2.1,y6.2.2,y6.1)
def DY (N:Nat) (a0:ApiValue) (a1:(List UInt8)) (k2:(Unit→Option (ApiValue×Bool))):List (List UInt8)→Int→Option (ApiValue×Bool)
  |[],s14=>
  k2 ()
  |xk5::xs,s14=>
  Ab (fun j6:Bool=>
   if j6=true then
    Option.bind (idx a0.items s14) fun x10=>
    some (x10,true)
   else
    DY N a0 a1 k2 xs (s14+1)) fun k7=>
  if(xk5==a1)=true then
   k7 (decide (s14<(a0.items.length:Int)))
  else
   k7 false
def I5 (N:Nat) (a0:ApiValue) (a1:(List UInt8)):Option (ApiValue×Bool):=
 if(a0.kind !=7)=true then
  some ((ApiValue.mk 0 [] [] []),false)
 else
  Ab (fun j1:Unit=>
   some ((ApiValue.mk 0 [] [] []),false)) fun k2=>
  grd (Bf (a0.keys.length)) (
   DY N a0 a1 k2 a0.keys 0)
def Bg (N:Nat) (a1:Int) (rec_ref14_parser_value:(Ref14Parser→ApiToken→Int→Option (ApiValue×Ref14Parser))) (k6:(ApiToken×(List ApiValue)×Ref14Parser→Option (ApiValue×Ref14Parser))):Nat→ApiToken→(List ApiValue)→Ref14Parser→Option (ApiValue×Ref14Parser)
  |0,_,_,_=>none
  |k+1,bn2,bn1_items,bi0=>
  if (bi0.fail==0)=true then
   Ab (fun j10:(List ApiValue)×Ref14Parser=>
    Option.bind (A9 N j10.2) fun y16=>
    Option.bind (Ew N y16.1 ([93]:List UInt8)) fun y18=>
    if y18=true then
     some ((ApiValue.mk 6 [] [] j10.1),y16.2)
    else
     Ab (fun j20:Ref14Parser=>
      Option.bind (A9 N j20) fun y32=>
      Bg N a1 rec_ref14_parser_value k6 k y32.1 j10.1 y32.2) fun k21=>
     Ab (fun j24:Bool=>
      if j24=true then
       Option.bind (BZ N y16.2 y16.1.at_ 140) fun y30=>
       k21 y30
      else
       k21 y16.2) fun k25=>
     if(y16.2.fail==0)=true then
      Option.bind (Ew N y16.1 ([44]:List UInt8)) fun y28=>
      k25 (!y28)
     else
      k25 false) fun k11=>
   Option.bind (rec_ref14_parser_value bi0 bn2 a1) fun y14=>
   grd (FY (bn1_items.length+1) 72) (
   k11 ((bn1_items++[y14.1]),y14.2))
  else
   k6 (bn2,bn1_items,bi0)
def Bb (N:Nat) (a1:Int) (rec_ref14_parser_value:(Ref14Parser→ApiToken→Int→Option (ApiValue×Ref14Parser))) (k6:(ApiToken×(List (List UInt8))×(List ApiValue)×Ref14Parser→Option (ApiValue×Ref14Parser))):Nat→ApiToken→(List (List UInt8))→(List ApiValue)→Ref14Parser→Option (ApiValue×Ref14Parser)
  |0,_,_,_,_=>none
  |k+1,bn2,bn1_keys,bn1_items,bi0=>
  if (bi0.fail==0)=true then
   Ab (fun j10:Ref14Parser=>
    Ab (fun j16:Ref14Parser=>
     Ab (fun j24:ApiToken×Ref14Parser=>
      Option.bind (A9 N j24.2) fun y38=>
      Option.bind (rec_ref14_parser_value y38.2 y38.1 a1) fun y40=>
      grd (FY (bn1_keys.length+1) 16) (
      grd (FY (bn1_items.length+1) 72) (
      Option.bind (A9 N y40.2) fun y42=>
      Option.bind (Ew N y42.1 ([125]:List UInt8)) fun y44=>
      if y44=true then
       some ((ApiValue.mk 7 [] (bn1_keys++[bn2.text]) (bn1_items++[y40.1])),y42.2)
      else
       Ab (fun j46:Ref14Parser=>
        Option.bind (A9 N j46) fun y58=>
        Bb N a1 rec_ref14_parser_value k6 k y58.1 (bn1_keys++[bn2.text]) (bn1_items++[y40.1]) y58.2) fun k47=>
       Ab (fun j50:Bool=>
        if j50=true then
         Option.bind (BZ N y42.2 y42.1.at_ 140) fun y56=>
         k47 y56
        else
         k47 y42.2) fun k51=>
       if(y42.2.fail==0)=true then
        Option.bind (Ew N y42.1 ([44]:List UInt8)) fun y54=>
        k51 (!y54)
       else
        k51 false))) fun k25=>
     Option.bind (A9 N j16) fun y28=>
     Ab (fun j30:Bool=>
      if j30=true then
       Option.bind (BZ N y28.2 y28.1.at_ 140) fun y36=>
       k25 (y28.1,y36)
      else
       k25 (y28.1,y28.2)) fun k31=>
     if(y28.2.fail==0)=true then
      Option.bind (Ew N y28.1 ([58]:List UInt8)) fun y34=>
      k31 (!y34)
     else
      k31 false) fun k17=>
    Option.bind (I5 N (ApiValue.mk 7 [] bn1_keys bn1_items) bn2.text) fun y20=>
    if y20.2=true then
     Option.bind (BZ N j10 bn2.at_ 143) fun y22=>
     k17 y22
    else
     k17 j10) fun k11=>
   if(bn2.kind !=3)=true then
    Option.bind (BZ N bi0 bn2.at_ 140) fun y14=>
    k11 y14
   else
    k11 bi0
  else
   k6 (bn2,bn1_keys,bn1_items,bi0)
mutual
def Ch (N:Nat):Nat→Ref14Parser→Int→Option (ApiValue×Ref14Parser)
  |0,_,_=>none
  |D+1,a0,a1=>
  Option.bind (A9 N a0) fun y1=>
  Option.bind (Ew N y1.1 ([93]:List UInt8)) fun y3=>
  if y3=true then
   some ((ApiValue.mk 6 [] [] []),y1.2)
  else
   Ab (fun j5:ApiToken×(List ApiValue)×Ref14Parser=>
    some ((ApiValue.mk 6 [] [] j5.2.1),j5.2.2)) fun k6=>
   Bg N a1 (Ao N D) k6 N y1.1 [] y1.2
def Ca (N:Nat):Nat→Ref14Parser→Int→Option (ApiValue×Ref14Parser)
  |0,_,_=>none
  |D+1,a0,a1=>
  Option.bind (A9 N a0) fun y1=>
  Option.bind (Ew N y1.1 ([125]:List UInt8)) fun y3=>
  if y3=true then
   some ((ApiValue.mk 7 [] [] []),y1.2)
  else
   Ab (fun j5:ApiToken×(List (List UInt8))×(List ApiValue)×Ref14Parser=>
    some ((ApiValue.mk 7 [] j5.2.1 j5.2.2.1),j5.2.2.2)) fun k6=>
   Bb N a1 (Ao N D) k6 N y1.1 [] [] y1.2
def Ao (N:Nat):Nat→Ref14Parser→ApiToken→Int→Option (ApiValue×Ref14Parser)
  |0,_,_,_=>none
  |D+1,a0,a1,a2=>
  Ab (fun j1:Bool=>
   if(a0.fail !=0)=true then
    some ((ApiValue.mk 0 [] [] []),a0)
   else
    if j1=true then
     Ab (fun j9:Bool=>
      if j9=true then
       Option.bind (BZ N a0 a1.at_ 141) fun y13=>
       some ((ApiValue.mk 0 [] [] []),y13)
      else
       Ab (fun j15:Int×(List UInt8)×Ref14Parser=>
        Ab (fun j27:(List UInt8)×Int×Int×Int×Int=>
         if(a1.kind==5)=true then
          Option.bind (GA N a1.text) fun y33=>
          some ((ApiValue.mk y33 [] [] []),(Ref14Parser.mk j27.1 j27.2.1 j27.2.2.1 j27.2.2.2.1 j27.2.2.2.2))
         else
          Option.bind (Ew N a1 ([91]:List UInt8)) fun y35=>
          if y35=true then
           Option.bind ((Ch N D) (Ref14Parser.mk j27.1 j27.2.1 j27.2.2.1 j27.2.2.2.1 j27.2.2.2.2) (wr .i64 (a2+1))) fun y37=>
           some (y37.1,y37.2)
          else
           Option.bind (Ew N a1 ([123]:List UInt8)) fun y39=>
           if y39=true then
            Option.bind ((Ca N D) (Ref14Parser.mk j27.1 j27.2.1 j27.2.2.1 j27.2.2.2.1 j27.2.2.2.2) (wr .i64 (a2+1))) fun y41=>
            some (y41.1,y41.2)
           else
            some ((ApiValue.mk j15.1 j15.2.1 [] []),(Ref14Parser.mk j27.1 j27.2.1 j27.2.2.1 j27.2.2.2.1 j27.2.2.2.2))) fun k28=>
        if(decide ((wr .i64 (j15.2.2.nodes+1))>20000))=true then
         Option.bind (BZ N (Ref14Parser.mk j15.2.2.s j15.2.2.at_ (wr .i64 (j15.2.2.nodes+1)) j15.2.2.fail j15.2.2.where_) a1.at_ 142) fun y31=>
         k28 (y31.s,y31.at_,y31.nodes,y31.fail,y31.where_)
        else
         k28 (j15.2.2.s,j15.2.2.at_,(wr .i64 (j15.2.2.nodes+1)),j15.2.2.fail,j15.2.2.where_)) fun k16=>
       if(a1.kind==4)=true then
        Option.bind (D6 N a1.text) fun y19=>
        Ab (fun j21:Ref14Parser=>
         k16 (4,y19.1,j21)) fun k22=>
        if(y19.2 !=0)=true then
         Option.bind (BZ N a0 a1.at_ y19.2) fun y25=>
         k22 y25
        else
         k22 a0
       else
        k16 (5,a1.text,a0)) fun k10=>
     if(a1.kind==2)=true then
      k10 (a2==64)
     else
      k10 false
    else
     Option.bind (BZ N a0 a1.at_ 140) fun y43=>
     some ((ApiValue.mk 0 [] [] []),y43)) fun k2=>
  if(a1.kind==3)=true then
   k2 true
  else
   if(a1.kind==4)=true then
    k2 true
   else
    if(a1.kind==5)=true then
     k2 true
    else
     Option.bind (Ew N a1 ([91]:List UInt8)) fun y5=>
     if y5=true then
      k2 true
     else
      Option.bind (Ew N a1 ([123]:List UInt8)) fun y7=>
      k2 y7
end
def Fh (N:Nat) (a0:(List UInt8)):Option (ApiValue×Int×Int):=
 if(decide ((a0.length:Int)>1048576))=true then
  some ((ApiValue.mk 0 [] [] []),0,142)
 else
  Option.bind (A9 N (Ref14Parser.mk a0 0 0 0 0)) fun y1=>
  Option.bind (Ao N N y1.2 y1.1 0) fun y3=>
  Ab (fun j5:Ref14Parser=>
   if(j5.fail !=0)=true then
    some ((ApiValue.mk 0 [] [] []),j5.where_,j5.fail)
   else
    some (y3.1,(a0.length:Int),0)) fun k6=>
  Option.bind (A9 N y3.2) fun y9=>
  Ab (fun j11:Bool=>
   if j11=true then
    Option.bind (BZ N y9.2 y9.1.at_ 140) fun y15=>
    k6 y15
   else
    k6 y9.2) fun k12=>
  if(y9.2.fail==0)=true then
   k12 (y9.1.kind !=1)
  else
   k12 false
def Bz (N:Nat) (a0:(List UInt8)) (a1:Int):Option (Int):=
 some ((Go.Lib.indexByte a0 (IR a1)))
def strings_IndexByte (N:Nat) (a0:(List UInt8)) (a1:Int):Option (Int):=
 Option.bind (Bz N a0 a1) fun y1=>
 some (y1)
def Bv (N:Nat) (a0:TokenReader) (a1:(List UInt8)):Option (Bool×TokenReader):=
 Ab (fun j1:Bool=>
  if j1=true then
   some (true,(TokenReader.mk a0.s (wr .i64 (a0.at_+1))))
  else
   some (false,a0)) fun k2=>
 if(decide (a0.at_<(a0.s.length:Int)))=true then
  Option.bind (idx a0.s a0.at_) fun x5=>
  Option.bind (strings_IndexByte N a1 (Am x5)) fun y6=>
  k2 (decide (y6≥0))
 else
  k2 false
def Fq (N:Nat) (a0:Int):Option (Bool):=
 if(decide (48≤a0))=true then
  some ((decide (a0≤57)))
 else
  some (false)
def BA (N:Nat) (a0:TokenReader) (k2:(Int→Option ((List UInt8)×TokenReader))):Nat→Int→Option ((List UInt8)×TokenReader)
  |0,bi0_at_=>
  k2 bi0_at_
  |k+1,bi0_at_=>
  Option.bind (idx a0.s bi0_at_) fun x6=>
  Option.bind (Fq N (Am x6)) fun y7=>
  if y7=true then
   BA N a0 k2 k (bi0_at_+1)
  else
   k2 bi0_at_
def CB (N:Nat) (a0:TokenReader):Option ((List UInt8)×TokenReader):=
 Ab (fun j1:Int=>
  Option.bind (sub a0.s a0.at_ j1) fun x9=>
  some (x9,(TokenReader.mk a0.s j1))) fun k2=>
 grd ((-4611686018427387904:Int)≤a0.at_∧((a0.s.length:Int):Int)≤4611686018427387904) (
  BA N a0 k2 (((a0.s.length:Int):Int)-a0.at_).toNat a0.at_)
def Ck (N:Nat) (a0:TokenReader) (a1:Int):Option (TokenReader):=
 Option.bind (CB N a0) fun y1=>
 if(y1.1==[])=true then
  some ((TokenReader.mk y1.2.s a1))
 else
  some (y1.2)
def Cm (N:Nat) (a0:TokenReader):Option ((List UInt8)×Bool×TokenReader):=
 Option.bind (Bv N a0 ([45]:List UInt8)) fun y1=>
 Ab (fun j3:Bool×TokenReader=>
  if j3.1=true then
   some ([],false,j3.2)
  else
   Ab (fun j11:TokenReader=>
    Ab (fun j19:TokenReader=>
     Option.bind (sub j19.s a0.at_ j19.at_) fun x29=>
     some (x29,true,j19)) fun k20=>
    Option.bind (Bv N j11 ([101,69]:List UInt8)) fun y23=>
    if y23.1=true then
     Option.bind (Bv N y23.2 ([43,45]:List UInt8)) fun y25=>
     Option.bind (Ck N y25.2 j11.at_) fun y27=>
     k20 y27
    else
     k20 y23.2) fun k12=>
   Option.bind (Bv N j3.2 ([46]:List UInt8)) fun y15=>
   if y15.1=true then
    Option.bind (Ck N y15.2 j3.2.at_) fun y17=>
    k12 y17
   else
    k12 y15.2) fun k4=>
 Option.bind (Bv N y1.2 ([48]:List UInt8)) fun y7=>
 if y7.1=true then
  k4 (false,y7.2)
 else
  Option.bind (CB N y7.2) fun y9=>
  k4 ((y9.1==[]),y9.2)
def D8 (N:Nat) (a0:(List UInt8)) (a1:(List UInt8)):Option (Int):=
 Ab (fun j1:Bool=>
  if j1=true then
   some (0)
  else
   if((a1.length:Int)==1)=true then
    Option.bind (idx a1 0) fun x5=>
    Option.bind (Bz N a0 (Am x5)) fun y6=>
    some (y6)
   else
    if(decide ((a1.length:Int)≥(a0.length:Int)))=true then
     some ((-1))
    else
     (none:Option (Int))) fun k2=>
 if((a1.length:Int)==0)=true then
  k2 true
 else
  k2 (a1==a0)
def ER (N:Nat) (a0:(List UInt8)) (a1:(List UInt8)):Option ((List UInt8)×(List UInt8)×Bool):=
 Option.bind (D8 N a0 a1) fun y1=>
 if(decide (y1≥0))=true then
  Option.bind (sub a0 0 y1) fun x3=>
  Option.bind (sub a0 (wr .i64 (y1+(a1.length:Int))) (a0.length:Int)) fun x4=>
  some (x3,x4,true)
 else
  some (a0,[],false)
def strings_Cut (N:Nat) (a0:(List UInt8)) (a1:(List UInt8)):Option ((List UInt8)×(List UInt8)×Bool):=
 Option.bind (ER N a0 a1) fun y1=>
 some (y1.1,y1.2.1,y1.2.2)
def Dq (N:Nat) (a0:(List UInt8)) (k2:((List Int)→Option ((List UInt8)))):List UInt8→Int→(List Int)→Option ((List UInt8))
  |[],s10,bn=>
  k2 bn
  |xk5::xs,s10,bn=>
  Ab (fun j6:(List Int)=>
   Dq N a0 k2 xs (s10+1) j6) fun k7=>
  grd (0≤s10∧s10<(a0.length:Int)) (
  Option.bind (idx bn s10) fun x10=>
  Ab (fun j11:Bool=>
   if j11=true then
    grd (s10.toNat+1≤bn.length) (
    k7 (bn.set s10.toNat (wr .u8 (x10+32))))
   else
    k7 bn) fun k12=>
  if(decide (65≤x10))=true then
   k12 (decide (x10≤90))
  else
   k12 false)
def JJ (N:Nat) (a0:(List UInt8)):Option ((List UInt8)):=
 Ab (fun j1:(List Int)=>
  grd (a0.length≤j1.length∧Bf a0.length) (
  some ((List.map IR (List.take a0.length j1))))) fun k2=>
 grd (Bf (a0.length)) (
  Dq N a0 k2 a0 0 (List.map Am a0))
def CZ (N:Nat) (a1:Int) (k2:((List UInt8)→Option ((List UInt8)))):Nat→(List UInt8)→Option ((List UInt8))
  |0,_=>none
  |k+1,s0=>
  Ab (fun j6:Bool=>
   if j6=true then
    Option.bind (sub s0 1 (s0.length:Int)) fun x11=>
    CZ N a1 k2 k x11
   else
    k2 s0) fun k7=>
  if(decide ((s0.length:Int)>0))=true then
   Option.bind (idx s0 0) fun x10=>
   k7 ((Am x10)==a1)
  else
   k7 false
def strings_trimLeftByte (N:Nat) (a0:(List UInt8)) (a1:Int):Option ((List UInt8)):=
 Ab (fun j1:(List UInt8)=>
  some (j1)) fun k2=>
 CZ N a1 k2 N a0
def Bt (N:Nat) (k2:((List Bool)→Option ((List Bool)×Bool))):List UInt8→(List Bool)→Option ((List Bool)×Bool)
  |[],bn=>
  k2 bn
  |xk5::xs,bn=>
  if(decide ((Am xk5)≥128))=true then
   grd (bn.length=256) (
   some (bn,false))
  else
   grd (0≤(Am xk5)∧(Am xk5)<256) (
   grd ((Am xk5).toNat+1≤bn.length) (
   Bt N k2 xs (bn.set ((Am xk5).toNat) true)))
def strings_makeASCIISet (N:Nat) (a0:(List UInt8)):Option ((List Bool)×Bool):=
 Ab (fun j1:(List Bool)=>
  grd (j1.length=256) (
  some (j1,true))) fun k2=>
 grd (Bf (a0.length)) (
  Bt N k2 a0 (Us 256))
def Cx (N:Nat) (a0:(List Bool)) (a1:Int):Option (Bool×(List Bool)):=
 grd (0≤a1∧a1<256) (
 Option.bind (idx a0 a1) fun x1=>
 some (x1,a0))
def CP (N:Nat) (k2:((List UInt8)×(List Bool)→Option ((List UInt8)×(List Bool)))):Nat→(List UInt8)→(List Bool)→Option ((List UInt8)×(List Bool))
  |0,_,_=>none
  |k+1,s0,bi1=>
  if(decide ((s0.length:Int)>0))=true then
   Option.bind (idx s0 0) fun x6=>
   Option.bind (Cx N bi1 (Am x6)) fun y7=>
   if y7.1=true then
    Option.bind (sub s0 1 (s0.length:Int)) fun x9=>
    CP N k2 k x9 y7.2
   else
    k2 (s0,y7.2)
  else
   k2 (s0,bi1)
def strings_trimLeftASCII (N:Nat) (a0:(List UInt8)) (a1:(List Bool)):Option ((List UInt8)×(List Bool)):=
 Ab (fun j1:(List UInt8)×(List Bool)=>
  some (j1.1,j1.2)) fun k2=>
 CP N k2 N a0 a1
def Dp (N:Nat) (a0:(List UInt8)):Option (Int×Int):=
 if(decide ((a0.length:Int)<1))=true then
  some (65533,0)
 else
  Option.bind (idx a0 0) fun x1=>
  (none:Option (Int×Int))
def DL (N:Nat) (a0:(List UInt8)):Option (Int×Int):=
 Ab (fun j1:Bool=>
  if j1=true then
   Option.bind (idx a0 0) fun x6=>
   some ((wr .i32 (Am x6)),1)
  else
   Option.bind (Dp N a0) fun y7=>
   some (y7.1,y7.2)) fun k2=>
 if(a0==[])=true then
  k2 false
 else
  Option.bind (idx a0 0) fun x5=>
  k2 (decide ((Am x5)<128))
def GQ (N:Nat) (a0:Int):Option (Bool):=
 Ab (fun j1:Bool=>
  if j1=true then
   some (true)
  else
   Ab (fun j5:Bool=>
    if j5=true then
     some (true)
    else
     some (false)) fun k6=>
   if(decide (57343<a0))=true then
    k6 (decide (a0≤1114111))
   else
    k6 false) fun k2=>
 if(decide (0≤a0))=true then
  k2 (decide (a0<55296))
 else
  k2 false
def ET (N:Nat) (a0:(List UInt8)) (k8:(Unit→Option (Int))):Nat→Nat→Option (Int)
  |0,_=>none
  |k+1,s175=>
  if(decide (s175<a0.length))=true then
   if(((EE a0 s175).1:Int)==65533)=true then
    some (((s175:Nat):Int))
   else
    ET N a0 k8 k (s175+(EE a0 s175).2)
  else
   k8 ()
def IV (N:Nat) (a0:(List UInt8)) (a1:Int):Option (Int):=
 Ab (fun j1:Bool=>
  if j1=true then
   Option.bind (strings_IndexByte N a0 (wr .u8 a1)) fun y5=>
   some (y5)
  else
   if(a1==65533)=true then
    Ab (fun j7:Unit=>
     some ((-1))) fun k8=>
    ET N a0 k8 N 0
   else
    Option.bind (GQ N a1) fun y12=>
    if y12=true then
     (none:Option (Int))
    else
     some ((-1))) fun k2=>
 if(decide (0≤a1))=true then
  k2 (decide (a1<128))
 else
  k2 false
def FP (N:Nat) (a0:(List UInt8)) (a1:Int):Option (Bool):=
 Option.bind (IV N a0 a1) fun y1=>
 some ((decide (y1≥0)))
def DU (N:Nat) (a1:(List UInt8)) (k2:((List UInt8)→Option ((List UInt8)))):Nat→(List UInt8)→Option ((List UInt8))
  |0,_=>none
  |k+1,s0=>
  if(decide ((s0.length:Int)>0))=true then
   Option.bind (DL N s0) fun y6=>
   Option.bind (FP N a1 y6.1) fun y8=>
   if y8=true then
    Option.bind (sub s0 y6.2 (s0.length:Int)) fun x10=>
    DU N a1 k2 k x10
   else
    k2 s0
  else
   k2 s0
def Fz (N:Nat) (a0:(List UInt8)) (a1:(List UInt8)):Option ((List UInt8)):=
 Ab (fun j1:(List UInt8)=>
  some (j1)) fun k2=>
 DU N a1 k2 N a0
def Dy (N:Nat) (a0:(List UInt8)) (a1:(List UInt8)):Option ((List UInt8)):=
 Ab (fun j1:Bool=>
  if j1=true then
   some (a0)
  else
   Ab (fun j5:Bool=>
    if j5=true then
     Option.bind (idx a1 0) fun x10=>
     Option.bind (strings_trimLeftByte N a0 (Am x10)) fun y11=>
     some (y11)
    else
     Option.bind (strings_makeASCIISet N a1) fun y13=>
     grd ((Us 256).length=256) (
     grd (y13.1.length=256) (
     if y13.2=true then
      Option.bind (strings_trimLeftASCII N a0 y13.1) fun y15=>
      some (y15.1)
     else
      Option.bind (Fz N a0 a1) fun y17=>
      some (y17)))) fun k6=>
   if((a1.length:Int)==1)=true then
    Option.bind (idx a1 0) fun x9=>
    k6 (decide ((Am x9)<128))
   else
    k6 false) fun k2=>
 if(a0==[])=true then
  k2 true
 else
  k2 (a1==[])
def CQ (N:Nat) (a1:Int) (k2:((List UInt8)→Option ((List UInt8)))):Nat→(List UInt8)→Option ((List UInt8))
  |0,_=>none
  |k+1,s0=>
  Ab (fun j6:Bool=>
   if j6=true then
    Option.bind (sub s0 0 (wr .i64 ((s0.length:Int)-1))) fun x11=>
    CQ N a1 k2 k x11
   else
    k2 s0) fun k7=>
  if(decide ((s0.length:Int)>0))=true then
   Option.bind (idx s0 (wr .i64 ((s0.length:Int)-1))) fun x10=>
   k7 ((Am x10)==a1)
  else
   k7 false
def strings_trimRightByte (N:Nat) (a0:(List UInt8)) (a1:Int):Option ((List UInt8)):=
 Ab (fun j1:(List UInt8)=>
  some (j1)) fun k2=>
 CQ N a1 k2 N a0
def Db (N:Nat) (k2:((List UInt8)×(List Bool)→Option ((List UInt8)×(List Bool)))):Nat→(List UInt8)→(List Bool)→Option ((List UInt8)×(List Bool))
  |0,_,_=>none
  |k+1,s0,bi1=>
  if(decide ((s0.length:Int)>0))=true then
   Option.bind (idx s0 (wr .i64 ((s0.length:Int)-1))) fun x6=>
   Option.bind (Cx N bi1 (Am x6)) fun y7=>
   if y7.1=true then
    Option.bind (sub s0 0 (wr .i64 ((s0.length:Int)-1))) fun x9=>
    Db N k2 k x9 y7.2
   else
    k2 (s0,y7.2)
  else
   k2 (s0,bi1)
def strings_trimRightASCII (N:Nat) (a0:(List UInt8)) (a1:(List Bool)):Option ((List UInt8)×(List Bool)):=
 Ab (fun j1:(List UInt8)×(List Bool)=>
  some (j1.1,j1.2)) fun k2=>
 Db N k2 N a0 a1
def GG (N:Nat) (a0:Int):Option (Bool):=
 some (((Dc .u8 a0 192) !=128))
def CE (N:Nat) (a0:(List UInt8)) (k3:(Int→Option (Int×Int))):Nat→Int→Option (Int×Int)
  |0,_=>none
  |k+1,s5=>
  if(decide (s5≥(if 0>(wr .i64 ((a0.length:Int)-4))then 0 else(wr .i64 ((a0.length:Int)-4)))))=true then
   Option.bind (idx a0 s5) fun x7=>
   Option.bind (GG N (Am x7)) fun y8=>
   if y8=true then
    k3 s5
   else
    CE N a0 k3 k (wr .i64 (s5-1))
  else
   k3 s5
def Dm (N:Nat) (a0:(List UInt8)):Option (Int×Int):=
 if((a0.length:Int)==0)=true then
  some (65533,0)
 else
  Option.bind (idx a0 (wr .i64 ((a0.length:Int)-1))) fun x1=>
  if(decide ((wr .i32 (Am x1))<128))=true then
   some ((wr .i32 (Am x1)),1)
  else
   Ab (fun j2:Int=>
    Ab (fun j10:Int=>
     Option.bind (sub a0 j10 (a0.length:Int)) fun x14=>
     Option.bind (DL N x14) fun y15=>
     if((wr .i64 (j10+y15.2)) !=(a0.length:Int))=true then
      some (65533,1)
     else
      some (y15.1,y15.2)) fun k11=>
    if(decide (j2<0))=true then
     k11 0
    else
     k11 j2) fun k3=>
   CE N a0 k3 N (wr .i64 ((wr .i64 ((a0.length:Int)-1))-1))
def DF (N:Nat) (a1:(List UInt8)) (k2:((List UInt8)→Option ((List UInt8)))):Nat→(List UInt8)→Option ((List UInt8))
  |0,_=>none
  |k+1,s0=>
  if(decide ((s0.length:Int)>0))=true then
   Option.bind (idx s0 (wr .i64 ((s0.length:Int)-1))) fun x6=>
   Ab (fun j7:Int×Int=>
    Option.bind (FP N a1 j7.1) fun y13=>
    if y13=true then
     Option.bind (sub s0 0 (wr .i64 ((s0.length:Int)-j7.2))) fun x15=>
     DF N a1 k2 k x15
    else
     k2 s0) fun k8=>
   if(decide ((wr .i32 (Am x6))≥128))=true then
    Option.bind (Dm N s0) fun y11=>
    k8 (y11.1,y11.2)
   else
    k8 ((wr .i32 (Am x6)),1)
  else
   k2 s0
def Fs (N:Nat) (a0:(List UInt8)) (a1:(List UInt8)):Option ((List UInt8)):=
 Ab (fun j1:(List UInt8)=>
  some (j1)) fun k2=>
 DF N a1 k2 N a0
def FU (N:Nat) (a0:(List UInt8)) (a1:(List UInt8)):Option ((List UInt8)):=
 Ab (fun j1:Bool=>
  if j1=true then
   some (a0)
  else
   Ab (fun j5:Bool=>
    if j5=true then
     Option.bind (idx a1 0) fun x10=>
     Option.bind (strings_trimRightByte N a0 (Am x10)) fun y11=>
     some (y11)
    else
     Option.bind (strings_makeASCIISet N a1) fun y13=>
     grd ((Us 256).length=256) (
     grd (y13.1.length=256) (
     if y13.2=true then
      Option.bind (strings_trimRightASCII N a0 y13.1) fun y15=>
      some (y15.1)
     else
      Option.bind (Fs N a0 a1) fun y17=>
      some (y17)))) fun k6=>
   if((a1.length:Int)==1)=true then
    Option.bind (idx a1 0) fun x9=>
    k6 (decide ((Am x9)<128))
   else
    k6 false) fun k2=>
 if(a0==[])=true then
  k2 true
 else
  k2 (a1==[])
def IJ (N:Nat) (a0:Int):Option (Int):=
 Option.bind (Fq N a0) fun y1=>
 if y1=true then
  some ((wr .u64 (wr .u8 (a0-48))))
 else
  some ((wr .u64 ((wr .u64 (wr .u8 ((Iy .u8 a0 32)-97)))+10)))
def BL (N:Nat) (a1:Int) (a2:Int) (k9:(Int→Option (Int×Int))):List UInt8→Int→Option (Int×Int)
  |[],s11=>
  k9 s11
  |xk12::xs,s11=>
  Option.bind (IJ N (Am xk12)) fun y13=>
  Ab (fun j15:Bool=>
   if j15=true then
    some (0,4)
   else
    BL N a1 a2 k9 xs (wr .u64 ((wr .u64 (s11 * a1))+y13))) fun k16=>
  grd (a1≠0) (
  if(decide (s11>(wr .u64 ((wr .u64 (18446744073709551615-y13)).tdiv a1))))=true then
   k16 true
  else
   k16 (decide ((wr .u64 ((wr .u64 (s11 * a1))+y13))>a2)))
def BK (N:Nat) (k2:(Unit→Option (Int×Int))):List UInt8→Option (Int×Int)
  |[]=>
  k2 ()
  |xk5::xs=>
  Option.bind (Fq N (Am xk5)) fun y6=>
  if y6=true then
   BK N k2 xs
  else
   some (0,1)
def Dz (N:Nat) (a0:(List UInt8)) (a1:Int) (a2:Int):Option (Int×Int):=
 if(a0==[])=true then
  some (0,3)
 else
  Ab (fun j1:Unit=>
   Ab (fun j8:Int=>
    some (j8,0)) fun k9=>
   grd (Bf (a0.length)) (
    BL N a1 a2 k9 a0 0)) fun k2=>
  grd (Bf (a0.length)) (
   BK N k2 a0)
def Ie (N:Nat) (a0:(List UInt8)) (a1:Int):Option (Int×Int):=
 Option.bind (Dz N a0 10 a1) fun y1=>
 some (y1.1,y1.2)
def Da (N:Nat) (a0:(List UInt8)) (a1:(List UInt8)):Option (Bool):=
 if(decide ((a0.length:Int)≥(a1.length:Int)))=true then
  Option.bind (sub a0 0 (a1.length:Int)) fun x1=>
  some ((x1==a1))
 else
  some (false)
def strings_HasPrefix (N:Nat) (a0:(List UInt8)) (a1:(List UInt8)):Option (Bool):=
 Option.bind (Da N a0 a1) fun y1=>
 some (y1)
def Gt (N:Nat) (a0:(List UInt8)):Option (Int):=
 Option.bind (Dy N a0 ([43,45]:List UInt8)) fun y1=>
 Option.bind (Ie N y1 1099511627776) fun y3=>
 Ab (fun j5:Int=>
  Option.bind (strings_HasPrefix N a0 ([45]:List UInt8)) fun y9=>
  if y9=true then
   some ((wr .i64 (0-(wr .i64 j5))))
  else
   some ((wr .i64 j5))) fun k6=>
 if(y3.2==3)=true then
  some (0)
 else
  if(y3.2 !=0)=true then
   k6 1099511627776
  else
   k6 y3.1
def EK (N:Nat) (k2:(Int×Int×(List Int)→Option ((List UInt8)))):Nat→Int→Int→(List Int)→Option ((List UInt8))
  |0,_,_,_=>none
  |k+1,s0,s4,bn=>
  if(decide (s0≥10))=true then
   grd (0≤s4∧s4<20) (
   grd (s4.toNat+1≤bn.length) (
   EK N k2 k (wr .u64 (s0.tdiv 10)) (wr .i64 (s4-1)) (bn.set s4.toNat (wr .u8 (wr .u64 (48+(s0.tmod 10)))))))
  else
   k2 (s0,s4,bn)
def Gf (N:Nat) (a0:Int):Option ((List UInt8)):=
 Ab (fun j1:Int×Int×(List Int)=>
  grd (0≤j1.2.1∧j1.2.1<20) (
  grd (j1.2.1.toNat+1≤j1.2.2.length) (
  grd (0≤j1.2.1∧j1.2.1≤20) (
  grd ((20-j1.2.1.toNat)≤j1.2.2.length-j1.2.1.toNat∧Bf (20-j1.2.1.toNat)) (
  some ((List.map IR (List.take (20-j1.2.1.toNat) (List.drop j1.2.1.toNat (j1.2.2.set j1.2.1.toNat (wr .u8 (wr .u64 (48+j1.1))))))))))))) fun k2=>
 EK N k2 N a0 19 (List.replicate 20 0)
def EN (N:Nat) (a0:(List UInt8)):Option ((List UInt8)×Int):=
 Option.bind (Cm N (TokenReader.mk a0 0)) fun y1=>
 Ab (fun j3:Bool=>
  if j3=true then
   some ([],130)
  else
   Ab (fun j7:(List UInt8)×(List UInt8)=>
    Option.bind (JJ N j7.2) fun y13=>
    Option.bind (strings_Cut N y13 ([101]:List UInt8)) fun y15=>
    Option.bind (strings_Cut N y15.1 ([46]:List UInt8)) fun y17=>
    grd (Bf (y17.1.length+y17.2.1.length)) (
    Option.bind (Dy N (y17.1++y17.2.1) ([48]:List UInt8)) fun y19=>
    Option.bind (FU N y19 ([48]:List UInt8)) fun y21=>
    if(y21==[])=true then
     some (([48]:List UInt8),0)
    else
     Option.bind (Gt N y15.2.1) fun y23=>
     Ab (fun j25:Bool=>
      if j25=true then
       some ([],144)
      else
       if(decide ((wr .i64 ((wr .i64 ((wr .i64 (y23-(y17.2.1.length:Int)))+(y19.length:Int)))-(y21.length:Int)))<0))=true then
        grd (Bf (j7.1.length+y21.length)) (
        grd (Bf ((j7.1++y21).length+([101,45]:List UInt8).length)) (
        Option.bind (Gf N (wr .u64 (wr .i64 (0-(wr .i64 ((wr .i64 ((wr .i64 (y23-(y17.2.1.length:Int)))+(y19.length:Int)))-(y21.length:Int))))))) fun y29=>
        grd (Bf (((j7.1++y21)++([101,45]:List UInt8)).length+y29.length)) (
        some ((((j7.1++y21)++([101,45]:List UInt8))++y29),0))))
       else
        if(decide ((wr .i64 ((wr .i64 ((wr .i64 (y23-(y17.2.1.length:Int)))+(y19.length:Int)))-(y21.length:Int)))>0))=true then
         grd (Bf (j7.1.length+y21.length)) (
         grd (Bf ((j7.1++y21).length+([101]:List UInt8).length)) (
         Option.bind (Gf N (wr .u64 (wr .i64 ((wr .i64 ((wr .i64 (y23-(y17.2.1.length:Int)))+(y19.length:Int)))-(y21.length:Int))))) fun y31=>
         grd (Bf (((j7.1++y21)++([101]:List UInt8)).length+y31.length)) (
         some ((((j7.1++y21)++([101]:List UInt8))++y31),0))))
        else
         grd (Bf (j7.1.length+y21.length)) (
         some ((j7.1++y21),0))) fun k26=>
     if(decide ((y21.length:Int)>40))=true then
      k26 true
     else
      if(decide ((wr .i64 ((wr .i64 ((wr .i64 (y23-(y17.2.1.length:Int)))+(y19.length:Int)))-(y21.length:Int)))<(-400)))=true then
       k26 true
      else
       k26 (decide ((wr .i64 ((wr .i64 ((wr .i64 (y23-(y17.2.1.length:Int)))+(y19.length:Int)))-(y21.length:Int)))>400)))) fun k8=>
   Option.bind (idx a0 0) fun x11=>
   if((Am x11)==45)=true then
    Option.bind (sub a0 1 (a0.length:Int)) fun x12=>
    k8 (([45]:List UInt8),x12)
   else
    k8 ([],a0)) fun k4=>
 if y1.2.1=true then
  k4 ((y1.1.length:Int) !=(a0.length:Int))
 else
  k4 true
def Fw (N:Nat) (a0:Int):Option (Bool):=
 if(decide (a0≥0))=true then
  if(decide (a0≤1114111))=true then
   if(decide (a0<55296))=true then
    some (true)
   else
    some ((decide (a0>57343)))
  else
   some (false)
 else
  some (false)
def BM (N:Nat) (a0:(List UInt8)) (a1:Int) (s20:Int) (k13:(Int→Option (Int×Int×Int))):Nat→Int→Int→Option (Int×Int×Int)
  |0,_,_=>none
  |k+1,s9,s10=>
  if(decide (s10≤s20))=true then
   Option.bind (idx a0 (wr .i64 (a1+s10))) fun x17=>
   if((Dc .u8 (Am x17) 192) !=128)=true then
    some (0,0,7)
   else
    BM N a0 a1 s20 k13 k (Iy .i64 (JE .i64 s9 6) (wr .i64 (Dc .u8 (Am x17) 63))) (wr .i64 (s10+1))
  else
   k13 s9
def Bw (N:Nat) (a0:(List UInt8)) (a1:Int) (k6:(Unit→Option (Int×Int×Int))):Nat→Int→Option (Int×Int×Int)
  |0,s20=>
  k6 ()
  |k+1,s20=>
  Option.bind (idx Dv s20) fun x10=>
  Option.bind (idx a0 a1) fun x11=>
  if((Gq .u8 (Am x11) x10.mask) !=x10.mark)=true then
   Bw N a0 a1 k6 k (s20+1)
  else
   if(decide ((wr .i64 ((wr .i64 ((a0.length:Int)-a1))-1))<s20))=true then
    k6 ()
   else
    Ab (fun j12:Int=>
     Ab (fun j18:Bool=>
      if j18=true then
       k6 ()
      else
       some (j12,(wr .i64 ((wr .i64 (a1+s20))+1)),0)) fun k19=>
     if(decide (j12<x10.least))=true then
      k19 true
     else
      Option.bind (Fw N j12) fun y22=>
      k19 (!y22)) fun k13=>
    BM N a0 a1 s20 k13 N (wr .i64 (Dc .u8 (Am x11) x10.mask)) 1
def GX (N:Nat) (a0:(List UInt8)) (a1:Int):Option (Int×Int×Int):=
 Ab (fun j1:Bool=>
  if j1=true then
   some (0,0,4)
  else
   Ab (fun j5:Unit=>
    some (0,0,7)) fun k6=>
   grd ((-4611686018427387904:Int)≤0∧(4:Int)≤4611686018427387904) (
    Bw N a0 a1 k6 ((4:Int)-0).toNat 0)) fun k2=>
 if(decide (a1<0))=true then
  k2 true
 else
  k2 (decide (a1≥(a0.length:Int)))
def Dh (N:Nat) (a0:(List UInt8)) (k2:(Int→Option (Int))):Nat→Int→Int→Option (Int)
  |0,_,_=>none
  |k+1,s3,s4=>
  if(decide (s4<(a0.length:Int)))=true then
   Option.bind (GX N a0 s4) fun y6=>
   if(y6.2.2 !=0)=true then
    some ((-1))
   else
    Dh N a0 k2 k (wr .i64 (s3+1)) y6.2.1
  else
   k2 s3
def Ia (N:Nat) (a0:(List UInt8)):Option (Int):=
 Ab (fun j1:Int=>
  some (j1)) fun k2=>
 Dh N a0 k2 N 0 0
def Ez (N:Nat) (a0:(List UInt8)):Option (Bool):=
 Option.bind (Ia N a0) fun y1=>
 some ((decide (y1≥0)))
def Fy (N:Nat) (a0:ApiValue):Option (Bool):=
 if(a0.kind==4)=true then
  Option.bind (EN N a0.text) fun y1=>
  if(y1.2==0)=true then
   some ((y1.1==a0.text))
  else
   some (false)
 else
  if(a0.kind==5)=true then
   Option.bind (Ez N a0.text) fun y3=>
   some (y3)
  else
   some ((a0.text==[]))
def I7 (N:Nat):List (List UInt8)→List (List UInt8)→Option Bool
  |[],_=>some true
  |k::ks,seen=>if k∈seen then some false else Option.bind (Ez N k) fun y=>if y=true then I7 N ks (seen++[k])else some false
def Gx (N:Nat) (a0:List (List UInt8)):Option Bool:=grd (Bf a0.length) (I7 N a0 [])
def BR (N:Nat) (a2:Int) (rec_jsonwrite_counter_valid:(JsonwriteCounter→ApiValue→Int→Option (Bool×JsonwriteCounter))) (k18:(Int→Option (Bool×JsonwriteCounter))):List ApiValue→Int→Option (Bool×JsonwriteCounter)
  |[],bi0_nodes=>
  k18 bi0_nodes
  |xk21::xs,bi0_nodes=>
  Option.bind (rec_jsonwrite_counter_valid (JsonwriteCounter.mk bi0_nodes) xk21 (wr .i64 (a2+1))) fun y22=>
  if y22.1=true then
   BR N a2 rec_jsonwrite_counter_valid k18 xs y22.2.nodes
  else
   some (false,y22.2)
def BO (N:Nat):Nat→JsonwriteCounter→ApiValue→Int→Option (Bool×JsonwriteCounter)
  |0,_,_,_=>none
  |D+1,a0,a1,a2=>
  Ab (fun j1:Bool=>
   if j1=true then
    some (false,(JsonwriteCounter.mk (wr .i64 (a0.nodes+1))))
   else
    if(decide (a1.kind<6))=true then
     some (((wr .i64 ((a1.items.length:Int)+(a1.keys.length:Int)))==0),(JsonwriteCounter.mk (wr .i64 (a0.nodes+1))))
    else
     if(decide (a2≥64))=true then
      some (false,(JsonwriteCounter.mk (wr .i64 (a0.nodes+1))))
     else
      Ab (fun j7:Bool=>
       if j7=true then
        some (false,(JsonwriteCounter.mk (wr .i64 (a0.nodes+1))))
       else
        Ab (fun j11:Bool=>
         if j11=true then
          some (false,(JsonwriteCounter.mk (wr .i64 (a0.nodes+1))))
         else
          Ab (fun j17:Int=>
           some (true,(JsonwriteCounter.mk j17))) fun k18=>
          grd (Bf (a1.items.length)) (
           BR N a2 (BO N D) k18 a1.items (wr .i64 (a0.nodes+1)))) fun k12=>
        if(a1.kind==7)=true then
         if((a1.keys.length:Int) !=(a1.items.length:Int))=true then
          k12 true
         else
          Option.bind (Gx N a1.keys) fun y15=>
          k12 (!y15)
        else
         k12 false) fun k8=>
      if(a1.kind==6)=true then
       k8 (decide ((a1.keys.length:Int)>0))
      else
       k8 false) fun k2=>
  if(decide ((wr .i64 (a0.nodes+1))>20000))=true then
   k2 true
  else
   if(decide (a1.kind<1))=true then
    k2 true
   else
    if(decide (a1.kind>7))=true then
     k2 true
    else
     Option.bind (Fy N a1) fun y5=>
     k2 (!y5)
def Ed (N:Nat) (a0:ApiValue):Option (Bool):=
 Option.bind (BO N N (JsonwriteCounter.mk 0) a0 0) fun y1=>
 some (y1.1)
def Cy (N:Nat) (k4:((List Int)→Option ((List UInt8)×Int))):List UInt8→(List Int)→Option ((List UInt8)×Int)
  |[],s4=>
  k4 s4
  |xk7::xs,s4=>
  Ab (fun j8:(List Int)=>
   Cy N k4 xs j8) fun k9=>
  Option.bind (strings_IndexByte N ([34,92,8,12,10,13,9]:List UInt8) (Am xk7)) fun y12=>
  if(decide (y12≥0))=true then
   Option.bind (idx ([34,92,98,102,110,114,116]:List UInt8) y12) fun x14=>
   grd (FY (s4.length+2) 1) (
   k9 (s4++[92,(Am x14)]))
  else
   if(decide ((Am xk7)<32))=true then
    Option.bind (idx ([48,49,50,51,52,53,54,55,56,57,97,98,99,100,101,102]:List UInt8) (JO .u8 (Am xk7) 4)) fun x15=>
    Option.bind (idx ([48,49,50,51,52,53,54,55,56,57,97,98,99,100,101,102]:List UInt8) (Dc .u8 (Am xk7) 15)) fun x16=>
    grd (FY (s4.length+6) 1) (
    k9 (s4++[92,117,48,48,(Am x15),(Am x16)]))
   else
    grd (FY (s4.length+1) 1) (
    k9 (s4++[(Am xk7)]))
def JF (N:Nat) (a0:(List UInt8)):Option ((List UInt8)×Int):=
 if(decide ((a0.length:Int)>1048576))=true then
  some ([],5)
 else
  Option.bind (Ez N a0) fun y1=>
  if y1=true then
   Ab (fun j3:(List Int)=>
    grd (FY (j3.length+1) 1) (
    some ((List.map IR (j3++[34])),0))) fun k4=>
   grd (Bf (a0.length)) (
    Cy N k4 a0 [34])
  else
   some ([],7)
def CL (N:Nat) (a0:JsonwriteWriter):Option (JsonwriteWriter):=
 if a0.builder.addr=true then
  some (a0)
 else
  some ((JsonwriteWriter.mk (StringsBuilder.mk true a0.builder.buf)))
def AL (N:Nat) (a0:JsonwriteWriter) (a1:(List UInt8)):Option (Int×Unit×JsonwriteWriter):=
 Option.bind (CL N a0) fun y1=>
 grd (FY (y1.builder.buf.length+a1.length) 1) (
 some ((a1.length:Int),(),(JsonwriteWriter.mk (StringsBuilder.mk y1.builder.addr (y1.builder.buf++a1)))))
def Cr (N:Nat) (a0:JsonwriteWriter) (a1:(List UInt8)):Option (JsonwriteWriter):=
 Option.bind (JF N a1) fun y1=>
 Option.bind (AL N a0 y1.1) fun y3=>
 if(decide ((a1.length:Int)>1048576))=true then
  Option.bind (AL N y3.2.2 a1) fun y5=>
  some (y5.2.2)
 else
  some (y3.2.2)
def JR (N:Nat) (a0:Int):Option (Int):=
 Ab (fun j1:Int×Int=>
  Ab (fun j5:Int×Int=>
   Ab (fun j9:Int×Int=>
    Option.bind (idx ([0,1,2,2,3,3,3,3,4,4,4,4,4,4,4,4,5,5,5,5,5,5,5,5,5,5,5,5,5,5,5,5,6,6,6,6,6,6,6,6,6,6,6,6,6,6,6,6,6,6,6,6,6,6,6,6,6,6,6,6,6,6,6,6,7,7,7,7,7,7,7,7,7,7,7,7,7,7,7,7,7,7,7,7,7,7,7,7,7,7,7,7,7,7,7,7,7,7,7,7,7,7,7,7,7,7,7,7,7,7,7,7,7,7,7,7,7,7,7,7,7,7,7,7,7,7,7,7,8,8,8,8,8,8,8,8,8,8,8,8,8,8,8,8,8,8,8,8,8,8,8,8,8,8,8,8,8,8,8,8,8,8,8,8,8,8,8,8,8,8,8,8,8,8,8,8,8,8,8,8,8,8,8,8,8,8,8,8,8,8,8,8,8,8,8,8,8,8,8,8,8,8,8,8,8,8,8,8,8,8,8,8,8,8,8,8,8,8,8,8,8,8,8,8,8,8,8,8,8,8,8,8,8,8,8,8,8,8,8,8,8,8,8,8,8,8,8,8,8,8,8,8,8,8,8,8]:List UInt8) (wr .u8 j9.1)) fun x13=>
    some ((wr .i64 (j9.2+(wr .i64 (Am x13)))))) fun k10=>
   if(decide (j5.1≥256))=true then
    k10 ((JO .u64 j5.1 8),(wr .i64 (j5.2+8)))
   else
    k10 (j5.1,j5.2)) fun k6=>
  if(decide (j1.1≥65536))=true then
   k6 ((JO .u64 j1.1 16),(wr .i64 (j1.2+16)))
  else
   k6 (j1.1,j1.2)) fun k2=>
 if(decide (a0≥4294967296))=true then
  k2 ((JO .u64 a0 32),32)
 else
  k2 (a0,0)
def Ho (N:Nat) (a0:Int):Option (Int):=
 Option.bind (JR N a0) fun y1=>
 some (y1)
def Dj (N:Nat) (a0:Int):Option (Int):=
 Option.bind (Ho N (wr .u64 a0)) fun y1=>
 grd (¬y1<0) (
 some ((JE .u64 1 y1)))
def Ff (N:Nat) (a0:Int):Option (Int×Int):=
 some ((JH .u64 (JH .u64 (JH .u64 a0 (JE .u64 a0 13)) (JO .u64 (JH .u64 a0 (JE .u64 a0 13)) 7)) (JE .u64 (JH .u64 (JH .u64 a0 (JE .u64 a0 13)) (JO .u64 (JH .u64 a0 (JE .u64 a0 13)) 7)) 17)),(JH .u64 (JH .u64 (JH .u64 a0 (JE .u64 a0 13)) (JO .u64 (JH .u64 a0 (JE .u64 a0 13)) 7)) (JE .u64 (JH .u64 (JH .u64 a0 (JE .u64 a0 13)) (JO .u64 (JH .u64 a0 (JE .u64 a0 13)) 7)) 17)))
def cmp_isNaN_string (N:Nat) (a0:(List UInt8)):Option (Bool):=
 some ((!(a0==a0)))
def GJ (N:Nat) (a0:(List UInt8)) (a1:(List UInt8)):Option (Int):=
 Option.bind (cmp_isNaN_string N a0) fun y1=>
 Option.bind (cmp_isNaN_string N a1) fun y3=>
 if y1=true then
  if y3=true then
   some (0)
  else
   some ((-1))
 else
  if y3=true then
   some (1)
  else
   if(Op.bytesLess a0 a1)=true then
    some ((-1))
   else
    if(a0==a1)=true then
     some (0)
    else
     some (1)
def BS (N:Nat) (a0:Int) (a1:Int) (c0:ApiValue):Option (Int):=
 Option.bind (idx c0.keys a0) fun x1=>
 Option.bind (idx c0.keys a1) fun x2=>
 Option.bind (GJ N x1 x2) fun y3=>
 some (y3)
def Au (N:Nat) (l0:Nat) (a1:Int) (c3_0:ApiValue) (k3:((List Int)→Option ((List Int)))):Nat→Int→(List Int)→Option ((List Int))
  |0,_,_=>none
  |k+1,s9_1,bi0_1=>
  Ab (fun j7:Bool=>
   if j7=true then
    grd (0≤(wr .i64 (s9_1-1))∧(wr .i64 (s9_1-1))<(l0:Int)) (
    Option.bind (idx bi0_1 (wr .i64 (s9_1-1))) fun x15=>
    grd (0≤s9_1∧s9_1<(l0:Int)) (
    Option.bind (idx bi0_1 s9_1) fun x16=>
    grd (s9_1.toNat+1≤bi0_1.length) (
    grd ((wr .i64 (s9_1-1)).toNat+1≤bi0_1.length) (
    Au N l0 a1 c3_0 k3 k (wr .i64 (s9_1-1)) ((bi0_1.set s9_1.toNat x15).set ((wr .i64 (s9_1-1)).toNat) x16)))))
   else
    k3 bi0_1) fun k8=>
  if(decide (s9_1>a1))=true then
   grd (0≤s9_1∧s9_1<(l0:Int)) (
   Option.bind (idx bi0_1 s9_1) fun x11=>
   grd (0≤(wr .i64 (s9_1-1))∧(wr .i64 (s9_1-1))<(l0:Int)) (
   Option.bind (idx bi0_1 (wr .i64 (s9_1-1))) fun x12=>
   Option.bind (BS N x11 x12 c3_0) fun y13=>
   k8 (decide (y13<0))))
  else
   k8 false
def AQ (N:Nat) (l0:Nat) (a1:Int) (c3_0:ApiValue):Nat→Int→(List Int)→Option ((List Int))
  |0,s8_0,bi0_0=>
  some (bi0_0)
  |k+1,s8_0,bi0_0=>
  Ab (fun j2:(List Int)=>
   AQ N l0 a1 c3_0 k (s8_0+1) j2) fun k3=>
  Au N l0 a1 c3_0 k3 N s8_0 bi0_0
def Az (N:Nat) (l0:Nat) (a0:(List Int)) (a1:Int) (a2:Int) (c3_0:ApiValue):Option ((List Int)):=
 grd ((-4611686018427387904:Int)≤(wr .i64 (a1+1))∧(a2:Int)≤4611686018427387904) (
  AQ N l0 a1 c3_0 ((a2:Int)-(wr .i64 (a1+1))).toNat (wr .i64 (a1+1)) a0)
def Ar (N:Nat) (l0:Nat) (a2:Int) (a3:Int) (c4_0:ApiValue):Nat→Int→(List Int)→Option ((List Int))
  |0,_,_=>none
  |k+1,s10_0,bi0_0=>
  if(decide ((wr .i64 ((wr .i64 (2 * s10_0))+1))≥a2))=true then
   some (bi0_0)
  else
   Ab (fun j2:Int=>
    grd (0≤(wr .i64 (a3+s10_0))∧(wr .i64 (a3+s10_0))<(l0:Int)) (
    Option.bind (idx bi0_0 (wr .i64 (a3+s10_0))) fun x14=>
    grd (0≤(wr .i64 (a3+j2))∧(wr .i64 (a3+j2))<(l0:Int)) (
    Option.bind (idx bi0_0 (wr .i64 (a3+j2))) fun x15=>
    Option.bind (BS N x14 x15 c4_0) fun y16=>
    if(decide (y16<0))=true then
     grd ((wr .i64 (a3+s10_0)).toNat+1≤bi0_0.length) (
     grd ((wr .i64 (a3+j2)).toNat+1≤bi0_0.length) (
     Ar N l0 a2 a3 c4_0 k j2 ((bi0_0.set ((wr .i64 (a3+s10_0)).toNat) x15).set ((wr .i64 (a3+j2)).toNat) x14)))
    else
     some (bi0_0)))) fun k3=>
   Ab (fun j6:Bool=>
    if j6=true then
     k3 (wr .i64 ((wr .i64 ((wr .i64 (2 * s10_0))+1))+1))
    else
     k3 (wr .i64 ((wr .i64 (2 * s10_0))+1))) fun k7=>
   if(decide ((wr .i64 ((wr .i64 ((wr .i64 (2 * s10_0))+1))+1))<a2))=true then
    grd (0≤(wr .i64 (a3+(wr .i64 ((wr .i64 (2 * s10_0))+1))))∧(wr .i64 (a3+(wr .i64 ((wr .i64 (2 * s10_0))+1))))<(l0:Int)) (
    Option.bind (idx bi0_0 (wr .i64 (a3+(wr .i64 ((wr .i64 (2 * s10_0))+1))))) fun x10=>
    grd (0≤(wr .i64 ((wr .i64 (a3+(wr .i64 ((wr .i64 (2 * s10_0))+1))))+1))∧(wr .i64 ((wr .i64 (a3+(wr .i64 ((wr .i64 (2 * s10_0))+1))))+1))<(l0:Int)) (
    Option.bind (idx bi0_0 (wr .i64 ((wr .i64 (a3+(wr .i64 ((wr .i64 (2 * s10_0))+1))))+1))) fun x11=>
    Option.bind (BS N x10 x11 c4_0) fun y12=>
    k7 (decide (y12<0))))
   else
    k7 false
def BN (N:Nat) (l0:Nat) (a0:(List Int)) (a1:Int) (a2:Int) (a3:Int) (c4_0:ApiValue):Option ((List Int)):=
 Ar N l0 a2 a3 c4_0 N a1 a0
def Aq (N:Nat) (l0:Nat) (a1:Int) (c3_0:ApiValue):Nat→Int→(List Int)→Option ((List Int))
  |0,_,_=>none
  |k+1,s12_1,bi0_1=>
  if(decide (s12_1≥0))=true then
   grd (0≤(wr .i64 (a1+s12_1))∧(wr .i64 (a1+s12_1))<(l0:Int)) (
   Option.bind (idx bi0_1 (wr .i64 (a1+s12_1))) fun x9=>
   grd (0≤a1∧a1<(l0:Int)) (
   Option.bind (idx bi0_1 a1) fun x10=>
   grd (a1.toNat+1≤bi0_1.length) (
   grd ((wr .i64 (a1+s12_1)).toNat+1≤bi0_1.length) (
   Option.bind (BN N l0 ((bi0_1.set a1.toNat x9).set ((wr .i64 (a1+s12_1)).toNat) x10) 0 s12_1 a1 c3_0) fun y11=>
   Aq N l0 a1 c3_0 k (wr .i64 (s12_1-1)) y11))))
  else
   some (bi0_1)
def Ap (N:Nat) (l0:Nat) (a1:Int) (a2:Int) (c3_0:ApiValue) (k2:((List Int)→Option ((List Int)))):Nat→Int→(List Int)→Option ((List Int))
  |0,_,_=>none
  |k+1,s11_0,bi0_0=>
  if(decide (s11_0≥0))=true then
   Option.bind (BN N l0 bi0_0 s11_0 (wr .i64 (a2-a1)) a1 c3_0) fun y6=>
   Ap N l0 a1 a2 c3_0 k2 k (wr .i64 (s11_0-1)) y6
  else
   k2 bi0_0
def Bd (N:Nat) (l0:Nat) (a0:(List Int)) (a1:Int) (a2:Int) (c3_0:ApiValue):Option ((List Int)):=
 Ab (fun j1:(List Int)=>
  Aq N l0 a1 c3_0 N (wr .i64 ((wr .i64 (a2-a1))-1)) j1) fun k2=>
 Ap N l0 a1 a2 c3_0 k2 N (wr .i64 ((wr .i64 ((wr .i64 (a2-a1))-1)).tdiv 2)) a0
def Aj (N:Nat) (l0:Nat) (a1:Int) (a2:Int) (y1:Int):Nat→Int→Int→(List Int)→Option ((List Int))
  |0,_,_,_=>none
  |k+1,s11_0,bn_0,bi0_0=>
  if(decide (s11_0≤(wr .i64 ((wr .i64 (a1+(wr .i64 ((wr .i64 ((wr .i64 (a2-a1)).tdiv 4)) * 2))))+1))))=true then
   Option.bind (Ff N bn_0) fun y4=>
   Ab (fun j6:Int=>
    grd (0≤(wr .i64 (a1+j6))∧(wr .i64 (a1+j6))<(l0:Int)) (
    Option.bind (idx bi0_0 (wr .i64 (a1+j6))) fun x10=>
    grd (0≤s11_0∧s11_0<(l0:Int)) (
    Option.bind (idx bi0_0 s11_0) fun x11=>
    grd (s11_0.toNat+1≤bi0_0.length) (
    grd ((wr .i64 (a1+j6)).toNat+1≤bi0_0.length) (
    Aj N l0 a1 a2 y1 k (wr .i64 (s11_0+1)) y4.2 ((bi0_0.set s11_0.toNat x10).set ((wr .i64 (a1+j6)).toNat) x11)))))) fun k7=>
   if(decide ((wr .i64 (Dc .u64 y4.1 (wr .u64 (y1-1))))≥(wr .i64 (a2-a1))))=true then
    k7 (wr .i64 ((wr .i64 (Dc .u64 y4.1 (wr .u64 (y1-1))))-(wr .i64 (a2-a1))))
   else
    k7 (wr .i64 (Dc .u64 y4.1 (wr .u64 (y1-1))))
  else
   some (bi0_0)
def BQ (N:Nat) (l0:Nat) (a0:(List Int)) (a1:Int) (a2:Int) (c3_0:ApiValue):Option ((List Int)):=
 if(decide ((wr .i64 (a2-a1))≥8))=true then
  Option.bind (Dj N (wr .i64 (a2-a1))) fun y1=>
  Aj N l0 a1 a2 y1 N (wr .i64 ((wr .i64 (a1+(wr .i64 ((wr .i64 ((wr .i64 (a2-a1)).tdiv 4)) * 2))))-1)) (wr .u64 (wr .i64 (a2-a1))) a0
 else
  some (a0)
def BF (N:Nat) (l0:Nat) (a0:(List Int)) (a1:Int) (a2:Int) (a3:Int) (c4_0:ApiValue):Option (Int×Int×(List Int)×Int):=
 grd (0≤a2∧a2<(l0:Int)) (
 Option.bind (idx a0 a2) fun x1=>
 grd (0≤a1∧a1<(l0:Int)) (
 Option.bind (idx a0 a1) fun x2=>
 Option.bind (BS N x1 x2 c4_0) fun y3=>
 if(decide (y3<0))=true then
  some (a2,a1,a0,(wr .i64 (a3+1)))
 else
  some (a1,a2,a0,a3)))
def BD (N:Nat) (l0:Nat) (a0:(List Int)) (a1:Int) (a2:Int) (a3:Int) (a4:Int) (c5_0:ApiValue):Option (Int×(List Int)×Int):=
 Option.bind (BF N l0 a0 a1 a2 a4 c5_0) fun y1=>
 Option.bind (BF N l0 y1.2.2.1 y1.2.1 a3 y1.2.2.2 c5_0) fun y3=>
 Option.bind (BF N l0 y3.2.2.1 y1.1 y3.1 y3.2.2.2 c5_0) fun y5=>
 some (y5.2.1,y5.2.2.1,y5.2.2.2)
def Ay (N:Nat) (l0:Nat) (a0:(List Int)) (a1:Int) (a2:Int) (c3_0:ApiValue):Option (Int×(List Int)×Int):=
 Option.bind (BD N l0 a0 (wr .i64 (a1-1)) a1 (wr .i64 (a1+1)) a2 c3_0) fun y1=>
 some (y1.1,y1.2.1,y1.2.2)
def BX (N:Nat) (l0:Nat) (a0:(List Int)) (a1:Int) (a2:Int) (c3_0:ApiValue):Option (Int×Int×(List Int)):=
 Ab (fun j1:Int×Int×(List Int)=>
  if(j1.2.1==0)=true then
   some (j1.1,1,j1.2.2)
  else
   if(j1.2.1==12)=true then
    some (j1.1,2,j1.2.2)
   else
    some (j1.1,0,j1.2.2)) fun k2=>
 if(decide ((wr .i64 (a2-a1))≥8))=true then
  Ab (fun j5:Int×Int×Int×Int×(List Int)=>
   Option.bind (BD N l0 j5.2.2.2.2 j5.1 j5.2.1 j5.2.2.1 j5.2.2.2.1 c3_0) fun y15=>
   k2 (y15.1,y15.2.2,y15.2.1)) fun k6=>
  if(decide ((wr .i64 (a2-a1))≥50))=true then
   Option.bind (Ay N l0 a0 (wr .i64 (a1+(wr .i64 ((wr .i64 ((wr .i64 (a2-a1)).tdiv 4)) * 1)))) 0 c3_0) fun y9=>
   Option.bind (Ay N l0 y9.2.1 (wr .i64 (a1+(wr .i64 ((wr .i64 ((wr .i64 (a2-a1)).tdiv 4)) * 2)))) y9.2.2 c3_0) fun y11=>
   Option.bind (Ay N l0 y11.2.1 (wr .i64 (a1+(wr .i64 ((wr .i64 ((wr .i64 (a2-a1)).tdiv 4)) * 3)))) y11.2.2 c3_0) fun y13=>
   k6 (y9.1,y11.1,y13.1,y13.2.2,y13.2.1)
  else
   k6 ((wr .i64 (a1+(wr .i64 ((wr .i64 ((wr .i64 (a2-a1)).tdiv 4)) * 1)))),(wr .i64 (a1+(wr .i64 ((wr .i64 ((wr .i64 (a2-a1)).tdiv 4)) * 2)))),(wr .i64 (a1+(wr .i64 ((wr .i64 ((wr .i64 (a2-a1)).tdiv 4)) * 3)))),0,a0)
 else
  k2 ((wr .i64 (a1+(wr .i64 ((wr .i64 ((wr .i64 (a2-a1)).tdiv 4)) * 2)))),0,a0)
def Aw (N:Nat) (l0:Nat):Nat→Int→Int→(List Int)→Option ((List Int))
  |0,_,_,_=>none
  |k+1,s8_0,s9_0,bi0_0=>
  if(decide (s8_0<s9_0))=true then
   grd (0≤s9_0∧s9_0<(l0:Int)) (
   Option.bind (idx bi0_0 s9_0) fun x2=>
   grd (0≤s8_0∧s8_0<(l0:Int)) (
   Option.bind (idx bi0_0 s8_0) fun x3=>
   grd (s8_0.toNat+1≤bi0_0.length) (
   grd (s9_0.toNat+1≤bi0_0.length) (
   Aw N l0 k (wr .i64 (s8_0+1)) (wr .i64 (s9_0-1)) ((bi0_0.set s8_0.toNat x2).set s9_0.toNat x3)))))
  else
   some (bi0_0)
def BU (N:Nat) (l0:Nat) (a0:(List Int)) (a1:Int) (a2:Int) (c3_0:ApiValue):Option ((List Int)):=
 Aw N l0 N a1 (wr .i64 (a2-1)) a0
def AO (N:Nat) (l0:Nat) (c3_0:ApiValue) (k7:(Int×(List Int)→Option (Bool×(List Int)))) (j10:Int):Nat→Int→(List Int)→Option (Bool×(List Int))
  |0,s12_3,bi0_3=>
  k7 (j10,bi0_3)
  |k+1,s12_3,bi0_3=>
  grd (0≤s12_3∧s12_3<(l0:Int)) (
  Option.bind (idx bi0_3 s12_3) fun x35=>
  grd (0≤(wr .i64 (s12_3-1))∧(wr .i64 (s12_3-1))<(l0:Int)) (
  Option.bind (idx bi0_3 (wr .i64 (s12_3-1))) fun x36=>
  Option.bind (BS N x35 x36 c3_0) fun y37=>
  if(decide (y37<0))=true then
   grd (s12_3.toNat+1≤bi0_3.length) (
   grd ((wr .i64 (s12_3-1)).toNat+1≤bi0_3.length) (
   AO N l0 c3_0 k7 j10 k (s12_3+1) ((bi0_3.set s12_3.toNat x36).set ((wr .i64 (s12_3-1)).toNat) x35)))
  else
   k7 (j10,bi0_3)))
def AV (N:Nat) (l0:Nat) (c3_0:ApiValue) (k26:((List Int)→Option (Bool×(List Int)))):Nat→Int→(List Int)→Option (Bool×(List Int))
  |0,_,_=>none
  |k+1,s11_2,bi0_2=>
  if(decide (s11_2≥1))=true then
   grd (0≤s11_2∧s11_2<(l0:Int)) (
   Option.bind (idx bi0_2 s11_2) fun x30=>
   grd (0≤(wr .i64 (s11_2-1))∧(wr .i64 (s11_2-1))<(l0:Int)) (
   Option.bind (idx bi0_2 (wr .i64 (s11_2-1))) fun x31=>
   Option.bind (BS N x30 x31 c3_0) fun y32=>
   if(decide (y32<0))=true then
    grd (s11_2.toNat+1≤bi0_2.length) (
    grd ((wr .i64 (s11_2-1)).toNat+1≤bi0_2.length) (
    AV N l0 c3_0 k26 k (wr .i64 (s11_2-1)) ((bi0_2.set s11_2.toNat x31).set ((wr .i64 (s11_2-1)).toNat) x30)))
   else
    k26 bi0_2))
  else
   k26 bi0_2
def AU (N:Nat) (l0:Nat) (a2:Int) (c3_0:ApiValue) (bi0_0:(List Int)) (k11:(Int→Option (Bool×(List Int)))):Nat→Int→Option (Bool×(List Int))
  |0,_=>none
  |k+1,s9_1=>
  Ab (fun j15:Bool=>
   if j15=true then
    AU N l0 a2 c3_0 bi0_0 k11 k (wr .i64 (s9_1+1))
   else
    k11 s9_1) fun k16=>
  if(decide (s9_1<a2))=true then
   grd (0≤s9_1∧s9_1<(l0:Int)) (
   Option.bind (idx bi0_0 s9_1) fun x19=>
   grd (0≤(wr .i64 (s9_1-1))∧(wr .i64 (s9_1-1))<(l0:Int)) (
   Option.bind (idx bi0_0 (wr .i64 (s9_1-1))) fun x20=>
   Option.bind (BS N x19 x20 c3_0) fun y21=>
   k16 (!(decide (y21<0)))))
  else
   k16 false
def AP (N:Nat) (l0:Nat) (a1:Int) (a2:Int) (c3_0:ApiValue) (k2:((List Int)→Option (Bool×(List Int)))):Nat→Int→(List Int)→Option (Bool×(List Int))
  |0,s9_0,bi0_0=>
  k2 bi0_0
  |k+1,s9_0,bi0_0=>
  Ab (fun j6:Int×(List Int)=>
   AP N l0 a1 a2 c3_0 k2 k j6.1 j6.2) fun k7=>
  Ab (fun j10:Int=>
   if(j10==a2)=true then
    some (true,bi0_0)
   else
    if(decide ((wr .i64 (a2-a1))<50))=true then
     some (false,bi0_0)
    else
     grd (0≤(wr .i64 (j10-1))∧(wr .i64 (j10-1))<(l0:Int)) (
     Option.bind (idx bi0_0 (wr .i64 (j10-1))) fun x23=>
     grd (0≤j10∧j10<(l0:Int)) (
     Option.bind (idx bi0_0 j10) fun x24=>
     grd (j10.toNat+1≤bi0_0.length) (
     grd ((wr .i64 (j10-1)).toNat+1≤bi0_0.length) (
     Ab (fun j25:(List Int)=>
      if(decide ((wr .i64 (a2-j10))≥2))=true then
       grd ((-4611686018427387904:Int)≤(wr .i64 (j10+1))∧(a2:Int)≤4611686018427387904) (
        AO N l0 c3_0 k7 j10 ((a2:Int)-(wr .i64 (j10+1))).toNat (wr .i64 (j10+1)) j25)
      else
       k7 (j10,j25)) fun k26=>
     if(decide ((wr .i64 (j10-a1))≥2))=true then
      AV N l0 c3_0 k26 N (wr .i64 (j10-1)) ((bi0_0.set j10.toNat x23).set ((wr .i64 (j10-1)).toNat) x24)
     else
      k26 ((bi0_0.set j10.toNat x23).set ((wr .i64 (j10-1)).toNat) x24)))))) fun k11=>
  AU N l0 a2 c3_0 bi0_0 k11 N s9_0
def BC (N:Nat) (l0:Nat) (a0:(List Int)) (a1:Int) (a2:Int) (c3_0:ApiValue):Option (Bool×(List Int)):=
 Ab (fun j1:(List Int)=>
  some (false,j1)) fun k2=>
 grd ((-4611686018427387904:Int)≤0∧(5:Int)≤4611686018427387904) (
  AP N l0 a1 a2 c3_0 k2 ((5:Int)-0).toNat (wr .i64 (a1+1)) a0)
def BI (N:Nat) (l0:Nat) (a1:Int) (c4_0:ApiValue) (bi0_0:(List Int)) (j8:Int) (k22:(Int→Option (Int×(List Int)))):Nat→Int→Option (Int×(List Int))
  |0,_=>none
  |k+1,s12_2=>
  Ab (fun j26:Bool=>
   if j26=true then
    BI N l0 a1 c4_0 bi0_0 j8 k22 k (wr .i64 (s12_2-1))
   else
    k22 s12_2) fun k27=>
  if(decide (j8≤s12_2))=true then
   grd (0≤a1∧a1<(l0:Int)) (
   Option.bind (idx bi0_0 a1) fun x30=>
   grd (0≤s12_2∧s12_2<(l0:Int)) (
   Option.bind (idx bi0_0 s12_2) fun x31=>
   Option.bind (BS N x30 x31 c4_0) fun y32=>
   k27 (decide (y32<0))))
  else
   k27 false
def BG (N:Nat) (l0:Nat) (a1:Int) (c4_0:ApiValue) (s12_0:Int) (bi0_0:(List Int)) (k9:(Int→Option (Int×(List Int)))):Nat→Int→Option (Int×(List Int))
  |0,_=>none
  |k+1,s11_1=>
  Ab (fun j13:Bool=>
   if j13=true then
    BG N l0 a1 c4_0 s12_0 bi0_0 k9 k (wr .i64 (s11_1+1))
   else
    k9 s11_1) fun k14=>
  if(decide (s11_1≤s12_0))=true then
   grd (0≤a1∧a1<(l0:Int)) (
   Option.bind (idx bi0_0 a1) fun x17=>
   grd (0≤s11_1∧s11_1<(l0:Int)) (
   Option.bind (idx bi0_0 s11_1) fun x18=>
   Option.bind (BS N x17 x18 c4_0) fun y19=>
   k14 (!(decide (y19<0)))))
  else
   k14 false
def BH (N:Nat) (l0:Nat) (a1:Int) (c4_0:ApiValue) (k4:(Int×(List Int)→Option (Int×(List Int)))):Nat→Int→Int→(List Int)→Option (Int×(List Int))
  |0,_,_,_=>none
  |k+1,s11_0,s12_0,bi0_0=>
  Ab (fun j8:Int=>
   Ab (fun j21:Int=>
    if(decide (j8>j21))=true then
     k4 (j8,bi0_0)
    else
     grd (0≤j21∧j21<(l0:Int)) (
     Option.bind (idx bi0_0 j21) fun x34=>
     grd (0≤j8∧j8<(l0:Int)) (
     Option.bind (idx bi0_0 j8) fun x35=>
     grd (j8.toNat+1≤bi0_0.length) (
     grd (j21.toNat+1≤bi0_0.length) (
     BH N l0 a1 c4_0 k4 k (wr .i64 (j8+1)) (wr .i64 (j21-1)) ((bi0_0.set j8.toNat x34).set j21.toNat x35)))))) fun k22=>
   BI N l0 a1 c4_0 bi0_0 j8 k22 N s12_0) fun k9=>
  BG N l0 a1 c4_0 s12_0 bi0_0 k9 N s11_0
def CR (N:Nat) (l0:Nat) (a0:(List Int)) (a1:Int) (a2:Int) (a3:Int) (c4_0:ApiValue):Option (Int×(List Int)):=
 grd (0≤a3∧a3<(l0:Int)) (
 Option.bind (idx a0 a3) fun x1=>
 grd (0≤a1∧a1<(l0:Int)) (
 Option.bind (idx a0 a1) fun x2=>
 grd (a1.toNat+1≤a0.length) (
 grd (a3.toNat+1≤a0.length) (
 Ab (fun j3:Int×(List Int)=>
  some (j3.1,j3.2)) fun k4=>
 BH N l0 a1 c4_0 k4 N (wr .i64 (a1+1)) (wr .i64 (a2-1)) ((a0.set a1.toNat x1).set a3.toNat x2)))))
def AY (N:Nat) (l0:Nat) (a1:Int) (c4_0:ApiValue) (bi0_2:(List Int)) (j38:Int) (k52:(Int→Option (Int×Bool×(List Int)))):Nat→Int→Option (Int×Bool×(List Int))
  |0,_=>none
  |k+1,s13_4=>
  Ab (fun j56:Bool=>
   if j56=true then
    AY N l0 a1 c4_0 bi0_2 j38 k52 k (wr .i64 (s13_4-1))
   else
    k52 s13_4) fun k57=>
  if(decide (j38≤s13_4))=true then
   grd (0≤s13_4∧s13_4<(l0:Int)) (
   Option.bind (idx bi0_2 s13_4) fun x60=>
   grd (0≤a1∧a1<(l0:Int)) (
   Option.bind (idx bi0_2 a1) fun x61=>
   Option.bind (BS N x60 x61 c4_0) fun y62=>
   k57 (!(decide (y62<0)))))
  else
   k57 false
def AX (N:Nat) (l0:Nat) (a1:Int) (c4_0:ApiValue) (s13_2:Int) (bi0_2:(List Int)) (k39:(Int→Option (Int×Bool×(List Int)))):Nat→Int→Option (Int×Bool×(List Int))
  |0,_=>none
  |k+1,s12_3=>
  Ab (fun j43:Bool=>
   if j43=true then
    AX N l0 a1 c4_0 s13_2 bi0_2 k39 k (wr .i64 (s12_3+1))
   else
    k39 s12_3) fun k44=>
  if(decide (s12_3≤s13_2))=true then
   grd (0≤s12_3∧s12_3<(l0:Int)) (
   Option.bind (idx bi0_2 s12_3) fun x47=>
   grd (0≤a1∧a1<(l0:Int)) (
   Option.bind (idx bi0_2 a1) fun x48=>
   Option.bind (BS N x47 x48 c4_0) fun y49=>
   k44 (decide (y49<0))))
  else
   k44 false
def Af (N:Nat) (l0:Nat) (a1:Int) (c4_0:ApiValue) (k34:(Int×(List Int)→Option (Int×Bool×(List Int)))):Nat→Int→Int→(List Int)→Option (Int×Bool×(List Int))
  |0,_,_,_=>none
  |k+1,s12_2,s13_2,bi0_2=>
  Ab (fun j38:Int=>
   Ab (fun j51:Int=>
    if(decide (j38>j51))=true then
     k34 (j51,bi0_2)
    else
     grd (0≤j51∧j51<(l0:Int)) (
     Option.bind (idx bi0_2 j51) fun x64=>
     grd (0≤j38∧j38<(l0:Int)) (
     Option.bind (idx bi0_2 j38) fun x65=>
     grd (j38.toNat+1≤bi0_2.length) (
     grd (j51.toNat+1≤bi0_2.length) (
     Af N l0 a1 c4_0 k34 k (wr .i64 (j38+1)) (wr .i64 (j51-1)) ((bi0_2.set j38.toNat x64).set j51.toNat x65)))))) fun k52=>
   AY N l0 a1 c4_0 bi0_2 j38 k52 N s13_2) fun k39=>
  AX N l0 a1 c4_0 s13_2 bi0_2 k39 N s12_2
def A7 (N:Nat) (l0:Nat) (a0:(List Int)) (a1:Int) (a3:Int) (c4_0:ApiValue) (x1:Int) (x2:Int) (j3:Int) (k17:(Int→Option (Int×Bool×(List Int)))):Nat→Int→Option (Int×Bool×(List Int))
  |0,_=>none
  |k+1,s13_1=>
  Ab (fun j21:Bool=>
   if j21=true then
    A7 N l0 a0 a1 a3 c4_0 x1 x2 j3 k17 k (wr .i64 (s13_1-1))
   else
    k17 s13_1) fun k22=>
  if(decide (j3≤s13_1))=true then
   grd (0≤s13_1∧s13_1<(l0:Int)) (
   Option.bind (idx ((a0.set a1.toNat x1).set a3.toNat x2) s13_1) fun x25=>
   grd (0≤a1∧a1<(l0:Int)) (
   Option.bind (idx ((a0.set a1.toNat x1).set a3.toNat x2) a1) fun x26=>
   Option.bind (BS N x25 x26 c4_0) fun y27=>
   k22 (!(decide (y27<0)))))
  else
   k22 false
def A8 (N:Nat) (l0:Nat) (a0:(List Int)) (a1:Int) (a2:Int) (a3:Int) (c4_0:ApiValue) (x1:Int) (x2:Int) (k4:(Int→Option (Int×Bool×(List Int)))):Nat→Int→Option (Int×Bool×(List Int))
  |0,_=>none
  |k+1,s12_0=>
  Ab (fun j8:Bool=>
   if j8=true then
    A8 N l0 a0 a1 a2 a3 c4_0 x1 x2 k4 k (wr .i64 (s12_0+1))
   else
    k4 s12_0) fun k9=>
  if(decide (s12_0≤(wr .i64 (a2-1))))=true then
   grd (0≤s12_0∧s12_0<(l0:Int)) (
   Option.bind (idx ((a0.set a1.toNat x1).set a3.toNat x2) s12_0) fun x12=>
   grd (0≤a1∧a1<(l0:Int)) (
   Option.bind (idx ((a0.set a1.toNat x1).set a3.toNat x2) a1) fun x13=>
   Option.bind (BS N x12 x13 c4_0) fun y14=>
   k9 (decide (y14<0))))
  else
   k9 false
def Ba (N:Nat) (l0:Nat) (a0:(List Int)) (a1:Int) (a2:Int) (a3:Int) (c4_0:ApiValue):Option (Int×Bool×(List Int)):=
 grd (0≤a3∧a3<(l0:Int)) (
 Option.bind (idx a0 a3) fun x1=>
 grd (0≤a1∧a1<(l0:Int)) (
 Option.bind (idx a0 a1) fun x2=>
 grd (a1.toNat+1≤a0.length) (
 grd (a3.toNat+1≤a0.length) (
 Ab (fun j3:Int=>
  Ab (fun j16:Int=>
   if(decide (j3>j16))=true then
    Option.bind (idx ((a0.set a1.toNat x1).set a3.toNat x2) a1) fun x29=>
    grd (0≤j16∧j16<(l0:Int)) (
    Option.bind (idx ((a0.set a1.toNat x1).set a3.toNat x2) j16) fun x30=>
    grd (j16.toNat+1≤a0.length) (
    some (j16,true,((((a0.set a1.toNat x1).set a3.toNat x2).set j16.toNat x29).set a1.toNat x30))))
   else
    grd (0≤j16∧j16<(l0:Int)) (
    Option.bind (idx ((a0.set a1.toNat x1).set a3.toNat x2) j16) fun x31=>
    grd (0≤j3∧j3<(l0:Int)) (
    Option.bind (idx ((a0.set a1.toNat x1).set a3.toNat x2) j3) fun x32=>
    grd (j3.toNat+1≤a0.length) (
    grd (j16.toNat+1≤a0.length) (
    Ab (fun j33:Int×(List Int)=>
     Option.bind (idx j33.2 a1) fun x66=>
     grd (0≤j33.1∧j33.1<(l0:Int)) (
     Option.bind (idx j33.2 j33.1) fun x67=>
     grd (j33.1.toNat+1≤j33.2.length) (
     grd (a1.toNat+1≤j33.2.length) (
     some (j33.1,false,((j33.2.set j33.1.toNat x66).set a1.toNat x67)))))) fun k34=>
    Af N l0 a1 c4_0 k34 N (wr .i64 (j3+1)) (wr .i64 (j16-1)) ((((a0.set a1.toNat x1).set a3.toNat x2).set j3.toNat x31).set j16.toNat x32)))))) fun k17=>
  A7 N l0 a0 a1 a3 c4_0 x1 x2 j3 k17 N (wr .i64 (a2-1))) fun k4=>
 A8 N l0 a0 a1 a2 a3 c4_0 x1 x2 k4 N (wr .i64 (a1+1))))))
def Al (N:Nat) (l0:Nat) (c4_0:ApiValue) (rec_slices_pdqsortCmpFunc_int__jsonwrite_order_1:(Nat→(List Int)→Int→Int→Int→ApiValue→Option ((List Int)))):Nat→Int→Int→Int→Bool→Bool→(List Int)→Option ((List Int))
  |0,_,_,_,_,_,_=>none
  |k+1,s1_0,s2_0,s3_0,s10_0,s11_0,bi0_0=>
  if(decide ((wr .i64 (s2_0-s1_0))≤12))=true then
   Option.bind (Az N l0 bi0_0 s1_0 s2_0 c4_0) fun y2=>
   some (y2)
  else
   if(s3_0==0)=true then
    Option.bind (Bd N l0 bi0_0 s1_0 s2_0 c4_0) fun y4=>
    some (y4)
   else
    Ab (fun j6:Int×(List Int)=>
     Option.bind (BX N l0 j6.2 s1_0 s2_0 c4_0) fun y12=>
     Ab (fun j14:Int×Int×(List Int)=>
      Ab (fun j20:(List Int)=>
       Ab (fun j30:Bool=>
        if j30=true then
         Option.bind (CR N l0 j20 s1_0 s2_0 j14.1 c4_0) fun y38=>
         Al N l0 c4_0 rec_slices_pdqsortCmpFunc_int__jsonwrite_order_1 k y38.1 s2_0 j6.1 s10_0 s11_0 y38.2
        else
         Option.bind (Ba N l0 j20 s1_0 s2_0 j14.1 c4_0) fun y40=>
         if(decide ((wr .i64 (y40.1-s1_0))<(wr .i64 (s2_0-y40.1))))=true then
          Option.bind (rec_slices_pdqsortCmpFunc_int__jsonwrite_order_1 l0 y40.2.2 s1_0 y40.1 j6.1 c4_0) fun y42=>
          Al N l0 c4_0 rec_slices_pdqsortCmpFunc_int__jsonwrite_order_1 k (wr .i64 (y40.1+1)) s2_0 j6.1 (decide ((wr .i64 (y40.1-s1_0))≥(wr .i64 ((wr .i64 (s2_0-s1_0)).tdiv 8)))) y40.2.1 y42
         else
          Option.bind (rec_slices_pdqsortCmpFunc_int__jsonwrite_order_1 l0 y40.2.2 (wr .i64 (y40.1+1)) s2_0 j6.1 c4_0) fun y44=>
          Al N l0 c4_0 rec_slices_pdqsortCmpFunc_int__jsonwrite_order_1 k s1_0 y40.1 j6.1 (decide ((wr .i64 (s2_0-y40.1))≥(wr .i64 ((wr .i64 (s2_0-s1_0)).tdiv 8)))) y40.2.1 y44) fun k31=>
       if(decide (s1_0>0))=true then
        grd (0≤(wr .i64 (s1_0-1))∧(wr .i64 (s1_0-1))<(l0:Int)) (
        Option.bind (idx j20 (wr .i64 (s1_0-1))) fun x34=>
        grd (0≤j14.1∧j14.1<(l0:Int)) (
        Option.bind (idx j20 j14.1) fun x35=>
        Option.bind (BS N x34 x35 c4_0) fun y36=>
        k31 (!(decide (y36<0)))))
       else
        k31 false) fun k21=>
      Ab (fun j24:Bool=>
       if j24=true then
        Option.bind (BC N l0 j14.2.2 s1_0 s2_0 c4_0) fun y28=>
        if y28.1=true then
         some (y28.2)
        else
         k21 y28.2
       else
        k21 j14.2.2) fun k25=>
      if s10_0=true then
       if s11_0=true then
        k25 (j14.2.1==1)
       else
        k25 false
      else
       k25 false) fun k15=>
     if(y12.2.1==2)=true then
      Option.bind (BU N l0 y12.2.2 s1_0 s2_0 c4_0) fun y18=>
      k15 ((wr .i64 ((wr .i64 (s2_0-1))-(wr .i64 (y12.1-s1_0)))),1,y18)
     else
      k15 (y12.1,y12.2.1,y12.2.2)) fun k7=>
    if s10_0=true then
     k7 (s3_0,bi0_0)
    else
     Option.bind (BQ N l0 bi0_0 s1_0 s2_0 c4_0) fun y10=>
     k7 ((wr .i64 (s3_0-1)),y10)
def Ai (N:Nat):Nat→Nat→(List Int)→Int→Int→Int→ApiValue→Option ((List Int))
  |0,_,_,_,_,_,_=>none
  |D+1,l0,a0,a1,a2,a3,c4_0=>
  Al N l0 c4_0 (Ai N D) N a1 a2 a3 true true a0
def Bo (N:Nat) (l0:Nat) (a0:(List Int)) (c1_0:ApiValue):Option ((List Int)):=
 Option.bind (Ho N (wr .u64 (l0:Int))) fun y1=>
 Option.bind (Ai N N l0 a0 0 (l0:Int) y1 c1_0) fun y3=>
 some (y3)
def CU (N:Nat) (a0:ApiValue) (k2:((List Int)→Option ((List Int)))):Nat→Int→(List Int)→Option ((List Int))
  |0,s11,bn1=>
  k2 bn1
  |k+1,s11,bn1=>
  grd (0≤s11∧s11<((a0.items.length:Int).toNat:Int)) (
  grd (s11.toNat+1≤bn1.length) (
  CU N a0 k2 k (s11+1) (bn1.set s11.toNat s11)))
def ED (N:Nat) (a0:ApiValue):Option ((List Int)):=
 grd (QB (a0.items.length:Int) 8) (
 Ab (fun j1:(List Int)=>
  Ab (fun j6:(List Int)=>
   grd (j6.length=(a0.items.length:Int).toNat) (
   some (j6))) fun k7=>
  if(a0.kind==7)=true then
   Option.bind (Bo N ((a0.items.length:Int).toNat) j1 a0) fun y10=>
   k7 y10
  else
   k7 j1) fun k2=>
 grd ((-4611686018427387904:Int)≤0∧(((a0.items.length:Int).toNat:Int):Int)≤4611686018427387904) (
  CU N a0 k2 ((((a0.items.length:Int).toNat:Int):Int)-0).toNat 0 (List.replicate (a0.items.length:Int).toNat 0)))
def Bp (N:Nat) (a0:JsonwriteWriter):Option (Int×JsonwriteWriter):=
 some ((a0.builder.buf.length:Int),a0)
def Bj (N:Nat) (a1:ApiValue) (rec_jsonwrite_writer_value:(JsonwriteWriter→ApiValue→Option (JsonwriteWriter))) (k4:(JsonwriteWriter→Option (JsonwriteWriter))):List Int→Int→JsonwriteWriter→Option (JsonwriteWriter)
  |[],s18,bi0=>
  k4 bi0
  |xk9::xs,s18,bi0=>
  Ab (fun j10:JsonwriteWriter=>
   Ab (fun j16:JsonwriteWriter=>
    Option.bind (idx a1.items xk9) fun x25=>
    Option.bind (rec_jsonwrite_writer_value j16 x25) fun y26=>
    Bj N a1 rec_jsonwrite_writer_value k4 xs (s18+1) y26) fun k17=>
   if(a1.kind==7)=true then
    Option.bind (idx a1.keys xk9) fun x20=>
    Option.bind (Cr N j10 x20) fun y21=>
    Option.bind (AL N y21 ([58]:List UInt8)) fun y23=>
    k17 y23.2.2
   else
    k17 j10) fun k11=>
  if(decide (s18>0))=true then
   Option.bind (AL N bi0 ([44]:List UInt8)) fun y14=>
   k11 y14.2.2
  else
   k11 bi0
mutual
def CW (N:Nat):Nat→JsonwriteWriter→ApiValue→(List UInt8)→(List UInt8)→Option (JsonwriteWriter)
  |0,_,_,_,_=>none
  |D+1,a0,a1,a2,a3=>
  Option.bind (AL N a0 a2) fun y1=>
  Ab (fun j3:JsonwriteWriter=>
   Option.bind (AL N j3 a3) fun y28=>
   some (y28.2.2)) fun k4=>
  Option.bind (ED N a1) fun y7=>
  grd (Bf (y7.length)) (
   Bj N a1 (Bc N D) k4 y7 0 y1.2.2)
def Bc (N:Nat):Nat→JsonwriteWriter→ApiValue→Option (JsonwriteWriter)
  |0,_,_=>none
  |D+1,a0,a1=>
  Option.bind (Bp N a0) fun y1=>
  if(decide (y1.1>1048576))=true then
   some (y1.2)
  else
   if(a1.kind==1)=true then
    Option.bind (AL N y1.2 ([110,117,108,108]:List UInt8)) fun y3=>
    some (y3.2.2)
   else
    if(a1.kind==2)=true then
     Option.bind (AL N y1.2 ([102,97,108,115,101]:List UInt8)) fun y5=>
     some (y5.2.2)
    else
     if(a1.kind==3)=true then
      Option.bind (AL N y1.2 ([116,114,117,101]:List UInt8)) fun y7=>
      some (y7.2.2)
     else
      if(a1.kind==4)=true then
       Option.bind (AL N y1.2 a1.text) fun y9=>
       some (y9.2.2)
      else
       if(a1.kind==5)=true then
        Option.bind (Cr N y1.2 a1.text) fun y11=>
        some (y11)
       else
        if(a1.kind==6)=true then
         Option.bind ((CW N D) y1.2 a1 ([91]:List UInt8) ([93]:List UInt8)) fun y13=>
         some (y13)
        else
         if(a1.kind==7)=true then
          Option.bind ((CW N D) y1.2 a1 ([123]:List UInt8) ([125]:List UInt8)) fun y15=>
          some (y15)
         else
          some (y1.2)
end
def Cc (N:Nat) (a0:JsonwriteWriter):Option ((List UInt8)×JsonwriteWriter):=
 some (a0.builder.buf,a0)
def Ea (N:Nat) (a0:ApiValue):Option ((List UInt8)×Int):=
 Option.bind (Ed N a0) fun y1=>
 if y1=true then
  Option.bind (Bc N N (JsonwriteWriter.mk (StringsBuilder.mk false [])) a0) fun y3=>
  Option.bind (Bp N y3) fun y5=>
  if(decide (y5.1>1048576))=true then
   some ([],142)
  else
   Option.bind (Cc N y5.2) fun y7=>
   some (y7.1,0)
 else
  some ([],8)
def Ky (N:Nat):Option (Bool):=
 Option.bind (Fh N ([123,32,34,98,34,32,58,32,49,46,48,32,44,32,34,97,34,32,58,32,34,92,117,48,48,52,49,34,32,125]:List UInt8)) fun y1=>
 Option.bind (Ea N y1.1) fun y3=>
 if(y3.2==0)=true then
  if(y3.1==([123,34,97,34,58,34,65,34,44,34,98,34,58,49,125]:List UInt8))=true then
   Option.bind (Ed N y1.1) fun y5=>
   if y5=true then
    Option.bind (Ed N (ApiValue.mk 0 [] [] [])) fun y7=>
    some ((!y7))
   else
    some (false)
  else
   some (false)
 else
  some (false)
def DR (N:Nat) (a0:ApiValue) (a1:ApiValue) (rec_ref14_Equal:(ApiValue→ApiValue→Option (Bool))) (k22:(Unit→Option (Bool))):List (List UInt8)→Option (Bool)
  |[]=>
  k22 ()
  |xk25::xs=>
  Option.bind (I5 N a0 xk25) fun y26=>
  Option.bind (I5 N a1 xk25) fun y28=>
  Ab (fun j30:Bool=>
   if j30=true then
    some (false)
   else
    DR N a0 a1 rec_ref14_Equal k22 xs) fun k31=>
  if y26.2=true then
   if y28.2=true then
    Option.bind (rec_ref14_Equal y26.1 y28.1) fun y34=>
    k31 (!y34)
   else
    k31 true
  else
   k31 true
def DV (N:Nat) (a1:ApiValue) (rec_ref14_Equal:(ApiValue→ApiValue→Option (Bool))) (k14:(Unit→Option (Bool))):List ApiValue→Int→Option (Bool)
  |[],s54=>
  k14 ()
  |xk17::xs,s54=>
  Option.bind (idx a1.items s54) fun x18=>
  Option.bind (rec_ref14_Equal xk17 x18) fun y19=>
  if y19=true then
   DV N a1 rec_ref14_Equal k14 xs (s54+1)
  else
   some (false)
def Cv (N:Nat):Nat→ApiValue→ApiValue→Option (Bool)
  |0,_,_=>none
  |D+1,a0,a1=>
  Ab (fun j1:Bool=>
   if j1=true then
    some (false)
   else
    Ab (fun j5:Bool=>
     if j5=true then
      some (true)
     else
      Ab (fun j9:Bool=>
       if j9=true then
        some ((a0.text==a1.text))
       else
        if(a0.kind==6)=true then
         Ab (fun j13:Unit=>
          some (true)) fun k14=>
         grd (Bf (a0.items.length)) (
          DV N a1 (Cv N D) k14 a0.items 0)
        else
         if(a0.kind==7)=true then
          Ab (fun j21:Unit=>
           some (true)) fun k22=>
          grd (Bf (a0.keys.length)) (
           DR N a0 a1 (Cv N D) k22 a0.keys)
         else
          some (false)) fun k10=>
      if(a0.kind==4)=true then
       k10 (a0.kind==4)
      else
       k10 (a0.kind==5)) fun k6=>
    if(a0.kind==1)=true then
     k6 (a0.kind==1)
    else
     if(a0.kind==3)=true then
      k6 (a0.kind==3)
     else
      k6 (a0.kind==2)) fun k2=>
  if(a0.kind !=a1.kind)=true then
   k2 true
  else
   if((a0.items.length:Int) !=(a1.items.length:Int))=true then
    k2 true
   else
    k2 ((a0.keys.length:Int) !=(a1.keys.length:Int))
def EM (N:Nat) (a0:(List UInt8)):Option (Bool):=
 Option.bind (Ky N) fun y1=>
 if y1=true then
  if(decide ((a0.length:Int)>2000))=true then
   some (true)
  else
   Option.bind (Fh N a0) fun y3=>
   if(y3.2.2 !=0)=true then
    some (true)
   else
    Option.bind (Ea N y3.1) fun y5=>
    Option.bind (Fh N y5.1) fun y7=>
    Option.bind (Ea N y7.1) fun y9=>
    if (y5.2==0)=true then
     if(y7.2.2==0)=true then
      if(y9.2==0)=true then
       if(y5.1==y9.1)=true then
        Option.bind (Cv N N y3.1 y7.1) fun y11=>
        some (y11)
       else
        some (false)
      else
       some (false)
     else
      some (false)
    else
     some (false)
 else
  some (false)
end Go.VM
