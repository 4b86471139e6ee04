import Derived.Test.YtcahkpfjpeomoaaGreatDoorTy
import Derived.Lib.Index
set_option linter.unusedVariables false
namespace Go.VM
def EU (N:Nat) (a0:(List UInt8)) (a1:Int):Option (Int):=
 some ((Go.Lib.indexByte a0 (JK a1)))
def Ct (N:Nat) (a0:(List UInt8)) (a1:(List UInt8)):Option (Int):=
 if((a1.length:Int)==1)=true then
  some (Go.Lib.indexByte a0 (a1.headD 0))
 else
  grd (a0.length<4294967281) (
  some (Go.Lib.index a0 a1))
def GX (N:Nat) (a0:(List UInt8)) (a1:(List UInt8)):Option ((List UInt8)×(List UInt8)×Bool):=
 Option.bind (Ct N a0 a1) fun y1=>
 if(decide (y1≥0))=true then
  Option.bind (sub a0 0 y1) fun x3=>
  Option.bind (sub a0 (wr .i64 (y1+(a1.length:Int))) (a0.length:Int)) fun x4=>
  some (x3,x4,true)
 else
  some (a0,[],false)
def strings_Cut (N:Nat) (a0:(List UInt8)) (a1:(List UInt8)):Option ((List UInt8)×(List UInt8)×Bool):=
 Option.bind (GX N a0 a1) fun y1=>
 some (y1.1,y1.2.1,y1.2.2)
def Ey (N:Nat) (a0:Int):Option (Bool):=
 if(decide (97≤(Qo .u8 a0 32)))=true then
  some ((decide ((Qo .u8 a0 32)≤122)))
 else
  some (false)
def CW (N:Nat) (a0:Int):Option (Bool):=
 if(decide (48≤a0))=true then
  some ((decide (a0≤57)))
 else
  some (false)
def M7 (N:Nat) (a0:Int):Option (Bool):=
 Option.bind (Ey N a0) fun y1=>
 if y1=true then
  some (true)
 else
  Option.bind (CW N a0) fun y3=>
  some (y3)
def strings_IndexByte (N:Nat) (a0:(List UInt8)) (a1:Int):Option (Int):=
 Option.bind (EU N a0 a1) fun y1=>
 some (y1)
def Mg (N:Nat) (a0:Int) (a1:(List UInt8)):Option (Bool):=
 Option.bind (strings_IndexByte N a1 a0) fun y1=>
 some ((decide (y1≥0)))
def Dl (N:Nat) (a0:Int):Option (Bool):=
 Option.bind (M7 N a0) fun y1=>
 if y1=true then
  some (true)
 else
  Option.bind (Mg N a0 ([45,46,95,126]:List UInt8)) fun y3=>
  some (y3)
def Gj (N:Nat) (a0:(List Int)) (a1:Int):Option ((List Int)):=
 Option.bind (idx ([48,49,50,51,52,53,54,55,56,57,65,66,67,68,69,70]:List UInt8) (AUJ .u8 a1 4)) fun x1=>
 Option.bind (idx ([48,49,50,51,52,53,54,55,56,57,65,66,67,68,69,70]:List UInt8) (Pk .u8 a1 15)) fun x2=>
 grd (CG (a0.length+3) 1) (
 some ((a0++[37,(AY x1),(AY x2)])))
def Jw (N:Nat) (a0:Int):Option (Bool):=
 Option.bind (CW N a0) fun y1=>
 if y1=true then
  some (true)
 else
  if(decide (97≤(Qo .u8 a0 32)))=true then
   some ((decide ((Qo .u8 a0 32)≤102)))
  else
   some (false)
def Kn (N:Nat) (a0:Int):Option (Int):=
 Option.bind (CW N a0) fun y1=>
 if y1=true then
  some ((wr .u8 (a0-48)))
 else
  some ((wr .u8 ((wr .u8 ((Qo .u8 a0 32)-97))+10)))
def Jd (N:Nat) (a0:(List UInt8)) (a1:Int):Option (Int×Bool):=
 AA (d:=.a (1,1) [(6,20)] [26] (fun j1:Bool=>[.bool j1])) (fun j1:Bool=>
  if j1=true then
   some (0,false)
  else
   Option.bind (idx a0 (wr .i64 (a1+1))) fun x11=>
   Option.bind (Kn N (AY x11)) fun y12=>
   Option.bind (idx a0 (wr .i64 (a1+2))) fun x14=>
   Option.bind (Kn N (AY x14)) fun y15=>
   some ((Qo .u8 (AYO .u8 y12 4) y15),true)) fun k2=>
 if(decide ((wr .i64 ((a0.length:Int)-a1))<3))=true then
  k2 true
 else
  Option.bind (idx a0 (wr .i64 (a1+1))) fun x5=>
  Option.bind (Jw N (AY x5)) fun y6=>
  if y6=true then
   Option.bind (idx a0 (wr .i64 (a1+2))) fun x8=>
   Option.bind (Jw N (AY x8)) fun y9=>
   k2 (!y9)
  else
   k2 true
def Dx (N:Nat) (a0:(List UInt8)) (a1:(List UInt8)) (k2:((List Int)→Option ((List UInt8)×Int))):Nat→Int→(List Int)→Option ((List UInt8)×Int)
  |0,_,_=>none
  |k+1,s7,bn=>
  if (decide (s7<(a0.length:Int)))=true then
   AA (d:=.b (1,31) [(4,2),(8,3),(20,37)] [7] (fun j6:Int×(List Int)=>[.int .i64 j6.1]) fun j6=>[.s ([.slice 1 (List.map (AVal.int .u8) j6.2) true])]) (fun j6:Int×(List Int)=>
    Dx N a0 a1 k2 k (wr .i64 (j6.1+1)) j6.2) fun k7=>
   Option.bind (idx a0 s7) fun x10=>
   if((AY x10)==37)=true then
    Option.bind (Jd N a0 s7) fun y11=>
    if y11.2=true then
     Option.bind (Dl N y11.1) fun y13=>
     if y13=true then
      grd (CG (bn.length+1) 1) (
      k7 ((wr .i64 (s7+2)),(bn++[y11.1])))
     else
      Option.bind (Gj N bn y11.1) fun y15=>
      k7 ((wr .i64 (s7+2)),y15)
    else
     some ([],2)
   else
    AA (d:=.a (17,1) [(45,8)] [44] (fun j17:Bool=>[.bool j17])) (fun j17:Bool=>
     if j17=true then
      grd (CG (bn.length+1) 1) (
      k7 (s7,(bn++[(AY x10)])))
     else
      some ([],1)) fun k18=>
    Option.bind (Dl N (AY x10)) fun y21=>
    if y21=true then
     k18 true
    else
     Option.bind (strings_IndexByte N a1 (AY x10)) fun y23=>
     k18 (decide (y23≥0))
  else
   k2 bn
def D6 (N:Nat) (a0:(List UInt8)) (a1:(List UInt8)):Option ((List UInt8)×Int):=
 if(decide ((a0.length:Int)>16384))=true then
  some ([],5)
 else
  AA (d:=.b (4,43) [(4,2),(7,4),(14,43)] [] (fun j1:(List Int)=>[]) fun j1=>[.s ([.slice 1 (List.map (AVal.int .u8) j1) true])]) (fun j1:(List Int)=>
   some ((List.map JK j1),0)) fun k2=>
  Dx N a0 a1 k2 N 0 []
def Gz (N:Nat) (a0:(List UInt8)) (k2:((List Int)→Option ((List UInt8)))):List UInt8→Int→(List Int)→Option ((List UInt8))
  |[],s10,bn=>
  k2 bn
  |xk5::xs,s10,bn=>
  AA (d:=.b (1,8) [(4,2),(12,14)] [] (fun j6:(List Int)=>[]) fun j6=>[.s (List.map (AVal.int .u8) j6)]) (fun j6:(List Int)=>
   Gz N a0 k2 xs (s10+1) j6) fun k7=>
  grd (0≤s10∧s10<(a0.length:Int)) (
  Option.bind (idx bn s10) fun x10=>
  AA (d:=.a (5,1) [(15,5)] [20] (fun j11:Bool=>[.bool j11])) (fun j11:Bool=>
   if j11=true then
    grd (s10.toNat+1≤bn.length) (
    k7 (bn.set s10.toNat (wr .u8 (x10+32))))
   else
    k7 bn) fun k12=>
  if(decide (65≤x10))=true then
   k12 (decide (x10≤90))
  else
   k12 false)
def Dp (N:Nat) (a0:(List UInt8)):Option ((List UInt8)):=
 AA (d:=.b (2,20) [(4,2),(8,19)] [] (fun j1:(List Int)=>[]) fun j1=>[.s (List.map (AVal.int .u8) j1)]) (fun j1:(List Int)=>
  grd (a0.length≤j1.length∧AB a0.length) (
  some ((List.map JK (List.take a0.length j1))))) fun k2=>
 grd (AB (a0.length)) (
  Gz N a0 k2 a0 0 (List.map AY a0))
def strings_Index (N:Nat) (a0:(List UInt8)) (a1:(List UInt8)):Option (Int):=
 Option.bind (Ct N a0 a1) fun y1=>
 some (y1)
def BO (N:Nat) (a0:(List UInt8)) (k2:(Int→Option (Int))):Nat→Int→Nat→Option (Int)
  |0,_,_=>none
  |k+1,s2,s4=>
  if(decide (s4<a0.length))=true then
   BO N a0 k2 k (wr .i64 (s2+1)) (s4+(C8 a0 s4).2)
  else
   k2 s2
def Cz (N:Nat) (a0:(List UInt8)):Option (Int):=
 AA (d:=.a (1,12) [(3,6)] [2] (fun j1:Int=>[.int .i64 j1])) (fun j1:Int=>
  some (j1)) fun k2=>
 BO N a0 k2 N 0 0
def Dh (N:Nat) (a0:(List UInt8)):Option (Int×Int):=
 if(decide ((a0.length:Int)<1))=true then
  some (65533,0)
 else
  Option.bind (idx a0 0) fun x1=>
  (none:Option (Int×Int))
def Be (N:Nat) (a0:(List UInt8)):Option (Int×Int):=
 AA (d:=.a (1,1) [(4,6)] [10] (fun j1:Bool=>[.bool j1])) (fun j1:Bool=>
  if j1=true then
   Option.bind (idx a0 0) fun x6=>
   some ((wr .i32 (AY x6)),1)
  else
   Option.bind (Dh N a0) fun y7=>
   some (y7.1,y7.2)) fun k2=>
 if(a0==[])=true then
  k2 false
 else
  Option.bind (idx a0 0) fun x5=>
  k2 (decide ((AY x5)<128))
def EK (N:Nat) (j3:Int) (k12:((List UInt8)×(List (List UInt8))→Option ((List (List UInt8))))):Nat→Int→(List UInt8)→(List (List UInt8))→Option ((List (List UInt8)))
  |0,s7,s0,bn6=>
  k12 (s0,bn6)
  |k+1,s7,s0,bn6=>
  Option.bind (Be N s0) fun y16=>
  Option.bind (sub s0 0 y16.2) fun x18=>
  grd (0≤s7∧s7<(j3.toNat:Int)) (
  grd (s7.toNat+1≤bn6.length) (
  Option.bind (sub s0 y16.2 (s0.length:Int)) fun x19=>
  EK N j3 k12 k (s7+1) x19 (bn6.set s7.toNat x18)))
def Jc (N:Nat) (a0:(List UInt8)) (a1:Int):Option ((List (List UInt8))):=
 Option.bind (Cz N a0) fun y1=>
 AA (d:=.a (2,5) [(12,8)] [1] (fun j3:Int=>[.int .i64 j3])) (fun j3:Int=>
  grd (Ru j3 16) (
  AA (d:=.b (5,18) [(7,3),(22,20)] [0] (fun j11:(List UInt8)×(List (List UInt8))=>[.str j11.1]) fun j11=>[.s (List.map AVal.str j11.2)]) (fun j11:(List UInt8)×(List (List UInt8))=>
   AA (d:=.b (11,5) [(42,7)] [] (fun j20:(List (List UInt8))=>[]) fun j20=>[.s (List.map AVal.str j20)]) (fun j20:(List (List UInt8))=>
    (none:Option ((List (List UInt8))))) fun k21=>
   if(decide (j3>0))=true then
    grd (0≤(wr .i64 (j3-1))∧(wr .i64 (j3-1))<(j3.toNat:Int)) (
    grd ((wr .i64 (j3-1)).toNat+1≤j11.2.length) (
    k21 (j11.2.set ((wr .i64 (j3-1)).toNat) j11.1)))
   else
    k21 j11.2) fun k12=>
  grd ((-4611686018427387904:Int)≤0∧((wr .i64 (j3-1)):Int)≤4611686018427387904) (
   EK N j3 k12 (((wr .i64 (j3-1)):Int)-0).toNat 0 a0 (List.replicate j3.toNat ([]:List UInt8))))) fun k4=>
 AA (d:=.a (2,1) [(12,6)] [18] (fun j7:Bool=>[.bool j7])) (fun j7:Bool=>
  if j7=true then
   k4 y1
  else
   k4 a1) fun k8=>
 if(decide (a1<0))=true then
  k8 true
 else
  k8 (decide (a1>y1))
def E9 (N:Nat) (a1:(List UInt8)):Nat→(List UInt8)→Int→Option (Int)
  |0,_,_=>none
  |k+1,s0,s5=>
  Option.bind (strings_Index N s0 a1) fun y5=>
  if(y5==(-1))=true then
   some (s5)
  else
   Option.bind (sub s0 (wr .i64 (y5+(a1.length:Int))) (s0.length:Int)) fun x7=>
   E9 N a1 k x7 (wr .i64 (s5+1))
def strings_Count (N:Nat) (a0:(List UInt8)) (a1:(List UInt8)):Option (Int):=
 if((a1.length:Int)==0)=true then
  Option.bind (Cz N a0) fun y1=>
  some ((wr .i64 (y1+1)))
 else
  if((a1.length:Int)==1)=true then
   Option.bind (idx a1 0) fun x3=>
   some (((Go.Lib.countByte a0 (JK (AY x3)):Nat):Int))
  else
   E9 N a1 N a0 0
def DR (N:Nat) (a0:(List UInt8)) (a1:(List UInt8)) (a2:Int) (j3:Int) (k10:((List UInt8)×Int×(List (List UInt8))→Option ((List (List UInt8))))):Nat→Int→(List UInt8)→(List (List UInt8))→Option ((List (List UInt8)))
  |0,s10,s0,bn6=>
  k10 (s0,s10,bn6)
  |k+1,s10,s0,bn6=>
  Option.bind (strings_Index N s0 a1) fun y14=>
  if(decide (y14<0))=true then
   k10 (s0,s10,bn6)
  else
   Option.bind (sub s0 0 (wr .i64 (y14+a2))) fun x16=>
   grd (0≤s10∧s10<((if(wr .i64 ((a0.length:Int)+1))<j3 then(wr .i64 ((a0.length:Int)+1))else j3).toNat:Int)) (
   grd (s10.toNat+1≤bn6.length) (
   Option.bind (sub s0 (wr .i64 (y14+(a1.length:Int))) (s0.length:Int)) fun x17=>
   DR N a0 a1 a2 j3 k10 k (s10+1) x17 (bn6.set s10.toNat x16)))
def strings_genSplit (N:Nat) (a0:(List UInt8)) (a1:(List UInt8)) (a2:Int) (a3:Int):Option ((List (List UInt8))):=
 if(a3==0)=true then
  (none:Option ((List (List UInt8))))
 else
  if(a1==[])=true then
   Option.bind (Jc N a0 a3) fun y1=>
   (none:Option ((List (List UInt8))))
  else
   AA (d:=.a (5,5) [(19,6)] [3] (fun j3:Int=>[.int .i64 j3])) (fun j3:Int=>
    grd (Ru (if(wr .i64 ((a0.length:Int)+1))<j3 then(wr .i64 ((a0.length:Int)+1))else j3) 16) (
    AA (d:=.b (0,22) [(11,1),(34,24)] [0,10] (fun j9:(List UInt8)×Int×(List (List UInt8))=>[.str j9.1,.int .i64 j9.2.1]) fun j9=>[.s (List.map AVal.str j9.2.2)]) (fun j9:(List UInt8)×Int×(List (List UInt8))=>
     grd (0≤j9.2.1∧j9.2.1<((if(wr .i64 ((a0.length:Int)+1))<j3 then(wr .i64 ((a0.length:Int)+1))else j3).toNat:Int)) (
     grd (j9.2.1.toNat+1≤j9.2.2.length) (
     grd (0≤(wr .i64 (j9.2.1+1))∧(wr .i64 (j9.2.1+1))≤((if(wr .i64 ((a0.length:Int)+1))<j3 then(wr .i64 ((a0.length:Int)+1))else j3).toNat:Int)) (
     grd ((wr .i64 (j9.2.1+1)).toNat≤j9.2.2.length) (
     some (List.take ((wr .i64 (j9.2.1+1)).toNat) (j9.2.2.set j9.2.1.toNat j9.1))))))) fun k10=>
    grd ((-4611686018427387904:Int)≤0∧((wr .i64 ((if(wr .i64 ((a0.length:Int)+1))<j3 then(wr .i64 ((a0.length:Int)+1))else j3)-1)):Int)≤4611686018427387904) (
     DR N a0 a1 a2 j3 k10 (((wr .i64 ((if(wr .i64 ((a0.length:Int)+1))<j3 then(wr .i64 ((a0.length:Int)+1))else j3)-1)):Int)-0).toNat 0 a0 (List.replicate (if(wr .i64 ((a0.length:Int)+1))<j3 then(wr .i64 ((a0.length:Int)+1))else j3).toNat ([]:List UInt8))))) fun k4=>
   if(decide (a3<0))=true then
    Option.bind (strings_Count N a0 a1) fun y7=>
    k4 (wr .i64 (y7+1))
   else
    k4 a3
def strings_Split (N:Nat) (a0:(List UInt8)) (a1:(List UInt8)):Option ((List (List UInt8))):=
 Option.bind (strings_genSplit N a0 a1 0 (-1)) fun y1=>
 some (y1)
def Lr (N:Nat) (a0:Int):Option (Int):=
 Option.bind (CW N a0) fun y1=>
 if y1=true then
  some ((wr .u64 (wr .u8 (a0-48))))
 else
  some ((wr .u64 ((wr .u64 (wr .u8 ((Qo .u8 a0 32)-97)))+10)))
def Bh (N:Nat) (a1:Int) (a2:Int) (k9:(Int→Option (Int×Int))):List UInt8→Int→Option (Int×Int)
  |[],s11=>
  k9 s11
  |xk12::xs,s11=>
  Option.bind (Lr N (AY xk12)) fun y13=>
  AA (d:=.a (14,1) [(37,14)] [51] (fun j15:Bool=>[.bool j15])) (fun j15:Bool=>
   if j15=true then
    some (0,4)
   else
    Bh N a1 a2 k9 xs (wr .u64 ((wr .u64 (s11 * a1))+y13))) fun k16=>
  grd (a1≠0) (
  if(decide (s11>(wr .u64 ((wr .u64 (18446744073709551615-y13)).tdiv a1))))=true then
   k16 true
  else
   k16 (decide ((wr .u64 ((wr .u64 (s11 * a1))+y13))>a2)))
def Bg (N:Nat) (k2:(Unit→Option (Int×Int))):List UInt8→Option (Int×Int)
  |[]=>
  k2 ()
  |xk5::xs=>
  Option.bind (CW N (AY xk5)) fun y6=>
  if y6=true then
   Bg N k2 xs
  else
   some (0,1)
def Es (N:Nat) (a0:(List UInt8)) (a1:Int) (a2:Int):Option (Int×Int):=
 if(a0==[])=true then
  some (0,3)
 else
  AA (d:=.a (3,22) [(8,3),(16,12)] [] (fun j1:Unit=>[])) (fun j1:Unit=>
   AA (d:=.a (10,26) [(8,2),(12,2),(28,30)] [11] (fun j8:Int=>[.int .u64 j8])) (fun j8:Int=>
    some (j8,0)) fun k9=>
   grd (AB (a0.length)) (
    Bh N a1 a2 k9 a0 0)) fun k2=>
  grd (AB (a0.length)) (
   Bg N k2 a0)
def I4 (N:Nat) (a0:(List UInt8)) (a1:Int):Option (Int×Int):=
 Option.bind (Es N a0 10 a1) fun y1=>
 some (y1.1,y1.2)
def Bp (N:Nat) (k2:(Unit→Option (Bool))):List UInt8→Option (Bool)
  |[]=>
  k2 ()
  |xk5::xs=>
  Option.bind (CW N (AY xk5)) fun y6=>
  if y6=true then
   Bp N k2 xs
  else
   some (false)
def FJ (N:Nat) (a0:(List UInt8)):Option (Bool):=
 AA (d:=.a (1,22) [(4,14)] [] (fun j1:Unit=>[])) (fun j1:Unit=>
  some (true)) fun k2=>
 grd (AB (a0.length)) (
  Bp N k2 a0)
def KN (N:Nat) (a0:(List UInt8)):Option (Bool):=
 if(a0==[])=true then
  some (false)
 else
  Option.bind (FJ N a0) fun y1=>
  some (y1)
def JW (N:Nat) (a0:(List UInt8)) (a1:Int):Option (Int×Int):=
 AA (d:=.a (1,1) [(6,11)] [17] (fun j1:Bool=>[.bool j1])) (fun j1:Bool=>
  if j1=true then
   some (0,6)
  else
   Option.bind (I4 N a0 a1) fun y8=>
   some (y8.1,y8.2)) fun k2=>
 Option.bind (KN N a0) fun y5=>
 if y5=true then
  if(decide ((a0.length:Int)>1))=true then
   Option.bind (idx a0 0) fun x7=>
   k2 ((AY x7)==48)
  else
   k2 false
 else
  k2 false
def Gv (N:Nat) (k4:(Unit→Option (Bool))):List (List UInt8)→Option (Bool)
  |[]=>
  k4 ()
  |xk7::xs=>
  Option.bind (JW N xk7 255) fun y8=>
  if(y8.2 !=0)=true then
   some (false)
  else
   Gv N k4 xs
def M0 (N:Nat) (a0:(List UInt8)):Option (Bool):=
 Option.bind (strings_Split N a0 ([46]:List UInt8)) fun y1=>
 if((y1.length:Int) !=4)=true then
  some (false)
 else
  AA (d:=.a (4,24) [(2,1),(5,3),(13,14)] [] (fun j3:Unit=>[])) (fun j3:Unit=>
   some (true)) fun k4=>
  grd (AB (y1.length)) (
   Gv N k4 y1)
def IB (N:Nat) (k8:(Unit→Option (Bool))):List UInt8→Option (Bool)
  |[]=>
  k8 ()
  |xk11::xs=>
  AA (d:=.a (6,1) [(29,17)] [46] (fun j12:Bool=>[.bool j12])) (fun j12:Bool=>
   if j12=true then
    some (false)
   else
    IB N k8 xs) fun k13=>
  Option.bind (Ey N (AY xk11)) fun y16=>
  if y16=true then
   k13 false
  else
   Option.bind (CW N (AY xk11)) fun y18=>
   if y18=true then
    k13 false
   else
    k13 ((AY xk11) !=45)
def RI (N:Nat) (a0:(List UInt8)):Option (Bool):=
 AA (d:=.a (1,1) [(4,19)] [23] (fun j1:Bool=>[.bool j1])) (fun j1:Bool=>
  if j1=true then
   some (false)
  else
   AA (d:=.a (3,22) [(2,2),(24,24)] [] (fun j7:Unit=>[])) (fun j7:Unit=>
    some (true)) fun k8=>
   grd (AB (a0.length)) (
    IB N k8 a0)) fun k2=>
 if(a0==[])=true then
  k2 true
 else
  if(decide ((a0.length:Int)>63))=true then
   k2 true
  else
   Option.bind (idx a0 0) fun x5=>
   if((AY x5)==45)=true then
    k2 true
   else
    Option.bind (idx a0 (wr .i64 ((a0.length:Int)-1))) fun x6=>
    k2 ((AY x6)==45)
def I5 (N:Nat):Nat→(List UInt8)→Option (Bool)
  |0,_=>none
  |k+1,s0=>
  Option.bind (strings_Cut N s0 ([46]:List UInt8)) fun y2=>
  Option.bind (RI N y2.1) fun y4=>
  if y4=true then
   if y2.2.2=true then
    I5 N k y2.2.1
   else
    Option.bind (KN N y2.1) fun y6=>
    some ((!y6))
  else
   some (false)
def Tv (N:Nat) (a0:(List UInt8)):Option (Bool):=
 I5 N N a0
def Nh (N:Nat) (a0:(List UInt8)):Option ((List UInt8)×Int):=
 if(a0==[])=true then
  some ([],3)
 else
  if(decide ((a0.length:Int)>253))=true then
   some ([],5)
  else
   AA (d:=.a (5,1) [(12,8)] [11] (fun j1:Bool=>[.bool j1])) (fun j1:Bool=>
    if j1=true then
     some ([],50)
    else
     Option.bind (Dp N a0) fun y9=>
     some (y9,0)) fun k2=>
   Option.bind (M0 N a0) fun y5=>
   if y5=true then
    k2 false
   else
    Option.bind (Tv N a0) fun y7=>
    k2 (!y7)
def GA (N:Nat) (a0:(List UInt8)) (a1:(List UInt8)):Option (Bool):=
 Option.bind (Dp N a0) fun y1=>
 Option.bind (Dp N a1) fun y3=>
 some ((y1==y3))
def V8 (N:Nat) (a0:(List UInt8)):Option ((List UInt8)×(List UInt8)×Int):=
 if(decide ((a0.length:Int)>4096))=true then
  some ([],[],5)
 else
  AA (d:=.a (3,1) [(9,8)] [17] (fun j1:Bool=>[.bool j1])) (fun j1:Bool=>
   if j1=true then
    some ([],[],60)
   else
    Option.bind (sub a0 5 (a0.length:Int)) fun x8=>
    Option.bind (strings_Cut N x8 ([64]:List UInt8)) fun y9=>
    if y9.2.2=true then
     some (y9.1,y9.2.1,0)
    else
     some ([],[],6)) fun k2=>
  if(decide ((a0.length:Int)<5))=true then
   k2 true
  else
   Option.bind (sub a0 0 5) fun x5=>
   Option.bind (GA N x5 ([97,99,99,116,58]:List UInt8)) fun y6=>
   k2 (!y6)
def RY (N:Nat) (a0:(List UInt8)):Option (ApiAcct×Int):=
 Option.bind (V8 N a0) fun y1=>
 if(y1.2.2 !=0)=true then
  some ((ApiAcct.mk [] []),y1.2.2)
 else
  Option.bind (D6 N y1.1 ([33,36,38,39,40,41,42,43,44,59,61]:List UInt8)) fun y3=>
  AA (d:=.a (5,1) [(23,10)] [33] (fun j5:Bool=>[.bool j5])) (fun j5:Bool=>
   if j5=true then
    some ((ApiAcct.mk [] []),80)
   else
    Option.bind (Nh N y1.2.1) fun y10=>
    if(y10.2 !=0)=true then
     some ((ApiAcct.mk [] []),y10.2)
    else
     some ((ApiAcct.mk y3.1 y10.1),0)) fun k6=>
  if(y3.2 !=0)=true then
   k6 true
  else
   if(y3.1==[])=true then
    k6 true
   else
    Option.bind (idx y3.1 0) fun x9=>
    k6 ((AY x9)==37)
def PH (N:Nat) (a0:ApiAcct):Option ((List UInt8)):=
 grd (AB (([97,99,99,116,58]:List UInt8).length+a0.user.length)) (
 grd (AB ((([97,99,99,116,58]:List UInt8)++a0.user).length+([64]:List UInt8).length)) (
 grd (AB (((([97,99,99,116,58]:List UInt8)++a0.user)++([64]:List UInt8)).length+a0.host.length)) (
 some ((((([97,99,99,116,58]:List UInt8)++a0.user)++([64]:List UInt8))++a0.host)))))
def KS (N:Nat) (a0:(List UInt8)):Option (ApiID×Int):=
 Option.bind (RY N a0) fun y1=>
 if(y1.2 !=0)=true then
  some ((ApiID.mk 0 [] [] 0),y1.2)
 else
  Option.bind (PH N y1.1) fun y3=>
  some ((ApiID.mk 1 y3 y1.1.host 0),0)
def JM (N:Nat) (a0:Int):Option (Int):=
 some ((wr .i64 ((wr .i64 (a0+16)).tdiv 8)))
def Hw (N:Nat) (a0:Int):Option (Bool):=
 AA (d:=.a (1,1) [(4,6)] [3] (fun j1:Bool=>[.bool j1])) (fun j1:Bool=>
  if j1=true then
   some (true)
  else
   AA (d:=.a (3,1) [(11,6)] [10] (fun j5:Bool=>[.bool j5])) (fun j5:Bool=>
    if j5=true then
     some (true)
    else
     some (false)) fun k6=>
   if(decide (57343<a0))=true then
    k6 (decide (a0≤1114111))
   else
    k6 false) fun k2=>
 if(decide (0≤a0))=true then
  k2 (decide (a0<55296))
 else
  k2 false
def Du (N:Nat) (a0:(List UInt8)) (a1:Int) (j19:Int) (k29:(Unit→Option (Int))):Nat→Int→Option (Int)
  |0,s12=>
  k29 ()
  |k+1,s12=>
  Option.bind (idx a0 (wr .i64 (j19-s12))) fun x33=>
  Option.bind (idx (LJ a1) (wr .i64 ((wr .i64 (((LJ a1).length:Int)-1))-s12))) fun x34=>
  if((AY x33) !=(AY x34))=true then
   (none:Option (Int))
  else
   Du N a0 a1 j19 k29 k (s12+1)
def Ea (N:Nat) (a0:(List UInt8)) (a1:Int) (k15:(Unit→Option (Int))):Nat→Int→Option (Int)
  |0,_=>none
  |k+1,s9=>
  if(decide (s9<(a0.length:Int)))=true then
   AA (d:=.a (6,15) [(4,1),(11,1),(27,21)] [9] (fun j19:Int=>[.int .i64 j19])) (fun j19:Int=>
    AA (d:=.a (11,18) [(12,1),(48,17)] [] (fun j28:Unit=>[])) (fun j28:Unit=>
     some ((wr .i64 (j19-(wr .i64 (((LJ a1).length:Int)-1)))))) fun k29=>
    grd ((-4611686018427387904:Int)≤1∧(((LJ a1).length:Int):Int)≤4611686018427387904) (
     Du N a0 a1 j19 k29 ((((LJ a1).length:Int):Int)-1).toNat 1)) fun k20=>
   Option.bind (idx a0 s9) fun x23=>
   Option.bind (idx (LJ a1) (wr .i64 (((LJ a1).length:Int)-1))) fun x24=>
   if((AY x23) !=(AY x24))=true then
    Option.bind (sub a0 (wr .i64 (s9+1)) (a0.length:Int)) fun x25=>
    Option.bind (strings_IndexByte N x25 (AY x24)) fun y26=>
    if(decide (y26<0))=true then
     some ((-1))
    else
     k20 (wr .i64 (s9+(wr .i64 (y26+1))))
   else
    k20 s9
  else
   k15 ()
def Dw (N:Nat) (a0:(List UInt8)) (k8:(Unit→Option (Int))):Nat→Nat→Option (Int)
  |0,_=>none
  |k+1,s175=>
  if(decide (s175<a0.length))=true then
   if(((C8 a0 s175).1:Int)==65533)=true then
    some (((s175:Nat):Int))
   else
    Dw N a0 k8 k (s175+(C8 a0 s175).2)
  else
   k8 ()
def GH (N:Nat) (a0:(List UInt8)) (a1:Int):Option (Int):=
 AA (d:=.a (34,1) [(161,6)] [160] (fun j1:Bool=>[.bool j1])) (fun j1:Bool=>
  if j1=true then
   Option.bind (strings_IndexByte N a0 (wr .u8 a1)) fun y5=>
   some (y5)
  else
   if(a1==65533)=true then
    AA (d:=.a (37,20) [(4,3),(174,9)] [] (fun j7:Unit=>[])) (fun j7:Unit=>
     some ((-1))) fun k8=>
    Dw N a0 k8 N 0
   else
    Option.bind (Hw N a1) fun y12=>
    if y12=true then
     AA (d:=.a (1,60) [(4,1),(9,4),(23,76)] [] (fun j14:Unit=>[])) (fun j14:Unit=>
      some ((-1))) fun k15=>
     Ea N a0 a1 k15 N (wr .i64 (((LJ a1).length:Int)-1))
    else
     some ((-1))) fun k2=>
 if(decide (0≤a1))=true then
  k2 (decide (a1<128))
 else
  k2 false
def strings_shouldUseASCIISet (N:Nat) (a0:Int):Option (Bool):=
 some ((decide (a0>8)))
def Co (N:Nat) (k2:((List Bool)→Option ((List Bool)×Bool))):List UInt8→(List Bool)→Option ((List Bool)×Bool)
  |[],bn=>
  k2 bn
  |xk5::xs,bn=>
  if(decide ((AY xk5)≥128))=true then
   grd (bn.length=256) (
   some (bn,false))
  else
   grd (0≤(AY xk5)∧(AY xk5)<256) (
   grd ((AY xk5).toNat+1≤bn.length) (
   Co N k2 xs (bn.set ((AY xk5).toNat) true)))
def strings_makeASCIISet (N:Nat) (a0:(List UInt8)):Option ((List Bool)×Bool):=
 AA (d:=.b (1,24) [(3,17)] [] (fun j1:(List Bool)=>[]) fun j1=>[.s (List.map AVal.bool j1)]) (fun j1:(List Bool)=>
  grd (j1.length=256) (
  some (j1,true))) fun k2=>
 grd (AB (a0.length)) (
  Co N k2 a0 (AKn 256))
def DI (N:Nat) (a0:(List Bool)) (a1:Int):Option (Bool×(List Bool)):=
 grd (0≤a1∧a1<256) (
 Option.bind (idx a0 a1) fun x1=>
 some (x1,a0))
def EC (N:Nat) (a0:(List UInt8)) (a1:(List UInt8)) (k24:(Unit→Option (Int))):Nat→Nat→Option (Int)
  |0,_=>none
  |k+1,s45=>
  if(decide (s45<a0.length))=true then
   Option.bind (GH N a1 ((C8 a0 s45).1:Int)) fun y28=>
   if(decide (y28≥0))=true then
    some (((s45:Nat):Int))
   else
    EC N a0 a1 k24 k (s45+(C8 a0 s45).2)
  else
   k24 ()
def EA (N:Nat) (k17:((List Bool)→Option (Int))):List UInt8→Int→(List Bool)→Option (Int)
  |[],s8,bn15=>
  k17 bn15
  |xk20::xs,s8,bn15=>
  Option.bind (DI N bn15 (AY xk20)) fun y21=>
  if y21.1=true then
   some (s8)
  else
   EA N k17 xs (s8+1) y21.2
def strings_IndexAny (N:Nat) (a0:(List UInt8)) (a1:(List UInt8)):Option (Int):=
 if(a1==[])=true then
  some ((-1))
 else
  if((a1.length:Int)==1)=true then
   Option.bind (idx a1 0) fun x1=>
   AA (d:=.a (5,5) [(19,2)] [5] (fun j2:Int=>[.int .i32 j2])) (fun j2:Int=>
    Option.bind (GH N a0 j2) fun y6=>
    some (y6)) fun k3=>
   if(decide ((wr .i32 (AY x1))≥128))=true then
    k3 65533
   else
    k3 (wr .i32 (AY x1))
  else
   AA (d:=.a (8,34) [(4,1),(6,3),(24,20)] [] (fun j8:Unit=>[])) (fun j8:Unit=>
    AA (d:=.a (17,20) [(4,1),(9,2),(44,11)] [] (fun j23:Unit=>[])) (fun j23:Unit=>
     some ((-1))) fun k24=>
    EC N a0 a1 k24 N 0) fun k9=>
   Option.bind (strings_shouldUseASCIISet N (a0.length:Int)) fun y12=>
   if y12=true then
    Option.bind (strings_makeASCIISet N a1) fun y14=>
    grd ((AKn 256).length=256) (
    grd (y14.1.length=256) (
    if y14.2=true then
     AA (d:=.b (11,20) [(4,1),(8,1),(33,11)] [] (fun j16:(List Bool)=>[]) fun j16=>[.s (List.map AVal.bool j16)]) (fun j16:(List Bool)=>
      some ((-1))) fun k17=>
     grd (AB (a0.length)) (
      EA N k17 a0 0 y14.1)
    else
     k9 ()))
   else
    k9 ()
def strings_ContainsAny (N:Nat) (a0:(List UInt8)) (a1:(List UInt8)):Option (Bool):=
 Option.bind (strings_IndexAny N a0 a1) fun y1=>
 some ((decide (y1≥0)))
def Ef (N:Nat) (a0:(List UInt8)) (k2:((List Int)→Option ((List UInt8)×Int))):Nat→(List Int)→Int→Option ((List UInt8)×Int)
  |0,_,_=>none
  |k+1,s4,s5=>
  if(decide (s5<(a0.length:Int)))=true then
   Option.bind (idx a0 s5) fun x6=>
   AA (d:=.a (8,17) [(2,2),(7,2),(21,13)] [5,6] (fun j7:Int×Int=>[.int .i64 j7.1,.int .u8 j7.2])) (fun j7:Int×Int=>
    grd (CG (s4.length+1) 1) (
    Ef N a0 k2 k (s4++[j7.2]) (wr .i64 (j7.1+1)))) fun k8=>
   if((AY x6)==37)=true then
    Option.bind (Jd N a0 s5) fun y11=>
    if y11.2=true then
     k8 ((wr .i64 (s5+2)),y11.1)
    else
     some ([],2)
   else
    k8 (s5,(AY x6))
  else
   k2 s4
def FL (N:Nat) (a0:(List UInt8)):Option ((List UInt8)×Int):=
 if(decide ((a0.length:Int)>16384))=true then
  some ([],5)
 else
  AA (d:=.a (4,34) [(2,2),(5,4),(12,26)] [4] (fun j1:(List Int)=>[.slice 1 (List.map (AVal.int .u8) j1) true])) (fun j1:(List Int)=>
   some ((List.map JK j1),0)) fun k2=>
  Ef N a0 k2 N [] 0
def TL (N:Nat) (a0:Int):Option (Bool):=
 Option.bind (Ey N a0) fun y1=>
 if y1=true then
  some (true)
 else
  Option.bind (CW N a0) fun y3=>
  if y3=true then
   some (true)
  else
   Option.bind (strings_IndexByte N ([33,35,36,37,38,39,42,43,45,47,61,63,94,95,96,123,124,125,126]:List UInt8) a0) fun y5=>
   some ((decide (y5≥0)))
def H9 (N:Nat) (k2:(Bool→Option (Bool))):List UInt8→Bool→Option (Bool)
  |[],s3=>
  k2 s3
  |xk5::xs,s3=>
  AA (d:=.a (5,1) [(10,19)] [29] (fun j6:Bool=>[.bool j6])) (fun j6:Bool=>
   if j6=true then
    some (false)
   else
    H9 N k2 xs ((AY xk5)==46)) fun k7=>
  if((AY xk5) !=46)=true then
   Option.bind (TL N (AY xk5)) fun y10=>
   if y10=true then
    if((AY xk5)==46)=true then
     k7 s3
    else
     k7 false
   else
    k7 true
  else
   if((AY xk5)==46)=true then
    k7 s3
   else
    k7 false
def Qj (N:Nat) (a0:(List UInt8)):Option (Bool):=
 AA (d:=.a (2,24) [(2,1),(4,31)] [3] (fun j1:Bool=>[.bool j1])) (fun j1:Bool=>
  if j1=true then
   some (false)
  else
   some ((decide ((a0.length:Int)≤64)))) fun k2=>
 grd (AB (a0.length)) (
  H9 N k2 a0 true)
def IG (N:Nat) (k18:(Unit→Option (ApiMail×Int))):List UInt8→Option (ApiMail×Int)
  |[]=>
  k18 ()
  |xk21::xs=>
  AA (d:=.a (12,1) [(47,7)] [54] (fun j22:Bool=>[.bool j22])) (fun j22:Bool=>
   if j22=true then
    some ((ApiMail.mk [] []),1)
   else
    IG N k18 xs) fun k23=>
  Option.bind (Dl N (AY xk21)) fun y26=>
  if y26=true then
   k23 false
  else
   Option.bind (strings_IndexByte N ([37,33,36,39,42,43]:List UInt8) (AY xk21)) fun y28=>
   k23 (decide (y28<0))
def Q0 (N:Nat) (a0:(List UInt8)):Option (ApiMail×Int):=
 if(decide ((a0.length:Int)>4096))=true then
  some ((ApiMail.mk [] []),5)
 else
  AA (d := .a (3,1) [(15,8)] [23] (fun j1:Bool=>[.bool j1])) (fun j1:Bool=>
   if j1=true then
    some ((ApiMail.mk [] []),60)
   else
    Option.bind (sub a0 7 (a0.length:Int)) fun x8=>
    Option.bind (strings_Cut N x8 ([64]:List UInt8)) fun y9=>
    AA (d:=.a (6,1) [(32,5)] [37] (fun j11:Bool=>[.bool j11])) (fun j11:Bool=>
     if j11=true then
      some ((ApiMail.mk [] []),6)
     else
      AA (d:=.a (8,24) [(3,1),(7,2),(39,18)] [] (fun j17:Unit=>[])) (fun j17:Unit=>
       Option.bind (FL N y9.1) fun y30=>
       if(y30.2 !=0)=true then
        some ((ApiMail.mk [] []),y30.2)
       else
        Option.bind (Qj N y30.1) fun y32=>
        if y32=true then
         Option.bind (Nh N y9.2.1) fun y34=>
         if(y34.2 !=0)=true then
          some ((ApiMail.mk [] []),y34.2)
         else
          Option.bind (M0 N y34.1) fun y36=>
          if y36=true then
           some ((ApiMail.mk [] []),50)
          else
           some ((ApiMail.mk y30.1 y34.1),0)
        else
         some ((ApiMail.mk [] []),80)) fun k18=>
      grd (AB (y9.1.length)) (
       IG N k18 y9.1)) fun k12=>
    if y9.2.2=true then
     Option.bind (strings_ContainsAny N a0 ([63,35]:List UInt8)) fun y15=>
     k12 y15
    else
     k12 true) fun k2=>
  if(decide ((a0.length:Int)<7))=true then
   k2 true
  else
   Option.bind (sub a0 0 7) fun x5=>
   Option.bind (GA N x5 ([109,97,105,108,116,111,58]:List UInt8)) fun y6=>
   k2 (!y6)
def El (N:Nat) (a1:(List UInt8)) (k2:((List Int)→Option ((List UInt8)))):List UInt8→(List Int)→Option ((List UInt8))
  |[],bn=>
  k2 bn
  |xk5::xs,bn=>
  AA (d:=.b (1,10) [(6,2),(12,22)] [] (fun j6:(List Int)=>[]) fun j6=>[.s ([.slice 1 (List.map (AVal.int .u8) j6) true])]) (fun j6:(List Int)=>
   El N a1 k2 xs j6) fun k7=>
  AA (d:=.a (6,1) [(16,11)] [27] (fun j10:Bool=>[.bool j10])) (fun j10:Bool=>
   if j10=true then
    grd (CG (bn.length+1) 1) (
    k7 (bn++[(AY xk5)]))
   else
    Option.bind (Gj N bn (AY xk5)) fun y18=>
    k7 y18) fun k11=>
  Option.bind (Dl N (AY xk5)) fun y14=>
  if y14=true then
   k11 true
  else
   if((AY xk5) !=37)=true then
    Option.bind (strings_IndexByte N a1 (AY xk5)) fun y16=>
    k11 (decide (y16≥0))
   else
    k11 false
def FU (N:Nat) (a0:(List UInt8)) (a1:(List UInt8)):Option ((List UInt8)):=
 AA (d:=.b (2,22) [(6,29)] [] (fun j1:(List Int)=>[]) fun j1=>[.s ([.slice 1 (List.map (AVal.int .u8) j1) true])]) (fun j1:(List Int)=>
  some ((List.map JK j1))) fun k2=>
 grd (AB (a0.length)) (
  El N a1 k2 a0 [])
def Pj (N:Nat) (a0:ApiMail):Option ((List UInt8)):=
 Option.bind (FU N a0.local_ ([33,36,39,42,43]:List UInt8)) fun y1=>
 grd (AB (([109,97,105,108,116,111,58]:List UInt8).length+y1.length)) (
 grd (AB ((([109,97,105,108,116,111,58]:List UInt8)++y1).length+([64]:List UInt8).length)) (
 grd (AB (((([109,97,105,108,116,111,58]:List UInt8)++y1)++([64]:List UInt8)).length+a0.host.length)) (
 some ((((([109,97,105,108,116,111,58]:List UInt8)++y1)++([64]:List UInt8))++a0.host)))))
def KJ (N:Nat) (a0:(List UInt8)):Option (ApiID×Int):=
 Option.bind (Q0 N a0) fun y1=>
 if(y1.2 !=0)=true then
  some ((ApiID.mk 0 [] [] 0),y1.2)
 else
  Option.bind (Pj N y1.1) fun y3=>
  some ((ApiID.mk 2 y3 y1.1.host 0),0)
def FC (N:Nat) (k2:(Int×Int×(List Int)→Option ((List UInt8)))):Nat→Int→Int→(List Int)→Option ((List UInt8))
  |0,_,_,_=>none
  |k+1,s0,s4,bn=>
  if(decide (s0≥10))=true then
   grd (0≤s4∧s4<20) (
   grd (s4.toNat+1≤bn.length) (
   FC N k2 k (wr .u64 (s0.tdiv 10)) (wr .i64 (s4-1)) (bn.set s4.toNat (wr .u8 (wr .u64 (48+(s0.tmod 10)))))))
  else
   k2 (s0,s4,bn)
def GZ (N:Nat) (a0:Int):Option ((List UInt8)):=
 AA (d:=.b (0,14) [(5,12)] [0,4] (fun j1:Int×Int×(List Int)=>[.int .u64 j1.1,.int .i64 j1.2.1]) fun j1=>[.s (List.map (AVal.int .u8) j1.2.2)]) (fun j1:Int×Int×(List Int)=>
  grd (0≤j1.2.1∧j1.2.1<20) (
  grd (j1.2.1.toNat+1≤j1.2.2.length) (
  grd (0≤j1.2.1∧j1.2.1≤20) (
  grd ((20-j1.2.1.toNat)≤j1.2.2.length-j1.2.1.toNat∧AB (20-j1.2.1.toNat)) (
  some ((List.map JK (List.take (20-j1.2.1.toNat) (List.drop j1.2.1.toNat (j1.2.2.set j1.2.1.toNat (wr .u8 (wr .u64 (48+j1.1))))))))))))) fun k2=>
 FC N k2 N a0 19 (List.replicate 20 0)
def Ps (N:Nat) (a0:ApiHostPort):Option ((List UInt8)):=
 if(a0.port==0)=true then
  some (a0.host)
 else
  if(decide (a0.port<0))=true then
   grd (AB (a0.host.length+([58,45]:List UInt8).length)) (
   Option.bind (GZ N (wr .u64 (0-(wr .u64 a0.port)))) fun y1=>
   grd (AB ((a0.host++([58,45]:List UInt8)).length+y1.length)) (
   some (((a0.host++([58,45]:List UInt8))++y1))))
  else
   grd (AB (a0.host.length+([58]:List UInt8).length)) (
   Option.bind (GZ N (wr .u64 a0.port)) fun y3=>
   grd (AB ((a0.host++([58]:List UInt8)).length+y3.length)) (
   some (((a0.host++([58]:List UInt8))++y3))))
def Kr (N:Nat) (a0:ApiURL):Option (ApiHostPort):=
 some ((ApiHostPort.mk a0.host a0.port))
def Kw (N:Nat) (a0:ApiURL):Option ((List UInt8)):=
 if a0.hasQuery=true then
  grd (AB (a0.path.length+([63]:List UInt8).length)) (
  grd (AB ((a0.path++([63]:List UInt8)).length+a0.query.length)) (
  some (((a0.path++([63]:List UInt8))++a0.query))))
 else
  some (a0.path)
def Ez (N:Nat) (a0:ApiURL):Option ((List UInt8)):=
 Option.bind (Kr N a0) fun y1=>
 Option.bind (Ps N y1) fun y3=>
 grd (AB (([104,116,116,112,115,58,47,47]:List UInt8).length+y3.length)) (
 Option.bind (Kw N a0) fun y5=>
 grd (AB ((([104,116,116,112,115,58,47,47]:List UInt8)++y3).length+y5.length)) (
 AA (d:=.a (2,5) [(11,7)] [3] (fun j7:(List UInt8)=>[.str j7])) (fun j7:(List UInt8)=>
  some (j7)) fun k8=>
 if a0.hasFrag=true then
  grd (AB (([35]:List UInt8).length+a0.fragment.length)) (
  grd (AB (((([104,116,116,112,115,58,47,47]:List UInt8)++y3)++y5).length+(([35]:List UInt8)++a0.fragment).length)) (
  k8 (((([104,116,116,112,115,58,47,47]:List UInt8)++y3)++y5)++(([35]:List UInt8)++a0.fragment))))
 else
  k8 ((([104,116,116,112,115,58,47,47]:List UInt8)++y3)++y5)))
def IL (N:Nat) (k2:(Unit→Option (Bool))):List UInt8→Int→Option (Bool)
  |[],s6=>
  k2 ()
  |xk5::xs,s6=>
  AA (d:=.a (4,1) [(9,22)] [31] (fun j6:Bool=>[.bool j6])) (fun j6:Bool=>
   if j6=true then
    some (false)
   else
    IL N k2 xs (s6+1)) fun k7=>
  Option.bind (Ey N (AY xk5)) fun y10=>
  if y10=true then
   k7 false
  else
   if(s6==0)=true then
    k7 true
   else
    Option.bind (CW N (AY xk5)) fun y12=>
    if y12=true then
     k7 false
    else
     Option.bind (strings_IndexByte N ([43,45,46]:List UInt8) (AY xk5)) fun y14=>
     k7 (decide (y14<0))
def Qw (N:Nat) (a0:(List UInt8)):Option (Bool):=
 AA (d:=.a (1,22) [(2,31)] [] (fun j1:Unit=>[])) (fun j1:Unit=>
  some ((!(a0==[])))) fun k2=>
 grd (AB (a0.length)) (
  IL N k2 a0 0)
def CS (N:Nat) (a0:(List UInt8)) (a1:(List UInt8)):Option (Bool):=
 if(decide ((a0.length:Int)≥(a1.length:Int)))=true then
  Option.bind (sub a0 0 (a1.length:Int)) fun x1=>
  some ((x1==a1))
 else
  some (false)
def EM (N:Nat) (a0:(List UInt8)) (a1:(List UInt8)):Option ((List UInt8)×Bool):=
 Option.bind (CS N a0 a1) fun y1=>
 if y1=true then
  Option.bind (sub a0 (a1.length:Int) (a0.length:Int)) fun x3=>
  some (x3,true)
 else
  some (a0,false)
def strings_CutPrefix (N:Nat) (a0:(List UInt8)) (a1:(List UInt8)):Option ((List UInt8)×Bool):=
 Option.bind (EM N a0 a1) fun y1=>
 some (y1.1,y1.2)
def NZ (N:Nat) (a0:(List UInt8)):Option (ApiURI×Int):=
 if(decide ((a0.length:Int)>16384))=true then
  some ((ApiURI.mk [] [] [] [] [] false false false false),5)
 else
  Option.bind (strings_Cut N a0 ([35]:List UInt8)) fun y1=>
  Option.bind (strings_Cut N y1.1 ([63]:List UInt8)) fun y3=>
  AA (d:=.b (6,15) [(3,1),(5,1),(29,25)] [0] (fun j5:(List UInt8)×(List UInt8)×Bool=>[.str j5.1]) fun j5=>[.p [.v (.str j5.2.1),.k,.k,.k,.k,.v (.bool j5.2.2)]]) (fun j5:(List UInt8)×(List UInt8)×Bool=>
   AA (d:=.b (11,17) [(6,3),(54,20)] [0] (fun j20:(List UInt8)×(List UInt8)×Bool=>[.str j20.1]) fun j20=>[.p [.k,.v (.str j20.2.1),.k,.k,.k,.k,.v (.bool j20.2.2)]]) (fun j20:(List UInt8)×(List UInt8)×Bool=>
    some ((ApiURI.mk j5.2.1 j20.2.1 j20.1 y3.2.1 y1.2.1 j5.2.2 j20.2.2 y3.2.2 y1.2.2),0)) fun k21=>
   Option.bind (strings_CutPrefix N j5.1 ([47,47]:List UInt8)) fun y24=>
   if y24.2=true then
    Option.bind (strings_IndexByte N y24.1 47) fun y26=>
    AA (d:=.a (15,5) [(63,4)] [8] (fun j28:Int=>[.int .i64 j28])) (fun j28:Int=>
     Option.bind (sub y24.1 0 j28) fun x32=>
     Option.bind (sub y24.1 j28 (y24.1.length:Int)) fun x33=>
     k21 (x33,x32,true)) fun k29=>
    if(decide (y26<0))=true then
     k29 (y24.1.length:Int)
    else
     k29 y26
   else
    k21 (j5.1,[],false)) fun k6=>
  Option.bind (strings_IndexAny N y3.1 ([58,47]:List UInt8)) fun y9=>
  AA (d:=.a (7,1) [(31,7)] [38] (fun j11:Bool=>[.bool j11])) (fun j11:Bool=>
   if j11=true then
    Option.bind (sub y3.1 0 y9) fun x16=>
    Option.bind (Qw N x16) fun y17=>
    if y17=true then
     Option.bind (sub y3.1 (wr .i64 (y9+1)) (y3.1.length:Int)) fun x19=>
     k6 (x19,x16,true)
    else
     some ((ApiURI.mk [] [] [] [] [] false false false false),6)
   else
    k6 (y3.1,[],false)) fun k12=>
  if(decide (y9≥0))=true then
   Option.bind (idx y3.1 y9) fun x15=>
   k12 ((AY x15)==58)
  else
   k12 false
def strings_Contains (N:Nat) (a0:(List UInt8)) (a1:(List UInt8)):Option (Bool):=
 Option.bind (strings_Index N a0 a1) fun y1=>
 some ((decide (y1≥0)))
def TM (N:Nat) (a0:(List UInt8)):Option (Int×Int):=
 Option.bind (JW N a0 65535) fun y1=>
 AA (d:=.a (2,1) [(11,5)] [16] (fun j3:Bool=>[.bool j3])) (fun j3:Bool=>
  if j3=true then
   some (0,51)
  else
   some ((wr .i64 y1.1),0)) fun k4=>
 if(y1.2 !=0)=true then
  k4 true
 else
  k4 (y1.1==0)
def OB (N:Nat) (a0:(List UInt8)):Option (ApiHostPort×Int):=
 Option.bind (strings_Cut N a0 ([58]:List UInt8)) fun y1=>
 Option.bind (Nh N y1.1) fun y3=>
 if(y3.2 !=0)=true then
  some ((ApiHostPort.mk [] 0),y3.2)
 else
  AA (d:=.b (6,13) [(3,1),(8,1),(27,11)] [] (fun j5:Int=>[]) fun j5=>[.p [.k,.v (.int .i64 j5)]]) (fun j5:Int=>
   AA (d:=.b (10,5) [(38,4)] [] (fun j11:Int=>[]) fun j11=>[.p [.k,.v (.int .i64 j11)]]) (fun j11:Int=>
    some ((ApiHostPort.mk y3.1 j11),0)) fun k12=>
   if(j5==443)=true then
    k12 0
   else
    k12 j5) fun k6=>
  if y1.2.2=true then
   Option.bind (TM N y1.2.1) fun y9=>
   if(y9.2 !=0)=true then
    some ((ApiHostPort.mk [] 0),y9.2)
   else
    k6 y9.1
  else
   k6 0
def strings_HasPrefix (N:Nat) (a0:(List UInt8)) (a1:(List UInt8)):Option (Bool):=
 Option.bind (CS N a0 a1) fun y1=>
 some (y1)
def EG (N:Nat) (a0:(List UInt8)) (a1:(List UInt8)):Option ((List UInt8)):=
 Option.bind (CS N a0 a1) fun y1=>
 if y1=true then
  Option.bind (sub a0 (a1.length:Int) (a0.length:Int)) fun x3=>
  some (x3)
 else
  some (a0)
def strings_TrimPrefix (N:Nat) (a0:(List UInt8)) (a1:(List UInt8)):Option ((List UInt8)):=
 Option.bind (EG N a0 a1) fun y1=>
 some (y1)
def Aq (N:Nat) (a0:(List UInt8)) (a1:Int) (k2:(Unit→Option (Int))):Nat→Int→Option (Int)
  |0,_=>none
  |k+1,s5=>
  if(decide (s5≥0))=true then
   Option.bind (idx a0 s5) fun x6=>
   if((AY x6)==a1)=true then
    some (s5)
   else
    Aq N a0 a1 k2 k (wr .i64 (s5-1))
  else
   k2 ()
def DW (N:Nat) (a0:(List UInt8)) (a1:Int):Option (Int):=
 AA (d:=.a (1,20) [(4,15)] [] (fun j1:Unit=>[])) (fun j1:Unit=>
  some ((-1))) fun k2=>
 Aq N a0 a1 k2 N (wr .i64 ((a0.length:Int)-1))
def strings_LastIndexByte (N:Nat) (a0:(List UInt8)) (a1:Int):Option (Int):=
 Option.bind (DW N a0 a1) fun y1=>
 some (y1)
def CE (N:Nat):Nat→(List UInt8)→Nat→(List Int)→Option ((List UInt8))
  |0,_,_,_=>none
  |k+1,s0,s3_len,bq3=>
  if(s0==[])=true then
   grd (s3_len≤bq3.length∧AB s3_len) (
   some ((List.map JK (List.take s3_len bq3))))
  else
   Option.bind (strings_HasPrefix N s0 ([46,46,47]:List UInt8)) fun y2=>
   if y2=true then
    Option.bind (sub s0 3 (s0.length:Int)) fun x4=>
    CE N k x4 s3_len bq3
   else
    Option.bind (strings_HasPrefix N s0 ([46,47]:List UInt8)) fun y5=>
    if y5=true then
     Option.bind (sub s0 2 (s0.length:Int)) fun x7=>
     CE N k x7 s3_len bq3
    else
     Option.bind (strings_HasPrefix N s0 ([47,46,47]:List UInt8)) fun y8=>
     if y8=true then
      Option.bind (sub s0 2 (s0.length:Int)) fun x10=>
      CE N k x10 s3_len bq3
     else
      if(s0==([47,46]:List UInt8))=true then
       CE N k ([47]:List UInt8) s3_len bq3
      else
       AA (d:=.a (16,1) [(45,6)] [44] (fun j11:Bool=>[.bool j11])) (fun j11:Bool=>
        if j11=true then
         Option.bind (sub s0 3 (s0.length:Int)) fun x17=>
         Option.bind (strings_TrimPrefix N x17 ([47]:List UInt8)) fun y18=>
         grd (AB (([47]:List UInt8).length+y18.length)) (
         grd (s3_len≤bq3.length∧AB s3_len) (
         Option.bind (strings_LastIndexByte N (List.map JK (List.take s3_len bq3)) 47) fun y20=>
         grd (0≤(if y20>0 then y20 else 0)∧(if y20>0 then y20 else 0)≤(s3_len:Int)) (
         CE N k (([47]:List UInt8)++y18) ((if y20>0 then y20 else 0).toNat) bq3)))
        else
         AA (d:=.a (19,1) [(62,6)] [61] (fun j22:Bool=>[.bool j22])) (fun j22:Bool=>
          if j22=true then
           CE N k [] s3_len bq3
          else
           Option.bind (sub s0 1 (s0.length:Int)) fun x26=>
           Option.bind (strings_IndexByte N x26 47) fun y27=>
           AA (d:=.a (4,5) [(14,4)] [4] (fun j29:Int=>[.int .i64 j29])) (fun j29:Int=>
            Option.bind (sub s0 0 j29) fun x33=>
            grd (s3_len≤bq3.length∧CG (s3_len+x33.length) 1) (
            Option.bind (sub s0 j29 (s0.length:Int)) fun x35=>
            CE N k x35 (s3_len+x33.length) (List.take s3_len bq3++List.map AY x33))) fun k30=>
           if((wr .i64 (1+y27))==0)=true then
            k30 (s0.length:Int)
           else
            k30 (wr .i64 (1+y27))) fun k23=>
         if(s0==([46]:List UInt8))=true then
          k23 true
         else
          k23 (s0==([46,46]:List UInt8))) fun k12=>
       Option.bind (strings_HasPrefix N s0 ([47,46,46,47]:List UInt8)) fun y15=>
       if y15=true then
        k12 true
       else
        k12 (s0==([47,46,46]:List UInt8))
def FR (N:Nat) (a0:(List UInt8)):Option ((List UInt8)):=
 grd (OY 0 (a0.length:Int) 1) (
 CE N N a0 ((0:Int).toNat) (List.replicate (0:Int).toNat 0))
def Iz (N:Nat) (a0:(List UInt8)):Option (ApiURL×Int):=
 if(decide ((a0.length:Int)>4096))=true then
  some ((ApiURL.mk [] 0 [] [] [] false false),5)
 else
  Option.bind (NZ N a0) fun y1=>
  if(y1.2 !=0)=true then
   some ((ApiURL.mk [] 0 [] [] [] false false),y1.2)
  else
   AA (d := .a (6,1) [(23,9)] [22] (fun j3:Bool=>[.bool j3])) (fun j3:Bool=>
    if j3=true then
     some ((ApiURL.mk [] 0 [] [] [] false false),60)
    else
     if y1.1.hasAuthority=true then
      Option.bind (strings_Contains N y1.1.authority ([64]:List UInt8)) fun y9=>
      if y9=true then
       some ((ApiURL.mk [] 0 [] [] [] false false),70)
      else
       Option.bind (OB N y1.1.authority) fun y11=>
       if(y11.2 !=0)=true then
        some ((ApiURL.mk [] 0 [] [] [] false false),y11.2)
       else
        Option.bind (D6 N y1.1.path ([33,36,38,39,40,41,42,43,44,59,61,58,64,47]:List UInt8)) fun y13=>
        if(y13.2 !=0)=true then
         some ((ApiURL.mk [] 0 [] [] [] false false),y13.2)
        else
         Option.bind (D6 N y1.1.query ([33,36,38,39,40,41,42,43,44,59,61,58,64,47,63]:List UInt8)) fun y15=>
         if(y15.2 !=0)=true then
          some ((ApiURL.mk [] 0 [] [] [] false false),y15.2)
         else
          Option.bind (D6 N y1.1.fragment ([33,36,38,39,40,41,42,43,44,59,61,58,64,47,63]:List UInt8)) fun y17=>
          if(y17.2 !=0)=true then
           some ((ApiURL.mk [] 0 [] [] [] false false),y17.2)
          else
           AA (d:=.b (25,7) [(95,8)] [] (fun j19:(List UInt8)=>[]) fun j19=>[.p [.k,.k,.v (.str j19)]]) (fun j19:(List UInt8)=>
            Option.bind (Ez N (ApiURL.mk y11.1.host y11.1.port j19 y15.1 y17.1 y1.1.hasQuery y1.1.hasFrag)) fun y25=>
            if(decide ((y25.length:Int)>4096))=true then
             some ((ApiURL.mk [] 0 [] [] [] false false),5)
            else
             some ((ApiURL.mk y11.1.host y11.1.port j19 y15.1 y17.1 y1.1.hasQuery y1.1.hasFrag),0)) fun k20=>
           Option.bind (FR N y13.1) fun y23=>
           if(y23==[])=true then
            k20 ([47]:List UInt8)
           else
            k20 y23
     else
      some ((ApiURL.mk [] 0 [] [] [] false false),71)) fun k4=>
   if y1.1.hasScheme=true then
    Option.bind (GA N y1.1.scheme ([104,116,116,112,115]:List UInt8)) fun y7=>
    k4 (!y7)
   else
    k4 true
def Kg (N:Nat) (a0:(List UInt8)):Option (ApiID×Int):=
 Option.bind (Iz N a0) fun y1=>
 if(y1.2 !=0)=true then
  some ((ApiID.mk 0 [] [] 0),y1.2)
 else
  Option.bind (Ez N y1.1) fun y3=>
  some ((ApiID.mk 3 y3 y1.1.host y1.1.port),0)
def IK (N:Nat) (k2:(Unit→Option (Bool))):List UInt8→Option (Bool)
  |[]=>
  k2 ()
  |xk5::xs=>
  AA (d:=.a (4,1) [(9,16)] [25] (fun j6:Bool=>[.bool j6])) (fun j6:Bool=>
   if j6=true then
    some (false)
   else
    IK N k2 xs) fun k7=>
  Option.bind (CW N (AY xk5)) fun y10=>
  if y10=true then
   k7 false
  else
   if(decide ((AY xk5)<97))=true then
    k7 true
   else
    k7 (decide ((AY xk5)>122))
def Qk (N:Nat) (a0:(List UInt8)):Option (Bool):=
 AA (d:=.a (1,22) [(2,25)] [] (fun j1:Unit=>[])) (fun j1:Unit=>
  some ((!(a0==[])))) fun k2=>
 grd (AB (a0.length)) (
  IK N k2 a0)
def FY (N:Nat) (a0:StringsBuilder):Option (StringsBuilder):=
 if a0.addr=true then
  some (a0)
 else
  some ((StringsBuilder.mk true a0.buf))
def AL (N:Nat) (a0:StringsBuilder) (a1:(List UInt8)):Option (Int×Unit×StringsBuilder):=
 Option.bind (FY N a0) fun y1=>
 grd (CG (y1.buf.length+a1.length) 1) (
 some ((a1.length:Int),(),(StringsBuilder.mk y1.addr (y1.buf++a1))))
def BN (N:Nat) (a0:StringsBuilder):Option ((List UInt8)×StringsBuilder):=
 some (a0.buf,a0)
def Ed (N:Nat) (n:Int):Option Unit:=grd (0<n∧n≤140737488355328) (some ())
def ES (N:Nat) (a0:(List UInt8)) (a2:(List UInt8)) (k18:(Int×Bool×(List UInt8)→Option ((List UInt8)))):Nat→Int→StringsBuilder→Option ((List UInt8))
  |0,s11,bn8=>
  k18 (s11,bn8.addr,bn8.buf)
  |k+1,s11,bn8=>
  Option.bind (sub a0 s11 (a0.length:Int)) fun x33=>
  Option.bind (Be N x33) fun y34=>
  Option.bind (sub a0 s11 (wr .i64 (s11+y34.2))) fun x36=>
  Option.bind (AL N bn8 x36) fun y37=>
  Option.bind (AL N y37.2.2 a2) fun y39=>
  ES N a0 a2 k18 k (wr .i64 (s11+y34.2)) y39.2.2
def EL (N:Nat) (a0:(List UInt8)) (a1:(List UInt8)) (a2:(List UInt8)) (k18:(Int×Bool×(List UInt8)→Option ((List UInt8)))):Nat→Int→Bool→(List UInt8)→Option ((List UInt8))
  |0,s11,bn8_addr,bn8_buf=>
  k18 (s11,bn8_addr,bn8_buf)
  |k+1,s11,bn8_addr,bn8_buf=>
  Option.bind (sub a0 s11 (a0.length:Int)) fun x22=>
  Option.bind (strings_Index N x22 a1) fun y23=>
  Option.bind (sub a0 s11 (wr .i64 (s11+y23))) fun x25=>
  Option.bind (AL N (StringsBuilder.mk bn8_addr bn8_buf) x25) fun y26=>
  Option.bind (AL N y26.2.2 a2) fun y28=>
  EL N a0 a1 a2 k18 k (wr .i64 ((wr .i64 (s11+y23))+(a1.length:Int))) y28.2.2.addr y28.2.2.buf
def strings_Replace (N:Nat) (a0:(List UInt8)) (a1:(List UInt8)) (a2:(List UInt8)) (a3:Int):Option ((List UInt8)):=
 AA (d:=.a (1,1) [(16,6)] [22] (fun j1:Bool=>[.bool j1])) (fun j1:Bool=>
  if j1=true then
   some (a0)
  else
   AA (d:=.a (3,13) [(8,2),(24,14)] [3] (fun j5:Int=>[.int .i64 j5])) (fun j5:Int=>
    Option.bind (Ed N (wr .i64 ((a0.length:Int)+(wr .i64 (j5 * (wr .i64 ((a2.length:Int)-(a1.length:Int)))))))) fun y15=>
    AA (d:=.b (11,47) [(12,4),(49,50)] [11] (fun j17:Int×Bool×(List UInt8)=>[.int .i64 j17.1]) fun j17=>[.t (fun q=>[EE q 222 2 j17.2.1,.buf 5 j17.2.2 true])]) (fun j17:Int×Bool×(List UInt8)=>
     Option.bind (sub a0 j17.1 (a0.length:Int)) fun x41=>
     Option.bind (AL N (StringsBuilder.mk j17.2.1 j17.2.2) x41) fun y42=>
     Option.bind (BN N y42.2.2) fun y44=>
     some (y44.1)) fun k18=>
    if(decide ((a1.length:Int)>0))=true then
     grd ((-4611686018427387904:Int)≤0∧(j5:Int)≤4611686018427387904) (
      EL N a0 a1 a2 k18 ((j5:Int)-0).toNat 0 true [])
    else
     Option.bind (AL N (StringsBuilder.mk true []) a2) fun y30=>
     grd ((-4611686018427387904:Int)≤0∧((wr .i64 (j5-1)):Int)≤4611686018427387904) (
      ES N a0 a2 k18 (((wr .i64 (j5-1)):Int)-0).toNat 0 y30.2.2)) fun k6=>
   Option.bind (strings_Count N a0 a1) fun y9=>
   if(y9==0)=true then
    some (a0)
   else
    AA (d:=.a (6,1) [(30,6)] [36] (fun j11:Bool=>[.bool j11])) (fun j11:Bool=>
     if j11=true then
      k6 y9
     else
      k6 a3) fun k12=>
    if(decide (a3<0))=true then
     k12 true
    else
     k12 (decide (y9<a3))) fun k2=>
 if(a1==a2)=true then
  k2 true
 else
  k2 (a3==0)
def strings_ReplaceAll (N:Nat) (a0:(List UInt8)) (a1:(List UInt8)) (a2:(List UInt8)):Option ((List UInt8)):=
 Option.bind (strings_Replace N a0 a1 a2 (-1)) fun y1=>
 some (y1)
def NE (N:Nat) (a0:(List UInt8)):Option ((List UInt8)×Int):=
 Option.bind (D6 N a0 ([58]:List UInt8)) fun y1=>
 Option.bind (FL N a0) fun y3=>
 if(y3.2 !=0)=true then
  some ([],y3.2)
 else
  AA (d:=.a (5,5) [(21,6)] [5] (fun j5:Int=>[.int .i64 j5])) (fun j5:Int=>
   Option.bind (strings_ReplaceAll N y1.1 ([126]:List UInt8) ([37,55,69]:List UInt8)) fun y15=>
   some (y15,j5)) fun k6=>
  AA (d:=.a (5,1) [(21,5)] [26] (fun j9:Bool=>[.bool j9])) (fun j9:Bool=>
   if j9=true then
    k6 1
   else
    k6 y1.2) fun k10=>
  if(y1.2==0)=true then
   Option.bind (strings_Contains N a0 ([126]:List UInt8)) fun y13=>
   k10 y13
  else
   k10 false
def EQ (N:Nat) (a0:(List UInt8)) (a1:(List UInt8)):Option (Bool):=
 if(decide ((a0.length:Int)≥(a1.length:Int)))=true then
  Option.bind (sub a0 (wr .i64 ((a0.length:Int)-(a1.length:Int))) (a0.length:Int)) fun x1=>
  some ((x1==a1))
 else
  some (false)
def strings_HasSuffix (N:Nat) (a0:(List UInt8)) (a1:(List UInt8)):Option (Bool):=
 Option.bind (EQ N a0 a1) fun y1=>
 some (y1)
def Lg (N:Nat) (a0:(List UInt8)):Option (ApiDID×Int):=
 if(decide ((a0.length:Int)>4096))=true then
  some ((ApiDID.mk [] []),5)
 else
  Option.bind (strings_CutPrefix N a0 ([100,105,100,58]:List UInt8)) fun y1=>
  if y1.2=true then
   Option.bind (strings_Cut N y1.1 ([58]:List UInt8)) fun y3=>
   if y3.2.2=true then
    Option.bind (Qk N y3.1) fun y5=>
    if y5=true then
     Option.bind (NE N y3.2.1) fun y7=>
     if(y7.2 !=0)=true then
      some ((ApiDID.mk [] []),y7.2)
     else
      AA (d:=.a (14,1) [(47,6)] [46] (fun j9:Bool=>[.bool j9])) (fun j9:Bool=>
       if j9=true then
        some ((ApiDID.mk [] []),3)
       else
        some ((ApiDID.mk y3.1 y7.1),0)) fun k10=>
      if(y7.1==[])=true then
       k10 true
      else
       Option.bind (strings_HasSuffix N y7.1 ([58]:List UInt8)) fun y13=>
       k10 y13
    else
     some ((ApiDID.mk [] []),100)
   else
    some ((ApiDID.mk [] []),6)
  else
   some ((ApiDID.mk [] []),60)
def Jb (N:Nat) (a0:ApiDID):Option ((List UInt8)):=
 grd (AB (([100,105,100,58]:List UInt8).length+a0.method.length)) (
 grd (AB ((([100,105,100,58]:List UInt8)++a0.method).length+([58]:List UInt8).length)) (
 grd (AB (((([100,105,100,58]:List UInt8)++a0.method)++([58]:List UInt8)).length+a0.iD.length)) (
 some ((((([100,105,100,58]:List UInt8)++a0.method)++([58]:List UInt8))++a0.iD)))))
def JE (N:Nat) (a0:ApiDID):Option (ApiHostPort×Int):=
 if(a0.method==([119,101,98]:List UInt8))=true then
  Option.bind (Jb N a0) fun y1=>
  Option.bind (Lg N y1) fun y3=>
  if(y3.2 !=0)=true then
   some ((ApiHostPort.mk [] 0),y3.2)
  else
   Option.bind (strings_Cut N a0.iD ([58]:List UInt8)) fun y5=>
   Option.bind (FL N y5.1) fun y7=>
   if(y7.2 !=0)=true then
    some ((ApiHostPort.mk [] 0),y7.2)
   else
    Option.bind (OB N y7.1) fun y9=>
    some (y9.1,y9.2)
 else
  some ((ApiHostPort.mk [] 0),100)
def Km (N:Nat) (a0:DidwebMapper) (a1:(List UInt8)):Option ((List UInt8)×DidwebMapper):=
 Option.bind (FL N a1) fun y1=>
 AA (d:=.b (2,5) [(12,17)] [] (fun j3:Int=>[]) fun j3=>[.s ([.int .i64 j3])]) (fun j3:Int=>
  Option.bind (FU N y1.1 []) fun y11=>
  grd (AB (([47]:List UInt8).length+y11.length)) (
  some ((([47]:List UInt8)++y11),(DidwebMapper.mk j3)))) fun k4=>
 AA (d:=.a (2,1) [(12,13)] [25] (fun j7:Bool=>[.bool j7])) (fun j7:Bool=>
  if j7=true then
   k4 110
  else
   k4 a0.e) fun k8=>
 if(y1.2 !=0)=true then
  k8 true
 else
  if(y1.1==[])=true then
   k8 true
  else
   if(y1.1==([46]:List UInt8))=true then
    k8 true
   else
    k8 (y1.1==([46,46]:List UInt8))
def BV (N:Nat) (k2:(Bool×(List UInt8)×DidwebMapper→Option ((List UInt8)×DidwebMapper))):List (List UInt8)→Bool→(List UInt8)→DidwebMapper→Option ((List UInt8)×DidwebMapper)
  |[],bn_addr,bn_buf,bi1_0=>
  k2 (bn_addr,bn_buf,bi1_0)
  |xk5::xs,bn_addr,bn_buf,bi1_0=>
  Option.bind (Km N bi1_0 xk5) fun y6=>
  Option.bind (AL N (StringsBuilder.mk bn_addr bn_buf) y6.1) fun y8=>
  BV N k2 xs y8.2.2.addr y8.2.2.buf y6.2
def EX (N:Nat) (a0:(List (List UInt8))) (b1_0:DidwebMapper):Option ((List UInt8)×DidwebMapper):=
 AA (d:=.b (2,16) [(7,12)] [] (fun j1:Bool×(List UInt8)×DidwebMapper=>[]) fun j1=>[.t (fun q=>[EE q 222 2 j1.1,.buf 5 j1.2.1 true]),.s ([.int .i64 j1.2.2.e])]) (fun j1:Bool×(List UInt8)×DidwebMapper=>
  Option.bind (BN N (StringsBuilder.mk j1.1 j1.2.1)) fun y10=>
  some (y10.1,j1.2.2)) fun k2=>
 grd (AB (a0.length)) (
  BV N k2 a0 false [] b1_0)
def OQ (N:Nat) (a0:ApiDID):Option (ApiURL×Int):=
 Option.bind (JE N a0) fun y1=>
 if(y1.2 !=0)=true then
  some ((ApiURL.mk [] 0 [] [] [] false false),y1.2)
 else
  AA (d:=.b (5,17) [(3,1),(7,2),(23,19)] [] (fun j3:(List UInt8)=>[]) fun j3=>[.p [.k,.k,.v (.str j3)]]) (fun j3:(List UInt8)=>
   Option.bind (Ez N (ApiURL.mk y1.1.host y1.1.port j3 [] [] false false)) fun y12=>
   if(decide ((y12.length:Int)>4096))=true then
    some ((ApiURL.mk [] 0 [] [] [] false false),5)
   else
    some ((ApiURL.mk y1.1.host y1.1.port j3 [] [] false false),0)) fun k4=>
  Option.bind (strings_Split N a0.iD ([58]:List UInt8)) fun y7=>
  Option.bind (sub y7 1 (y7.length:Int)) fun x9=>
  if(decide ((x9.length:Int)>0))=true then
   Option.bind (EX N x9 (DidwebMapper.mk 0)) fun y10=>
   grd (AB (y10.1.length+([47]:List UInt8).length)) (
   grd (AB ((y10.1++([47]:List UInt8)).length+([100,105,100,46,106,115,111,110]:List UInt8).length)) (
   if(y10.2.e !=0)=true then
    some ((ApiURL.mk [] 0 [] [] [] false false),y10.2.e)
   else
    k4 ((y10.1++([47]:List UInt8))++([100,105,100,46,106,115,111,110]:List UInt8))))
  else
   k4 ([47,46,119,101,108,108,45,107,110,111,119,110,47,100,105,100,46,106,115,111,110]:List UInt8)
def JH (N:Nat) (a0:ApiURL):Option (Bool):=
 Option.bind (Ez N a0) fun y1=>
 Option.bind (Iz N y1) fun y3=>
 if(y3.2==0)=true then
  some ((a0.host==y3.1.host&&(a0.port==y3.1.port&&(a0.path==y3.1.path&&(a0.query==y3.1.query&&(a0.fragment==y3.1.fragment&&(a0.hasQuery==y3.1.hasQuery&&a0.hasFrag==y3.1.hasFrag)))))))
 else
  some (false)
def DY (N:Nat) (k2:(Int→Option ((List UInt8)×DidwebMapper))):List UInt8→Int→Option ((List UInt8)×DidwebMapper)
  |[],bi0_e=>
  k2 bi0_e
  |xk5::xs,bi0_e=>
  AA (d:=.b (1,8) [(5,1),(12,15)] [] (fun j6:Int=>[]) fun j6=>[.s ([.int .i64 j6])]) (fun j6:Int=>
   DY N k2 xs j6) fun k7=>
  AA (d:=.a (4,1) [(13,10)] [23] (fun j10:Bool=>[.bool j10])) (fun j10:Bool=>
   if j10=true then
    k7 110
   else
    k7 bi0_e) fun k11=>
  if((AY xk5) !=37)=true then
   Option.bind (Dl N (AY xk5)) fun y14=>
   k11 (!y14)
  else
   k11 false
def Jr (N:Nat) (a0:DidwebMapper) (a1:(List UInt8)):Option ((List UInt8)×DidwebMapper):=
 AA (d:=.b (1,20) [(5,1),(8,20)] [] (fun j1:Int=>[]) fun j1=>[.s ([.int .i64 j1])]) (fun j1:Int=>
  Option.bind (FL N a1) fun y16=>
  AA (d:=.b (8,5) [(33,9)] [] (fun j18:Int=>[]) fun j18=>[.s ([.int .i64 j18])]) (fun j18:Int=>
   Option.bind (FU N y16.1 []) fun y26=>
   Option.bind (strings_ReplaceAll N y26 ([126]:List UInt8) ([37,55,69]:List UInt8)) fun y28=>
   grd (AB (([58]:List UInt8).length+y28.length)) (
   some ((([58]:List UInt8)++y28),(DidwebMapper.mk j18)))) fun k19=>
  AA (d:=.a (8,1) [(33,5)] [38] (fun j22:Bool=>[.bool j22])) (fun j22:Bool=>
   if j22=true then
    k19 110
   else
    k19 j1) fun k23=>
  if(y16.2 !=0)=true then
   k23 true
  else
   k23 (y16.1==[])) fun k2=>
 grd (AB (a1.length)) (
  DY N k2 a1 a0.e)
def BJ (N:Nat) (k2:(Bool×(List UInt8)×DidwebMapper→Option ((List UInt8)×DidwebMapper))):List (List UInt8)→Bool→(List UInt8)→DidwebMapper→Option ((List UInt8)×DidwebMapper)
  |[],bn_addr,bn_buf,bi1_0=>
  k2 (bn_addr,bn_buf,bi1_0)
  |xk5::xs,bn_addr,bn_buf,bi1_0=>
  Option.bind (Jr N bi1_0 xk5) fun y6=>
  Option.bind (AL N (StringsBuilder.mk bn_addr bn_buf) y6.1) fun y8=>
  BJ N k2 xs y8.2.2.addr y8.2.2.buf y6.2
def EJ (N:Nat) (a0:(List (List UInt8))) (b1_0:DidwebMapper):Option ((List UInt8)×DidwebMapper):=
 AA (d:=.b (2,16) [(7,12)] [] (fun j1:Bool×(List UInt8)×DidwebMapper=>[]) fun j1=>[.t (fun q=>[EE q 222 2 j1.1,.buf 5 j1.2.1 true]),.s ([.int .i64 j1.2.2.e])]) (fun j1:Bool×(List UInt8)×DidwebMapper=>
  Option.bind (BN N (StringsBuilder.mk j1.1 j1.2.1)) fun y10=>
  some (y10.1,j1.2.2)) fun k2=>
 grd (AB (a0.length)) (
  BJ N k2 a0 false [] b1_0)
def ML (N:Nat) (a0:ApiURL):Option (ApiDID×Int):=
 Option.bind (JH N a0) fun y1=>
 if y1=true then
  Option.bind (strings_Split N a0.path ([47]:List UInt8)) fun y3=>
  Option.bind (sub y3 1 (y3.length:Int)) fun x5=>
  AA (d:=.a (4,1) [(15,14)] [29] (fun j6:Bool=>[.bool j6])) (fun j6:Bool=>
   if j6=true then
    some ((ApiDID.mk [] []),6)
   else
    if((x5.length:Int)==1)=true then
     some ((ApiDID.mk [] []),110)
    else
     AA (d:=.b (9,5) [(38,12)] [] (fun j11:(List UInt8)=>[]) fun j11=>[.p [.k,.v (.str j11)]]) (fun j11:(List UInt8)=>
      AA (d:=.b (11,15) [(3,1),(6,1),(50,20)] [] (fun j17:(List UInt8)=>[]) fun j17=>[.p [.k,.v (.str j17)]]) (fun j17:(List UInt8)=>
       Option.bind (Jb N (ApiDID.mk ([119,101,98]:List UInt8) j17)) fun y24=>
       if(decide ((y24.length:Int)>4096))=true then
        some ((ApiDID.mk [] []),5)
       else
        some ((ApiDID.mk ([119,101,98]:List UInt8) j17),0)) fun k18=>
      if(a0.path==([47,46,119,101,108,108,45,107,110,111,119,110,47,100,105,100,46,106,115,111,110]:List UInt8))=true then
       k18 j11
      else
       Option.bind (sub x5 0 (wr .i64 ((x5.length:Int)-1))) fun x21=>
       Option.bind (EJ N x21 (DidwebMapper.mk 0)) fun y22=>
       grd (AB (j11.length+y22.1.length)) (
       if(y22.2.e !=0)=true then
        some ((ApiDID.mk [] []),y22.2.e)
       else
        k18 (j11++y22.1))) fun k12=>
     if(a0.port !=0)=true then
      Option.bind (GZ N (wr .u64 a0.port)) fun y15=>
      grd (AB (([37,51,65]:List UInt8).length+y15.length)) (
      grd (AB (a0.host.length+(([37,51,65]:List UInt8)++y15).length)) (
      k12 (a0.host++(([37,51,65]:List UInt8)++y15))))
     else
      k12 a0.host) fun k7=>
  if a0.hasQuery=true then
   k7 true
  else
   if a0.hasFrag=true then
    k7 true
   else
    Option.bind (idx x5 (wr .i64 ((x5.length:Int)-1))) fun x10=>
    k7 (!(x10==([100,105,100,46,106,115,111,110]:List UInt8)))
 else
  some ((ApiDID.mk [] []),8)
def Ki (N:Nat) (a0:ApiDID):Option (ApiDID×Int):=
 Option.bind (OQ N a0) fun y1=>
 if(y1.2 !=0)=true then
  some ((ApiDID.mk [] []),y1.2)
 else
  Option.bind (ML N y1.1) fun y3=>
  some (y3.1,y3.2)
def Kk (N:Nat) (a0:(List UInt8)):Option (ApiID×Int):=
 Option.bind (Lg N a0) fun y1=>
 if(y1.2 !=0)=true then
  some ((ApiID.mk 0 [] [] 0),y1.2)
 else
  Option.bind (Ki N y1.1) fun y3=>
  if(y3.2 !=0)=true then
   some ((ApiID.mk 0 [] [] 0),y3.2)
  else
   Option.bind (JE N y3.1) fun y5=>
   if(y5.2 !=0)=true then
    some ((ApiID.mk 0 [] [] 0),y5.2)
   else
    Option.bind (Jb N y3.1) fun y7=>
    some ((ApiID.mk 4 y7 y5.1.host y5.1.port),0)
def Mf (N:Nat):Option (Unit):=
 some ()
def Jv (N:Nat) (a0:(List UInt8)):Option (ApiID×Int):=
 if(decide ((a0.length:Int)>4096))=true then
  some ((ApiID.mk 0 [] [] 0),5)
 else
  Option.bind (strings_Cut N a0 ([58]:List UInt8)) fun y1=>
  Option.bind (Mf N) fun y3=>
  Option.bind (Dp N y1.1) fun y6=>
  if(y6==([97,99,99,116]:List UInt8))=true then
   AA (d:=.a (5,1) [(22,5)] [27] (fun j8:Bool=>[.bool j8])) (fun j8:Bool=>
    if j8=true then
     some ((ApiID.mk 0 [] [] 0),60)
    else
     Option.bind (KS N a0) fun y12=>
     some (y12.1,y12.2)) fun k9=>
   if y1.2.2=true then
    k9 false
   else
    k9 true
  else
   if(y6==([109,97,105,108,116,111]:List UInt8))=true then
    AA (d:=.a (5,1) [(22,5)] [27] (fun j14:Bool=>[.bool j14])) (fun j14:Bool=>
     if j14=true then
      some ((ApiID.mk 0 [] [] 0),60)
     else
      Option.bind (KJ N a0) fun y18=>
      some (y18.1,y18.2)) fun k15=>
    if y1.2.2=true then
     k15 false
    else
     k15 true
   else
    if(y6==([104,116,116,112,115]:List UInt8))=true then
     AA (d:=.a (5,1) [(22,5)] [27] (fun j20:Bool=>[.bool j20])) (fun j20:Bool=>
      if j20=true then
       some ((ApiID.mk 0 [] [] 0),60)
      else
       Option.bind (Kg N a0) fun y24=>
       some (y24.1,y24.2)) fun k21=>
     if y1.2.2=true then
      k21 false
     else
      k21 true
    else
     if(y6==([100,105,100]:List UInt8))=true then
      AA (d:=.a (5,1) [(22,5)] [27] (fun j26:Bool=>[.bool j26])) (fun j26:Bool=>
       if j26=true then
        some ((ApiID.mk 0 [] [] 0),60)
       else
        Option.bind (Kk N a0) fun y30=>
        some (y30.1,y30.2)) fun k27=>
      if y1.2.2=true then
       k27 false
      else
       k27 true
     else
      AA (d:=.a (5,1) [(22,5)] [27] (fun j32:Unit=>[.bool true])) (fun j32:Unit=>
       some ((ApiID.mk 0 [] [] 0),60)) fun k33=>
      if y1.2.2=true then
       k33 ()
      else
       k33 ()
def LD (N:Nat) (a0:ApiID):Option (Bool):=
 Option.bind (Jv N a0.text) fun y1=>
 if(y1.2==0)=true then
  some ((y1.1.kind==a0.kind&&(y1.1.text==a0.text&&(y1.1.host==a0.host&&y1.1.port==a0.port))))
 else
  some (false)
def Nf (N:Nat) (a0:ApiID) (a1:(List UInt8)):Option (ApiURL×Int):=
 Option.bind (LD N a0) fun y1=>
 if y1=true then
  some ((ApiURL.mk a0.host a0.port a1 [] [] false false),0)
 else
  some ((ApiURL.mk [] 0 [] [] [] false false),8)
def KQ (N:Nat) (a0:ApiID):Option (ApiURL×Int):=
 Option.bind (Nf N a0 ([47,46,119,101,108,108,45,107,110,111,119,110,47,119,101,98,102,105,110,103,101,114]:List UInt8)) fun y1=>
 if(y1.2 !=0)=true then
  some ((ApiURL.mk [] 0 [] [] [] false false),y1.2)
 else
  Option.bind (FU N a0.text []) fun y3=>
  grd (AB (([114,101,115,111,117,114,99,101,61]:List UInt8).length+y3.length)) (
  Option.bind (Ez N (ApiURL.mk y1.1.host y1.1.port y1.1.path (([114,101,115,111,117,114,99,101,61]:List UInt8)++y3) y1.1.fragment true y1.1.hasFrag)) fun y5=>
  if(decide ((y5.length:Int)>4096))=true then
   some ((ApiURL.mk [] 0 [] [] [] false false),5)
  else
   some ((ApiURL.mk y1.1.host y1.1.port y1.1.path (([114,101,115,111,117,114,99,101,61]:List UInt8)++y3) y1.1.fragment true y1.1.hasFrag),0))
def Sz (N:Nat):Option (ApiID):=
 some ((ApiID.mk 1 ([97,99,99,116,58,98,111,98,64,101,120,97,109,112,108,101,46,99,111,109]:List UInt8) ([101,120,97,109,112,108,101,46,99,111,109]:List UInt8) 0))
def Lj (N:Nat) (a0:ApiURL):Option ((List UInt8)):=
 if a0.hasQuery=true then
  grd (AB (a0.path.length+([63]:List UInt8).length)) (
  grd (AB ((a0.path++([63]:List UInt8)).length+a0.query.length)) (
  some (((a0.path++([63]:List UInt8))++a0.query))))
 else
  some (a0.path)
def Fg (N:Nat):Nat→Int→(List UInt8)→Option ((List UInt8))
  |0,_,_=>none
  |k+1,s0,s3=>
  grd (AB ((List.map JK [(wr .u8 (wr .u64 (48+(s0.tmod 10))))]).length+s3.length)) (
  if((wr .u64 (s0.tdiv 10))==0)=true then
   some (((List.map JK [(wr .u8 (wr .u64 (48+(s0.tmod 10))))])++s3))
  else
   Fg N k (wr .u64 (s0.tdiv 10)) ((List.map JK [(wr .u8 (wr .u64 (48+(s0.tmod 10))))])++s3))
def Lh (N:Nat) (a0:Int):Option ((List UInt8)):=
 Fg N N a0 []
def JN (N:Nat) (a0:Int):Option ((List UInt8)):=
 if(decide (a0<0))=true then
  Option.bind (Lh N (wr .u64 ((wr .u64 (wr .i64 (0-(wr .i64 (a0+1)))))+1))) fun y1=>
  grd (AB (([45]:List UInt8).length+y1.length)) (
  some ((([45]:List UInt8)++y1)))
 else
  Option.bind (Lh N (wr .u64 a0)) fun y3=>
  some (y3)
def Ns (N:Nat) (a0:ApiHostPort):Option ((List UInt8)):=
 if(a0.port==0)=true then
  some (a0.host)
 else
  grd (AB (a0.host.length+([58]:List UInt8).length)) (
  Option.bind (JN N a0.port) fun y1=>
  grd (AB ((a0.host++([58]:List UInt8)).length+y1.length)) (
  some (((a0.host++([58]:List UInt8))++y1))))
def N7 (N:Nat) (a0:ApiURL):Option (ApiHostPort):=
 some ((ApiHostPort.mk a0.host a0.port))
def GD (N:Nat) (a0:ApiURL):Option ((List UInt8)):=
 Option.bind (N7 N a0) fun y1=>
 Option.bind (Ns N y1) fun y3=>
 grd (AB (([104,116,116,112,115,58,47,47]:List UInt8).length+y3.length)) (
 Option.bind (Lj N a0) fun y5=>
 grd (AB ((([104,116,116,112,115,58,47,47]:List UInt8)++y3).length+y5.length)) (
 AA (d:=.a (2,5) [(11,7)] [3] (fun j7:(List UInt8)=>[.str j7])) (fun j7:(List UInt8)=>
  some (j7)) fun k8=>
 if a0.hasFrag=true then
  grd (AB (([35]:List UInt8).length+a0.fragment.length)) (
  grd (AB (((([104,116,116,112,115,58,47,47]:List UInt8)++y3)++y5).length+(([35]:List UInt8)++a0.fragment).length)) (
  k8 (((([104,116,116,112,115,58,47,47]:List UInt8)++y3)++y5)++(([35]:List UInt8)++a0.fragment))))
 else
  k8 ((([104,116,116,112,115,58,47,47]:List UInt8)++y3)++y5)))
def Qh (N:Nat):Option (Bool):=
 Option.bind (Sz N) fun y1=>
 Option.bind (KQ N y1) fun y3=>
 Option.bind (KQ N (ApiID.mk 0 [] [] 0)) fun y5=>
 if(y3.2==0)=true then
  Option.bind (GD N y3.1) fun y7=>
  if(y7==((104::116::116::112::115::58::47::47::101::120::97::109::112::108::101::46::99::111::109::47::46::119::101::108::108::45::107::110::111::119::110::47::119::101::98::102::105::110::103::101::114::63::114::101::115::111::117::114::99::101::61::97::99::99::116::37::51::65::98::111::98::37::52::48::101::120::97::109::112::108::101::46::99::111::109::[]):List UInt8))=true then
   some ((y5.2==8))
  else
   some (false)
 else
  some (false)
def KA (N:Nat) (a0:Int) (k2:(Unit→Option (Bool))):List UInt8→Option (Bool)
  |[]=>
  k2 ()
  |xk5::xs=>
  if((AY xk5)==a0)=true then
   some (true)
  else
   KA N a0 k2 xs
def JQ (N:Nat) (a0:Int) (a1:(List UInt8)):Option (Bool):=
 AA (d:=.a (1,20) [(4,13)] [] (fun j1:Unit=>[])) (fun j1:Unit=>
  some (false)) fun k2=>
 grd (AB (a1.length)) (
  KA N a0 k2 a1)
def HV (N:Nat) (a1:(List UInt8)) (k2:(Unit→Option (Int))):List UInt8→Int→Option (Int)
  |[],s5=>
  k2 ()
  |xk5::xs,s5=>
  Option.bind (JQ N (AY xk5) a1) fun y6=>
  if y6=true then
   some (s5)
  else
   HV N a1 k2 xs (s5+1)
def DX (N:Nat) (a0:(List UInt8)) (a1:(List UInt8)):Option (Int):=
 AA (d:=.a (1,20) [(4,14)] [] (fun j1:Unit=>[])) (fun j1:Unit=>
  some ((a0.length:Int))) fun k2=>
 grd (AB (a0.length)) (
  HV N a1 k2 a0 0)
def G9 (N:Nat) (a0:(List UInt8)) (k2:((List Int)→Option ((List UInt8)))):List UInt8→Int→(List Int)→Option ((List UInt8))
  |[],s9,bn=>
  k2 bn
  |xk5::xs,s9,bn=>
  AA (d:=.b (1,8) [(4,1),(11,19)] [] (fun j6:(List Int)=>[]) fun j6=>[.s (List.map (AVal.int .u8) j6)]) (fun j6:(List Int)=>
   G9 N a0 k2 xs (s9+1) j6) fun k7=>
  AA (d:=.a (5,1) [(12,11)] [23] (fun j10:Bool=>[.bool j10])) (fun j10:Bool=>
   if j10=true then
    grd (0≤s9∧s9<(a0.length:Int)) (
    Option.bind (idx bn s9) fun x15=>
    grd (s9.toNat+1≤bn.length) (
    k7 (bn.set s9.toNat (wr .u8 (x15+32)))))
   else
    k7 bn) fun k11=>
  grd (0≤s9∧s9<(a0.length:Int)) (
  Option.bind (idx bn s9) fun x14=>
  if(decide (x14≥65))=true then
   k11 (decide (x14≤90))
  else
   k11 false)
def J9 (N:Nat) (a0:(List UInt8)):Option ((List UInt8)):=
 AA (d:=.b (2,20) [(4,1),(7,24)] [] (fun j1:(List Int)=>[]) fun j1=>[.s (List.map (AVal.int .u8) j1)]) (fun j1:(List Int)=>
  grd (a0.length≤j1.length∧AB a0.length) (
  some ((List.map JK (List.take a0.length j1))))) fun k2=>
 grd (AB (a0.length)) (
  G9 N a0 k2 a0 0 (List.map AY a0))
def K5 (N:Nat) (a0:(List UInt8)) (a1:(List UInt8)):Option (Bool):=
 Option.bind (J9 N a0) fun y1=>
 Option.bind (J9 N a1) fun y3=>
 some ((y1==y3))
def GU (N:Nat) (a0:Int):Option (Bool):=
 if(decide (a0≥65))=true then
  if(decide (a0≤90))=true then
   some (true)
  else
   if(decide (a0≥97))=true then
    some ((decide (a0≤122)))
   else
    some (false)
 else
  if(decide (a0≥97))=true then
   some ((decide (a0≤122)))
  else
   some (false)
def Db (N:Nat) (a0:Int):Option (Bool):=
 if(decide (a0≥48))=true then
  some ((decide (a0≤57)))
 else
  some (false)
def Dk (N:Nat) (a0:Int):Option (Bool):=
 Option.bind (GU N a0) fun y1=>
 if y1=true then
  some (true)
 else
  Option.bind (Db N a0) fun y3=>
  if y3=true then
   some (true)
  else
   Option.bind (JQ N a0 ([45,46,95,126]:List UInt8)) fun y5=>
   some (y5)
def KT (N:Nat) (a0:Int):Option ((List UInt8)):=
 Option.bind (idx ([48,49,50,51,52,53,54,55,56,57,65,66,67,68,69,70]:List UInt8) (wr .u8 (a0.tdiv 16))) fun x1=>
 Option.bind (idx ([48,49,50,51,52,53,54,55,56,57,65,66,67,68,69,70]:List UInt8) (a0.tmod 16)) fun x2=>
 letL ([37,(AY x1),(AY x2)]:(List Int)) fun l3=>
 some ((List.map JK l3))
def Jt (N:Nat) (a0:Int):Option (Bool):=
 Option.bind (Db N a0) fun y1=>
 if y1=true then
  some (true)
 else
  if(decide (a0≥65))=true then
   if(decide (a0≤70))=true then
    some (true)
   else
    if(decide (a0≥97))=true then
     some ((decide (a0≤102)))
    else
     some (false)
  else
   if(decide (a0≥97))=true then
    some ((decide (a0≤102)))
   else
    some (false)
def M3 (N:Nat) (a0:Int):Option (Int):=
 if(decide (a0≤57))=true then
  some ((wr .u8 (a0-48)))
 else
  if(decide (a0≤70))=true then
   some ((wr .u8 ((wr .u8 (a0-65))+10)))
  else
   some ((wr .u8 ((wr .u8 (a0-97))+10)))
def Lm (N:Nat) (a0:(List UInt8)) (a1:Int):Option (Int×Bool):=
 AA (d:=.a (1,1) [(6,26)] [32] (fun j1:Bool=>[.bool j1])) (fun j1:Bool=>
  if j1=true then
   some (0,false)
  else
   Option.bind (idx a0 (wr .i64 (a1+1))) fun x12=>
   Option.bind (M3 N (AY x12)) fun y13=>
   Option.bind (idx a0 (wr .i64 (a1+2))) fun x15=>
   Option.bind (M3 N (AY x15)) fun y16=>
   some ((wr .u8 ((wr .u8 (16 * y13))+y16)),true)) fun k2=>
 if(decide ((wr .i64 (a1+2))≥(a0.length:Int)))=true then
  k2 true
 else
  Option.bind (idx a0 a1) fun x5=>
  if((AY x5) !=37)=true then
   k2 true
  else
   Option.bind (idx a0 (wr .i64 (a1+1))) fun x6=>
   Option.bind (Jt N (AY x6)) fun y7=>
   if y7=true then
    Option.bind (idx a0 (wr .i64 (a1+2))) fun x9=>
    Option.bind (Jt N (AY x9)) fun y10=>
    k2 (!y10)
   else
    k2 true
def EW (N:Nat) (a0:(List UInt8)) (a1:(List UInt8)) (k2:((List Int)→Option ((List UInt8)×Int))):Nat→(List Int)→Int→Option ((List UInt8)×Int)
  |0,_,_=>none
  |k+1,s6,s7=>
  if (decide (s7<(a0.length:Int)))=true then
   AA (d:=.a (1,34) [(4,2),(8,2),(19,43)] [6,7] (fun j6:(List Int)×Int=>[.slice 1 (List.map (AVal.int .u8) j6.1) true,.int .i64 j6.2])) (fun j6:(List Int)×Int=>
    EW N a0 a1 k2 k j6.1 (wr .i64 (j6.2+1))) fun k7=>
   Option.bind (idx a0 s7) fun x10=>
   if((AY x10) !=37)=true then
    AA (d:=.a (8,1) [(23,12)] [35] (fun j11:Bool=>[.bool j11])) (fun j11:Bool=>
     if j11=true then
      some ([],1)
     else
      grd (CG (s6.length+1) 1) (
      k7 ((s6++[(AY x10)]),s7))) fun k12=>
    Option.bind (Dk N (AY x10)) fun y15=>
    if y15=true then
     k12 false
    else
     Option.bind (JQ N (AY x10) a1) fun y17=>
     k12 (!y17)
   else
    Option.bind (Lm N a0 s7) fun y19=>
    if y19.2=true then
     AA (d:=.a (14,5) [(50,10)] [6] (fun j21:(List Int)=>[.slice 1 (List.map (AVal.int .u8) j21) true])) (fun j21:(List Int)=>
      k7 (j21,(wr .i64 (s7+2)))) fun k22=>
     Option.bind (Dk N y19.1) fun y25=>
     if y25=true then
      grd (CG (s6.length+1) 1) (
      k22 (s6++[y19.1]))
     else
      Option.bind (KT N y19.1) fun y27=>
      grd (CG (s6.length+y27.length) 1) (
      k22 (s6++(List.map AY y27)))
    else
     some ([],2)
  else
   k2 s6
def Fx (N:Nat) (a0:(List UInt8)) (a1:(List UInt8)):Option ((List UInt8)×Int):=
 if(decide ((a0.length:Int)>16384))=true then
  some ([],5)
 else
  AA (d:=.a (4,46) [(4,2),(7,3),(13,49)] [6] (fun j1:(List Int)=>[.slice 1 (List.map (AVal.int .u8) j1) true])) (fun j1:(List Int)=>
   some ((List.map JK j1),0)) fun k2=>
  EW N a0 a1 k2 N [] 0
def Gw (N:Nat) (a0:(List UInt8)) (a1:Int) (k2:((List (List UInt8))×Int→Option ((List (List UInt8))))):List UInt8→Int→(List (List UInt8))→Int→Option ((List (List UInt8)))
  |[],s7,s5,s6=>
  k2 (s5,s6)
  |xk5::xs,s7,s5,s6=>
  AA (d:=.a (1,6) [(14,14)] [5,6] (fun j6:(List (List UInt8))×Int=>[.vec 1 (List.map AVal.str j6.1),.int .i64 j6.2])) (fun j6:(List (List UInt8))×Int=>
   Gw N a0 a1 k2 xs (s7+1) j6.1 j6.2) fun k7=>
  if((AY xk5)==a1)=true then
   Option.bind (sub a0 s6 s7) fun x10=>
   grd (CG (s5.length+1) 16) (
   k7 ((s5++[x10]),(s7+1)))
  else
   k7 (s5,s6)
def F9 (N:Nat) (a0:(List UInt8)) (a1:Int):Option ((List (List UInt8))):=
 AA (d:=.a (3,18) [(7,21)] [5,6] (fun j1:(List (List UInt8))×Int=>[.vec 1 (List.map AVal.str j1.1),.int .i64 j1.2])) (fun j1:(List (List UInt8))×Int=>
  Option.bind (sub a0 j1.2 (a0.length:Int)) fun x11=>
  grd (CG (j1.1.length+1) 16) (
  some ((j1.1++[x11])))) fun k2=>
 grd (AB (a0.length)) (
  Gw N a0 a1 k2 a0 0 ([]:List (List UInt8)) 0)
def Gp (N:Nat) (a1:Int) (a2:Int) (k17:(Int→Option (Int×Int))):List UInt8→Int→Option (Int×Int)
  |[],s9=>
  k17 s9
  |xk20::xs,s9=>
  AA (d:=.a (13,5) [(51,11)] [11] (fun j21:Int=>[.int .u64 j21])) (fun j21:Int=>
   AA (d:=.a (15,1) [(62,18)] [80] (fun j25:Bool=>[.bool j25])) (fun j25:Bool=>
    if j25=true then
     some (0,4)
    else
     Gp N a1 a2 k17 xs (wr .u64 ((wr .u64 (s9 * a1))+j21))) fun k26=>
   grd (a1≠0) (
   if(decide (s9>(wr .u64 (a2.tdiv a1))))=true then
    k26 true
   else
    if(decide ((wr .u64 (s9 * a1))>(wr .u64 (a2-j21))))=true then
     k26 true
    else
     k26 (decide (j21>a2)))) fun k22=>
  if(decide ((AY xk20)>57))=true then
   k22 (wr .u64 ((wr .u64 ((wr .u64 (Qo .u8 (AY xk20) 32))-97))+10))
  else
   k22 (wr .u64 (wr .u8 ((AY xk20)-48)))
def Gq (N:Nat) (a1:Int) (k2:(Unit→Option (Int×Int))):List UInt8→Option (Int×Int)
  |[]=>
  k2 ()
  |xk5::xs=>
  AA (d:=.a (6,1) [(20,19)] [39] (fun j6:Bool=>[.bool j6])) (fun j6:Bool=>
   if j6=true then
    some (0,1)
   else
    Gq N a1 k2 xs) fun k7=>
  if(a1==10)=true then
   Option.bind (Db N (AY xk5)) fun y10=>
   if y10=true then
    if(a1==16)=true then
     Option.bind (Jt N (AY xk5)) fun y12=>
     k7 (!y12)
    else
     k7 false
   else
    k7 true
  else
   if(a1==16)=true then
    Option.bind (Jt N (AY xk5)) fun y14=>
    k7 (!y14)
   else
    k7 false
def PE (N:Nat) (a0:(List UInt8)) (a1:Int) (a2:Int):Option (Int×Int):=
 if(a0==[])=true then
  some (0,3)
 else
  AA (d:=.a (3,20) [(6,3),(14,26)] [] (fun j1:Unit=>[])) (fun j1:Unit=>
   AA (d:=.a (9,30) [(6,2),(10,2),(40,46)] [9] (fun j16:Int=>[.int .u64 j16])) (fun j16:Int=>
    some (j16,0)) fun k17=>
   grd (AB (a0.length)) (
    Gp N a1 a2 k17 a0 0)) fun k2=>
  grd (AB (a0.length)) (
   Gq N a1 k2 a0)
def Le (N:Nat) (a0:(List UInt8)) (a1:Int):Option (Int×Int):=
 Option.bind (PE N a0 10 a1) fun y1=>
 AA (d:=.a (2,1) [(14,15)] [29] (fun j3:Bool=>[.bool j3])) (fun j3:Bool=>
  if j3=true then
   some (0,6)
  else
   some (y1.1,y1.2)) fun k4=>
 if(y1.2==0)=true then
  if(decide ((a0.length:Int)>1))=true then
   Option.bind (idx a0 0) fun x7=>
   k4 ((AY x7)==48)
  else
   k4 false
 else
  if(y1.2==4)=true then
   if(decide ((a0.length:Int)>1))=true then
    Option.bind (idx a0 0) fun x8=>
    k4 ((AY x8)==48)
   else
    k4 false
  else
   k4 false
def Fv (N:Nat) (k4:(Unit→Option (Bool))):List (List UInt8)→Option (Bool)
  |[]=>
  k4 ()
  |xk7::xs=>
  Option.bind (Le N xk7 255) fun y8=>
  if(y8.2 !=0)=true then
   some (false)
  else
   Fv N k4 xs
def Lp (N:Nat) (a0:(List UInt8)):Option (Bool):=
 Option.bind (F9 N a0 46) fun y1=>
 AA (d:=.a (2,24) [(2,1),(5,3),(10,14)] [] (fun j3:Unit=>[])) (fun j3:Unit=>
  some (((y1.length:Int)==4))) fun k4=>
 grd (AB (y1.length)) (
  Fv N k4 y1)
def Hl (N:Nat) (k2:(Unit→Option (Bool))):List UInt8→Option (Bool)
  |[]=>
  k2 ()
  |xk5::xs=>
  AA (d:=.a (4,1) [(10,17)] [27] (fun j6:Bool=>[.bool j6])) (fun j6:Bool=>
   if j6=true then
    some (false)
   else
    Hl N k2 xs) fun k7=>
  Option.bind (GU N (AY xk5)) fun y10=>
  if y10=true then
   k7 false
  else
   Option.bind (Db N (AY xk5)) fun y12=>
   if y12=true then
    k7 false
   else
    k7 ((AY xk5) !=45)
def Pi (N:Nat) (a0:(List UInt8)):Option (Bool):=
 AA (d:=.a (1,20) [(2,26)] [] (fun j1:Unit=>[])) (fun j1:Unit=>
  if(a0==[])=true then
   some (false)
  else
   if(decide ((a0.length:Int)≤63))=true then
    Option.bind (idx a0 0) fun x14=>
    if((AY x14) !=45)=true then
     Option.bind (idx a0 (wr .i64 ((a0.length:Int)-1))) fun x15=>
     some (((AY x15) !=45))
    else
     some (false)
   else
    some (false)) fun k2=>
 grd (AB (a0.length)) (
  Hl N k2 a0)
def Fb (N:Nat) (k2:(Unit→Option (Bool))):List UInt8→Option (Bool)
  |[]=>
  k2 ()
  |xk5::xs=>
  Option.bind (Db N (AY xk5)) fun y6=>
  if y6=true then
   Fb N k2 xs
  else
   some (false)
def Np (N:Nat) (a0:(List UInt8)):Option (Bool):=
 AA (d:=.a (1,20) [(2,13)] [] (fun j1:Unit=>[])) (fun j1:Unit=>
  some ((!(a0==[])))) fun k2=>
 grd (AB (a0.length)) (
  Fb N k2 a0)
def H8 (N:Nat) (k4:(Unit→Option (Bool))):List (List UInt8)→Option (Bool)
  |[]=>
  k4 ()
  |xk7::xs=>
  Option.bind (Pi N xk7) fun y8=>
  if y8=true then
   H8 N k4 xs
  else
   some (false)
def Qt (N:Nat) (a0:(List UInt8)):Option (Bool):=
 Option.bind (F9 N a0 46) fun y1=>
 AA (d:=.a (2,22) [(2,1),(5,1),(8,10)] [] (fun j3:Unit=>[])) (fun j3:Unit=>
  Option.bind (idx y1 (wr .i64 ((y1.length:Int)-1))) fun x10=>
  Option.bind (Np N x10) fun y11=>
  some ((!y11))) fun k4=>
 grd (AB (y1.length)) (
  H8 N k4 y1)
def MJ (N:Nat) (a0:(List UInt8)):Option ((List UInt8)×Int):=
 if(a0==[])=true then
  some ([],3)
 else
  if(decide ((a0.length:Int)>253))=true then
   some ([],5)
  else
   AA (d:=.a (5,1) [(12,8)] [11] (fun j1:Bool=>[.bool j1])) (fun j1:Bool=>
    if j1=true then
     some ([],50)
    else
     Option.bind (J9 N a0) fun y9=>
     some (y9,0)) fun k2=>
   Option.bind (Lp N a0) fun y5=>
   if y5=true then
    k2 false
   else
    Option.bind (Qt N a0) fun y7=>
    k2 (!y7)
def Pf (N:Nat) (a0:(List UInt8)):Option (ApiAcct×Int):=
 if(decide ((a0.length:Int)>4096))=true then
  some ((ApiAcct.mk [] []),5)
 else
  AA (d:=.a (3,1) [(14,9)] [13] (fun j1:Bool=>[.bool j1])) (fun j1:Bool=>
   if j1=true then
    some ((ApiAcct.mk [] []),60)
   else
    Option.bind (sub a0 5 (a0.length:Int)) fun x8=>
    Option.bind (DX N x8 ([64]:List UInt8)) fun y9=>
    if(y9==(x8.length:Int))=true then
     some ((ApiAcct.mk [] []),6)
    else
     Option.bind (sub x8 0 y9) fun x11=>
     Option.bind (Fx N x11 ([33,36,38,39,40,41,42,43,44,59,61]:List UInt8)) fun y12=>
     AA (d:=.a (10,1) [(40,10)] [50] (fun j14:Bool=>[.bool j14])) (fun j14:Bool=>
      if j14=true then
       some ((ApiAcct.mk [] []),80)
      else
       Option.bind (sub x8 (wr .i64 (y9+1)) (x8.length:Int)) fun x19=>
       Option.bind (MJ N x19) fun y20=>
       if(y20.2 !=0)=true then
        some ((ApiAcct.mk [] []),y20.2)
       else
        some ((ApiAcct.mk y12.1 y20.1),0)) fun k15=>
     if(y12.2 !=0)=true then
      k15 true
     else
      if(y12.1==[])=true then
       k15 true
      else
       Option.bind (idx y12.1 0) fun x18=>
       k15 ((AY x18)==37)) fun k2=>
  if(decide ((a0.length:Int)<5))=true then
   k2 true
  else
   Option.bind (sub a0 0 5) fun x5=>
   Option.bind (K5 N x5 ([97,99,99,116,58]:List UInt8)) fun y6=>
   k2 (!y6)
def Nr (N:Nat) (a0:ApiAcct):Option ((List UInt8)):=
 grd (AB (([97,99,99,116,58]:List UInt8).length+a0.user.length)) (
 grd (AB ((([97,99,99,116,58]:List UInt8)++a0.user).length+([64]:List UInt8).length)) (
 grd (AB (((([97,99,99,116,58]:List UInt8)++a0.user)++([64]:List UInt8)).length+a0.host.length)) (
 some ((((([97,99,99,116,58]:List UInt8)++a0.user)++([64]:List UInt8))++a0.host)))))
def F6 (N:Nat) (a0:(List UInt8)) (k2:((List Int)→Option ((List UInt8)×Int))):Nat→(List Int)→Int→Option ((List UInt8)×Int)
  |0,_,_=>none
  |k+1,s4,s5=>
  if(decide (s5<(a0.length:Int)))=true then
   Option.bind (idx a0 s5) fun x6=>
   AA (d:=.a (8,15) [(2,2),(7,2),(21,13)] [5,6] (fun j7:Int×Int=>[.int .i64 j7.1,.int .u8 j7.2])) (fun j7:Int×Int=>
    grd (CG (s4.length+1) 1) (
    F6 N a0 k2 k (s4++[j7.2]) (wr .i64 (j7.1+1)))) fun k8=>
   if((AY x6)==37)=true then
    Option.bind (Lm N a0 s5) fun y11=>
    if y11.2=true then
     k8 ((wr .i64 (s5+2)),y11.1)
    else
     some ([],2)
   else
    k8 (s5,(AY x6))
  else
   k2 s4
def GM (N:Nat) (a0:(List UInt8)):Option ((List UInt8)×Int):=
 if(decide ((a0.length:Int)>16384))=true then
  some ([],5)
 else
  AA (d:=.a (4,32) [(2,2),(5,4),(12,26)] [4] (fun j1:(List Int)=>[.slice 1 (List.map (AVal.int .u8) j1) true])) (fun j1:(List Int)=>
   some ((List.map JK j1),0)) fun k2=>
  F6 N a0 k2 N [] 0
def Ql (N:Nat) (a0:Int):Option (Bool):=
 Option.bind (GU N a0) fun y1=>
 if y1=true then
  some (true)
 else
  Option.bind (Db N a0) fun y3=>
  if y3=true then
   some (true)
  else
   Option.bind (JQ N a0 ([33,35,36,37,38,39,42,43,45,47,61,63,94,95,96,123,124,125,126]:List UInt8)) fun y5=>
   some (y5)
def Gr (N:Nat) (k13:(Unit→Option (Bool))):List UInt8→Option (Bool)
  |[]=>
  k13 ()
  |xk16::xs=>
  Option.bind (Ql N (AY xk16)) fun y17=>
  if y17=true then
   Gr N k13 xs
  else
   some (false)
def Hg (N:Nat) (k6:(Unit→Option (Bool))):List (List UInt8)→Option (Bool)
  |[]=>
  k6 ()
  |xk11::xs=>
  AA (d:=.a (1,31) [(2,1),(4,2),(18,15)] [] (fun j12:Unit=>[])) (fun j12:Unit=>
   Hg N k6 xs) fun k13=>
  if(xk11==[])=true then
   some (false)
  else
   grd (AB (xk11.length)) (
    Gr N k13 xk11)
def Ov (N:Nat) (a0:(List UInt8)):Option (Bool):=
 AA (d:=.a (1,1) [(6,6)] [12] (fun j1:Bool=>[.bool j1])) (fun j1:Bool=>
  if j1=true then
   some (false)
  else
   AA (d:=.a (3,43) [(2,1),(4,2),(13,21)] [] (fun j5:Unit=>[])) (fun j5:Unit=>
    some (true)) fun k6=>
   Option.bind (F9 N a0 46) fun y9=>
   grd (AB (y9.length)) (
    Hg N k6 y9)) fun k2=>
 if(a0==[])=true then
  k2 true
 else
  k2 (decide ((a0.length:Int)>64))
def HZ (N:Nat) (x8:(List UInt8)) (k18:(Unit→Option (ApiMail×Int))):Nat→Int→Option (ApiMail×Int)
  |0,s5=>
  k18 ()
  |k+1,s5=>
  AA (d:=.a (12,1) [(46,11)] [57] (fun j22:Bool=>[.bool j22])) (fun j22:Bool=>
   if j22=true then
    some ((ApiMail.mk [] []),1)
   else
    HZ N x8 k18 k (s5+1)) fun k23=>
  Option.bind (idx x8 s5) fun x26=>
  Option.bind (Dk N (AY x26)) fun y27=>
  if y27=true then
   k23 false
  else
   Option.bind (JQ N (AY x26) ([37,33,36,39,42,43]:List UInt8)) fun y29=>
   k23 (!y29)
def Ox (N:Nat) (a0:(List UInt8)):Option (ApiMail×Int):=
 if(decide ((a0.length:Int)>4096))=true then
  some ((ApiMail.mk [] []),5)
 else
  AA (d := .a (3,1) [(15,9)] [14] (fun j1:Bool=>[.bool j1])) (fun j1:Bool=>
   if j1=true then
    some ((ApiMail.mk [] []),60)
   else
    Option.bind (sub a0 7 (a0.length:Int)) fun x8=>
    Option.bind (DX N x8 ([64]:List UInt8)) fun y9=>
    AA (d:=.a (7,1) [(29,10)] [39] (fun j11:Bool=>[.bool j11])) (fun j11:Bool=>
     if j11=true then
      some ((ApiMail.mk [] []),6)
     else
      AA (d:=.a (9,20) [(3,1),(5,1),(41,18)] [] (fun j17:Unit=>[])) (fun j17:Unit=>
       Option.bind (sub x8 0 y9) fun x31=>
       Option.bind (GM N x31) fun y32=>
       if(y32.2 !=0)=true then
        some ((ApiMail.mk [] []),y32.2)
       else
        Option.bind (Ov N y32.1) fun y34=>
        if y34=true then
         Option.bind (sub x8 (wr .i64 (y9+1)) (x8.length:Int)) fun x36=>
         Option.bind (MJ N x36) fun y37=>
         if(y37.2 !=0)=true then
          some ((ApiMail.mk [] []),y37.2)
         else
          Option.bind (Lp N y37.1) fun y39=>
          if y39=true then
           some ((ApiMail.mk [] []),50)
          else
           some ((ApiMail.mk y32.1 y37.1),0)
        else
         some ((ApiMail.mk [] []),80)) fun k18=>
      grd ((-4611686018427387904:Int)≤0∧(y9:Int)≤4611686018427387904) (
       HZ N x8 k18 ((y9:Int)-0).toNat 0)) fun k12=>
    if(y9==(x8.length:Int))=true then
     k12 true
    else
     Option.bind (DX N x8 ([63,35]:List UInt8)) fun y15=>
     k12 (decide (y15<(x8.length:Int)))) fun k2=>
  if(decide ((a0.length:Int)<7))=true then
   k2 true
  else
   Option.bind (sub a0 0 7) fun x5=>
   Option.bind (K5 N x5 ([109,97,105,108,116,111,58]:List UInt8)) fun y6=>
   k2 (!y6)
def Fh (N:Nat) (a0:(List UInt8)) (a1:(List UInt8)) (k2:((List UInt8)→Option ((List UInt8)))):List UInt8→Int→(List UInt8)→Option ((List UInt8))
  |[],s6,s5=>
  k2 s5
  |xk5::xs,s6,s5=>
  AA (d:=.a (1,6) [(13,30)] [5] (fun j6:(List UInt8)=>[.str j6])) (fun j6:(List UInt8)=>
   Fh N a0 a1 k2 xs (s6+1) j6) fun k7=>
  AA (d:=.a (5,1) [(13,16)] [29] (fun j10:Bool=>[.bool j10])) (fun j10:Bool=>
   if j10=true then
    Option.bind (sub a0 s6 (s6+1)) fun x18=>
    grd (AB (s5.length+x18.length)) (
    k7 (s5++x18))
   else
    Option.bind (KT N (AY xk5)) fun y19=>
    grd (AB (s5.length+y19.length)) (
    k7 (s5++y19))) fun k11=>
  Option.bind (Dk N (AY xk5)) fun y14=>
  if y14=true then
   k11 true
  else
   if((AY xk5) !=37)=true then
    Option.bind (JQ N (AY xk5) a1) fun y16=>
    k11 y16
   else
    k11 false
def KV (N:Nat) (a0:(List UInt8)) (a1:(List UInt8)):Option ((List UInt8)):=
 AA (d:=.a (2,18) [(6,37)] [5] (fun j1:(List UInt8)=>[.str j1])) (fun j1:(List UInt8)=>
  some (j1)) fun k2=>
 grd (AB (a0.length)) (
  Fh N a0 a1 k2 a0 0 [])
def Nu (N:Nat) (a0:ApiMail):Option ((List UInt8)):=
 Option.bind (KV N a0.local_ ([33,36,39,42,43]:List UInt8)) fun y1=>
 grd (AB (([109,97,105,108,116,111,58]:List UInt8).length+y1.length)) (
 grd (AB ((([109,97,105,108,116,111,58]:List UInt8)++y1).length+([64]:List UInt8).length)) (
 grd (AB (((([109,97,105,108,116,111,58]:List UInt8)++y1)++([64]:List UInt8)).length+a0.host.length)) (
 some ((((([109,97,105,108,116,111,58]:List UInt8)++y1)++([64]:List UInt8))++a0.host)))))
def GR (N:Nat) (a0:(List UInt8)) (a1:(List UInt8)):Option (Bool):=
 if(decide ((a0.length:Int)≥(a1.length:Int)))=true then
  Option.bind (sub a0 0 (a1.length:Int)) fun x1=>
  some ((x1==a1))
 else
  some (false)
def Fe (N:Nat) (k2:(Unit→Option (Bool))):List UInt8→Int→Option (Bool)
  |[],s3=>
  k2 ()
  |xk5::xs,s3=>
  AA (d:=.a (4,1) [(10,22)] [32] (fun j6:Bool=>[.bool j6])) (fun j6:Bool=>
   if j6=true then
    some (false)
   else
    Fe N k2 xs (s3+1)) fun k7=>
  Option.bind (GU N (AY xk5)) fun y10=>
  if y10=true then
   k7 false
  else
   if(s3==0)=true then
    k7 true
   else
    Option.bind (Db N (AY xk5)) fun y12=>
    if y12=true then
     k7 false
    else
     Option.bind (JQ N (AY xk5) ([43,45,46]:List UInt8)) fun y14=>
     k7 (!y14)
def N8 (N:Nat) (a0:(List UInt8)):Option (Bool):=
 AA (d:=.a (1,20) [(2,31)] [] (fun j1:Unit=>[])) (fun j1:Unit=>
  some ((!(a0==[])))) fun k2=>
 grd (AB (a0.length)) (
  Fe N k2 a0 0)
def PR (N:Nat) (a0:(List UInt8)):Option (ApiURI×Int):=
 if(decide ((a0.length:Int)>16384))=true then
  some ((ApiURI.mk [] [] [] [] [] false false false false),5)
 else
  AA (d:=.b (4,7) [(5,1),(13,15)] [0] (fun j1:(List UInt8)×(List UInt8)×Bool=>[.str j1.1]) fun j1=>[.p [.k,.k,.k,.k,.v (.str j1.2.1),.k,.k,.k,.v (.bool j1.2.2)]]) (fun j1:(List UInt8)×(List UInt8)×Bool=>
   AA (d:=.b (7,7) [(6,1),(28,15)] [0] (fun j9:(List UInt8)×(List UInt8)×Bool=>[.str j9.1]) fun j9=>[.p [.k,.k,.k,.v (.str j9.2.1),.k,.k,.k,.v (.bool j9.2.2)]]) (fun j9:(List UInt8)×(List UInt8)×Bool=>
    AA (d:=.b (10,15) [(3,1),(7,1),(43,27)] [0] (fun j17:(List UInt8)×(List UInt8)×Bool=>[.str j17.1]) fun j17=>[.p [.v (.str j17.2.1),.k,.k,.k,.k,.v (.bool j17.2.2)]]) (fun j17:(List UInt8)×(List UInt8)×Bool=>
     AA (d:=.b (15,7) [(8,1),(70,14)] [0] (fun j32:(List UInt8)×(List UInt8)×Bool=>[.str j32.1]) fun j32=>[.p [.k,.v (.str j32.2.1),.k,.k,.k,.k,.v (.bool j32.2.2)]]) (fun j32:(List UInt8)×(List UInt8)×Bool=>
      some ((ApiURI.mk j17.2.1 j32.2.1 j32.1 j9.2.1 j1.2.1 j17.2.2 j32.2.2 j9.2.2 j1.2.2),0)) fun k33=>
     Option.bind (GR N j17.1 ([47,47]:List UInt8)) fun y36=>
     if y36=true then
      Option.bind (sub j17.1 2 (j17.1.length:Int)) fun x38=>
      Option.bind (DX N x38 ([47]:List UInt8)) fun y39=>
      Option.bind (sub j17.1 2 (wr .i64 (2+y39))) fun x41=>
      Option.bind (sub j17.1 (wr .i64 (2+y39)) (j17.1.length:Int)) fun x42=>
      k33 (x42,x41,true)
     else
      k33 (j17.1,[],false)) fun k18=>
    Option.bind (DX N j9.1 ([58,47]:List UInt8)) fun y21=>
    AA (d:=.a (11,1) [(45,9)] [54] (fun j23:Bool=>[.bool j23])) (fun j23:Bool=>
     if j23=true then
      Option.bind (sub j9.1 0 y21) fun x28=>
      Option.bind (N8 N x28) fun y29=>
      if y29=true then
       Option.bind (sub j9.1 (wr .i64 (y21+1)) (j9.1.length:Int)) fun x31=>
       k18 (x31,x28,true)
      else
       some ((ApiURI.mk [] [] [] [] [] false false false false),6)
     else
      k18 (j9.1,[],false)) fun k24=>
    if(decide (y21<(j9.1.length:Int)))=true then
     Option.bind (idx j9.1 y21) fun x27=>
     k24 ((AY x27)==58)
    else
     k24 false) fun k10=>
   Option.bind (DX N j1.1 ([63]:List UInt8)) fun y13=>
   if(decide (y13<(j1.1.length:Int)))=true then
    Option.bind (sub j1.1 (wr .i64 (y13+1)) (j1.1.length:Int)) fun x15=>
    Option.bind (sub j1.1 0 y13) fun x16=>
    k10 (x16,x15,true)
   else
    k10 (j1.1,[],false)) fun k2=>
  Option.bind (DX N a0 ([35]:List UInt8)) fun y5=>
  if(decide (y5<(a0.length:Int)))=true then
   Option.bind (sub a0 (wr .i64 (y5+1)) (a0.length:Int)) fun x7=>
   Option.bind (sub a0 0 y5) fun x8=>
   k2 (x8,x7,true)
  else
   k2 (a0,[],false)
def RN (N:Nat) (a0:(List UInt8)):Option (Int×Int):=
 Option.bind (Le N a0 65535) fun y1=>
 AA (d:=.a (2,1) [(11,5)] [16] (fun j3:Bool=>[.bool j3])) (fun j3:Bool=>
  if j3=true then
   some (0,51)
  else
   some ((wr .i64 y1.1),0)) fun k4=>
 if(y1.2 !=0)=true then
  k4 true
 else
  k4 (y1.1==0)
def M8 (N:Nat) (a0:(List UInt8)):Option (ApiHostPort×Int):=
 Option.bind (DX N a0 ([58]:List UInt8)) fun y1=>
 Option.bind (sub a0 0 y1) fun x3=>
 Option.bind (MJ N x3) fun y4=>
 if(y4.2 !=0)=true then
  some ((ApiHostPort.mk [] 0),y4.2)
 else
  if(y1==(a0.length:Int))=true then
   some ((ApiHostPort.mk y4.1 0),0)
  else
   Option.bind (sub a0 (wr .i64 (y1+1)) (a0.length:Int)) fun x6=>
   Option.bind (RN N x6) fun y7=>
   if(y7.2 !=0)=true then
    some ((ApiHostPort.mk [] 0),y7.2)
   else
    AA (d:=.a (10,5) [(39,2)] [7] (fun j9:Int=>[.int .i64 j9])) (fun j9:Int=>
     some ((ApiHostPort.mk y4.1 j9),0)) fun k10=>
    if(y7.1==443)=true then
     k10 0
    else
     k10 y7.1
def FE (N:Nat) (a0:(List UInt8)) (k2:(Unit→Option ((List UInt8)))):Nat→Int→Option ((List UInt8))
  |0,_=>none
  |k+1,s3=>
  if(decide (s3≥0))=true then
   Option.bind (idx a0 s3) fun x6=>
   if((AY x6)==47)=true then
    Option.bind (sub a0 0 s3) fun x7=>
    some (x7)
   else
    FE N a0 k2 k (wr .i64 (s3-1))
  else
   k2 ()
def Kv (N:Nat) (a0:(List UInt8)):Option ((List UInt8)):=
 AA (d:=.a (1,20) [(2,16)] [] (fun j1:Unit=>[])) (fun j1:Unit=>
  some ([])) fun k2=>
 FE N a0 k2 N (wr .i64 ((a0.length:Int)-1))
def BC (N:Nat) (k2:((List UInt8)→Option ((List UInt8)))):Nat→(List UInt8)→(List UInt8)→Option ((List UInt8))
  |0,_,_=>none
  |k+1,s3,s4=>
  if(s3==[])=true then
   k2 s4
  else
   Option.bind (GR N s3 ([46,46,47]:List UInt8)) fun y6=>
   if y6=true then
    Option.bind (sub s3 3 (s3.length:Int)) fun x8=>
    BC N k2 k x8 s4
   else
    Option.bind (GR N s3 ([46,47]:List UInt8)) fun y9=>
    if y9=true then
     Option.bind (sub s3 2 (s3.length:Int)) fun x11=>
     BC N k2 k x11 s4
    else
     Option.bind (GR N s3 ([47,46,47]:List UInt8)) fun y12=>
     if y12=true then
      Option.bind (sub s3 2 (s3.length:Int)) fun x14=>
      BC N k2 k x14 s4
     else
      if(s3==([47,46]:List UInt8))=true then
       BC N k2 k ([47]:List UInt8) s4
      else
       Option.bind (GR N s3 ([47,46,46,47]:List UInt8)) fun y15=>
       if y15=true then
        Option.bind (sub s3 3 (s3.length:Int)) fun x17=>
        Option.bind (Kv N s4) fun y18=>
        BC N k2 k x17 y18
       else
        if(s3==([47,46,46]:List UInt8))=true then
         Option.bind (Kv N s4) fun y20=>
         BC N k2 k ([47]:List UInt8) y20
        else
         AA (d:=.a (17,1) [(52,6)] [51] (fun j22:Bool=>[.bool j22])) (fun j22:Bool=>
          if j22=true then
           BC N k2 k [] s4
          else
           Option.bind (sub s3 1 (s3.length:Int)) fun x26=>
           Option.bind (DX N x26 ([47]:List UInt8)) fun y27=>
           Option.bind (sub s3 (wr .i64 (1+y27)) (s3.length:Int)) fun x29=>
           Option.bind (sub s3 0 (wr .i64 (1+y27))) fun x30=>
           grd (AB (s4.length+x30.length)) (
           BC N k2 k x29 (s4++x30))) fun k23=>
         if(s3==([46]:List UInt8))=true then
          k23 true
         else
          k23 (s3==([46,46]:List UInt8))
def KY (N:Nat) (a0:(List UInt8)):Option ((List UInt8)):=
 AA (d:=.a (0,41) [(3,1),(5,1),(7,51)] [4] (fun j1:(List UInt8)=>[.str j1])) (fun j1:(List UInt8)=>
  some (j1)) fun k2=>
 BC N k2 N a0 []
def Mm (N:Nat) (a0:(List UInt8)):Option (ApiURL×Int):=
 if(decide ((a0.length:Int)>4096))=true then
  some ((ApiURL.mk [] 0 [] [] [] false false),5)
 else
  Option.bind (PR N a0) fun y1=>
  if(y1.2 !=0)=true then
   some ((ApiURL.mk [] 0 [] [] [] false false),y1.2)
  else
   AA (d := .a (6,1) [(25,9)] [24] (fun j3:Bool=>[.bool j3])) (fun j3:Bool=>
    if j3=true then
     some ((ApiURL.mk [] 0 [] [] [] false false),60)
    else
     if y1.1.hasAuthority=true then
      Option.bind (DX N y1.1.authority ([64]:List UInt8)) fun y9=>
      if(decide (y9<(y1.1.authority.length:Int)))=true then
       some ((ApiURL.mk [] 0 [] [] [] false false),70)
      else
       Option.bind (M8 N y1.1.authority) fun y11=>
       if(y11.2 !=0)=true then
        some ((ApiURL.mk [] 0 [] [] [] false false),y11.2)
       else
        Option.bind (Fx N y1.1.path ([33,36,38,39,40,41,42,43,44,59,61,58,64,47]:List UInt8)) fun y13=>
        if(y13.2 !=0)=true then
         some ((ApiURL.mk [] 0 [] [] [] false false),y13.2)
        else
         Option.bind (Fx N y1.1.query ([33,36,38,39,40,41,42,43,44,59,61,58,64,47,63]:List UInt8)) fun y15=>
         if(y15.2 !=0)=true then
          some ((ApiURL.mk [] 0 [] [] [] false false),y15.2)
         else
          Option.bind (Fx N y1.1.fragment ([33,36,38,39,40,41,42,43,44,59,61,58,64,47,63]:List UInt8)) fun y17=>
          if(y17.2 !=0)=true then
           some ((ApiURL.mk [] 0 [] [] [] false false),y17.2)
          else
           AA (d:=.a (24,7) [(89,4)] [7] (fun j19:(List UInt8)=>[.str j19])) (fun j19:(List UInt8)=>
            Option.bind (GD N (ApiURL.mk y11.1.host y11.1.port j19 y15.1 y17.1 y1.1.hasQuery y1.1.hasFrag)) fun y25=>
            if(decide ((y25.length:Int)>4096))=true then
             some ((ApiURL.mk [] 0 [] [] [] false false),5)
            else
             some ((ApiURL.mk y11.1.host y11.1.port j19 y15.1 y17.1 y1.1.hasQuery y1.1.hasFrag),0)) fun k20=>
           Option.bind (KY N y13.1) fun y23=>
           if(y23==[])=true then
            k20 ([47]:List UInt8)
           else
            k20 y23
     else
      some ((ApiURL.mk [] 0 [] [] [] false false),71)) fun k4=>
   if y1.1.hasScheme=true then
    Option.bind (K5 N y1.1.scheme ([104,116,116,112,115]:List UInt8)) fun y7=>
    k4 (!y7)
   else
    k4 true
def TY (N:Nat) (a0:(List UInt8)):Option (ApiID×Int):=
 Option.bind (Mm N a0) fun y1=>
 if(y1.2 !=0)=true then
  some ((ApiID.mk 0 [] [] 0),y1.2)
 else
  Option.bind (GD N y1.1) fun y3=>
  some ((ApiID.mk 3 y3 y1.1.host y1.1.port),0)
def Fs (N:Nat) (k2:(Unit→Option (Bool))):List UInt8→Option (Bool)
  |[]=>
  k2 ()
  |xk5::xs=>
  AA (d:=.a (4,1) [(10,16)] [26] (fun j6:Bool=>[.bool j6])) (fun j6:Bool=>
   if j6=true then
    some (false)
   else
    Fs N k2 xs) fun k7=>
  Option.bind (Db N (AY xk5)) fun y10=>
  if y10=true then
   k7 false
  else
   if(decide ((AY xk5)<97))=true then
    k7 true
   else
    k7 (decide ((AY xk5)>122))
def Nn (N:Nat) (a0:(List UInt8)):Option (Bool):=
 AA (d:=.a (1,20) [(2,25)] [] (fun j1:Unit=>[])) (fun j1:Unit=>
  some ((!(a0==[])))) fun k2=>
 grd (AB (a0.length)) (
  Fs N k2 a0)
def Mk (N:Nat) (a0:Int):Option (Bool):=
 Option.bind (GU N a0) fun y1=>
 if y1=true then
  some (true)
 else
  Option.bind (Db N a0) fun y3=>
  if y3=true then
   some (true)
  else
   Option.bind (JQ N a0 ([46,45,95]:List UInt8)) fun y5=>
   some (y5)
def FD (N:Nat) (a0:(List UInt8)) (k2:((List UInt8)→Option ((List UInt8)))):List UInt8→Int→(List UInt8)→Option ((List UInt8))
  |[],s4,s3=>
  k2 s3
  |xk5::xs,s4,s3=>
  AA (d:=.a (1,6) [(11,17)] [3] (fun j6:(List UInt8)=>[.str j6])) (fun j6:(List UInt8)=>
   FD N a0 k2 xs (s4+1) j6) fun k7=>
  Option.bind (Mk N (AY xk5)) fun y10=>
  if y10=true then
   Option.bind (sub a0 s4 (s4+1)) fun x12=>
   grd (AB (s3.length+x12.length)) (
   k7 (s3++x12))
  else
   Option.bind (KT N (AY xk5)) fun y13=>
   grd (AB (s3.length+y13.length)) (
   k7 (s3++y13))
def Ku (N:Nat) (a0:(List UInt8)):Option ((List UInt8)):=
 AA (d:=.a (2,18) [(4,24)] [3] (fun j1:(List UInt8)=>[.str j1])) (fun j1:(List UInt8)=>
  some (j1)) fun k2=>
 grd (AB (a0.length)) (
  FD N a0 k2 a0 0 [])
def Eg (N:Nat) (k25:(Unit→Option (ApiDID×Int))):List UInt8→Option (ApiDID×Int)
  |[]=>
  k25 ()
  |xk28::xs=>
  AA (d:=.a (26,1) [(74,10)] [84] (fun j29:Bool=>[.bool j29])) (fun j29:Bool=>
   if j29=true then
    some ((ApiDID.mk [] []),1)
   else
    Eg N k25 xs) fun k30=>
  Option.bind (Mk N (AY xk28)) fun y33=>
  if y33=true then
   k30 false
  else
   k30 ((AY xk28) !=37)
def Ei (N:Nat) (k20:((List UInt8)→Option (ApiDID×Int))):List (List UInt8)→Int→(List UInt8)→Option (ApiDID×Int)
  |[],s63,s10=>
  k20 s10
  |xk23::xs,s63,s10=>
  AA (d:=.a (23,20) [(3,1),(13,1),(68,18)] [] (fun j24:Unit=>[])) (fun j24:Unit=>
   Option.bind (GM N xk23) fun y35=>
   AA (d:=.a (29,5) [(91,4)] [10] (fun j37:(List UInt8)=>[.str j37])) (fun j37:(List UInt8)=>
    Option.bind (Ku N y35.1) fun y41=>
    grd (AB (j37.length+y41.length)) (
    Ei N k20 xs (s63+1) (j37++y41))) fun k38=>
   if(decide (s63>0))=true then
    grd (AB (s10.length+([58]:List UInt8).length)) (
    k38 (s10++([58]:List UInt8)))
   else
    k38 s10) fun k25=>
  grd (AB (xk23.length)) (
   Eg N k25 xk23)
def Eh (N:Nat) (k13:(Unit→Option (ApiDID×Int))):List (List UInt8)→Option (ApiDID×Int)
  |[]=>
  k13 ()
  |xk16::xs=>
  Option.bind (GM N xk16) fun y17=>
  if(y17.2 !=0)=true then
   some ((ApiDID.mk [] []),2)
  else
   Eh N k13 xs
def KH (N:Nat) (a0:(List UInt8)):Option (ApiDID×Int):=
 if(decide ((a0.length:Int)>4096))=true then
  some ((ApiDID.mk [] []),5)
 else
  Option.bind (GR N a0 ([100,105,100,58]:List UInt8)) fun y1=>
  if y1=true then
   Option.bind (sub a0 4 (a0.length:Int)) fun x3=>
   Option.bind (DX N x3 ([58]:List UInt8)) fun y4=>
   if(y4==(x3.length:Int))=true then
    some ((ApiDID.mk [] []),6)
   else
    Option.bind (sub x3 0 y4) fun x6=>
    Option.bind (Nn N x6) fun y7=>
    if y7=true then
     Option.bind (sub x3 (wr .i64 (y4+1)) (x3.length:Int)) fun x9=>
     Option.bind (F9 N x9 58) fun y10=>
     AA (d:=.a (12,24) [(3,1),(7,3),(46,15)] [] (fun j12:Unit=>[])) (fun j12:Unit=>
      AA (d:=.a (20,45) [(3,1),(11,5),(61,39)] [10] (fun j19:(List UInt8)=>[.str j19])) (fun j19:(List UInt8)=>
       Option.bind (idx y10 (wr .i64 ((y10.length:Int)-1))) fun x43=>
       if(x43==[])=true then
        some ((ApiDID.mk [] []),3)
       else
        some ((ApiDID.mk x6 j19),0)) fun k20=>
      grd (AB (y10.length)) (
       Ei N k20 y10 0 [])) fun k13=>
     grd (AB (y10.length)) (
      Eh N k13 y10)
    else
     some ((ApiDID.mk [] []),100)
  else
   some ((ApiDID.mk [] []),60)
def H7 (N:Nat) (a0:ApiDID):Option ((List UInt8)):=
 grd (AB (([100,105,100,58]:List UInt8).length+a0.method.length)) (
 grd (AB ((([100,105,100,58]:List UInt8)++a0.method).length+([58]:List UInt8).length)) (
 grd (AB (((([100,105,100,58]:List UInt8)++a0.method)++([58]:List UInt8)).length+a0.iD.length)) (
 some ((((([100,105,100,58]:List UInt8)++a0.method)++([58]:List UInt8))++a0.iD)))))
def Mh (N:Nat) (a0:ApiDID):Option ((List (List UInt8))×ApiHostPort×Int):=
 if(a0.method==([119,101,98]:List UInt8))=true then
  Option.bind (H7 N a0) fun y1=>
  Option.bind (KH N y1) fun y3=>
  if(y3.2 !=0)=true then
   some ([],(ApiHostPort.mk [] 0),y3.2)
  else
   Option.bind (F9 N a0.iD 58) fun y5=>
   Option.bind (idx y5 0) fun x7=>
   Option.bind (GM N x7) fun y8=>
   Option.bind (M8 N y8.1) fun y10=>
   some (y5,y10.1,y10.2)
 else
  some ([],(ApiHostPort.mk [] 0),100)
def He (N:Nat) (k4:((List UInt8)→Option (ApiURL×Int))):List (List UInt8)→(List UInt8)→Option (ApiURL×Int)
  |[],s7=>
  k4 s7
  |xk8::xs,s7=>
  Option.bind (GM N xk8) fun y9=>
  AA (d:=.a (9,1) [(35,9)] [44] (fun j11:Bool=>[.bool j11])) (fun j11:Bool=>
   if j11=true then
    some ((ApiURL.mk [] 0 [] [] [] false false),110)
   else
    Option.bind (KV N y9.1 []) fun y15=>
    grd (AB (([47]:List UInt8).length+y15.length)) (
    grd (AB (s7.length+(([47]:List UInt8)++y15).length)) (
    He N k4 xs (s7++(([47]:List UInt8)++y15))))) fun k12=>
  if(y9.1==[])=true then
   k12 true
  else
   if(y9.1==([46]:List UInt8))=true then
    k12 true
   else
    k12 (y9.1==([46,46]:List UInt8))
def PM (N:Nat) (a0:ApiDID):Option (ApiURL×Int):=
 Option.bind (Mh N a0) fun y1=>
 if(y1.2.2 !=0)=true then
  some ((ApiURL.mk [] 0 [] [] [] false false),y1.2.2)
 else
  AA (d:=.a (5,26) [(3,1),(9,3),(23,29)] [7] (fun j3:(List UInt8)=>[.str j3])) (fun j3:(List UInt8)=>
   AA (d:=.a (13,5) [(52,3)] [7] (fun j17:(List UInt8)=>[.str j17])) (fun j17:(List UInt8)=>
    grd (AB (j17.length+([47,100,105,100,46,106,115,111,110]:List UInt8).length)) (
    Option.bind (GD N (ApiURL.mk y1.2.1.host y1.2.1.port (j17++([47,100,105,100,46,106,115,111,110]:List UInt8)) [] [] false false)) fun y21=>
    if(decide ((y21.length:Int)>4096))=true then
     some ((ApiURL.mk [] 0 [] [] [] false false),5)
    else
     some ((ApiURL.mk y1.2.1.host y1.2.1.port (j17++([47,100,105,100,46,106,115,111,110]:List UInt8)) [] [] false false),0))) fun k18=>
   if((y1.1.length:Int)==1)=true then
    k18 ([47,46,119,101,108,108,45,107,110,111,119,110]:List UInt8)
   else
    k18 j3) fun k4=>
  Option.bind (sub y1.1 1 (y1.1.length:Int)) fun x7=>
  grd (AB (x7.length)) (
   He N k4 x7 [])
def Pt (N:Nat) (a0:ApiURL):Option (Bool):=
 Option.bind (GD N a0) fun y1=>
 Option.bind (Mm N y1) fun y3=>
 if(y3.2==0)=true then
  some ((a0.host==y3.1.host&&(a0.port==y3.1.port&&(a0.path==y3.1.path&&(a0.query==y3.1.query&&(a0.fragment==y3.1.fragment&&(a0.hasQuery==y3.1.hasQuery&&a0.hasFrag==y3.1.hasFrag)))))))
 else
  some (false)
def E8 (N:Nat) (k28:(Unit→Option (ApiDID×Int))):List UInt8→Option (ApiDID×Int)
  |[]=>
  k28 ()
  |xk31::xs=>
  AA (d:=.a (18,1) [(68,10)] [78] (fun j32:Bool=>[.bool j32])) (fun j32:Bool=>
   if j32=true then
    some ((ApiDID.mk [] []),110)
   else
    E8 N k28 xs) fun k33=>
  Option.bind (Dk N (AY xk31)) fun y36=>
  if y36=true then
   k33 false
  else
   k33 ((AY xk31) !=37)
def FH (N:Nat) (a0:ApiURL) (k19:((List UInt8)→Option (ApiDID×Int))):List (List UInt8)→(List UInt8)→Option (ApiDID×Int)
  |[],s5=>
  k19 s5
  |xk22::xs,s5=>
  AA (d:=.a (1,39) [(3,1),(7,4),(60,36)] [5] (fun j23:(List UInt8)=>[.str j23])) (fun j23:(List UInt8)=>
   FH N a0 k19 xs j23) fun k24=>
  AA (d:=.a (15,20) [(3,1),(8,1),(62,18)] [] (fun j27:Unit=>[])) (fun j27:Unit=>
   Option.bind (GM N xk22) fun y38=>
   if(y38.1==[])=true then
    some ((ApiDID.mk [] []),110)
   else
    if(a0.path==([47,46,119,101,108,108,45,107,110,111,119,110,47,100,105,100,46,106,115,111,110]:List UInt8))=true then
     k24 s5
    else
     Option.bind (Ku N y38.1) fun y40=>
     grd (AB (([58]:List UInt8).length+y40.length)) (
     grd (AB (s5.length+(([58]:List UInt8)++y40).length)) (
     k24 (s5++(([58]:List UInt8)++y40))))) fun k28=>
  grd (AB (xk22.length)) (
   E8 N k28 xk22)
def NC (N:Nat) (a0:ApiURL):Option (ApiDID×Int):=
 Option.bind (Pt N a0) fun y1=>
 if y1=true then
  Option.bind (F9 N a0.path 47) fun y3=>
  Option.bind (sub y3 1 (y3.length:Int)) fun x5=>
  AA (d:=.a (4,1) [(20,14)] [34] (fun j6:Bool=>[.bool j6])) (fun j6:Bool=>
   if j6=true then
    some ((ApiDID.mk [] []),6)
   else
    Option.bind (sub x5 0 (wr .i64 ((x5.length:Int)-1))) fun x11=>
    if((x11.length:Int)==0)=true then
     some ((ApiDID.mk [] []),110)
    else
     AA (d:=.a (10,5) [(47,9)] [5] (fun j12:(List UInt8)=>[.str j12])) (fun j12:(List UInt8)=>
      AA (d:=.a (12,51) [(3,1),(7,4),(56,41)] [5] (fun j18:(List UInt8)=>[.str j18])) (fun j18:(List UInt8)=>
       Option.bind (H7 N (ApiDID.mk ([119,101,98]:List UInt8) j18)) fun y42=>
       if(decide ((y42.length:Int)>4096))=true then
        some ((ApiDID.mk [] []),5)
       else
        some ((ApiDID.mk ([119,101,98]:List UInt8) j18),0)) fun k19=>
      grd (AB (x11.length)) (
       FH N a0 k19 x11 j12)) fun k13=>
     if(a0.port !=0)=true then
      Option.bind (JN N a0.port) fun y16=>
      grd (AB (([37,51,65]:List UInt8).length+y16.length)) (
      grd (AB (a0.host.length+(([37,51,65]:List UInt8)++y16).length)) (
      k13 (a0.host++(([37,51,65]:List UInt8)++y16))))
     else
      k13 a0.host) fun k7=>
  if a0.hasQuery=true then
   k7 true
  else
   if a0.hasFrag=true then
    k7 true
   else
    Option.bind (idx x5 (wr .i64 ((x5.length:Int)-1))) fun x10=>
    k7 (!(x10==([100,105,100,46,106,115,111,110]:List UInt8)))
 else
  some ((ApiDID.mk [] []),8)
def LX (N:Nat) (a0:ApiDID):Option (ApiDID×Int):=
 Option.bind (PM N a0) fun y1=>
 if(y1.2 !=0)=true then
  some ((ApiDID.mk [] []),y1.2)
 else
  Option.bind (NC N y1.1) fun y3=>
  some (y3.1,y3.2)
def LW (N:Nat) (a0:ApiDID):Option (ApiHostPort×Int):=
 Option.bind (Mh N a0) fun y1=>
 some (y1.2.1,y1.2.2)
def LM (N:Nat) (a0:(List UInt8)):Option (ApiID×Int):=
 Option.bind (KH N a0) fun y1=>
 if(y1.2 !=0)=true then
  some ((ApiID.mk 0 [] [] 0),y1.2)
 else
  Option.bind (LX N y1.1) fun y3=>
  if(y3.2 !=0)=true then
   some ((ApiID.mk 0 [] [] 0),y3.2)
  else
   Option.bind (LW N y3.1) fun y5=>
   Option.bind (H7 N y3.1) fun y7=>
   some ((ApiID.mk 4 y7 y5.1.host y5.1.port),0)
def K8 (N:Nat) (a0:(List UInt8)):Option (ApiID×Int):=
 if(decide ((a0.length:Int)>4096))=true then
  some ((ApiID.mk 0 [] [] 0),5)
 else
  Option.bind (DX N a0 ([58]:List UInt8)) fun y1=>
  if(y1==(a0.length:Int))=true then
   some ((ApiID.mk 0 [] [] 0),60)
  else
   Option.bind (sub a0 0 y1) fun x3=>
   Option.bind (J9 N x3) fun y4=>
   if(y4==([97,99,99,116]:List UInt8))=true then
    Option.bind (Pf N a0) fun y6=>
    if(y6.2 !=0)=true then
     some ((ApiID.mk 0 [] [] 0),y6.2)
    else
     Option.bind (Nr N y6.1) fun y8=>
     some ((ApiID.mk 1 y8 y6.1.host 0),0)
   else
    if(y4==([109,97,105,108,116,111]:List UInt8))=true then
     Option.bind (Ox N a0) fun y10=>
     if(y10.2 !=0)=true then
      some ((ApiID.mk 0 [] [] 0),y10.2)
     else
      Option.bind (Nu N y10.1) fun y12=>
      some ((ApiID.mk 2 y12 y10.1.host 0),0)
    else
     if(y4==([104,116,116,112,115]:List UInt8))=true then
      Option.bind (TY N a0) fun y14=>
      some (y14.1,y14.2)
     else
      if(y4==([100,105,100]:List UInt8))=true then
       Option.bind (LM N a0) fun y16=>
       some (y16.1,y16.2)
      else
       some ((ApiID.mk 0 [] [] 0),60)
def Gm (N:Nat) (a0:MadeDice) (a1:Int):Option (Int×MadeDice):=
 AA (d:=.a (1,1) [(6,9)] [15] (fun j1:Bool=>[.bool j1])) (fun j1:Bool=>
  if j1=true then
   some (0,a0)
  else
   Option.bind (idx a0.l 0) fun x5=>
   Option.bind (sub a0.l 1 (a0.l.length:Int)) fun x6=>
   grd (a1≠0) (
   some (((wr .i64 x5).tmod a1),(MadeDice.mk x6)))) fun k2=>
 if((a0.l.length:Int)==0)=true then
  k2 true
 else
  k2 (decide (a1≤1))
def Cx (N:Nat) (a0:MadeDice) (a1:(List (List UInt8))):Option ((List UInt8)×MadeDice):=
 Option.bind (Gm N a0 (a1.length:Int)) fun y1=>
 Option.bind (idx a1 y1.1) fun x3=>
 some (x3,y1.2)
def P9 (N:Nat) (a0:MadeDice):Option ((List UInt8)×MadeDice):=
 letL ([([97,46,101,120,97,109,112,108,101]:List UInt8),([98,46,101,120,97,109,112,108,101]:List UInt8),([99,46,101,120,97,109,112,108,101,58,56,52,52,51]:List UInt8),([100,46,101,120,97,109,112,108,101]:List UInt8)]:(List (List UInt8))) fun l1=>
 Option.bind (Cx N a0 l1) fun y2=>
 some (y2.1,y2.2)
def Na (N:Nat) (a0:MadeDice):Option ((List UInt8)×MadeDice):=
 Option.bind (P9 N a0) fun y1=>
 Option.bind (Gm N y1.2 6) fun y3=>
 AA (d:=.a (3,5) [(9,2)] [8] (fun j5:Bool=>[.bool j5])) (fun j5:Bool=>
  if j5=true then
   letL ([([97,99,99,116,58]:List UInt8),([65,67,67,84,58]:List UInt8)]:(List (List UInt8))) fun l9=>
   Option.bind (Cx N y3.2 l9) fun y10=>
   letL ([([98,111,98]:List UInt8),([97,109,121]:List UInt8),([120,37,50,102,121]:List UInt8),([99,43,100]:List UInt8)]:(List (List UInt8))) fun l12=>
   Option.bind (Cx N y10.2 l12) fun y13=>
   grd (AB (y10.1.length+y13.1.length)) (
   grd (AB ((y10.1++y13.1).length+([64]:List UInt8).length)) (
   letL ([([97,46,101,120,97,109,112,108,101]:List UInt8),([66,46,101,120,97,109,112,108,101]:List UInt8),([99,46,101,120,97,109,112,108,101]:List UInt8)]:(List (List UInt8))) fun l15=>
   Option.bind (Cx N y13.2 l15) fun y16=>
   grd (AB (((y10.1++y13.1)++([64]:List UInt8)).length+y16.1.length)) (
   some ((((y10.1++y13.1)++([64]:List UInt8))++y16.1),y16.2))))
  else
   if(y3.1==2)=true then
    letL ([([98,111,98]:List UInt8),([37,54,49,109,121]:List UInt8),([99,43,100]:List UInt8)]:(List (List UInt8))) fun l18=>
    Option.bind (Cx N y3.2 l18) fun y19=>
    grd (AB (([109,97,105,108,116,111,58]:List UInt8).length+y19.1.length)) (
    grd (AB ((([109,97,105,108,116,111,58]:List UInt8)++y19.1).length+([64]:List UInt8).length)) (
    letL ([([97,46,101,120,97,109,112,108,101]:List UInt8),([98,46,69,120,97,109,112,108,101]:List UInt8)]:(List (List UInt8))) fun l21=>
    Option.bind (Cx N y19.2 l21) fun y22=>
    grd (AB (((([109,97,105,108,116,111,58]:List UInt8)++y19.1)++([64]:List UInt8)).length+y22.1.length)) (
    some ((((([109,97,105,108,116,111,58]:List UInt8)++y19.1)++([64]:List UInt8))++y22.1),y22.2))))
   else
    if(y3.1==3)=true then
     grd (AB (([104,116,116,112,115,58,47,47]:List UInt8).length+y1.1.length)) (
     letL ([[],([47]:List UInt8),([47,117,47,98,111,98]:List UInt8),([47,46,47,120,63,121,61,49]:List UInt8),([47,126,97,35,109,101]:List UInt8)]:(List (List UInt8))) fun l24=>
     Option.bind (Cx N y3.2 l24) fun y25=>
     grd (AB ((([104,116,116,112,115,58,47,47]:List UInt8)++y1.1).length+y25.1.length)) (
     some (((([104,116,116,112,115,58,47,47]:List UInt8)++y1.1)++y25.1),y25.2)))
    else
     AA (d:=.a (10,5) [(42,2)] [3] (fun j27:(List UInt8)=>[.str j27])) (fun j27:(List UInt8)=>
      grd (AB (([100,105,100,58,119,101,98,58]:List UInt8).length+j27.length)) (
      letL ([[],([58,117]:List UInt8),([58,117,58,98,111,98]:List UInt8),([58,97,37,55,101,98]:List UInt8)]:(List (List UInt8))) fun l31=>
      Option.bind (Cx N y3.2 l31) fun y32=>
      grd (AB ((([100,105,100,58,119,101,98,58]:List UInt8)++j27).length+y32.1.length)) (
      some (((([100,105,100,58,119,101,98,58]:List UInt8)++j27)++y32.1),y32.2)))) fun k28=>
     if(y1.1==([99,46,101,120,97,109,112,108,101,58,56,52,52,51]:List UInt8))=true then
      k28 ([99,46,101,120,97,109,112,108,101,37,51,65,56,52,52,51]:List UInt8)
     else
      k28 y1.1) fun k6=>
 if(y3.1==0)=true then
  k6 (y3.1==0)
 else
  k6 (y3.1==1)
def Nb (N:Nat) (a0:(List Int)):Option (MadeDice):=
 Option.bind (sub a0 0 (if 200<(a0.length:Int)then 200 else(a0.length:Int))) fun x1=>
 some ((MadeDice.mk x1))
def ET (N:Nat) (a0:(List Int)):Option (ApiID):=
 Option.bind (Nb N a0) fun y1=>
 Option.bind (Na N y1) fun y4=>
 Option.bind (K8 N y4.1) fun y6=>
 some (y6.1)
def Ph (N:Nat) (a0:ApiID):Option (Bool):=
 Option.bind (K8 N a0.text) fun y1=>
 if(y1.2==0)=true then
  some ((y1.1.kind==a0.kind&&(y1.1.text==a0.text&&(y1.1.host==a0.host&&y1.1.port==a0.port))))
 else
  some (false)
def O7 (N:Nat) (a0:ApiID) (a1:(List UInt8)):Option (ApiURL×Int):=
 Option.bind (Ph N a0) fun y1=>
 if y1=true then
  some ((ApiURL.mk a0.host a0.port a1 [] [] false false),0)
 else
  some ((ApiURL.mk [] 0 [] [] [] false false),8)
def Ml (N:Nat) (a0:ApiID):Option (ApiURL×Int):=
 Option.bind (O7 N a0 ([47,46,119,101,108,108,45,107,110,111,119,110,47,119,101,98,102,105,110,103,101,114]:List UInt8)) fun y1=>
 if(y1.2 !=0)=true then
  some ((ApiURL.mk [] 0 [] [] [] false false),y1.2)
 else
  Option.bind (KV N a0.text []) fun y3=>
  grd (AB (([114,101,115,111,117,114,99,101,61]:List UInt8).length+y3.length)) (
  Option.bind (GD N (ApiURL.mk y1.1.host y1.1.port y1.1.path (([114,101,115,111,117,114,99,101,61]:List UInt8)++y3) y1.1.fragment true y1.1.hasFrag)) fun y5=>
  if(decide ((y5.length:Int)>4096))=true then
   some ((ApiURL.mk [] 0 [] [] [] false false),5)
  else
   some ((ApiURL.mk y1.1.host y1.1.port y1.1.path (([114,101,115,111,117,114,99,101,61]:List UInt8)++y3) y1.1.fragment true y1.1.hasFrag),0))
def L6 (N:Nat) (a0:ApiID):Option (ApiURL×Int):=
 Option.bind (O7 N a0 ([47,46,119,101,108,108,45,107,110,111,119,110,47,104,111,115,116,45,109,101,116,97,46,106,115,111,110]:List UInt8)) fun y1=>
 some (y1.1,y1.2)
def Qp (N:Nat) (a0:ApiID):Option (ApiURL×Int):=
 Option.bind (O7 N a0 ([47]:List UInt8)) fun y1=>
 some (y1.1,y1.2)
def Ff (N:Nat) (k8:((List UInt8)→Option ((List UInt8)))):List ApiField→(List UInt8)→Option ((List UInt8))
  |[],s4=>
  k8 s4
  |xk11::xs,s4=>
  grd (AB (xk11.name.length+([58,32]:List UInt8).length)) (
  grd (AB ((xk11.name++([58,32]:List UInt8)).length+xk11.value.length)) (
  grd (AB (((xk11.name++([58,32]:List UInt8))++xk11.value).length+([13,10]:List UInt8).length)) (
  grd (AB (s4.length+(((xk11.name++([58,32]:List UInt8))++xk11.value)++([13,10]:List UInt8)).length)) (
  Ff N k8 xs (s4++(((xk11.name++([58,32]:List UInt8))++xk11.value)++([13,10]:List UInt8)))))))
def Lf (N:Nat) (a0:ApiHead):Option ((List UInt8)):=
 AA (d:=.a (2,5) [(7,3)] [3] (fun j1:(List UInt8)=>[.str j1])) (fun j1:(List UInt8)=>
  grd (AB (([72,84,84,80,47,49,46]:List UInt8).length+j1.length)) (
  grd (AB ((([72,84,84,80,47,49,46]:List UInt8)++j1).length+([32]:List UInt8).length)) (
  Option.bind (JN N a0.status) fun y5=>
  grd (AB (((([72,84,84,80,47,49,46]:List UInt8)++j1)++([32]:List UInt8)).length+y5.length)) (
  grd (AB ((((([72,84,84,80,47,49,46]:List UInt8)++j1)++([32]:List UInt8))++y5).length+([32,45,13,10]:List UInt8).length)) (
  AA (d:=.a (5,16) [(6,1),(18,17)] [4] (fun j7:(List UInt8)=>[.str j7])) (fun j7:(List UInt8)=>
   grd (AB (j7.length+([13,10]:List UInt8).length)) (
   some ((j7++([13,10]:List UInt8))))) fun k8=>
  grd (AB (a0.fields.length)) (
   Ff N k8 a0.fields ((((([72,84,84,80,47,49,46]:List UInt8)++j1)++([32]:List UInt8))++y5)++([32,45,13,10]:List UInt8)))))))) fun k2=>
 if(a0.minor==0)=true then
  k2 ([48]:List UInt8)
 else
  k2 ([49]:List UInt8)
def Iu (N:Nat):Nat→Int→(List UInt8)→Option ((List UInt8))
  |0,_,_=>none
  |k+1,s0,s3=>
  Option.bind (sub ([48,49,50,51,52,53,54,55,56,57,97,98,99,100,101,102]:List UInt8) (s0.tmod 16) (wr .i64 ((s0.tmod 16)+1))) fun x2=>
  grd (AB (x2.length+s3.length)) (
  if((wr .i64 (s0.tdiv 16))==0)=true then
   some ((x2++s3))
  else
   Iu N k (wr .i64 (s0.tdiv 16)) (x2++s3))
def Tc (N:Nat) (a0:Int):Option ((List UInt8)):=
 Iu N N a0 []
def F7 (N:Nat) (a1:Int) (k2:((List UInt8)→Option ((List UInt8)))):Nat→(List UInt8)→(List UInt8)→Option ((List UInt8))
  |0,_,_=>none
  |k+1,s0,s5=>
  if(s0==[])=true then
   k2 s5
  else
   Option.bind (Tc N (if(s0.length:Int)<(if a1>1 then a1 else 1)then(s0.length:Int)else(if a1>1 then a1 else 1))) fun y6=>
   grd (AB (s5.length+y6.length)) (
   grd (AB ((s5++y6).length+([13,10]:List UInt8).length)) (
   Option.bind (sub s0 0 (if(s0.length:Int)<(if a1>1 then a1 else 1)then(s0.length:Int)else(if a1>1 then a1 else 1))) fun x8=>
   grd (AB (((s5++y6)++([13,10]:List UInt8)).length+x8.length)) (
   grd (AB ((((s5++y6)++([13,10]:List UInt8))++x8).length+([13,10]:List UInt8).length)) (
   Option.bind (sub s0 (if(s0.length:Int)<(if a1>1 then a1 else 1)then(s0.length:Int)else(if a1>1 then a1 else 1)) (s0.length:Int)) fun x9=>
   F7 N a1 k2 k x9 ((((s5++y6)++([13,10]:List UInt8))++x8)++([13,10]:List UInt8))))))
def Ny (N:Nat) (a0:(List UInt8)) (a1:Int):Option ((List UInt8)):=
 AA (d:=.a (0,12) [(0,1),(6,21)] [5] (fun j1:(List UInt8)=>[.str j1])) (fun j1:(List UInt8)=>
  grd (AB (j1.length+([48,13,10,13,10]:List UInt8).length)) (
  some ((j1++([48,13,10,13,10]:List UInt8))))) fun k2=>
 F7 N a1 k2 N a0 []
def Fz (N:Nat):Nat→Int→(List UInt8)→Option ((List UInt8))
  |0,_,_=>none
  |k+1,s0,s3=>
  grd (AB ((List.map JK [(wr .u8 (wr .i64 (48+(s0.tmod 10))))]).length+s3.length)) (
  if((wr .i64 (s0.tdiv 10))==0)=true then
   some (((List.map JK [(wr .u8 (wr .i64 (48+(s0.tmod 10))))])++s3))
  else
   Fz N k (wr .i64 (s0.tdiv 10)) ((List.map JK [(wr .u8 (wr .i64 (48+(s0.tmod 10))))])++s3))
def OO (N:Nat) (a0:Int):Option ((List UInt8)):=
 Fz N N a0 []
def Ng (N:Nat) (a0:Int) (a1:(List UInt8)) (a2:(List UInt8)) (a3:(List ApiField)) (a4:Bool):Option ((List UInt8)):=
 AA (d:=.b (2,5) [(14,9)] [] (fun j1:(List ApiField)=>[]) fun j1=>[.p [.k,.k,.v (.slice 2 (List.map Af j1) true)]]) (fun j1:(List ApiField)=>
  grd (CG (j1.length+a3.length) 32) (
  if a4=true then
   grd (CG ((j1++a3).length+1) 32) (
   Option.bind (Lf N (ApiHead.mk 1 a0 ((j1++a3)++[(ApiField.mk ([116,114,97,110,115,102,101,114,45,101,110,99,111,100,105,110,103]:List UInt8) ([99,104,117,110,107,101,100]:List UInt8))]))) fun y5=>
   Option.bind (Ny N a2 50) fun y7=>
   grd (AB (y5.length+y7.length)) (
   some ((y5++y7))))
  else
   AA (d:=.b (8,1) [(40,9)] [] (fun j9:(List ApiField)=>[]) fun j9=>[.p [.k,.k,.v (.slice 2 (List.map Af j9) true)]]) (fun j9:(List ApiField)=>
    Option.bind (Lf N (ApiHead.mk 1 a0 j9)) fun y15=>
    grd (AB (y15.length+a2.length)) (
    some ((y15++a2)))) fun k10=>
   Option.bind (OO N (a2.length:Int)) fun y13=>
   grd (CG ((j1++a3).length+1) 32) (
   k10 ((j1++a3)++[(ApiField.mk ([99,111,110,116,101,110,116,45,108,101,110,103,116,104]:List UInt8) y13)])))) fun k2=>
 if(a1==[])=true then
  k2 []
 else
  grd (CG (([]:List ApiField).length+1) 32) (
  k2 [(ApiField.mk ([99,111,110,116,101,110,116,45,116,121,112,101]:List UInt8) a1)])
def ME (N:Nat) (a0:ApiURL) (a1:(List UInt8)):Option (ApiAnswer):=
 Option.bind (Lj N a0) fun y1=>
 some ((ApiAnswer.mk a0.host a0.port y1 a1 0 0 0))
def NG (N:Nat) (a0:ApiID):Option ((List UInt8)):=
 Option.bind (Ml N a0) fun y1=>
 Option.bind (sub y1.1.query (if 9<(y1.1.query.length:Int)then 9 else(y1.1.query.length:Int)) (y1.1.query.length:Int)) fun x3=>
 some (x3)
def PN (N:Nat) (a0:ApiURL):Option (ApiFetch):=
 Option.bind (JH N a0) fun y1=>
 if y1=true then
  some ((ApiFetch.mk (ApiURL.mk a0.host a0.port a0.path a0.query [] a0.hasQuery false) 0 false 0 (ApiResponse.mk (ApiURL.mk [] 0 [] [] [] false false) (ApiHead.mk 0 0 []) [] []) [(ApiURL.mk a0.host a0.port a0.path a0.query [] a0.hasQuery false)]))
 else
  some ((ApiFetch.mk (ApiURL.mk [] 0 [] [] [] false false) 0 true 8 (ApiResponse.mk (ApiURL.mk [] 0 [] [] [] false false) (ApiHead.mk 0 0 []) [] []) []))
def Di (N:Nat) (a0:(List ApiURL)):Option (List ApiURL):=
 grd (CG (([]:List ApiURL).length+a0.length) 80) (
 some a0)
def Bz (N:Nat) (a0:(List ApiExchange)):Option (List ApiExchange):=
 grd (CG (([]:List ApiExchange).length+a0.length) 96) (
 some a0)
def Cn (N:Nat) (a0:(List ApiField)):Option (List ApiField):=
 grd (CG (([]:List ApiField).length+a0.length) 32) (
 some a0)
def Nk (N:Nat) (a0:ApiFetch):Option (ApiFetch):=
 Option.bind (Di N a0.seen) fun y1=>
 Option.bind (Bz N a0.final.trace) fun y3=>
 Option.bind (Cn N a0.final.head.fields) fun y5=>
 some ((ApiFetch.mk a0.next a0.hops a0.done a0.err (ApiResponse.mk a0.final.uRL (ApiHead.mk a0.final.head.minor a0.final.head.status y5) a0.final.body y3) y1))
def Gc (N:Nat) (a0:Int):Option (Bool):=
 AA (d:=.a (2,17) [(5,5)] [4] (fun j1:Bool=>[.bool j1])) (fun j1:Bool=>
  if j1=true then
   some (true)
  else
   some (false)) fun k2=>
 if(a0==301)=true then
  k2 (a0==301)
 else
  if(a0==302)=true then
   k2 (a0==302)
  else
   if(a0==303)=true then
    k2 (a0==303)
   else
    if(a0==307)=true then
     k2 (a0==307)
    else
     k2 (a0==308)
def OG (N:Nat) (a0:ApiAnswer):Option (ApiHostPort):=
 some ((ApiHostPort.mk a0.host a0.port))
def Jn (N:Nat) (a0:WorldRequest) (a1:ApiAnswer):Option (Bool):=
 Option.bind (OG N a1) fun y1=>
 if (y1.host==a0.origin.host&&y1.port==a0.origin.port)=true then
  if(a1.target==a0.target)=true then
   if(decide (a1.from_≤a0.now))=true then
    if(a1.until_==0)=true then
     some (true)
    else
     some ((decide (a1.until_>a0.now)))
   else
    some (false)
  else
   some (false)
 else
  some (false)
def AV (N:Nat) (v1_0:WorldRequest) (k2:(Unit→Option (Int))):List ApiAnswer→Int→Option (Int)
  |[],s8_0=>
  k2 ()
  |xk5::xs,s8_0=>
  Option.bind (Jn N v1_0 xk5) fun y6=>
  if y6=true then
   some (s8_0)
  else
   AV N v1_0 k2 xs (s8_0+1)
def BL (N:Nat) (a0:(List ApiAnswer)) (v1_0:WorldRequest):Option (Int):=
 AA (d:=.a (1,22) [(4,15)] [] (fun j1:Unit=>[])) (fun j1:Unit=>
  some ((-1))) fun k2=>
 grd (AB (a0.length)) (
  AV N v1_0 k2 a0 0)
def S9 (N:Nat) (a0:(List ApiAnswer)) (a1:ApiURL) (a2:Int):Option ((List UInt8)×Int):=
 Option.bind (JH N a1) fun y1=>
 if y1=true then
  AA (d:=.n (3,1) [(13,6)] [8] 8 (fun(j4:ApiHostPort×(List UInt8)) g=>[.ptr g 0]) (fun j4 g=>[]) (fun j4 g=>[.str j4.1.host,.int .i64 j4.1.port,.str j4.2,.int .u64 a2])) (fun j4:ApiHostPort×(List UInt8)=>
   Option.bind (BL N a0 (WorldRequest.mk j4.1 j4.2 a2)) fun y12=>
   if(decide (y12<0))=true then
    some ([],241)
   else
    Option.bind (idx a0 y12) fun x14=>
    if(x14.fail==1)=true then
     some ([],240)
    else
     if(x14.fail==2)=true then
      some ([],241)
     else
      if(x14.fail==3)=true then
       some ([],242)
      else
       if(x14.fail==4)=true then
        some ([],243)
       else
        some (x14.raw,0)) fun k5=>
  Option.bind (Kr N a1) fun y8=>
  Option.bind (Kw N a1) fun y10=>
  k5 (y8,y10)
 else
  some ([],8)
def IC (N:Nat) (k2:(Unit→Option (Bool))):List UInt8→Option (Bool)
  |[]=>
  k2 ()
  |xk5::xs=>
  AA (d:=.a (5,1) [(13,9)] [22] (fun j6:Bool=>[.bool j6])) (fun j6:Bool=>
   if j6=true then
    some (false)
   else
    IC N k2 xs) fun k7=>
  if(decide ((AY xk5)<32))=true then
   if((AY xk5) !=9)=true then
    k7 true
   else
    k7 ((AY xk5)==127)
  else
   k7 ((AY xk5)==127)
def MI (N:Nat) (a0:(List UInt8)):Option (Bool):=
 AA (d:=.a (1,24) [(2,22)] [] (fun j1:Unit=>[])) (fun j1:Unit=>
  some (true)) fun k2=>
 grd (AB (a0.length)) (
  IC N k2 a0)
def PU (N:Nat) (a0:(List UInt8)):Option (ApiHead×Bool):=
 Option.bind (strings_CutPrefix N a0 ([72,84,84,80,47,49,46]:List UInt8)) fun y1=>
 AA (d:=.a (2,1) [(13,32)] [45] (fun j3:Bool=>[.bool j3])) (fun j3:Bool=>
  if j3=true then
   some ((ApiHead.mk 0 0 []),false)
  else
   Option.bind (sub y1.1 2 5) fun x18=>
   Option.bind (JW N x18 599) fun y19=>
   AA (d:=.a (5,1) [(53,5)] [58] (fun j21:Bool=>[.bool j21])) (fun j21:Bool=>
    if j21=true then
     some ((ApiHead.mk 0 0 []),false)
    else
     Option.bind (idx y1.1 0) fun x25=>
     some ((ApiHead.mk (wr .i64 (wr .u8 ((AY x25)-48))) (wr .i64 y19.1) []),true)) fun k22=>
   if(y19.2 !=0)=true then
    k22 true
   else
    k22 (decide (y19.1<100))) fun k4=>
 if y1.2=true then
  if(decide ((y1.1.length:Int)<6))=true then
   k4 true
  else
   Option.bind (idx y1.1 0) fun x7=>
   if ((AY x7) !=48)=true then
    if((AY x7) !=49)=true then
     k4 true
    else
     Option.bind (idx y1.1 1) fun x8=>
     if((AY x8) !=32)=true then
      k4 true
     else
      Option.bind (idx y1.1 5) fun x9=>
      if((AY x9) !=32)=true then
       k4 true
      else
       Option.bind (sub y1.1 6 (y1.1.length:Int)) fun x10=>
       Option.bind (MI N x10) fun y11=>
       k4 (!y11)
   else
    Option.bind (idx y1.1 1) fun x13=>
    if((AY x13) !=32)=true then
     k4 true
    else
     Option.bind (idx y1.1 5) fun x14=>
     if((AY x14) !=32)=true then
      k4 true
     else
      Option.bind (sub y1.1 6 (y1.1.length:Int)) fun x15=>
      Option.bind (MI N x15) fun y16=>
      k4 (!y16)
 else
  k4 true
def Jl (N:Nat) (a0:HeadLines):Option ((List UInt8)×HeadLines):=
 Option.bind (strings_Cut N a0.rest ([13,10]:List UInt8)) fun y1=>
 some (y1.1,(HeadLines.mk y1.2.1 y1.2.2))
def Kz (N:Nat) (a0:Int):Option (Bool):=
 Option.bind (M7 N a0) fun y1=>
 if y1=true then
  some (true)
 else
  Option.bind (Mg N a0 ([33,35,36,37,38,39,42,43,45,46,94,95,96,124,126]:List UInt8)) fun y3=>
  some (y3)
def JF (N:Nat) (k2:(Unit→Option (Bool))):List UInt8→Option (Bool)
  |[]=>
  k2 ()
  |xk5::xs=>
  Option.bind (Kz N (AY xk5)) fun y6=>
  if y6=true then
   JF N k2 xs
  else
   some (false)
def TE (N:Nat) (a0:(List UInt8)):Option (Bool):=
 AA (d:=.a (1,22) [(2,13)] [] (fun j1:Unit=>[])) (fun j1:Unit=>
  some ((!(a0==[])))) fun k2=>
 grd (AB (a0.length)) (
  JF N k2 a0)
def M4 (N:Nat) (a0:Int):Option (Bool):=
 if(a0==32)=true then
  some (true)
 else
  some ((a0==9))
def IR (N:Nat) (k15:((List UInt8)→Option ((List UInt8)))):Nat→(List UInt8)→Option ((List UInt8))
  |0,_=>none
  |k+1,s0=>
  AA (d:=.a (3,1) [(13,10)] [23] (fun j19:Bool=>[.bool j19])) (fun j19:Bool=>
   if j19=true then
    Option.bind (sub s0 0 (wr .i64 ((s0.length:Int)-1))) fun x26=>
    IR N k15 k x26
   else
    k15 s0) fun k20=>
  if(decide ((s0.length:Int)>0))=true then
   Option.bind (idx s0 (wr .i64 ((s0.length:Int)-1))) fun x23=>
   Option.bind (M4 N (AY x23)) fun y24=>
   k20 y24
  else
   k20 false
def IW (N:Nat) (k2:((List UInt8)→Option ((List UInt8)))):Nat→(List UInt8)→Option ((List UInt8))
  |0,_=>none
  |k+1,s0=>
  AA (d:=.a (1,1) [(3,7)] [10] (fun j6:Bool=>[.bool j6])) (fun j6:Bool=>
   if j6=true then
    Option.bind (sub s0 1 (s0.length:Int)) fun x13=>
    IW N k2 k x13
   else
    k2 s0) fun k7=>
  if(decide ((s0.length:Int)>0))=true then
   Option.bind (idx s0 0) fun x10=>
   Option.bind (M4 N (AY x10)) fun y11=>
   k7 y11
  else
   k7 false
def MF (N:Nat) (a0:(List UInt8)):Option ((List UInt8)):=
 AA (d:=.a (0,10) [(3,10)] [0] (fun j1:(List UInt8)=>[.str j1])) (fun j1:(List UInt8)=>
  AA (d:=.a (2,10) [(13,16)] [0] (fun j14:(List UInt8)=>[.str j14])) (fun j14:(List UInt8)=>
   some (j14)) fun k15=>
  IR N k15 N j1) fun k2=>
 IW N k2 N a0
def IJ (N:Nat) (k14:((List ApiField)×HeadLines→Option (ApiHead×Int×Int))):Nat→(List ApiField)→HeadLines→Option (ApiHead×Int×Int)
  |0,_,_=>none
  |k+1,bn12_fields,bn7=>
  if bn7.more=true then
   if(decide ((bn12_fields.length:Int)≥64))=true then
    some ((ApiHead.mk 0 0 []),0,161)
   else
    Option.bind (Jl N bn7) fun y18=>
    Option.bind (strings_Cut N y18.1 ([58]:List UInt8)) fun y20=>
    AA (d:=.a (14,1) [(61,11)] [72] (fun j22:Bool=>[.bool j22])) (fun j22:Bool=>
     if j22=true then
      some ((ApiHead.mk 0 0 []),0,180)
     else
      Option.bind (Dp N y20.1) fun y30=>
      Option.bind (MF N y20.2.1) fun y32=>
      grd (CG (bn12_fields.length+1) 32) (
      IJ N k14 k (bn12_fields++[(ApiField.mk y30 y32)]) y18.2)) fun k23=>
    if y20.2.2=true then
     Option.bind (TE N y20.1) fun y26=>
     if y26=true then
      Option.bind (MI N y20.2.1) fun y28=>
      k23 (!y28)
     else
      k23 true
    else
     k23 true
  else
   k14 (bn12_fields,bn7)
def Qm (N:Nat) (a0:(List UInt8)):Option (ApiHead×Int×Int):=
 Option.bind (sub a0 0 (if 16384<(a0.length:Int)then 16384 else(a0.length:Int))) fun x1=>
 Option.bind (strings_Index N x1 ([13,10,13,10]:List UInt8)) fun y2=>
 AA (d:=.a (2,1) [(19,7)] [18] (fun j4:Bool=>[.bool j4])) (fun j4:Bool=>
  if j4=true then
   some ((ApiHead.mk 0 0 []),0,142)
  else
   if(decide (y2<0))=true then
    some ((ApiHead.mk 0 0 []),0,191)
   else
    Option.bind (sub a0 0 y2) fun x8=>
    Option.bind (Jl N (HeadLines.mk x8 false)) fun y9=>
    Option.bind (PU N y9.1) fun y11=>
    if y11.2=true then
     AA (d:=.b (1,28) [(3,2),(9,3),(45,39)] [] (fun j13:(List ApiField)×HeadLines=>[]) fun j13=>[.p [.k,.k,.v (.slice 2 (List.map Af j13.1) true)],.s ([.str j13.2.rest,.bool j13.2.more])]) (fun j13:(List ApiField)×HeadLines=>
      some ((ApiHead.mk y11.1.minor y11.1.status j13.1),(wr .i64 (y2+4)),0)) fun k14=>
     IJ N k14 N y11.1.fields y9.2
    else
     some ((ApiHead.mk 0 0 []),0,180)) fun k5=>
 if(decide (y2<0))=true then
  k5 (decide ((a0.length:Int)>16384))
 else
  k5 false
def Gn (N:Nat) (a1:(List UInt8)) (k2:((List (List UInt8))→Option ((List (List UInt8))))):List ApiField→(List (List UInt8))→Option ((List (List UInt8)))
  |[],s5=>
  k2 s5
  |xk5::xs,s5=>
  AA (d:=.a (1,8) [(7,1),(13,11)] [5] (fun j6:(List (List UInt8))=>[.slice 1 (List.map AVal.str j6) true])) (fun j6:(List (List UInt8))=>
   Gn N a1 k2 xs j6) fun k7=>
  Option.bind (GA N xk5.name a1) fun y10=>
  if y10=true then
   grd (CG (s5.length+1) 16) (
   k7 (s5++[xk5.value]))
  else
   k7 s5
def Mo (N:Nat) (a0:ApiHead) (a1:(List UInt8)):Option ((List (List UInt8))):=
 AA (d:=.a (2,20) [(7,18)] [5] (fun j1:(List (List UInt8))=>[.slice 1 (List.map AVal.str j1) true])) (fun j1:(List (List UInt8))=>
  some (j1)) fun k2=>
 grd (AB (a0.fields.length)) (
  Gn N a1 k2 a0.fields [])
def F4 (N:Nat) (a1:(List UInt8)) (k25:(StringsBuilder→Option ((List UInt8)))):List (List UInt8)→StringsBuilder→Option ((List UInt8))
  |[],bn13=>
  k25 bn13
  |xk29::xs,bn13=>
  Option.bind (AL N bn13 a1) fun y30=>
  Option.bind (AL N y30.2.2 xk29) fun y32=>
  F4 N a1 k25 xs y32.2.2
def Fj (N:Nat) (k11:(Int→Option ((List UInt8)))):List (List UInt8)→Int→Option ((List UInt8))
  |[],s5=>
  k11 s5
  |xk14::xs,s5=>
  AA (d:=.a (14,5) [(45,6)] [] (fun j15:Unit=>[])) (fun j15:Unit=>
   Fj N k11 xs (wr .i64 (s5+(xk14.length:Int)))) fun k16=>
  if(decide ((xk14.length:Int)>(wr .i64 (9223372036854775807-s5))))=true then
   (none:Option ((List UInt8)))
  else
   k16 ()
def strings_Join (N:Nat) (a0:(List (List UInt8))) (a1:(List UInt8)):Option ((List UInt8)):=
 if((a0.length:Int)==0)=true then
  some ([])
 else
  if((a0.length:Int)==1)=true then
   Option.bind (idx a0 0) fun x1=>
   some (x1)
  else
   AA (d:=.a (7,11) [(20,19)] [5] (fun j2:Int=>[.int .i64 j2])) (fun j2:Int=>
    AA (d:=.a (11,22) [(7,1),(39,17)] [5] (fun j10:Int=>[.int .i64 j10])) (fun j10:Int=>
     Option.bind (Ed N j10) fun y19=>
     Option.bind (idx a0 0) fun x21=>
     Option.bind (AL N (StringsBuilder.mk true []) x21) fun y22=>
     AA (d:=.b (21,18) [(10,1),(62,12)] [] (fun j24:StringsBuilder=>[]) fun j24=>[.t (fun q=>[EE q 222 2 j24.addr,.buf 5 j24.buf true])]) (fun j24:StringsBuilder=>
      Option.bind (BN N j24) fun y34=>
      some (y34.1)) fun k25=>
     Option.bind (sub a0 1 (a0.length:Int)) fun x28=>
     grd (AB (x28.length)) (
      F4 N a1 k25 x28 y22.2.2)) fun k11=>
    grd (AB (a0.length)) (
     Fj N k11 a0 j2)) fun k3=>
   if(decide ((a1.length:Int)>0))=true then
    AA (d:=.a (8,5) [(23,8)] [] (fun j6:Unit=>[])) (fun j6:Unit=>
     k3 (wr .i64 (0+(wr .i64 ((a1.length:Int) * (wr .i64 ((a0.length:Int)-1))))))) fun k7=>
    grd ((wr .i64 ((a0.length:Int)-1))≠0) (
    if(decide ((a1.length:Int)≥(wr .i64 ((9223372036854775807:Int).tdiv (wr .i64 ((a0.length:Int)-1))))))=true then
     (none:Option ((List UInt8)))
    else
     k7 ())
   else
    k3 0
def K9 (N:Nat) (a0:ApiHead) (a1:(List UInt8)):Option ((List UInt8)×Bool):=
 Option.bind (Mo N a0 a1) fun y1=>
 Option.bind (strings_Join N y1 ([44,32]:List UInt8)) fun y3=>
 some (y3,(decide ((y1.length:Int)>0)))
def Gf (N:Nat) (a0:StringsBuilder):Option (Int×StringsBuilder):=
 some ((a0.buf.length:Int),a0)
def Gi (N:Nat) (a0:BodyChunks):Option (Int×BodyChunks):=
 Option.bind (strings_HasPrefix N a0.rest ([13,10]:List UInt8)) fun y1=>
 if y1=true then
  Option.bind (sub a0.rest 2 (a0.rest.length:Int)) fun x3=>
  some (0,(BodyChunks.mk x3 a0.size))
 else
  AA (d:=.a (4,1) [(18,12)] [17] (fun j4:Bool=>[.bool j4])) (fun j4:Bool=>
   if j4=true then
    some (191,a0)
   else
    some (190,a0)) fun k5=>
  if(a0.rest==[])=true then
   k5 true
  else
   k5 (a0.rest==([13]:List UInt8))
def I6 (N:Nat) (a0:BodyChunks):Option ((List UInt8)×Int×BodyChunks):=
 Option.bind (strings_IndexAny N a0.rest ([13,10]:List UInt8)) fun y1=>
 AA (d:=.a (2,5) [(11,7)] [4] (fun j3:Int=>[.int .i64 j3])) (fun j3:Int=>
  Option.bind (sub a0.rest 0 j3) fun x7=>
  Option.bind (sub a0.rest j3 (a0.rest.length:Int)) fun x8=>
  Option.bind (Gi N (BodyChunks.mk x8 a0.size)) fun y9=>
  some (x7,y9.1,y9.2)) fun k4=>
 if(decide (y1<0))=true then
  k4 (a0.rest.length:Int)
 else
  k4 y1
def Bu (N:Nat) (a1:Int) (a2:Int) (k9:(Int→Option (Int×Int))):List UInt8→Int→Option (Int×Int)
  |[],s11=>
  k9 s11
  |xk12::xs,s11=>
  Option.bind (Lr N (AY xk12)) fun y13=>
  AA (d:=.a (14,1) [(37,14)] [51] (fun j15:Bool=>[.bool j15])) (fun j15:Bool=>
   if j15=true then
    some (0,4)
   else
    Bu N a1 a2 k9 xs (wr .u64 ((wr .u64 (s11 * a1))+y13))) fun k16=>
  grd (a1≠0) (
  if(decide (s11>(wr .u64 ((wr .u64 (18446744073709551615-y13)).tdiv a1))))=true then
   k16 true
  else
   k16 (decide ((wr .u64 ((wr .u64 (s11 * a1))+y13))>a2)))
def Bv (N:Nat) (k2:(Unit→Option (Int×Int))):List UInt8→Option (Int×Int)
  |[]=>
  k2 ()
  |xk5::xs=>
  Option.bind (Jw N (AY xk5)) fun y6=>
  if y6=true then
   Bv N k2 xs
  else
   some (0,1)
def FX (N:Nat) (a0:(List UInt8)) (a1:Int) (a2:Int):Option (Int×Int):=
 if(a0==[])=true then
  some (0,3)
 else
  AA (d:=.a (3,22) [(8,3),(16,12)] [] (fun j1:Unit=>[])) (fun j1:Unit=>
   AA (d:=.a (10,26) [(8,2),(12,2),(28,30)] [11] (fun j8:Int=>[.int .u64 j8])) (fun j8:Int=>
    some (j8,0)) fun k9=>
   grd (AB (a0.length)) (
    Bu N a1 a2 k9 a0 0)) fun k2=>
  grd (AB (a0.length)) (
   Bv N k2 a0)
def OJ (N:Nat) (a0:(List UInt8)) (a1:Int):Option (Int×Int):=
 Option.bind (FX N a0 16 a1) fun y1=>
 some (y1.1,y1.2)
def Dt (N:Nat) (a0:BodyChunks) (k2:(Int→Option (Int×BodyChunks))):Nat→Int→Option (Int×BodyChunks)
  |0,_=>none
  |k+1,s3=>
  AA (d:=.a (2,1) [(9,15)] [24] (fun j6:Bool=>[.bool j6])) (fun j6:Bool=>
   if j6=true then
    Dt N a0 k2 k (wr .i64 (s3+1))
   else
    k2 s3) fun k7=>
  if(decide (s3<(a0.rest.length:Int)))=true then
   Option.bind (idx a0.rest s3) fun x10=>
   Option.bind (Jw N (AY x10)) fun y11=>
   k7 y11
  else
   k7 false
def KI (N:Nat) (a0:BodyChunks):Option (Int×BodyChunks):=
 AA (d:=.a (0,10) [(9,18)] [3] (fun j1:Int=>[.int .i64 j1])) (fun j1:Int=>
  Option.bind (sub a0.rest 0 j1) fun x13=>
  if(j1==(a0.rest.length:Int))=true then
   some (191,a0)
  else
   AA (d:=.a (7,1) [(42,12)] [41] (fun j14:Bool=>[.bool j14])) (fun j14:Bool=>
    if j14=true then
     some (190,a0)
    else
     Option.bind (I6 N a0) fun y21=>
     if(y21.2.1 !=0)=true then
      some (y21.2.1,y21.2.2)
     else
      Option.bind (OJ N x13 4611686018427387904) fun y23=>
      AA (d:=.a (13,5) [(67,2)] [7] (fun j25:Int=>[.int .u64 j25])) (fun j25:Int=>
       some (0,(BodyChunks.mk y21.2.2.rest j25))) fun k26=>
      if(y23.2 !=0)=true then
       k26 4611686018427387904
      else
       k26 y23.1) fun k15=>
   if(j1==0)=true then
    k15 true
   else
    Option.bind (idx a0.rest j1) fun x18=>
    Option.bind (strings_IndexByte N ([59,13]:List UInt8) (AY x18)) fun y19=>
    k15 (decide (y19<0))) fun k2=>
 Dt N a0 k2 N 0
def Fa (N:Nat) (j1:BodyChunks×Bool×(List UInt8)):Nat→BodyChunks→Option ((List UInt8)×Int)
  |0,_=>none
  |k+1,bn1=>
  Option.bind (I6 N bn1) fun y21=>
  if(y21.2.1 !=0)=true then
   some ([],y21.2.1)
  else
   if(y21.1==[])=true then
    Option.bind (BN N (StringsBuilder.mk j1.2.1 j1.2.2)) fun y23=>
    some (y23.1,0)
   else
    Fa N j1 k y21.2.2
def Fq (N:Nat) (a1:Int) (k2:(BodyChunks×Bool×(List UInt8)→Option ((List UInt8)×Int))):Nat→(List UInt8)→Int→Bool→(List UInt8)→Option ((List UInt8)×Int)
  |0,_,_,_,_=>none
  |k+1,bn1_rest,bn1_size,bn_addr,bn_buf=>
  Option.bind (KI N (BodyChunks.mk bn1_rest bn1_size)) fun y6=>
  if(y6.1 !=0)=true then
   some ([],y6.1)
  else
   AA (d:=.b (6,1) [(22,13)] [21] (fun j8:Bool×Bool×(List UInt8)=>[.bool j8.1]) fun j8=>[.k,.t (fun q=>[EE q 222 2 j8.2.1,.buf 5 j8.2.2 true])]) (fun j8:Bool×Bool×(List UInt8)=>
    if j8.1=true then
     some ([],142)
    else
     if(y6.2.size==0)=true then
      k2 (y6.2,j8.2.1,j8.2.2)
     else
      if(decide ((wr .u64 (y6.2.rest.length:Int))<y6.2.size))=true then
       some ([],191)
      else
       Option.bind (sub y6.2.rest 0 y6.2.size) fun x14=>
       Option.bind (AL N (StringsBuilder.mk j8.2.1 j8.2.2) x14) fun y15=>
       Option.bind (sub y6.2.rest y6.2.size (y6.2.rest.length:Int)) fun x17=>
       Option.bind (Gi N (BodyChunks.mk x17 y6.2.size)) fun y18=>
       if(y18.1 !=0)=true then
        some ([],y18.1)
       else
        Fq N a1 k2 k y18.2.rest y18.2.size y15.2.2.addr y15.2.2.buf) fun k9=>
   if(decide (a1<0))=true then
    k9 (true,bn_addr,bn_buf)
   else
    Option.bind (Gf N (StringsBuilder.mk bn_addr bn_buf)) fun y12=>
    k9 ((decide (y6.2.size>(wr .u64 (wr .i64 (a1-y12.1))))),y12.2.addr,y12.2.buf)
def OI (N:Nat) (a0:(List UInt8)) (a1:Int):Option ((List UInt8)×Int):=
 AA (d:=.b (0,43) [(4,2),(8,2),(15,65)] [] (fun j1:BodyChunks×Bool×(List UInt8)=>[]) fun j1=>[.s ([.str j1.1.rest,.int .u64 j1.1.size]),.t (fun q=>[EE q 222 2 j1.2.1,.buf 5 j1.2.2 true])]) (fun j1:BodyChunks×Bool×(List UInt8)=>
  Fa N j1 N j1.1) fun k2=>
 Fq N a1 k2 N a0 0 false []
def Hd (N:Nat) (y3:(List UInt8)) (k6:(Unit→Option (Int×Bool))):List (List UInt8)→Option (Int×Bool)
  |[]=>
  k6 ()
  |xk11::xs=>
  AA (d:=.a (6,1) [(26,8)] [34] (fun j12:Bool=>[.bool j12])) (fun j12:Bool=>
   if j12=true then
    some (0,false)
   else
    Hd N y3 k6 xs) fun k13=>
  Option.bind (MF N xk11) fun y16=>
  if(y16==y3)=true then
   Option.bind (KN N y3) fun y18=>
   k13 (!y18)
  else
   k13 true
def Ot (N:Nat) (a0:(List UInt8)):Option (Int×Bool):=
 Option.bind (strings_Cut N a0 ([44]:List UInt8)) fun y1=>
 Option.bind (MF N y1.1) fun y3=>
 AA (d:=.a (3,22) [(2,2),(8,1),(19,17)] [] (fun j5:Unit=>[])) (fun j5:Unit=>
  Option.bind (I4 N y3 4611686018427387904) fun y20=>
  AA (d:=.a (10,5) [(41,2)] [9] (fun j22:Int=>[.int .u64 j22])) (fun j22:Int=>
   some (j22,true)) fun k23=>
  if(y20.2 !=0)=true then
   k23 4611686018427387904
  else
   k23 y20.1) fun k6=>
 Option.bind (strings_Split N a0 ([44]:List UInt8)) fun y9=>
 grd (AB (y9.length)) (
  Hd N y3 k6 y9)
def Tm (N:Nat) (a0:ApiHead) (a1:(List UInt8)) (a2:Int):Option ((List UInt8)×Int):=
 if(decide (a2<0))=true then
  some ([],4)
 else
  Option.bind (K9 N a0 ([116,114,97,110,115,102,101,114,45,101,110,99,111,100,105,110,103]:List UInt8)) fun y1=>
  Option.bind (K9 N a0 ([99,111,110,116,101,110,116,45,108,101,110,103,116,104]:List UInt8)) fun y3=>
  AA (d := .a (5,1) [(27,18)] [26] (fun j5:Bool=>[.bool j5])) (fun j5:Bool=>
   if j5=true then
    some ([],0)
   else
    AA (d:=.a (7,1) [(46,9)] [45] (fun j9:Bool=>[.bool j9])) (fun j9:Bool=>
     if j9=true then
      some ([],190)
     else
      if y1.2=true then
       Option.bind (OI N a1 a2) fun y15=>
       some (y15.1,y15.2)
      else
       if y3.2=true then
        Option.bind (Ot N y3.1) fun y17=>
        if y17.2=true then
         if(decide (y17.1>(wr .u64 a2)))=true then
          some ([],142)
         else
          if(decide ((wr .u64 (a1.length:Int))<y17.1))=true then
           some ([],191)
          else
           Option.bind (sub a1 0 y17.1) fun x19=>
           some (x19,0)
        else
         some ([],190)
       else
        if(decide ((a1.length:Int)>a2))=true then
         some ([],142)
        else
         some (a1,0)) fun k10=>
    if y1.2=true then
     if y3.2=true then
      k10 true
     else
      Option.bind (Dp N y1.1) fun y13=>
      k10 (!(y13==([99,104,117,110,107,101,100]:List UInt8)))
    else
     k10 false) fun k6=>
  if(decide (a0.status≥100))=true then
   if(decide (a0.status≤199))=true then
    k6 true
   else
    if(a0.status==204)=true then
     k6 true
    else
     k6 (a0.status==304)
  else
   if(a0.status==204)=true then
    k6 true
   else
    k6 (a0.status==304)
def VN (N:Nat) (a0:(List ApiAnswer)) (a1:Int) (a2:ApiURL):Option (ApiResponse×Int×Int):=
 Option.bind (S9 N a0 a2 a1) fun y1=>
 if(y1.2 !=0)=true then
  some ((ApiResponse.mk (ApiURL.mk [] 0 [] [] [] false false) (ApiHead.mk 0 0 []) [] []),0,y1.2)
 else
  Option.bind (Qm N y1.1) fun y3=>
  if(y3.2.2 !=0)=true then
   some ((ApiResponse.mk (ApiURL.mk [] 0 [] [] [] false false) (ApiHead.mk 0 0 []) [] []),0,y3.2.2)
  else
   AA (d:=.b (8,5) [(38,13)] [10] (fun j5:Int×(List UInt8)=>[.int .i64 j5.1]) fun j5=>[.p [.k,.k,.k,.k,.k,.k,.k,.k,.k,.k,.v (.str j5.2)]]) (fun j5:Int×(List UInt8)=>
    some ((ApiResponse.mk a2 y3.1 j5.2 []),y3.1.status,j5.1)) fun k6=>
   Option.bind (Gc N y3.1.status) fun y9=>
   if y9=true then
    k6 (y3.2.2,[])
   else
    Option.bind (sub y1.1 y3.2.1 (y1.1.length:Int)) fun x11=>
    Option.bind (Tm N y3.1 x11 1048576) fun y12=>
    k6 (y12.2,y12.1)
def Tt (N:Nat) (a0:ApiURI) (a1:ApiURI):Option ((List UInt8)):=
 Option.bind (strings_HasPrefix N a1.path ([47]:List UInt8)) fun y1=>
 if y1=true then
  some (a1.path)
 else
  AA (d:=.a (3,1) [(10,6)] [16] (fun j3:Bool=>[.bool j3])) (fun j3:Bool=>
   if j3=true then
    grd (AB (([47]:List UInt8).length+a1.path.length)) (
    some ((([47]:List UInt8)++a1.path)))
   else
    Option.bind (strings_LastIndexByte N a0.path 47) fun y7=>
    Option.bind (sub a0.path 0 (wr .i64 (y7+1))) fun x9=>
    grd (AB (x9.length+a1.path.length)) (
    some ((x9++a1.path)))) fun k4=>
  if a0.hasAuthority=true then
   k4 (a0.path==[])
  else
   k4 false
def Pn (N:Nat) (a0:ApiURI) (a1:ApiURI):Option (ApiURI):=
 AA (d:=.b (0,24) [(7,36)] [] (fun j1:(List UInt8)×(List UInt8)×Bool=>[]) fun j1=>[.p [.k,.k,.v (.str j1.1),.v (.str j1.2.1),.k,.k,.k,.v (.bool j1.2.2)]]) (fun j1:(List UInt8)×(List UInt8)×Bool=>
  AA (d:=.b (13,5) [(49,9)] [] (fun j13:(List UInt8)×Bool=>[]) fun j13=>[.p [.k,.v (.str j13.1),.k,.k,.k,.k,.v (.bool j13.2)]]) (fun j13:(List UInt8)×Bool=>
   some ((ApiURI.mk a0.scheme j13.1 j1.1 j1.2.1 a1.fragment a0.hasScheme j13.2 j1.2.2 a1.hasFrag))) fun k14=>
  if a1.hasAuthority=true then
   k14 (a1.authority,a1.hasAuthority)
  else
   k14 (a0.authority,a0.hasAuthority)) fun k2=>
 if a1.hasScheme=true then
  Option.bind (FR N a1.path) fun y5=>
  some ((ApiURI.mk a1.scheme a1.authority y5 a1.query a1.fragment a1.hasScheme a1.hasAuthority a1.hasQuery a1.hasFrag))
 else
  if a1.hasAuthority=true then
   Option.bind (FR N a1.path) fun y7=>
   k2 (y7,a1.query,a1.hasQuery)
  else
   if(a1.path==[])=true then
    if a1.hasQuery=true then
     k2 (a0.path,a1.query,a1.hasQuery)
    else
     k2 (a0.path,a0.query,a0.hasQuery)
   else
    Option.bind (Tt N a0 a1) fun y9=>
    Option.bind (FR N y9) fun y11=>
    k2 (y11,a1.query,a1.hasQuery)
def IE (N:Nat) (a0:Bool):List (List UInt8)→StringsBuilder→Option (StringsBuilder)
  |[],bi2=>
  some (bi2)
  |xk1::xs,bi2=>
  AA (d:=.b (1,8) [(6,1),(11,5)] [] (fun j2:StringsBuilder=>[]) fun j2=>[.t (fun q=>[EE q 222 2 j2.addr,.buf 5 j2.buf true])]) (fun j2:StringsBuilder=>
   IE N a0 xs j2) fun k3=>
  if a0=true then
   Option.bind (AL N bi2 xk1) fun y6=>
   k3 y6.2.2
  else
   k3 bi2
def Js (N:Nat) (a0:Bool) (a1:(List (List UInt8))) (a2:StringsBuilder):Option (StringsBuilder):=
 grd (AB (a1.length)) (
  IE N a0 a1 a2)
def V4 (N:Nat) (a0:ApiURI):Option ((List UInt8)):=
 letL ([a0.scheme,([58]:List UInt8)]:(List (List UInt8))) fun l1=>
 Option.bind (Js N a0.hasScheme l1 (StringsBuilder.mk false [])) fun y2=>
 letL ([([47,47]:List UInt8),a0.authority]:(List (List UInt8))) fun l4=>
 Option.bind (Js N a0.hasAuthority l4 y2) fun y5=>
 Option.bind (Js N true [a0.path] y5) fun y7=>
 letL ([([63]:List UInt8),a0.query]:(List (List UInt8))) fun l9=>
 Option.bind (Js N a0.hasQuery l9 y7) fun y10=>
 letL ([([35]:List UInt8),a0.fragment]:(List (List UInt8))) fun l12=>
 Option.bind (Js N a0.hasFrag l12 y10) fun y13=>
 Option.bind (BN N y13) fun y15=>
 some (y15.1)
def Je (N:Nat) (a0:ApiURL) (a1:(List UInt8)):Option (ApiURL×Int):=
 Option.bind (JH N a0) fun y1=>
 if y1=true then
  Option.bind (Ez N a0) fun y3=>
  Option.bind (NZ N y3) fun y5=>
  Option.bind (NZ N a1) fun y7=>
  if(y7.2 !=0)=true then
   some ((ApiURL.mk [] 0 [] [] [] false false),y7.2)
  else
   Option.bind (Pn N y5.1 y7.1) fun y9=>
   Option.bind (GA N y9.scheme ([104,116,116,112,115]:List UInt8)) fun y11=>
   if y11=true then
    Option.bind (V4 N y9) fun y13=>
    Option.bind (Iz N y13) fun y15=>
    some (y15.1,y15.2)
   else
    some ((ApiURL.mk [] 0 [] [] [] false false),253)
 else
  some ((ApiURL.mk [] 0 [] [] [] false false),8)
def Bd (N:Nat) (a1:ApiURL) (k2:(Unit→Option (Int))):List ApiURL→Int→Option (Int)
  |[],s8_0=>
  k2 ()
  |xk5::xs,s8_0=>
  if(a1.host==xk5.host&&(a1.port==xk5.port&&(a1.path==xk5.path&&(a1.query==xk5.query&&(a1.fragment==xk5.fragment&&(a1.hasQuery==xk5.hasQuery&&a1.hasFrag==xk5.hasFrag))))))=true then
   some (s8_0)
  else
   Bd N a1 k2 xs (s8_0+1)
def En (N:Nat) (a0:(List ApiURL)) (a1:ApiURL):Option (Int):=
 AA (d:=.a (1,22) [(4,15)] [] (fun j1:Unit=>[])) (fun j1:Unit=>
  some ((-1))) fun k2=>
 grd (AB (a0.length)) (
  Bd N a1 k2 a0 0)
def EI (N:Nat) (a0:(List ApiURL)) (a1:ApiURL):Option (Bool):=
 Option.bind (En N a0 a1) fun y1=>
 some ((decide (y1≥0)))
def NN (N:Nat) (a0:ApiURL) (a1:ApiHead) (a2:(List ApiURL)) (a3:Int):Option (ApiURL×Int):=
 if(decide (a3≥5))=true then
  some ((ApiURL.mk [] 0 [] [] [] false false),250)
 else
  Option.bind (Mo N a1 ([108,111,99,97,116,105,111,110]:List UInt8)) fun y1=>
  if((y1.length:Int) !=1)=true then
   some ((ApiURL.mk [] 0 [] [] [] false false),252)
  else
   AA (d:=.n (6,1) [(22,8)] [11,12] 11 (fun(j4:Int×ApiURL) g=>[.ptr g 0,.int .i64 j4.1]) (fun j4 g=>[]) (fun j4 g=>[.str j4.2.host,.int .i64 j4.2.port,.str j4.2.path,.str j4.2.query,.str j4.2.fragment,.bool j4.2.hasQuery,.bool j4.2.hasFrag])) (fun j4:Int×ApiURL=>
    if(j4.1==253)=true then
     some ((ApiURL.mk [] 0 [] [] [] false false),j4.1)
    else
     if(j4.1 !=0)=true then
      some ((ApiURL.mk [] 0 [] [] [] false false),252)
     else
      Option.bind (EI N a2 (ApiURL.mk j4.2.host j4.2.port j4.2.path j4.2.query [] j4.2.hasQuery false)) fun y11=>
      if y11=true then
       some ((ApiURL.mk [] 0 [] [] [] false false),251)
      else
       some ((ApiURL.mk j4.2.host j4.2.port j4.2.path j4.2.query [] j4.2.hasQuery false),0)) fun k5=>
   Option.bind (idx y1 0) fun x8=>
   Option.bind (Je N a0 x8) fun y9=>
   k5 (y9.2,y9.1)
def RD (N:Nat) (a0:(List ApiAnswer)) (a1:Int) (a2:ApiFetch):Option (ApiFetch):=
 Option.bind (Nk N a2) fun y1=>
 if y1.done=true then
  some (y1)
 else
  Option.bind (VN N a0 a1 y1.next) fun y3=>
  grd (CG (y1.final.trace.length+1) 96) (
  AA (d:=.a (6,17) [(10,1),(37,33)] [9] (fun j5:Int=>[.int .i64 j5])) (fun j5:Int=>
   AA (d:=.b (13,7) [(71,10)] [] (fun j17:(List ApiExchange)×Int×(List UInt8)×Int×(List UInt8)×(List UInt8)×(List UInt8)×Bool×Bool×Int×Int×(List ApiField)×(List UInt8)=>[]) fun j17=>[.p [.k,.k,.k,.k,.k,.k,.k,.k,.k,.k,.k,.v (.slice 9 (List.map AO j17.1) false)],.k,.p [.k,.k,.k,.k,.k,.k,.k,.k,.k,.v (.int .i64 j17.2.1),.v (.str j17.2.2.1),.v (.int .i64 j17.2.2.2.1),.v (.str j17.2.2.2.2.1),.v (.str j17.2.2.2.2.2.1),.v (.str j17.2.2.2.2.2.2.1),.v (.bool j17.2.2.2.2.2.2.2.1),.v (.bool j17.2.2.2.2.2.2.2.2.1),.v (.int .i64 j17.2.2.2.2.2.2.2.2.2.1),.v (.int .i64 j17.2.2.2.2.2.2.2.2.2.2.1),.v (.slice 2 (List.map Af j17.2.2.2.2.2.2.2.2.2.2.2.1) false),.v (.str j17.2.2.2.2.2.2.2.2.2.2.2.2),.w]]) (fun j17:(List ApiExchange)×Int×(List UInt8)×Int×(List UInt8)×(List UInt8)×(List UInt8)×Bool×Bool×Int×Int×(List ApiField)×(List UInt8)=>
    some ((ApiFetch.mk y1.next y1.hops true j17.2.1 (ApiResponse.mk (ApiURL.mk j17.2.2.1 j17.2.2.2.1 j17.2.2.2.2.1 j17.2.2.2.2.2.1 j17.2.2.2.2.2.2.1 j17.2.2.2.2.2.2.2.1 j17.2.2.2.2.2.2.2.2.1) (ApiHead.mk j17.2.2.2.2.2.2.2.2.2.1 j17.2.2.2.2.2.2.2.2.2.2.1 j17.2.2.2.2.2.2.2.2.2.2.2.1) j17.2.2.2.2.2.2.2.2.2.2.2.2 (y1.final.trace++[(ApiExchange.mk y1.next y3.2.1 y3.2.2)])) y1.seen))) fun k18=>
   if(j5 !=0)=true then
    k18 (y3.1.trace,j5,[],0,[],[],[],false,false,0,0,[],[])
   else
    k18 ((y1.final.trace++[(ApiExchange.mk y1.next y3.2.1 y3.2.2)]),y1.err,y3.1.uRL.host,y3.1.uRL.port,y3.1.uRL.path,y3.1.uRL.query,y3.1.uRL.fragment,y3.1.uRL.hasQuery,y3.1.uRL.hasFrag,y3.1.head.minor,y3.1.head.status,y3.1.head.fields,y3.1.body)) fun k6=>
  AA (d:=.a (6,1) [(37,5)] [42] (fun j9:Bool=>[.bool j9])) (fun j9:Bool=>
   if j9=true then
    Option.bind (NN N y1.next y3.1.head y1.seen y1.hops) fun y15=>
    if(y15.2==0)=true then
     grd (CG (y1.seen.length+1) 80) (
     some ((ApiFetch.mk y15.1 (wr .i64 (y1.hops+1)) y1.done y1.err (ApiResponse.mk (ApiURL.mk [] 0 [] [] [] false false) (ApiHead.mk 0 0 []) [] (y1.final.trace++[(ApiExchange.mk y1.next y3.2.1 y3.2.2)])) (y1.seen++[y15.1]))))
    else
     k6 y15.2
   else
    k6 y3.2.2) fun k10=>
  if(y3.2.2==0)=true then
   Option.bind (Gc N y3.2.1) fun y13=>
   k10 y13
  else
   k10 false)
def Iy (N:Nat) (a0:(List ApiAnswer)) (a1:Int) (k4:(ApiFetch→Option (ApiResponse×Int))):Nat→ApiFetch→Option (ApiResponse×Int)
  |0,_=>none
  |k+1,bn2=>
  if bn2.done=true then
   k4 bn2
  else
   Option.bind (RD N a0 a1 bn2) fun y8=>
   Iy N a0 a1 k4 k y8
def TG (N:Nat) (a0:(List ApiAnswer)) (a1:Int) (a2:ApiURL):Option (ApiResponse×Int):=
 Option.bind (PN N a2) fun y1=>
 AA (d:=.b (0,10) [(11,7)] [] (fun j3:ApiFetch=>[]) fun j3=>[.s ([.str j3.next.host,.int .i64 j3.next.port,.str j3.next.path,.str j3.next.query,.str j3.next.fragment,.bool j3.next.hasQuery,.bool j3.next.hasFrag,.int .i64 j3.hops,.bool j3.done,.int .i64 j3.err,.str j3.final.uRL.host,.int .i64 j3.final.uRL.port,.str j3.final.uRL.path,.str j3.final.uRL.query,.str j3.final.uRL.fragment,.bool j3.final.uRL.hasQuery,.bool j3.final.uRL.hasFrag,.int .i64 j3.final.head.minor,.int .i64 j3.final.head.status,.slice 2 (List.map Af j3.final.head.fields) false,.str j3.final.body,.slice 9 (List.map AO j3.final.trace) false,.slice 7 (List.map Aa j3.seen) false])]) (fun j3:ApiFetch=>
  some (j3.final,j3.err)) fun k4=>
 Iy N a0 a1 k4 N y1
def EB (N:Nat) (a0:FingerLookup) (a1:ApiURL):Option (ApiResponse×Int×FingerLookup):=
 AA (d:=.n (1,1) [(8,13)] [6,7] 6 (fun(j2:Int×ApiResponse) g=>[.ptr g 0,.int .i64 j2.1]) (fun j2 g=>[]) (fun j2 g=>[.str j2.2.uRL.host,.int .i64 j2.2.uRL.port,.str j2.2.uRL.path,.str j2.2.uRL.query,.str j2.2.uRL.fragment,.bool j2.2.uRL.hasQuery,.bool j2.2.uRL.hasFrag,.int .i64 j2.2.head.minor,.int .i64 j2.2.head.status,.slice 2 (List.map Af j2.2.head.fields) false,.str j2.2.body,.slice 9 (List.map AO j2.2.trace) false])) (fun j2:Int×ApiResponse=>
  grd (CG (a0.trace.length+j2.2.trace.length) 96) (
  some (j2.2,j2.1,(FingerLookup.mk a0.l a0.now a0.id (a0.trace++j2.2.trace))))) fun k3=>
 Option.bind (TG N a0.l a0.now a1) fun y6=>
 k3 (y6.2,y6.1)
def Ky (N:Nat) (a0:Int):Option (Int):=
 if(a0==200)=true then
  some (0)
 else
  AA (d:=.a (4,5) [(7,2)] [6] (fun j1:Bool=>[.bool j1])) (fun j1:Bool=>
   if j1=true then
    some (261)
   else
    some (260)) fun k2=>
  if(a0==404)=true then
   k2 (a0==404)
  else
   k2 (a0==410)
def Aw (N:Nat) (a0:GrammarCursor):Option (Bool×GrammarCursor):=
 some ((decide (a0.at_≥(a0.s.length:Int))),a0)
def Ht (N:Nat) (a0:Int):Option (Bool):=
 if(a0==32)=true then
  some (true)
 else
  some ((a0==9))
def Aj (N:Nat) (k2:(GrammarCursor→Option ((List UInt8)×GrammarCursor))):Nat→(List UInt8)→Int→Option ((List UInt8)×GrammarCursor)
  |0,_,_=>none
  |k+1,bi0_s,bi0_at_=>
  Option.bind (Aw N (GrammarCursor.mk bi0_s bi0_at_)) fun y6=>
  if y6.1=true then
   k2 y6.2
  else
   Option.bind (idx y6.2.s y6.2.at_) fun x8=>
   Option.bind (Ht N (AY x8)) fun y9=>
   if y9=true then
    Aj N k2 k y6.2.s (wr .i64 (y6.2.at_+1))
   else
    k2 y6.2
def CQ (N:Nat) (a0:GrammarCursor):Option ((List UInt8)×GrammarCursor):=
 AA (d:=.b (0,10) [(10,23)] [] (fun j1:GrammarCursor=>[]) fun j1=>[.s ([.str j1.s,.int .i64 j1.at_])]) (fun j1:GrammarCursor=>
  Option.bind (sub j1.s a0.at_ j1.at_) fun x11=>
  some (x11,j1)) fun k2=>
 Aj N k2 N a0.s a0.at_
def Ay (N:Nat) (a0:GrammarCursor):Option (GrammarCursor):=
 Option.bind (CQ N a0) fun y1=>
 some (y1.2)
def Au (N:Nat) (a0:GrammarCursor) (a1:Int):Option (Bool×GrammarCursor):=
 AA (d:=.b (1,1) [(5,14)] [19] (fun j1:Bool×GrammarCursor=>[.bool j1.1]) fun j1=>[.s ([.str j1.2.s,.int .i64 j1.2.at_])]) (fun j1:Bool×GrammarCursor=>
  if j1.1=true then
   some (false,j1.2)
  else
   some (true,(GrammarCursor.mk j1.2.s (wr .i64 (j1.2.at_+1))))) fun k2=>
 Option.bind (Aw N a0) fun y5=>
 if y5.1=true then
  k2 (true,y5.2)
 else
  Option.bind (idx y5.2.s y5.2.at_) fun x7=>
  k2 (((AY x7) !=a1),y5.2)
def A7 (N:Nat) (k2:(GrammarCursor→Option ((List UInt8)×GrammarCursor))):Nat→(List UInt8)→Int→Option ((List UInt8)×GrammarCursor)
  |0,_,_=>none
  |k+1,bi0_s,bi0_at_=>
  Option.bind (Aw N (GrammarCursor.mk bi0_s bi0_at_)) fun y6=>
  if y6.1=true then
   k2 y6.2
  else
   Option.bind (idx y6.2.s y6.2.at_) fun x8=>
   Option.bind (Kz N (AY x8)) fun y9=>
   if y9=true then
    A7 N k2 k y6.2.s (wr .i64 (y6.2.at_+1))
   else
    k2 y6.2
def Da (N:Nat) (a0:GrammarCursor):Option ((List UInt8)×GrammarCursor):=
 AA (d:=.b (0,10) [(10,23)] [] (fun j1:GrammarCursor=>[]) fun j1=>[.s ([.str j1.s,.int .i64 j1.at_])]) (fun j1:GrammarCursor=>
  Option.bind (sub j1.s a0.at_ j1.at_) fun x11=>
  some (x11,j1)) fun k2=>
 A7 N k2 N a0.s a0.at_
def Dv (N:Nat) (a0:GrammarCursor):Option ((List UInt8)×Bool×GrammarCursor):=
 Option.bind (Da N a0) fun y1=>
 some (y1.1,(!(y1.1==[])),y1.2)
def Jh (N:Nat) (a0:Int):Option (Bool):=
 if(a0==9)=true then
  some (true)
 else
  if(decide (a0≥32))=true then
   some ((a0 !=127))
  else
   some (false)
def Cj (N:Nat) (k2:(GrammarCursor→Option ((List UInt8)×Bool×GrammarCursor))) (y5:Bool×GrammarCursor):Nat→(List Int)→(List UInt8)→Int→Option ((List UInt8)×Bool×GrammarCursor)
  |0,_,_,_=>none
  |k+1,s4,bi0_s,bi0_at_=>
  AA (d:=.b (3,1) [(9,5)] [14] (fun j8:Bool×(List UInt8)×Int=>[.bool j8.1]) fun j8=>[.s ([.str j8.2.1,.int .i64 j8.2.2])]) (fun j8:Bool×(List UInt8)×Int=>
   if j8.1=true then
    Option.bind (idx j8.2.1 j8.2.2) fun x14=>
    if((AY x14)==34)=true then
     some ((List.map JK s4),true,(GrammarCursor.mk j8.2.1 (wr .i64 (j8.2.2+1))))
    else
     AA (d:=.b (9,13) [(42,20)] [6] (fun j15:Int×(List UInt8)×Int=>[.int .u8 j15.1]) fun j15=>[.s ([.str j15.2.1,.int .i64 j15.2.2])]) (fun j15:Int×(List UInt8)×Int=>
      Option.bind (Jh N j15.1) fun y22=>
      if y22=true then
       grd (CG (s4.length+1) 1) (
       Cj N k2 y5 k (s4++[j15.1]) j15.2.1 (wr .i64 (j15.2.2+1)))
      else
       k2 (GrammarCursor.mk j15.2.1 j15.2.2)) fun k16=>
     if((AY x14)==92)=true then
      Option.bind (Aw N (GrammarCursor.mk j8.2.1 (wr .i64 (j8.2.2+1)))) fun y19=>
      if y19.1=true then
       k2 y19.2
      else
       Option.bind (idx y19.2.s y19.2.at_) fun x21=>
       k16 ((AY x21),y19.2.s,y19.2.at_)
     else
      k16 ((AY x14),j8.2.1,j8.2.2)
   else
    k2 (GrammarCursor.mk j8.2.1 j8.2.2)) fun k9=>
  if y5.1=true then
   Option.bind (Aw N (GrammarCursor.mk bi0_s bi0_at_)) fun y12=>
   k9 ((!y12.1),y12.2.s,y12.2.at_)
  else
   k9 (false,bi0_s,bi0_at_)
def Ia (N:Nat) (a0:GrammarCursor):Option ((List UInt8)×Bool×GrammarCursor):=
 AA (d:=.b (2,46) [(2,67)] [] (fun j1:GrammarCursor=>[]) fun j1=>[.s ([.str j1.s,.int .i64 j1.at_])]) (fun j1:GrammarCursor=>
  some ([],false,j1)) fun k2=>
 Option.bind (Au N a0 34) fun y5=>
 Cj N k2 y5 N [] y5.2.s y5.2.at_
def Ee (N:Nat) (a0:GrammarCursor):Option ((List UInt8)×Bool×GrammarCursor):=
 AA (d:=.b (1,1) [(4,14)] [18] (fun j1:Bool×GrammarCursor=>[.bool j1.1]) fun j1=>[.s ([.str j1.2.s,.int .i64 j1.2.at_])]) (fun j1:Bool×GrammarCursor=>
  if j1.1=true then
   Option.bind (Ia N j1.2) fun y8=>
   some (y8.1,y8.2.1,y8.2.2)
  else
   Option.bind (Dv N j1.2) fun y10=>
   some (y10.1,y10.2.1,y10.2.2)) fun k2=>
 Option.bind (Aw N a0) fun y5=>
 if y5.1=true then
  k2 (false,y5.2)
 else
  Option.bind (idx y5.2.s y5.2.at_) fun x7=>
  k2 (((AY x7)==34),y5.2)
def JO (N:Nat) (a0:GrammarCursor):Option ((List UInt8)×Bool×GrammarCursor):=
 Option.bind (Dv N a0) fun y1=>
 Option.bind (Dp N y1.1) fun y3=>
 some (y3,y1.2.1,y1.2.2)
def Gx (N:Nat) (y3:(List UInt8)×Bool×GrammarCursor) (y11:(List UInt8)×Bool×GrammarCursor) (k14:((List ApiField)×GrammarCursor→Option (ApiMedia×Int))):Nat→Bool→(List ApiField)→GrammarCursor→Option (ApiMedia×Int)
  |0,_,_,_=>none
  |k+1,s7,bn3_params,bn1=>
  if s7=true then
   Option.bind (Ay N bn1) fun y22=>
   Option.bind (Aw N y22) fun y24=>
   if y24.1=true then
    some ((ApiMedia.mk y3.1 y11.1 bn3_params),0)
   else
    Option.bind (Au N y24.2 59) fun y26=>
    Option.bind (Ay N y26.2) fun y28=>
    Option.bind (JO N y28) fun y30=>
    AA (d:=.b (18,1) [(53,8)] [7] (fun j32:Bool×GrammarCursor=>[.bool j32.1]) fun j32=>[.k,.k,.k,.s ([.str j32.2.s,.int .i64 j32.2.at_])]) (fun j32:Bool×GrammarCursor=>
     Option.bind (Ee N j32.2) fun y38=>
     AA (d:=.a (20,1) [(67,4)] [7] (fun j40:Bool=>[.bool j40])) (fun j40:Bool=>
      grd (CG (bn3_params.length+1) 32) (
      Gx N y3 y11 k14 k j40 (bn3_params++[(ApiField.mk y30.1 y38.1)]) y38.2.2)) fun k41=>
     if j32.1=true then
      k41 y38.2.1
     else
      k41 false) fun k33=>
    if y26.1=true then
     if y30.2.1=true then
      Option.bind (Au N y30.2.2 61) fun y36=>
      k33 (y36.1,y36.2)
     else
      k33 (false,y30.2.2)
    else
     k33 (false,y30.2.2)
  else
   k14 (bn3_params,bn1)
def Pp (N:Nat) (a0:(List UInt8)):Option (ApiMedia×Int):=
 Option.bind (Ay N (GrammarCursor.mk a0 0)) fun y1=>
 Option.bind (JO N y1) fun y3=>
 AA (d:=.b (7,1) [(22,5)] [7] (fun j5:Bool×GrammarCursor=>[.bool j5.1]) fun j5=>[.k,.k,.s ([.str j5.2.s,.int .i64 j5.2.at_])]) (fun j5:Bool×GrammarCursor=>
  Option.bind (JO N j5.2) fun y11=>
  AA (d:=.b (9,36) [(3,1),(7,3),(33,44)] [] (fun j13:(List ApiField)×GrammarCursor=>[]) fun j13=>[.p [.k,.k,.v (.slice 2 (List.map Af j13.1) true)],.k,.s ([.str j13.2.s,.int .i64 j13.2.at_])]) (fun j13:(List ApiField)×GrammarCursor=>
   some ((ApiMedia.mk [] [] []),200)) fun k14=>
  AA (d:=.a (9,1) [(33,4)] [7] (fun j17:Bool=>[.bool j17])) (fun j17:Bool=>
   Gx N y3 y11 k14 N j17 [] y11.2.2) fun k18=>
  if j5.1=true then
   k18 y11.2.1
  else
   k18 false) fun k6=>
 if y3.2.1=true then
  Option.bind (Au N y3.2.2 47) fun y9=>
  k6 (y9.1,y9.2)
 else
  k6 (false,y3.2.2)
def IV (N:Nat) (k2:(Unit→Option (Bool))):List ApiField→Option (Bool)
  |[]=>
  k2 ()
  |xk5::xs=>
  AA (d:=.a (4,1) [(12,8)] [20] (fun j6:Bool=>[.bool j6])) (fun j6:Bool=>
   if j6=true then
    some (false)
   else
    IV N k2 xs) fun k7=>
  if(xk5.name==([99,104,97,114,115,101,116]:List UInt8))=true then
   Option.bind (GA N xk5.value ([117,116,102,45,56]:List UInt8)) fun y10=>
   k7 (!y10)
  else
   k7 false
def Qs (N:Nat) (a0:ApiMedia):Option (Bool):=
 AA (d:=.a (1,22) [(2,1),(4,18)] [] (fun j1:Unit=>[])) (fun j1:Unit=>
  some (true)) fun k2=>
 grd (AB (a0.params.length)) (
  IV N k2 a0.params)
def I8 (N:Nat) (a0:ApiMedia) (k2:(Unit→Option (Bool))):List (List UInt8)→Option (Bool)
  |[]=>
  k2 ()
  |xk5::xs=>
  grd (AB (a0.type_.length+([47]:List UInt8).length)) (
  grd (AB ((a0.type_++([47]:List UInt8)).length+a0.sub.length)) (
  if(((a0.type_++([47]:List UInt8))++a0.sub)==xk5)=true then
   Option.bind (Qs N a0) fun y6=>
   some (y6)
  else
   I8 N a0 k2 xs))
def TN (N:Nat) (a0:ApiMedia) (a1:(List (List UInt8))):Option (Bool):=
 AA (d:=.a (1,22) [(4,1),(6,18)] [] (fun j1:Unit=>[])) (fun j1:Unit=>
  some (false)) fun k2=>
 grd (AB (a1.length)) (
  I8 N a0 k2 a1)
def PG (N:Nat) (a0:ApiMedia):Option (Bool):=
 letL ([([97,112,112,108,105,99,97,116,105,111,110,47,106,114,100,43,106,115,111,110]:List UInt8),([97,112,112,108,105,99,97,116,105,111,110,47,106,115,111,110]:List UInt8)]:(List (List UInt8))) fun l1=>
 Option.bind (TN N a0 l1) fun y2=>
 some (y2)
def PZ (N:Nat) (a0:Int):Option (Bool):=
 if(a0==32)=true then
  some (true)
 else
  if(a0==9)=true then
   some (true)
  else
   if(a0==10)=true then
    some (true)
   else
    some ((a0==13))
def Ir (N:Nat) (a0:Int):Option (Bool):=
 if(decide (a0≥0))=true then
  if(decide (a0≤1114111))=true then
   if(decide (a0<55296))=true then
    some (true)
   else
    some ((decide (a0>57343)))
  else
   some (false)
 else
  some (false)
def FP (N:Nat) (a0:(List UInt8)) (a1:Int) (s20:Int) (k13:(Int→Option (Int×Int×Int))):Nat→Int→Int→Option (Int×Int×Int)
  |0,_,_=>none
  |k+1,s9,s10=>
  if(decide (s10≤s20))=true then
   Option.bind (idx a0 (wr .i64 (a1+s10))) fun x17=>
   if((Pk .u8 (AY x17) 192) !=128)=true then
    some (0,0,7)
   else
    FP N a0 a1 s20 k13 k (Qo .i64 (AYO .i64 s9 6) (wr .i64 (Pk .u8 (AY x17) 63))) (wr .i64 (s10+1))
  else
   k13 s9
def Dn (N:Nat) (a0:(List UInt8)) (a1:Int) (k6:(Unit→Option (Int×Int×Int))):Nat→Int→Option (Int×Int×Int)
  |0,s20=>
  k6 ()
  |k+1,s20=>
  Option.bind (idx Dj s20) fun x10=>
  Option.bind (idx a0 a1) fun x11=>
  if((Va .u8 (AY x11) x10.mask) !=x10.mark)=true then
   Dn N a0 a1 k6 k (s20+1)
  else
   if(decide ((wr .i64 ((wr .i64 ((a0.length:Int)-a1))-1))<s20))=true then
    k6 ()
   else
    AA (d:=.a (9,22) [(4,3),(10,1),(47,22)] [9] (fun j12:Int=>[.int .i64 j12])) (fun j12:Int=>
     AA (d:=.a (15,1) [(69,8)] [77] (fun j18:Bool=>[.bool j18])) (fun j18:Bool=>
      if j18=true then
       k6 ()
      else
       some (j12,(wr .i64 ((wr .i64 (a1+s20))+1)),0)) fun k19=>
     if(decide (j12<x10.least))=true then
      k19 true
     else
      Option.bind (Ir N j12) fun y22=>
      k19 (!y22)) fun k13=>
    FP N a0 a1 s20 k13 N (wr .i64 (Pk .u8 (AY x11) x10.mask)) 1
def Jm (N:Nat) (a0:(List UInt8)) (a1:Int):Option (Int×Int×Int):=
 AA (d:=.a (1,1) [(11,7)] [18] (fun j1:Bool=>[.bool j1])) (fun j1:Bool=>
  if j1=true then
   some (0,0,4)
  else
   AA (d:=.a (3,61) [(4,7),(19,65)] [] (fun j5:Unit=>[])) (fun j5:Unit=>
    some (0,0,7)) fun k6=>
   grd ((-4611686018427387904:Int)≤0∧(4:Int)≤4611686018427387904) (
    Dn N a0 a1 k6 ((4:Int)-0).toNat 0)) fun k2=>
 if(decide (a1<0))=true then
  k2 true
 else
  k2 (decide (a1≥(a0.length:Int)))
def KE (N:Nat) (a0:TokenReader):Option ((List UInt8)×Int×TokenReader):=
 AA (d:=.a (2,1) [(5,1),(12,13)] [6,7] (fun j1:Int×Int=>[.int .i64 j1.1,.int .i64 j1.2])) (fun j1:Int×Int=>
  if(j1.2 !=0)=true then
   some ([],7,a0)
  else
   Option.bind (sub a0.s a0.at_ j1.1) fun x7=>
   some (x7,0,(TokenReader.mk a0.s j1.1))) fun k2=>
 Option.bind (Jm N a0.s a0.at_) fun y5=>
 k2 (y5.2.1,y5.2.2)
def Ie (N:Nat) (a0:TokenReader):Option (Int×Bool×TokenReader):=
 AA (d:=.a (1,1) [(6,27)] [33] (fun j1:Bool=>[.bool j1])) (fun j1:Bool=>
  if j1=true then
   some (0,false,a0)
  else
   AA (d:=.a (3,1) [(34,19)] [4,5] (fun j6:Int×Int=>[.int .u64 j6.1,.int .i64 j6.2])) (fun j6:Int×Int=>
    if(j6.2 !=0)=true then
     some (0,false,a0)
    else
     some ((wr .i64 j6.1),true,(TokenReader.mk a0.s (wr .i64 (a0.at_+6))))) fun k7=>
   Option.bind (sub a0.s (wr .i64 (a0.at_+2)) (wr .i64 (a0.at_+6))) fun x10=>
   Option.bind (OJ N x10 65535) fun y11=>
   k7 (y11.1,y11.2)) fun k2=>
 if(decide ((wr .i64 ((a0.s.length:Int)-a0.at_))<6))=true then
  k2 true
 else
  Option.bind (sub a0.s a0.at_ (wr .i64 (a0.at_+2))) fun x5=>
  k2 (!(x5==([92,117]:List UInt8)))
def FQ (N:Nat) (j3:Int) (k14:(Int×(List Int)→Option ((List UInt8)×Int))):Nat→Int→Int→(List Int)→Option ((List UInt8)×Int)
  |0,_,_,_=>none
  |k+1,s0,s6,bn6=>
  if(decide (s6>0))=true then
   grd (0≤s6∧s6<((wr .i64 (j3+1)).toNat:Int)) (
   grd (s6.toNat+1≤bn6.length) (
   FQ N j3 k14 k (AUJ .i64 s0 6) (wr .i64 (s6-1)) (bn6.set s6.toNat (Qo .u8 128 (wr .u8 (Pk .i64 s0 63))))))
  else
   k14 (s0,bn6)
def FO (N:Nat) (a0:Int) (k4:(Int→Option ((List UInt8)×Int))):Nat→Int→Option ((List UInt8)×Int)
  |0,_=>none
  |k+1,s4=>
  AA (d:=.a (4,1) [(10,10)] [20] (fun j8:Bool=>[.bool j8])) (fun j8:Bool=>
   if j8=true then
    FO N a0 k4 k (wr .i64 (s4+1))
   else
    k4 s4) fun k9=>
  if(decide (s4<3))=true then
   Option.bind (idx Dj (wr .i64 (s4+1))) fun x12=>
   k9 (decide (a0≥x12.least))
  else
   k9 false
def Jf (N:Nat) (a0:Int):Option ((List UInt8)×Int):=
 Option.bind (Ir N a0) fun y1=>
 if y1=true then
  AA (d:=.a (0,10) [(10,13)] [4] (fun j3:Int=>[.int .i64 j3])) (fun j3:Int=>
   grd (Ru (wr .i64 (j3+1)) 1) (
   AA (d:=.b (7,16) [(6,1),(26,14)] [0] (fun j13:Int×(List Int)=>[.int .i64 j13.1]) fun j13=>[.s (List.map (AVal.int .u8) j13.2)]) (fun j13:Int×(List Int)=>
    Option.bind (idx Dj j3) fun x18=>
    grd (0≤0∧0<((wr .i64 (j3+1)).toNat:Int)) (
    grd (0+1≤j13.2.length) (
    grd ((wr .i64 (j3+1)).toNat≤j13.2.length∧AB ((wr .i64 (j3+1)).toNat)) (
    some ((List.map JK (List.take ((wr .i64 (j3+1)).toNat) (j13.2.set 0 (Qo .u8 x18.mark (wr .u8 j13.1))))),0))))) fun k14=>
   FQ N j3 k14 N a0 j3 (List.replicate (wr .i64 (j3+1)).toNat 0))) fun k4=>
  FO N a0 k4 N 0
 else
  some ([],4)
def KM (N:Nat) (a0:TokenReader):Option (Int×TokenReader):=
 if(decide (a0.at_<(a0.s.length:Int)))=true then
  Option.bind (idx a0.s a0.at_) fun x1=>
  some ((AY x1),a0)
 else
  some (0,a0)
def JL (N:Nat) (a0:TokenReader):Option ((List UInt8)×Int×TokenReader):=
 Option.bind (Ie N a0) fun y1=>
 if y1.2.1=true then
  AA (d:=.b (3,11) [(6,2),(17,27)] [4] (fun j3:Int×TokenReader=>[.int .i64 j3.1]) fun j3=>[.s ([.str j3.2.s,.int .i64 j3.2.at_])]) (fun j3:Int×TokenReader=>
   Option.bind (Jf N j3.1) fun y17=>
   if(y17.2 !=0)=true then
    some ([],7,j3.2)
   else
    some (y17.1,0,j3.2)) fun k4=>
  AA (d:=.a (3,1) [(17,5)] [22] (fun j7:Bool=>[.bool j7])) (fun j7:Bool=>
   if j7=true then
    Option.bind (Ie N y1.2.2) fun y11=>
    AA (d:=.a (5,1) [(28,8)] [36] (fun j13:Bool=>[.bool j13])) (fun j13:Bool=>
     if j13=true then
      k4 ((wr .i64 ((wr .i64 ((wr .i64 (65536+(wr .i64 ((wr .i64 (y1.1-55296)) * 1024))))+y11.1))-56320)),y11.2.2)
     else
      k4 (y1.1,y11.2.2)) fun k14=>
    if y11.2.1=true then
     if(decide (y11.1≥56320))=true then
      k14 (decide (y11.1≤57343))
     else
      k14 false
    else
     k14 false
   else
    k4 (y1.1,y1.2.2)) fun k8=>
  if(decide (y1.1≥55296))=true then
   k8 (decide (y1.1≤56319))
  else
   k8 false
 else
  Option.bind (KM N (TokenReader.mk y1.2.2.s (wr .i64 (y1.2.2.at_+1)))) fun y19=>
  Option.bind (strings_IndexByte N ([34,92,47,98,102,110,114,116]:List UInt8) y19.1) fun y21=>
  AA (d:=.a (13,1) [(62,13)] [75] (fun j23:Bool=>[.bool j23])) (fun j23:Bool=>
   if j23=true then
    some ([],130,y19.2)
   else
    Option.bind (sub ([34,92,47,8,12,10,13,9]:List UInt8) y21 (wr .i64 (y21+1))) fun x27=>
    some (x27,0,(TokenReader.mk y19.2.s (wr .i64 (y19.2.at_+1))))) fun k24=>
  if(decide (y19.2.at_≥(y19.2.s.length:Int)))=true then
   k24 true
  else
   k24 (decide (y21<0))
def Cv (N:Nat) (k2:(Bool×(List UInt8)×(List UInt8)×Int→Option ((List UInt8)×Int×TokenReader))):Nat→Bool→(List UInt8)→(List UInt8)→Int→Option ((List UInt8)×Int×TokenReader)
  |0,_,_,_,_=>none
  |k+1,bn_addr,bn_buf,bi0_s,bi0_at_=>
  if (decide (bi0_at_<(bi0_s.length:Int)))=true then
   Option.bind (idx bi0_s bi0_at_) fun x6=>
   if((AY x6)==34)=true then
    Option.bind (BN N (StringsBuilder.mk bn_addr bn_buf)) fun y7=>
    some (y7.1,0,(TokenReader.mk bi0_s (wr .i64 (bi0_at_+1))))
   else
    if((AY x6)==92)=true then
     Option.bind (JL N (TokenReader.mk bi0_s bi0_at_)) fun y9=>
     if(y9.2.1 !=0)=true then
      some ([],y9.2.1,y9.2.2)
     else
      Option.bind (AL N (StringsBuilder.mk bn_addr bn_buf) y9.1) fun y11=>
      Cv N k2 k y11.2.2.addr y11.2.2.buf y9.2.2.s y9.2.2.at_
    else
     if(decide ((AY x6)<32))=true then
      some ([],130,(TokenReader.mk bi0_s bi0_at_))
     else
      Option.bind (KE N (TokenReader.mk bi0_s bi0_at_)) fun y13=>
      if(y13.2.1 !=0)=true then
       some ([],y13.2.1,y13.2.2)
      else
       Option.bind (AL N (StringsBuilder.mk bn_addr bn_buf) y13.1) fun y15=>
       Cv N k2 k y15.2.2.addr y15.2.2.buf y13.2.2.s y13.2.2.at_
  else
   k2 (bn_addr,bn_buf,bi0_s,bi0_at_)
def KD (N:Nat) (a0:TokenReader):Option ((List UInt8)×Int×TokenReader):=
 AA (d:=.b (2,47) [(2,2),(5,61)] [] (fun j1:Bool×(List UInt8)×(List UInt8)×Int=>[]) fun j1=>[.t (fun q=>[EE q 222 2 j1.1,.buf 5 j1.2.1 true]),.s ([.str j1.2.2.1,.int .i64 j1.2.2.2])]) (fun j1:Bool×(List UInt8)×(List UInt8)×Int=>
  some ([],130,(TokenReader.mk j1.2.2.1 j1.2.2.2))) fun k2=>
 Cv N k2 N false [] a0.s (wr .i64 (a0.at_+1))
def D7 (N:Nat) (a0:TokenReader) (a1:(List UInt8)):Option (Bool×TokenReader):=
 AA (d:=.a (1,1) [(5,23)] [28] (fun j1:Bool=>[.bool j1])) (fun j1:Bool=>
  if j1=true then
   some (true,(TokenReader.mk a0.s (wr .i64 (a0.at_+1))))
  else
   some (false,a0)) fun k2=>
 if(decide (a0.at_<(a0.s.length:Int)))=true then
  Option.bind (idx a0.s a0.at_) fun x5=>
  Option.bind (strings_IndexByte N a1 (AY x5)) fun y6=>
  k2 (decide (y6≥0))
 else
  k2 false
def BF (N:Nat) (a0:TokenReader) (k2:(Int→Option ((List UInt8)×TokenReader))):Nat→Int→Option ((List UInt8)×TokenReader)
  |0,bi0_at_=>
  k2 bi0_at_
  |k+1,bi0_at_=>
  Option.bind (idx a0.s bi0_at_) fun x6=>
  Option.bind (CW N (AY x6)) fun y7=>
  if y7=true then
   BF N a0 k2 k (bi0_at_+1)
  else
   k2 bi0_at_
def Cg (N:Nat) (a0:TokenReader):Option ((List UInt8)×TokenReader):=
 AA (d:=.b (0,10) [(10,30)] [] (fun j1:Int=>[]) fun j1=>[.p [.k,.v (.int .i64 j1)]]) (fun j1:Int=>
  Option.bind (sub a0.s a0.at_ j1) fun x9=>
  some (x9,(TokenReader.mk a0.s j1))) fun k2=>
 grd ((-4611686018427387904:Int)≤a0.at_∧((a0.s.length:Int):Int)≤4611686018427387904) (
  BF N a0 k2 (((a0.s.length:Int):Int)-a0.at_).toNat a0.at_)
def Gb (N:Nat) (a0:TokenReader) (a1:Int):Option (TokenReader):=
 Option.bind (Cg N a0) fun y1=>
 if(y1.1==[])=true then
  some ((TokenReader.mk y1.2.s a1))
 else
  some (y1.2)
def Gd (N:Nat) (a0:TokenReader):Option ((List UInt8)×Bool×TokenReader):=
 Option.bind (D7 N a0 ([45]:List UInt8)) fun y1=>
 AA (d:=.b (3,1) [(13,7)] [20] (fun j3:Bool×TokenReader=>[.bool j3.1]) fun j3=>[.s ([.str j3.2.s,.int .i64 j3.2.at_])]) (fun j3:Bool×TokenReader=>
  if j3.1=true then
   some ([],false,j3.2)
  else
   AA (d:=.b (5,7) [(5,1),(21,9)] [] (fun j11:TokenReader=>[]) fun j11=>[.s ([.str j11.s,.int .i64 j11.at_])]) (fun j11:TokenReader=>
    AA (d:=.b (8,9) [(6,1),(30,11)] [] (fun j19:TokenReader=>[]) fun j19=>[.s ([.str j19.s,.int .i64 j19.at_])]) (fun j19:TokenReader=>
     Option.bind (sub j19.s a0.at_ j19.at_) fun x29=>
     some (x29,true,j19)) fun k20=>
    Option.bind (D7 N j11 ([101,69]:List UInt8)) fun y23=>
    if y23.1=true then
     Option.bind (D7 N y23.2 ([43,45]:List UInt8)) fun y25=>
     Option.bind (Gb N y25.2 j11.at_) fun y27=>
     k20 y27
    else
     k20 y23.2) fun k12=>
   Option.bind (D7 N j3.2 ([46]:List UInt8)) fun y15=>
   if y15.1=true then
    Option.bind (Gb N y15.2 j3.2.at_) fun y17=>
    k12 y17
   else
    k12 y15.2) fun k4=>
 Option.bind (D7 N y1.2 ([48]:List UInt8)) fun y7=>
 if y7.1=true then
  k4 (false,y7.2)
 else
  Option.bind (Cg N y7.2) fun y9=>
  k4 ((y9.1==[]),y9.2)
def BA (N:Nat) (a0:TokenReader) (k2:(Int→Option ((List UInt8)×TokenReader))):Nat→Int→Option ((List UInt8)×TokenReader)
  |0,bi0_at_=>
  k2 bi0_at_
  |k+1,bi0_at_=>
  Option.bind (idx a0.s bi0_at_) fun x6=>
  Option.bind (Ey N (AY x6)) fun y7=>
  if y7=true then
   BA N a0 k2 k (bi0_at_+1)
  else
   k2 bi0_at_
def Dy (N:Nat) (a0:TokenReader):Option ((List UInt8)×TokenReader):=
 AA (d:=.b (0,10) [(10,30)] [] (fun j1:Int=>[]) fun j1=>[.p [.k,.v (.int .i64 j1)]]) (fun j1:Int=>
  Option.bind (sub a0.s a0.at_ j1) fun x9=>
  some (x9,(TokenReader.mk a0.s j1))) fun k2=>
 grd ((-4611686018427387904:Int)≤a0.at_∧((a0.s.length:Int):Int)≤4611686018427387904) (
  BA N a0 k2 (((a0.s.length:Int):Int)-a0.at_).toNat a0.at_)
def Jp (N:Nat) (a0:TokenReader):Option (Int×(List UInt8)×Int×TokenReader):=
 if(a0.at_==(a0.s.length:Int))=true then
  some (1,[],0,a0)
 else
  AA (d:=.b (3,44) [(2,9),(21,62)] [] (fun j1:TokenReader=>[]) fun j1=>[.s ([.str j1.s,.int .i64 j1.at_])]) (fun j1:TokenReader=>
   some (0,[],130,j1)) fun k2=>
  Option.bind (idx a0.s a0.at_) fun x5=>
  Option.bind (strings_IndexByte N ([123,125,91,93,58,44]:List UInt8) (AY x5)) fun y6=>
  if(decide (y6≥0))=true then
   some (2,(LJ (AY x5)),0,(TokenReader.mk a0.s (wr .i64 (a0.at_+1))))
  else
   if((AY x5)==34)=true then
    Option.bind (KD N a0) fun y8=>
    some (3,y8.1,y8.2.1,y8.2.2)
   else
    AA (d:=.a (10,1) [(54,6)] [53] (fun j10:Bool=>[.bool j10])) (fun j10:Bool=>
     if j10=true then
      Option.bind (Gd N a0) fun y16=>
      if y16.2.1=true then
       some (4,y16.1,0,y16.2.2)
      else
       k2 y16.2.2
     else
      Option.bind (Ey N (AY x5)) fun y18=>
      if y18=true then
       Option.bind (Dy N a0) fun y20=>
       AA (d:=.a (16,1) [(72,9)] [81] (fun j22:Bool=>[.bool j22])) (fun j22:Bool=>
        if j22=true then
         some (5,y20.1,0,y20.2)
        else
         k2 y20.2) fun k23=>
       if(y20.1==([116,114,117,101]:List UInt8))=true then
        k23 true
       else
        if(y20.1==([102,97,108,115,101]:List UInt8))=true then
         k23 true
        else
         k23 (y20.1==([110,117,108,108]:List UInt8))
      else
       k2 a0) fun k11=>
    if((AY x5)==45)=true then
     k11 true
    else
     Option.bind (CW N (AY x5)) fun y14=>
     k11 y14
def BK (N:Nat) (a0:TokenReader) (k2:(Int→Option ((List UInt8)×TokenReader))):Nat→Int→Option ((List UInt8)×TokenReader)
  |0,bi0_at_=>
  k2 bi0_at_
  |k+1,bi0_at_=>
  Option.bind (idx a0.s bi0_at_) fun x6=>
  Option.bind (PZ N (AY x6)) fun y7=>
  if y7=true then
   BK N a0 k2 k (bi0_at_+1)
  else
   k2 bi0_at_
def EH (N:Nat) (a0:TokenReader):Option ((List UInt8)×TokenReader):=
 AA (d:=.b (0,10) [(10,30)] [] (fun j1:Int=>[]) fun j1=>[.p [.k,.v (.int .i64 j1)]]) (fun j1:Int=>
  Option.bind (sub a0.s a0.at_ j1) fun x9=>
  some (x9,(TokenReader.mk a0.s j1))) fun k2=>
 grd ((-4611686018427387904:Int)≤a0.at_∧((a0.s.length:Int):Int)≤4611686018427387904) (
  BK N a0 k2 (((a0.s.length:Int):Int)-a0.at_).toNat a0.at_)
def L9 (N:Nat) (a0:(List UInt8)) (a1:Int):Option (ApiToken×Int×Int):=
 AA (d:=.a (1,1) [(12,7)] [19] (fun j1:Bool=>[.bool j1])) (fun j1:Bool=>
  if j1=true then
   some ((ApiToken.mk 0 [] 0),0,4)
  else
   Option.bind (EH N (TokenReader.mk a0 a1)) fun y5=>
   Option.bind (Jp N y5.2) fun y7=>
   if(y7.2.2.1 !=0)=true then
    some ((ApiToken.mk 0 [] 0),0,y7.2.2.1)
   else
    some ((ApiToken.mk y7.1 y7.2.1 y5.2.at_),y7.2.2.2.at_,0)) fun k2=>
 if(decide (a1<0))=true then
  k2 true
 else
  k2 (decide (a1>(a0.length:Int)))
def JY (N:Nat) (a0:ApiToken):Option (Bool):=
 AA (d:=.a (2,9) [(6,3)] [5] (fun j1:Bool=>[.bool j1])) (fun j1:Bool=>
  if j1=true then
   some (true)
  else
   if(a0.kind==2)=true then
    if(a0.text==([91]:List UInt8))=true then
     some (true)
    else
     some ((a0.text==([123]:List UInt8)))
   else
    some (false)) fun k2=>
 if(a0.kind==3)=true then
  k2 (a0.kind==3)
 else
  if(a0.kind==4)=true then
   k2 (a0.kind==4)
  else
   k2 (a0.kind==5)
def Cq (N:Nat) (a1:Int) (k2:((List UInt8)→Option ((List UInt8)))):Nat→(List UInt8)→Option ((List UInt8))
  |0,_=>none
  |k+1,s0=>
  AA (d:=.a (1,1) [(5,8)] [13] (fun j6:Bool=>[.bool j6])) (fun j6:Bool=>
   if j6=true then
    Option.bind (sub s0 1 (s0.length:Int)) fun x11=>
    Cq N a1 k2 k x11
   else
    k2 s0) fun k7=>
  if(decide ((s0.length:Int)>0))=true then
   Option.bind (idx s0 0) fun x10=>
   k7 ((AY x10)==a1)
  else
   k7 false
def strings_trimLeftByte (N:Nat) (a0:(List UInt8)) (a1:Int):Option ((List UInt8)):=
 AA (d:=.a (0,10) [(5,11)] [0] (fun j1:(List UInt8)=>[.str j1])) (fun j1:(List UInt8)=>
  some (j1)) fun k2=>
 Cq N a1 k2 N a0
def Ci (N:Nat) (k2:((List UInt8)×(List Bool)→Option ((List UInt8)×(List Bool)))):Nat→(List UInt8)→(List Bool)→Option ((List UInt8)×(List Bool))
  |0,_,_=>none
  |k+1,s0,bi1=>
  if(decide ((s0.length:Int)>0))=true then
   Option.bind (idx s0 0) fun x6=>
   Option.bind (DI N bi1 (AY x6)) fun y7=>
   if y7.1=true then
    Option.bind (sub s0 1 (s0.length:Int)) fun x9=>
    Ci N k2 k x9 y7.2
   else
    k2 (s0,y7.2)
  else
   k2 (s0,bi1)
def strings_trimLeftASCII (N:Nat) (a0:(List UInt8)) (a1:(List Bool)):Option ((List UInt8)×(List Bool)):=
 AA (d:=.b (0,16) [(5,10)] [0] (fun j1:(List UInt8)×(List Bool)=>[.str j1.1]) fun j1=>[.s (List.map AVal.bool j1.2)]) (fun j1:(List UInt8)×(List Bool)=>
  some (j1.1,j1.2)) fun k2=>
 Ci N k2 N a0 a1
def GQ (N:Nat) (a0:(List UInt8)) (a1:Int):Option (Bool):=
 Option.bind (GH N a0 a1) fun y1=>
 some ((decide (y1≥0)))
def CU (N:Nat) (a1:(List UInt8)) (k2:((List UInt8)→Option ((List UInt8)))):Nat→(List UInt8)→Option ((List UInt8))
  |0,_=>none
  |k+1,s0=>
  if(decide ((s0.length:Int)>0))=true then
   Option.bind (Be N s0) fun y6=>
   Option.bind (GQ N a1 y6.1) fun y8=>
   if y8=true then
    Option.bind (sub s0 y6.2 (s0.length:Int)) fun x10=>
    CU N a1 k2 k x10
   else
    k2 s0
  else
   k2 s0
def Hf (N:Nat) (a0:(List UInt8)) (a1:(List UInt8)):Option ((List UInt8)):=
 AA (d:=.a (0,18) [(5,17)] [0] (fun j1:(List UInt8)=>[.str j1])) (fun j1:(List UInt8)=>
  some (j1)) fun k2=>
 CU N a1 k2 N a0
def JC (N:Nat) (a0:(List UInt8)) (a1:(List UInt8)):Option ((List UInt8)):=
 AA (d:=.a (1,1) [(7,5)] [12] (fun j1:Bool=>[.bool j1])) (fun j1:Bool=>
  if j1=true then
   some (a0)
  else
   AA (d:=.a (3,1) [(14,7)] [21] (fun j5:Bool=>[.bool j5])) (fun j5:Bool=>
    if j5=true then
     Option.bind (idx a1 0) fun x10=>
     Option.bind (strings_trimLeftByte N a0 (AY x10)) fun y11=>
     some (y11)
    else
     Option.bind (strings_makeASCIISet N a1) fun y13=>
     grd ((AKn 256).length=256) (
     grd (y13.1.length=256) (
     if y13.2=true then
      Option.bind (strings_trimLeftASCII N a0 y13.1) fun y15=>
      some (y15.1)
     else
      Option.bind (Hf N a0 a1) fun y17=>
      some (y17)))) fun k6=>
   if((a1.length:Int)==1)=true then
    Option.bind (idx a1 0) fun x9=>
    k6 (decide ((AY x9)<128))
   else
    k6 false) fun k2=>
 if(a0==[])=true then
  k2 true
 else
  k2 (a1==[])
def Ch (N:Nat) (a1:Int) (k2:((List UInt8)→Option ((List UInt8)))):Nat→(List UInt8)→Option ((List UInt8))
  |0,_=>none
  |k+1,s0=>
  AA (d:=.a (1,1) [(5,11)] [16] (fun j6:Bool=>[.bool j6])) (fun j6:Bool=>
   if j6=true then
    Option.bind (sub s0 0 (wr .i64 ((s0.length:Int)-1))) fun x11=>
    Ch N a1 k2 k x11
   else
    k2 s0) fun k7=>
  if(decide ((s0.length:Int)>0))=true then
   Option.bind (idx s0 (wr .i64 ((s0.length:Int)-1))) fun x10=>
   k7 ((AY x10)==a1)
  else
   k7 false
def strings_trimRightByte (N:Nat) (a0:(List UInt8)) (a1:Int):Option ((List UInt8)):=
 AA (d:=.a (0,10) [(5,17)] [0] (fun j1:(List UInt8)=>[.str j1])) (fun j1:(List UInt8)=>
  some (j1)) fun k2=>
 Ch N a1 k2 N a0
def Ca (N:Nat) (k2:((List UInt8)×(List Bool)→Option ((List UInt8)×(List Bool)))):Nat→(List UInt8)→(List Bool)→Option ((List UInt8)×(List Bool))
  |0,_,_=>none
  |k+1,s0,bi1=>
  if(decide ((s0.length:Int)>0))=true then
   Option.bind (idx s0 (wr .i64 ((s0.length:Int)-1))) fun x6=>
   Option.bind (DI N bi1 (AY x6)) fun y7=>
   if y7.1=true then
    Option.bind (sub s0 0 (wr .i64 ((s0.length:Int)-1))) fun x9=>
    Ca N k2 k x9 y7.2
   else
    k2 (s0,y7.2)
  else
   k2 (s0,bi1)
def strings_trimRightASCII (N:Nat) (a0:(List UInt8)) (a1:(List Bool)):Option ((List UInt8)×(List Bool)):=
 AA (d:=.b (0,16) [(5,16)] [0] (fun j1:(List UInt8)×(List Bool)=>[.str j1.1]) fun j1=>[.s (List.map AVal.bool j1.2)]) (fun j1:(List UInt8)×(List Bool)=>
  some (j1.1,j1.2)) fun k2=>
 Ca N k2 N a0 a1
def Hr (N:Nat) (a0:Int):Option (Bool):=
 some (((Pk .u8 a0 192) !=128))
def Az (N:Nat) (a0:(List UInt8)) (k3:(Int→Option (Int×Int))):Nat→Int→Option (Int×Int)
  |0,_=>none
  |k+1,s5=>
  if(decide (s5≥(if 0>(wr .i64 ((a0.length:Int)-4))then 0 else(wr .i64 ((a0.length:Int)-4)))))=true then
   Option.bind (idx a0 s5) fun x7=>
   Option.bind (Hr N (AY x7)) fun y8=>
   if y8=true then
    k3 s5
   else
    Az N a0 k3 k (wr .i64 (s5-1))
  else
   k3 s5
def De (N:Nat) (a0:(List UInt8)):Option (Int×Int):=
 if((a0.length:Int)==0)=true then
  some (65533,0)
 else
  Option.bind (idx a0 (wr .i64 ((a0.length:Int)-1))) fun x1=>
  if(decide ((wr .i32 (AY x1))<128))=true then
   some ((wr .i32 (AY x1)),1)
  else
   AA (d:=.a (9,18) [(23,11)] [5] (fun j2:Int=>[.int .i64 j2])) (fun j2:Int=>
    AA (d:=.a (13,5) [(34,2)] [5] (fun j10:Int=>[.int .i64 j10])) (fun j10:Int=>
     Option.bind (sub a0 j10 (a0.length:Int)) fun x14=>
     Option.bind (Be N x14) fun y15=>
     if((wr .i64 (j10+y15.2)) !=(a0.length:Int))=true then
      some (65533,1)
     else
      some (y15.1,y15.2)) fun k11=>
    if(decide (j2<0))=true then
     k11 0
    else
     k11 j2) fun k3=>
   Az N a0 k3 N (wr .i64 ((wr .i64 ((a0.length:Int)-1))-1))
def CK (N:Nat) (a1:(List UInt8)) (k2:((List UInt8)→Option ((List UInt8)))):Nat→(List UInt8)→Option ((List UInt8))
  |0,_=>none
  |k+1,s0=>
  if(decide ((s0.length:Int)>0))=true then
   Option.bind (idx s0 (wr .i64 ((s0.length:Int)-1))) fun x6=>
   AA (d:=.a (3,5) [(16,7)] [5,6] (fun j7:Int×Int=>[.int .i32 j7.1,.int .i64 j7.2])) (fun j7:Int×Int=>
    Option.bind (GQ N a1 j7.1) fun y13=>
    if y13=true then
     Option.bind (sub s0 0 (wr .i64 ((s0.length:Int)-j7.2))) fun x15=>
     CK N a1 k2 k x15
    else
     k2 s0) fun k8=>
   if(decide ((wr .i32 (AY x6))≥128))=true then
    Option.bind (De N s0) fun y11=>
    k8 (y11.1,y11.2)
   else
    k8 ((wr .i32 (AY x6)),1)
  else
   k2 s0
def GY (N:Nat) (a0:(List UInt8)) (a1:(List UInt8)):Option ((List UInt8)):=
 AA (d:=.a (0,24) [(5,28)] [0] (fun j1:(List UInt8)=>[.str j1])) (fun j1:(List UInt8)=>
  some (j1)) fun k2=>
 CK N a1 k2 N a0
def KR (N:Nat) (a0:(List UInt8)) (a1:(List UInt8)):Option ((List UInt8)):=
 AA (d:=.a (1,1) [(7,5)] [12] (fun j1:Bool=>[.bool j1])) (fun j1:Bool=>
  if j1=true then
   some (a0)
  else
   AA (d:=.a (3,1) [(14,7)] [21] (fun j5:Bool=>[.bool j5])) (fun j5:Bool=>
    if j5=true then
     Option.bind (idx a1 0) fun x10=>
     Option.bind (strings_trimRightByte N a0 (AY x10)) fun y11=>
     some (y11)
    else
     Option.bind (strings_makeASCIISet N a1) fun y13=>
     grd ((AKn 256).length=256) (
     grd (y13.1.length=256) (
     if y13.2=true then
      Option.bind (strings_trimRightASCII N a0 y13.1) fun y15=>
      some (y15.1)
     else
      Option.bind (GY N a0 a1) fun y17=>
      some (y17)))) fun k6=>
   if((a1.length:Int)==1)=true then
    Option.bind (idx a1 0) fun x9=>
    k6 (decide ((AY x9)<128))
   else
    k6 false) fun k2=>
 if(a0==[])=true then
  k2 true
 else
  k2 (a1==[])
def Ma (N:Nat) (a0:(List UInt8)):Option (Int):=
 Option.bind (JC N a0 ([43,45]:List UInt8)) fun y1=>
 Option.bind (I4 N y1 1099511627776) fun y3=>
 AA (d:=.a (0,12) [(2,1),(13,6)] [4] (fun j5:Int=>[.int .u64 j5])) (fun j5:Int=>
  Option.bind (strings_HasPrefix N a0 ([45]:List UInt8)) fun y9=>
  if y9=true then
   some ((wr .i64 (0-(wr .i64 j5))))
  else
   some ((wr .i64 j5))) fun k6=>
 if(y3.2==3)=true then
  some (0)
 else
  if(y3.2 !=0)=true then
   k6 1099511627776
  else
   k6 y3.1
def GN (N:Nat) (a0:(List UInt8)):Option ((List UInt8)×Int):=
 Option.bind (Gd N (TokenReader.mk a0 0)) fun y1=>
 AA (d:=.a (3,1) [(26,8)] [34] (fun j3:Bool=>[.bool j3])) (fun j3:Bool=>
  if j3=true then
   some ([],130)
  else
   AA (d:=.a (6,5) [(36,5)] [7,8] (fun j7:(List UInt8)×(List UInt8)=>[.str j7.1,.str j7.2])) (fun j7:(List UInt8)×(List UInt8)=>
    Option.bind (Dp N j7.2) fun y13=>
    Option.bind (strings_Cut N y13 ([101]:List UInt8)) fun y15=>
    Option.bind (strings_Cut N y15.1 ([46]:List UInt8)) fun y17=>
    grd (AB (y17.1.length+y17.2.1.length)) (
    Option.bind (JC N (y17.1++y17.2.1) ([48]:List UInt8)) fun y19=>
    Option.bind (KR N y19 ([48]:List UInt8)) fun y21=>
    if(y21==[])=true then
     some (([48]:List UInt8),0)
    else
     Option.bind (Ma N y15.2.1) fun y23=>
     AA (d:=.a (15,1) [(73,10)] [83] (fun j25:Bool=>[.bool j25])) (fun j25:Bool=>
      if j25=true then
       some ([],144)
      else
       if(decide ((wr .i64 ((wr .i64 ((wr .i64 (y23-(y17.2.1.length:Int)))+(y19.length:Int)))-(y21.length:Int)))<0))=true then
        grd (AB (j7.1.length+y21.length)) (
        grd (AB ((j7.1++y21).length+([101,45]:List UInt8).length)) (
        Option.bind (GZ N (wr .u64 (wr .i64 (0-(wr .i64 ((wr .i64 ((wr .i64 (y23-(y17.2.1.length:Int)))+(y19.length:Int)))-(y21.length:Int))))))) fun y29=>
        grd (AB (((j7.1++y21)++([101,45]:List UInt8)).length+y29.length)) (
        some ((((j7.1++y21)++([101,45]:List UInt8))++y29),0))))
       else
        if(decide ((wr .i64 ((wr .i64 ((wr .i64 (y23-(y17.2.1.length:Int)))+(y19.length:Int)))-(y21.length:Int)))>0))=true then
         grd (AB (j7.1.length+y21.length)) (
         grd (AB ((j7.1++y21).length+([101]:List UInt8).length)) (
         Option.bind (GZ N (wr .u64 (wr .i64 ((wr .i64 ((wr .i64 (y23-(y17.2.1.length:Int)))+(y19.length:Int)))-(y21.length:Int))))) fun y31=>
         grd (AB (((j7.1++y21)++([101]:List UInt8)).length+y31.length)) (
         some ((((j7.1++y21)++([101]:List UInt8))++y31),0))))
        else
         grd (AB (j7.1.length+y21.length)) (
         some ((j7.1++y21),0))) fun k26=>
     if(decide ((y21.length:Int)>40))=true then
      k26 true
     else
      if(decide ((wr .i64 ((wr .i64 ((wr .i64 (y23-(y17.2.1.length:Int)))+(y19.length:Int)))-(y21.length:Int)))<(-400)))=true then
       k26 true
      else
       k26 (decide ((wr .i64 ((wr .i64 ((wr .i64 (y23-(y17.2.1.length:Int)))+(y19.length:Int)))-(y21.length:Int)))>400)))) fun k8=>
   Option.bind (idx a0 0) fun x11=>
   if((AY x11)==45)=true then
    Option.bind (sub a0 1 (a0.length:Int)) fun x12=>
    k8 (([45]:List UInt8),x12)
   else
    k8 ([],a0)) fun k4=>
 if y1.2.1=true then
  k4 ((y1.1.length:Int) !=(a0.length:Int))
 else
  k4 true
structure JPsr where
  stack:List ApiValue
  want:Int
  nodes:Int
  out:ApiValue
def Hy:ApiValue:=⟨0,[],[],[]⟩
def LA (t:ApiToken):Bool:=t.kind==3||t.kind==4||t.kind==5||t.kind==2&&(t.text==[91]||t.text==[123])
def Im (p:JPsr):List UInt8:=match p.stack.getLast? with|none=>[]|some v=>if v.kind==7 then [125]else [93]
def ADS (p:JPsr) (t:ApiToken):Bool:=t.kind==2&&t.text==Im p
def QD (p:JPsr) (t:ApiToken):Bool:=
  if p.want==0 then LA t else if p.want==1 then LA t||ADS p t else if p.want==2 then t.kind==3 else if p.want==3 then t.kind==3||ADS p t
  else if p.want==4 then t.kind==2&&t.text==[58]else if p.want==5 then t.kind==2&&t.text==[44]||ADS p t else t.kind==1
def KF (p:JPsr) (v:ApiValue):JPsr:=
  match p.stack.getLast? with
  |none=> {p with out:=v,want:=6}
  |some l=> {p with stack:=p.stack.dropLast++[{l with items:=l.items++[v]}],want:=5}
def JB (p:JPsr) (kind want:Int):JPsr×Int:=
  if p.stack.length≥64 then(p,141)else if p.nodes+1>20000 then({p with nodes:=p.nodes+1},142)
  else({p with stack:=p.stack++[⟨kind,[],[],[]⟩],nodes:=p.nodes+1,want:=want},0)
def V5 (p:JPsr) (s:List UInt8):Option (JPsr×Int):=
  match p.stack.getLast? with
  |none=>none
  |some l=>if s∈l.keys then some (p,143)else some ({p with stack:=p.stack.dropLast++[{l with keys:=l.keys++[s]}],want:=4},0)
def R7 (s:List UInt8):Int:=if s==[110,117,108,108]then 1 else if s==[102,97,108,115,101]then 2 else if s==[116,114,117,101]then 3 else 0
def OL (p:JPsr) (v:ApiValue):JPsr×Int:=
  if p.nodes+1>20000 then({p with nodes:=p.nodes+1},142)else(KF {p with nodes:=p.nodes+1} v,0)
def Sl (N:Nat) (p:JPsr) (t:ApiToken):Option (JPsr×Int):=
  if t.kind==4 then Option.bind (GN N t.text) fun y=>if y.2 !=0 then some (p,144)else some (OL p ⟨4,y.1,[],[]⟩)
  else if t.kind==5 then some (OL p ⟨R7 t.text,[],[],[]⟩)else some (OL p ⟨5,t.text,[],[]⟩)
def Sj (p:JPsr) (c:List UInt8):Option (JPsr×Int):=
  if c==[91]then some (JB p 6 1)else if c==[123]then some (JB p 7 3)else if c==[58]then some ({p with want:=0},0)
  else match p.stack.getLast? with
  |none=>none
  |some l=>if c==[44]then some ({p with want:=if l.kind==7 then 2 else 0},0)else some (KF {p with stack:=p.stack.dropLast} l,0)
def Rm (N:Nat) (p:JPsr) (t:ApiToken):Option (JPsr×Int):=
  if QD p t=false then some (p,140)else if t.kind==2 then Sj p t.text else if p.want==2||p.want==3 then V5 p t.text else if t.kind==1 then some (p,0)else Sl N p t
def Rp (N:Nat) (s:List UInt8):Nat→Int→JPsr→Option (ApiValue×Int×Int)
  |0,_,_=>none
  | D+1,at_,p=>
    Option.bind (L9 N s at_) fun y=>
    if y.2.2 !=0 then some (Hy,at_,y.2.2)else
    Option.bind (Rm N p y.1) fun q=>
    if q.2 !=0 then some (Hy,y.1.at_,q.2)else
    if y.1.kind==1 then some (q.1.out,s.length,0)else Rp N s D y.2.1 q.1
def JX (N:Nat) (a0:List UInt8):Option (ApiValue×Int×Int):=
  if N>1099511627776 then none else if a0.length>1048576 then some (Hy,0,142)else Rp N a0 N 0 ⟨[],0,0,Hy⟩
def FB (N:Nat) (a0:JrdDecoder) (a1:Int):Option (JrdDecoder):=
 if(a0.e==0)=true then
  some ((JrdDecoder.mk a1))
 else
  some (a0)
def Ha (N:Nat) (a0:JrdDecoder) (a1:ApiValue):Option ((List UInt8)×JrdDecoder):=
 if(a1.kind !=5)=true then
  Option.bind (FB N a0 160) fun y1=>
  some ([],y1)
 else
  some (a1.text,a0)
def Gt (N:Nat) (a0:ApiValue) (a1:(List UInt8)) (k2:(Unit→Option (ApiValue×Bool))):List (List UInt8)→Int→Option (ApiValue×Bool)
  |[],s11=>
  k2 ()
  |xk5::xs,s11=>
  AA (d:=.a (4,1) [(16,14)] [30] (fun j6:Bool=>[.bool j6])) (fun j6:Bool=>
   if j6=true then
    Option.bind (idx a0.items s11) fun x10=>
    some (x10,true)
   else
    Gt N a0 a1 k2 xs (s11+1)) fun k7=>
  if(a0.kind==7)=true then
   if(decide (s11<(a0.items.length:Int)))=true then
    k7 (xk5==a1)
   else
    k7 false
  else
   k7 false
def LG (N:Nat) (a0:ApiValue) (a1:(List UInt8)):Option (ApiValue×Bool):=
 AA (d:=.a (1,22) [(5,32)] [] (fun j1:Unit=>[])) (fun j1:Unit=>
  some ((ApiValue.mk 0 [] [] []),false)) fun k2=>
 grd (AB (a0.keys.length)) (
  Gt N a0 a1 k2 a0.keys 0)
def Dm (N:Nat) (a0:JrdDecoder) (a1:ApiValue) (a2:(List UInt8)):Option ((List UInt8)×JrdDecoder):=
 Option.bind (LG N a1 a2) fun y1=>
 if y1.2=true then
  Option.bind (Ha N a0 y1.1) fun y3=>
  some (y3.1,y3.2)
 else
  some ([],a0)
def Td (N:Nat) (a0:ApiValue):Option (Int):=
 if(a0.kind==7)=true then
  some ((if(a0.items.length:Int)<(a0.keys.length:Int)then(a0.items.length:Int)else(a0.keys.length:Int)))
 else
  some ((a0.items.length:Int))
def F8 (N:Nat) (a0:JrdDecoder) (a1:ApiValue) (a2:(List UInt8)) (a3:Int) (a4:Int):Option (ApiValue×JrdDecoder):=
 Option.bind (LG N a1 a2) fun y1=>
 AA (d:=.a (2,1) [(20,9)] [19] (fun j3:Bool=>[.bool j3])) (fun j3:Bool=>
  if j3=true then
   some ((ApiValue.mk 0 [] [] []),a0)
  else
   if(y1.1.kind !=a3)=true then
    Option.bind (FB N a0 160) fun y7=>
    some ((ApiValue.mk 0 [] [] []),y7)
   else
    Option.bind (Td N y1.1) fun y9=>
    if(decide (y9>a4))=true then
     Option.bind (FB N a0 161) fun y11=>
     some ((ApiValue.mk 0 [] [] []),y11)
    else
     some (y1.1,a0)) fun k4=>
 if y1.2=true then
  k4 (a0.e !=0)
 else
  k4 true
def CZ (N:Nat) (a3:Bool) (y1:ApiValue×JrdDecoder) (k4:((List ApiProperty)×JrdDecoder→Option ((List ApiProperty)×JrdDecoder))):List ApiValue→Int→(List ApiProperty)→JrdDecoder→Option ((List ApiProperty)×JrdDecoder)
  |[],s21,s9,bi0=>
  k4 (s9,bi0)
  |xk7::xs,s21,s9,bi0=>
  if(decide (s21≥(y1.1.keys.length:Int)))=true then
   k4 (s9,bi0)
  else
   Option.bind (idx y1.1.keys s21) fun x8=>
   AA (d:=.b (8,5) [(37,11)] [] (fun j9:(List UInt8)×Bool×JrdDecoder=>[]) fun j9=>[.p [.k,.v (.str j9.1),.v (.bool j9.2.1)],.k,.k,.k,.s ([.int .i64 j9.2.2.e])]) (fun j9:(List UInt8)×Bool×JrdDecoder=>
    grd (CG (s9.length+1) 40) (
    CZ N a3 y1 k4 xs (s21+1) (s9++[(ApiProperty.mk x8 j9.1 j9.2.1)]) j9.2.2)) fun k10=>
   AA (d:=.a (8,1) [(37,5)] [42] (fun j13:Bool=>[.bool j13])) (fun j13:Bool=>
    if j13=true then
     k10 ([],true,bi0)
    else
     Option.bind (Ha N bi0 xk7) fun y17=>
     k10 (y17.1,false,y17.2)) fun k14=>
   if a3=true then
    k14 (xk7.kind==1)
   else
    k14 false
def D5 (N:Nat) (a0:JrdDecoder) (a1:ApiValue) (a2:(List UInt8)) (a3:Bool):Option ((List ApiProperty)×JrdDecoder):=
 Option.bind (F8 N a0 a1 a2 7 64) fun y1=>
 AA (d:=.b (3,30) [(11,3),(18,35)] [9] (fun j3:(List ApiProperty)×JrdDecoder=>[.slice 3 (List.map Dc j3.1) true]) fun j3=>[.k,.k,.s ([.int .i64 j3.2.e])]) (fun j3:(List ApiProperty)×JrdDecoder=>
  some (j3.1,j3.2)) fun k4=>
 grd (AB (y1.1.items.length)) (
  CZ N a3 y1 k4 y1.1.items 0 [] y1.2)
def Ke (N:Nat) (a0:JrdDecoder) (a1:ApiValue):Option (ApiLink×JrdDecoder):=
 AA (d:=.b (2,7) [(6,11)] [] (fun j1:JrdDecoder=>[]) fun j1=>[.k,.k,.k,.s ([.int .i64 j1.e])]) (fun j1:JrdDecoder=>
  Option.bind (Dm N j1 a1 ([114,101,108]:List UInt8)) fun y9=>
  Option.bind (Dm N y9.2 a1 ([116,121,112,101]:List UInt8)) fun y11=>
  Option.bind (Dm N y11.2 a1 ([104,114,101,102]:List UInt8)) fun y13=>
  Option.bind (Dm N y13.2 a1 ([116,101,109,112,108,97,116,101]:List UInt8)) fun y15=>
  Option.bind (D5 N y15.2 a1 ([116,105,116,108,101,115]:List UInt8) false) fun y17=>
  Option.bind (D5 N y17.2 a1 ([112,114,111,112,101,114,116,105,101,115]:List UInt8) true) fun y19=>
  some ((ApiLink.mk y9.1 y11.1 y13.1 y15.1 y17.1 y19.1),y19.2)) fun k2=>
 Option.bind (LG N a1 ([114,101,108]:List UInt8)) fun y5=>
 if y5.2=true then
  k2 a0
 else
  Option.bind (FB N a0 160) fun y7=>
  k2 y7
def IU (N:Nat) (k19:((List ApiLink)×JrdDecoder→Option (ApiJRD×Int))):List ApiValue→(List ApiLink)→JrdDecoder→Option (ApiJRD×Int)
  |[],bn3_links,bn2=>
  k19 (bn3_links,bn2)
  |xk24::xs,bn3_links,bn2=>
  AA (d:=.b (3,4) [(9,1),(42,9)] [] (fun j25:(List ApiLink)×JrdDecoder=>[]) fun j25=>[.p [.k,.k,.k,.v (.slice 6 (List.map FV j25.1) true)],.s ([.int .i64 j25.2.e])]) (fun j25:(List ApiLink)×JrdDecoder=>
   IU N k19 xs j25.1 j25.2) fun k26=>
  Option.bind (Ke N bn2 xk24) fun y29=>
  grd (CG (bn3_links.length+1) 112) (
  k26 ((bn3_links++[y29.1]),y29.2))
def II (N:Nat) (k4:((List (List UInt8))×JrdDecoder→Option (ApiJRD×Int))):List ApiValue→(List (List UInt8))→JrdDecoder→Option (ApiJRD×Int)
  |[],bn3_aliases,bn2=>
  k4 (bn3_aliases,bn2)
  |xk9::xs,bn3_aliases,bn2=>
  AA (d:=.b (1,4) [(7,1),(23,9)] [] (fun j10:(List (List UInt8))×JrdDecoder=>[]) fun j10=>[.p [.k,.v (.slice 1 (List.map AVal.str j10.1) true)],.s ([.int .i64 j10.2.e])]) (fun j10:(List (List UInt8))×JrdDecoder=>
   II N k4 xs j10.1 j10.2) fun k11=>
  Option.bind (Ha N bn2 xk9) fun y14=>
  grd (CG (bn3_aliases.length+1) 16) (
  k11 ((bn3_aliases++[y14.1]),y14.2))
def RQ (N:Nat) (a0:ApiValue):Option (ApiJRD×Int):=
 if(a0.kind !=7)=true then
  some ((ApiJRD.mk [] [] [] []),160)
 else
  Option.bind (Dm N (JrdDecoder.mk 0) a0 ([115,117,98,106,101,99,116]:List UInt8)) fun y1=>
  AA (d:=.b (6,16) [(7,1),(17,16)] [] (fun j3:(List (List UInt8))×JrdDecoder=>[]) fun j3=>[.p [.k,.v (.slice 1 (List.map AVal.str j3.1) true)],.s ([.int .i64 j3.2.e])]) (fun j3:(List (List UInt8))×JrdDecoder=>
   Option.bind (D5 N j3.2 a0 ([112,114,111,112,101,114,116,105,101,115]:List UInt8) true) fun y16=>
   AA (d:=.b (12,16) [(9,1),(36,16)] [] (fun j18:(List ApiLink)×JrdDecoder=>[]) fun j18=>[.p [.k,.k,.k,.v (.slice 6 (List.map FV j18.1) true)],.s ([.int .i64 j18.2.e])]) (fun j18:(List ApiLink)×JrdDecoder=>
    if(j18.2.e !=0)=true then
     some ((ApiJRD.mk [] [] [] []),j18.2.e)
    else
     some ((ApiJRD.mk y1.1 j3.1 y16.1 j18.1),0)) fun k19=>
   Option.bind (F8 N y16.2 a0 ([108,105,110,107,115]:List UInt8) 6 64) fun y22=>
   grd (AB (y22.1.items.length)) (
    IU N k19 y22.1.items [] y22.2)) fun k4=>
  Option.bind (F8 N y1.2 a0 ([97,108,105,97,115,101,115]:List UInt8) 6 64) fun y7=>
  grd (AB (y7.1.items.length)) (
   II N k4 y7.1.items [] y7.2)
def Ig (N:Nat) (a0:ApiResponse):Option (ApiJRD×Int):=
 Option.bind (K9 N a0.head ([99,111,110,116,101,110,116,45,116,121,112,101]:List UInt8)) fun y1=>
 Option.bind (Pp N y1.1) fun y3=>
 AA (d:=.a (3,1) [(21,10)] [31] (fun j5:Bool=>[.bool j5])) (fun j5:Bool=>
  if j5=true then
   some ((ApiJRD.mk [] [] [] []),200)
  else
   Option.bind (JX N a0.body) fun y11=>
   if(y11.2.2 !=0)=true then
    some ((ApiJRD.mk [] [] [] []),y11.2.2)
   else
    Option.bind (RQ N y11.1) fun y13=>
    some (y13.1,y13.2)) fun k6=>
 if y1.2=true then
  if(y3.2 !=0)=true then
   k6 true
  else
   Option.bind (PG N y3.1) fun y9=>
   k6 (!y9)
 else
  k6 true
def Qn (N:Nat) (a0:(List UInt8)) (a1:(List UInt8)):Option (Bool):=
 Option.bind (Jv N a0) fun y1=>
 Option.bind (Jv N a1) fun y3=>
 if(y1.2==0)=true then
  if(y3.2==0)=true then
   some ((y1.1.kind==y3.1.kind&&(y1.1.text==y3.1.text&&(y1.1.host==y3.1.host&&y1.1.port==y3.1.port))))
  else
   some (false)
 else
  some (false)
def Jy (N:Nat) (a1:(List UInt8)) (k2:((List ApiLink)→Option ((List ApiLink)))):List ApiLink→(List ApiLink)→Option ((List ApiLink))
  |[],s5=>
  k2 s5
  |xk5::xs,s5=>
  AA (d:=.a (1,12) [(7,1),(13,18)] [5] (fun j6:(List ApiLink)=>[.slice 6 (List.map FV j6) true])) (fun j6:(List ApiLink)=>
   Jy N a1 k2 xs j6) fun k7=>
  if(xk5.rel==a1)=true then
   grd (CG (([]:List ApiProperty).length+xk5.titles.length) 40) (
   grd (CG (([]:List ApiProperty).length+xk5.properties.length) 40) (
   grd (CG (s5.length+1) 112) (
   k7 (s5++[xk5]))))
  else
   k7 s5
def Rk (N:Nat) (a0:ApiJRD) (a1:(List UInt8)):Option ((List ApiLink)):=
 AA (d:=.a (2,24) [(7,25)] [5] (fun j1:(List ApiLink)=>[.slice 6 (List.map FV j1) true])) (fun j1:(List ApiLink)=>
  some (j1)) fun k2=>
 grd (AB (a0.links.length)) (
  Jy N a1 k2 a0.links [])
def Bo (N:Nat) (a1:ApiID) (k2:(Unit→Option (Int))):List ApiID→Int→Option (Int)
  |[],s8_0=>
  k2 ()
  |xk5::xs,s8_0=>
  if(a1.kind==xk5.kind&&(a1.text==xk5.text&&(a1.host==xk5.host&&a1.port==xk5.port)))=true then
   some (s8_0)
  else
   Bo N a1 k2 xs (s8_0+1)
def FT (N:Nat) (a0:(List ApiID)) (a1:ApiID):Option (Int):=
 AA (d:=.a (1,22) [(4,15)] [] (fun j1:Unit=>[])) (fun j1:Unit=>
  some ((-1))) fun k2=>
 grd (AB (a0.length)) (
  Bo N a1 k2 a0 0)
def EZ (N:Nat) (a0:(List ApiID)) (a1:ApiID):Option (Bool):=
 Option.bind (FT N a0 a1) fun y1=>
 some ((decide (y1≥0)))
def J3 (N:Nat) (a0:ApiID) (a1:Int) (k7:((List ApiID)→Option ((List ApiID)))):List (List UInt8)→(List ApiID)→Option ((List ApiID))
  |[],s7_i1=>
  k7 s7_i1
  |xk10::xs,s7_i1=>
  AA (d:=.a (3,10) [(11,3),(24,30)] [7] (fun j11:(List ApiID)=>[.slice 4 (List.map Ap j11) true])) (fun j11:(List ApiID)=>
   J3 N a0 a1 k7 xs j11) fun k12=>
  Option.bind (Jv N xk10) fun y15=>
  AA (d:=.a (9,1) [(31,18)] [49] (fun j17:Bool=>[.bool j17])) (fun j17:Bool=>
   if j17=true then
    grd (CG (s7_i1.length+1) 48) (
    k12 (s7_i1++[y15.1]))
   else
    k12 s7_i1) fun k18=>
  if(y15.2==0)=true then
   if(y15.1.kind==a0.kind&&(y15.1.text==a0.text&&(y15.1.host==a0.host&&y15.1.port==a0.port)))=true then
    k18 false
   else
    Option.bind (EZ N s7_i1 y15.1) fun y21=>
    if y21=true then
     k18 false
    else
     k18 (decide ((s7_i1.length:Int)<a1))
  else
   k18 false
def J8 (N:Nat) (a0:ApiID) (a1:Int) (k2:((List ApiID)→Option ((List ApiID)))):List (List (List UInt8))→(List ApiID)→Option ((List ApiID))
  |[],s7=>
  k2 s7
  |xk5::xs,s7=>
  AA (d:=.a (1,25) [(9,1),(11,3),(18,37)] [7] (fun j6:(List ApiID)=>[.slice 4 (List.map Ap j6) true])) (fun j6:(List ApiID)=>
   J8 N a0 a1 k2 xs j6) fun k7=>
  grd (AB (xk5.length)) (
   J3 N a0 a1 k7 xk5 s7)
def VR (N:Nat) (a0:ApiID) (a1:Int) (a2:(List (List (List UInt8)))):Option ((List ApiID)):=
 AA (d:=.a (2,37) [(9,1),(11,45)] [7] (fun j1:(List ApiID)=>[.slice 4 (List.map Ap j1) true])) (fun j1:(List ApiID)=>
  some (j1)) fun k2=>
 grd (AB (a2.length)) (
  J8 N a0 a1 k2 a2 [])
def FZ (N:Nat) (k2:((List (List UInt8))→Option ((List ApiID)))):List ApiLink→(List (List UInt8))→Option ((List ApiID))
  |[],s5=>
  k2 s5
  |xk7::xs,s5=>
  grd (CG (s5.length+1) 16) (
  FZ N k2 xs (s5++[xk7.href]))
def Nt (N:Nat) (a0:ApiJRD) (a1:ApiID):Option ((List ApiID)):=
 AA (d:=.a (2,16) [(7,14)] [5] (fun j1:(List (List UInt8))=>[.slice 1 (List.map AVal.str j1) true])) (fun j1:(List (List UInt8))=>
  letL ([j1,[a0.subject],a0.aliases]:(List (List (List UInt8)))) fun l8=>
  Option.bind (VR N a1 64 l8) fun y9=>
  some (y9)) fun k2=>
 Option.bind (Rk N a0 ([115,101,108,102]:List UInt8)) fun y5=>
 grd (AB (y5.length)) (
  FZ N k2 y5 [])
def DV (N:Nat):Nat→(List ApiField)→(List UInt8)→Int→Option ((List ApiField)×Bool)
  |0,_,_,_=>none
  |k+1,s4,bn_s,bn_at_=>
  Option.bind (Ay N (GrammarCursor.mk bn_s bn_at_)) fun y2=>
  Option.bind (Aw N y2) fun y4=>
  if y4.1=true then
   some (s4,true)
  else
   Option.bind (Au N y4.2 44) fun y6=>
   if y6.1=true then
    DV N k s4 y6.2.s y6.2.at_
   else
    Option.bind (Dv N y6.2) fun y8=>
    Option.bind (Dp N y8.1) fun y10=>
    AA (d:=.b (9,5) [(27,11)] [7] (fun j12:Bool×(List UInt8)×GrammarCursor=>[.bool j12.1]) fun j12=>[.p [.k,.v (.str j12.2.1)],.s ([.str j12.2.2.s,.int .i64 j12.2.2.at_])]) (fun j12:Bool×(List UInt8)×GrammarCursor=>
     Option.bind (Ay N j12.2.2) fun y24=>
     AA (d:=.b (12,1) [(40,11)] [51] (fun j26:Bool×GrammarCursor=>[.bool j26.1]) fun j26=>[.k,.s ([.str j26.2.s,.int .i64 j26.2.at_])]) (fun j26:Bool×GrammarCursor=>
      if j26.1=true then
       some ([],false)
      else
       grd (CG (s4.length+1) 32) (
       DV N k (s4++[(ApiField.mk y10 j12.2.1)]) j26.2.s j26.2.at_)) fun k27=>
     if j12.1=true then
      Option.bind (Aw N y24) fun y30=>
      if y30.1=true then
       k27 (false,y30.2)
      else
       Option.bind (Au N y30.2 44) fun y32=>
       k27 ((!y32.1),y32.2)
     else
      k27 (true,y24)) fun k13=>
    AA (d:=.b (9,1) [(27,4)] [31] (fun j16:Bool×GrammarCursor=>[.bool j16.1]) fun j16=>[.k,.s ([.str j16.2.s,.int .i64 j16.2.at_])]) (fun j16:Bool×GrammarCursor=>
     if j16.1=true then
      Option.bind (Ee N j16.2) fun y22=>
      k13 (y22.2.1,y22.1,y22.2.2)
     else
      k13 (y8.2.1,[],j16.2)) fun k17=>
    if y8.2.1=true then
     Option.bind (Au N y8.2.2 61) fun y20=>
     k17 (y20.1,y20.2)
    else
     k17 (false,y8.2.2)
def Kh (N:Nat) (a0:(List UInt8)):Option ((List ApiField)×Bool):=
 DV N N [] a0 0
def Kt (N:Nat) (a0:(List UInt8)):Option (Int×Bool):=
 Option.bind (I4 N a0 18446744073709551615) fun y1=>
 if(y1.2==4)=true then
  some (18446744073709551615,true)
 else
  some (y1.1,(y1.2==0))
def Gs (N:Nat) (k2:(Int×Bool→Option (Int×Bool))):List ApiField→Int→Bool→Option (Int×Bool)
  |[],s4,s5=>
  k2 (s4,s5)
  |xk5::xs,s4,s5=>
  AA (d:=.a (1,31) [(2,2),(7,3),(14,20)] [4,5] (fun j6:Int×Bool=>[.int .u64 j6.1,.bool j6.2])) (fun j6:Int×Bool=>
   Gs N k2 xs j6.1 j6.2) fun k7=>
  AA (d:=.a (6,5) [(19,2)] [18] (fun j10:Bool=>[.bool j10])) (fun j10:Bool=>
   if j10=true then
    some (0,false)
   else
    if(xk5.name==([109,97,120,45,97,103,101]:List UInt8))=true then
     Option.bind (Kt N xk5.value) fun y14=>
     if y14.2=true then
      k7 ((if y14.1<s4 then y14.1 else s4),true)
     else
      some (0,false)
    else
     k7 (s4,s5)) fun k11=>
  if(xk5.name==([110,111,45,115,116,111,114,101]:List UInt8))=true then
   k11 (xk5.name==([110,111,45,115,116,111,114,101]:List UInt8))
  else
   k11 (xk5.name==([110,111,45,99,97,99,104,101]:List UInt8))
def Pm (N:Nat) (a0:(List ApiField)):Option (Int×Bool):=
 AA (d:=.a (2,43) [(2,2),(7,28)] [4,5] (fun j1:Int×Bool=>[.int .u64 j1.1,.bool j1.2])) (fun j1:Int×Bool=>
  some (j1.1,j1.2)) fun k2=>
 grd (AB (a0.length)) (
  Gs N k2 a0 18446744073709551615 false)
def RJ (N:Nat) (a0:Int) (a1:Int):Option (Int):=
 if(decide ((wr .u64 (a0-a1))>a0))=true then
  some (0)
 else
  some ((wr .u64 (a0-a1)))
def Vw (N:Nat) (a0:ApiHead):Option (ApiFresh):=
 Option.bind (K9 N a0 ([99,97,99,104,101,45,99,111,110,116,114,111,108]:List UInt8)) fun y1=>
 Option.bind (Kh N y1.1) fun y3=>
 Option.bind (Pm N y3.1) fun y5=>
 AA (d:=.a (5,9) [(10,4),(30,16)] [6,9] (fun j7:Bool×Int=>[.bool j7.1,.int .u64 j7.2])) (fun j7:Bool×Int=>
  Option.bind (RJ N y5.1 j7.2) fun y15=>
  AA (d:=.a (10,1) [(50,13)] [63] (fun j17:Bool=>[.bool j17])) (fun j17:Bool=>
   if j17=true then
    some ((ApiFresh.mk false 0))
   else
    some ((ApiFresh.mk true (if 86400<y15 then 86400 else y15)))) fun k18=>
  if y1.2=true then
   if j7.1=true then
    if y5.2=true then
     k18 ((if 86400<y15 then 86400 else y15)==0)
    else
     k18 true
   else
    k18 true
  else
   k18 true) fun k8=>
 Option.bind (K9 N a0 ([97,103,101]:List UInt8)) fun y11=>
 if y11.2=true then
  Option.bind (Kt N y11.1) fun y13=>
  if y3.2=true then
   k8 (y13.2,y13.1)
  else
   k8 (false,y13.1)
 else
  k8 (y3.2,0)
def Ko (N:Nat) (a0:(List UInt8)) (a1:ApiID):Option (Bool×ApiID):=
 Option.bind (Qn N a0 a1.text) fun y1=>
 some (y1,a1)
def Ai (N:Nat) (k2:(ApiID→Option (Int×ApiID))):List (List UInt8)→Int→ApiID→Option (Int×ApiID)
  |[],s8_0,bi1_0_0=>
  k2 bi1_0_0
  |xk5::xs,s8_0,bi1_0_0=>
  Option.bind (Ko N xk5 bi1_0_0) fun y6=>
  if y6.1=true then
   some (s8_0,y6.2)
  else
   Ai N k2 xs (s8_0+1) y6.2
def CO (N:Nat) (a0:(List (List UInt8))) (b1_0:ApiID):Option (Int×ApiID):=
 AA (d:=.b (1,22) [(4,15)] [] (fun j1:ApiID=>[]) fun j1=>[.s ([.int .i64 j1.kind,.str j1.text,.str j1.host,.int .i64 j1.port])]) (fun j1:ApiID=>
  some ((-1),j1)) fun k2=>
 grd (AB (a0.length)) (
  Ai N k2 a0 0 b1_0)
def Bt (N:Nat) (a0:(List (List UInt8))) (b1_0:ApiID):Option (Bool×ApiID):=
 Option.bind (CO N a0 b1_0) fun y1=>
 some ((decide (y1.1≥0)),y1.2)
def Mx (N:Nat) (a0:ApiResponse) (a1:ApiID):Option (ApiFinding×Int):=
 Option.bind (Ky N a0.head.status) fun y1=>
 if(y1 !=0)=true then
  some ((ApiFinding.mk (ApiID.mk 0 [] [] 0) [] 0 (ApiFresh.mk false 0) []),y1)
 else
  Option.bind (Ig N a0) fun y3=>
  if(y3.2 !=0)=true then
   some ((ApiFinding.mk (ApiID.mk 0 [] [] 0) [] 0 (ApiFresh.mk false 0) []),y3.2)
  else
   AA (d:=.b (8,1) [(28,11)] [39] (fun j5:Bool×ApiID=>[.bool j5.1]) fun j5=>[.k,.k,.s ([.int .i64 j5.2.kind,.str j5.2.text,.str j5.2.host,.int .i64 j5.2.port])]) (fun j5:Bool×ApiID=>
    if j5.1=true then
     some ((ApiFinding.mk (ApiID.mk 0 [] [] 0) [] 0 (ApiFresh.mk false 0) []),270)
    else
     Option.bind (Nt N y3.1 j5.2) fun y13=>
     Option.bind (Vw N a0.head) fun y15=>
     some ((ApiFinding.mk j5.2 y13 0 y15 []),0)) fun k6=>
   Option.bind (Ko N y3.1.subject a1) fun y9=>
   if y9.1=true then
    k6 (false,y9.2)
   else
    Option.bind (Bt N y3.1.aliases y9.2) fun y11=>
    k6 ((!y11.1),y11.2)
def Gg (N:Nat) (a0:FingerLookup):Option (ApiFinding×Int×Bool×FingerLookup):=
 Option.bind (KQ N a0.id) fun y1=>
 if(y1.2 !=0)=true then
  some ((ApiFinding.mk (ApiID.mk 0 [] [] 0) [] 0 (ApiFresh.mk false 0) []),y1.2,false,a0)
 else
  Option.bind (EB N a0 y1.1) fun y3=>
  if(y3.2.1 !=0)=true then
   some ((ApiFinding.mk (ApiID.mk 0 [] [] 0) [] 0 (ApiFresh.mk false 0) []),y3.2.1,false,y3.2.2)
  else
   AA (d:=.n (7,1) [(31,9)] [6,8] 8 (fun(j6:Int×ApiFinding) g=>[.int .i64 j6.1,.ptr g 0]) (fun j6 g=>[]) (fun j6 g=>[.int .i64 j6.2.subject.kind,.str j6.2.subject.text,.str j6.2.subject.host,.int .i64 j6.2.subject.port,.slice 4 (List.map Ap j6.2.names) false,.int .i64 j6.2.via,.bool j6.2.fresh.store,.int .u64 j6.2.fresh.seconds,.slice 9 (List.map AO j6.2.trace) false])) (fun j6:Int×ApiFinding=>
    some (j6.2,j6.1,(j6.1==261),y3.2.2)) fun k7=>
   Option.bind (Mx N y3.1 y3.2.2.id) fun y10=>
   k7 (y10.2,y10.1)
def LP (N:Nat) (a0:ApiID):Option (ApiURL×Int):=
 Option.bind (Nf N a0 ([47,46,119,101,108,108,45,107,110,111,119,110,47,104,111,115,116,45,109,101,116,97,46,106,115,111,110]:List UInt8)) fun y1=>
 some (y1.1,y1.2)
def Kl (N:Nat) (a0:(List UInt8)):Option (Bool):=
 Option.bind (strings_ContainsAny N a0 ([123,125]:List UInt8)) fun y1=>
 some (y1)
def Ac (N:Nat) (k2:(Unit→Option (Int))):List (List UInt8)→Int→Option (Int)
  |[],s8_0=>
  k2 ()
  |xk5::xs,s8_0=>
  Option.bind (Kl N xk5) fun y6=>
  if y6=true then
   some (s8_0)
  else
   Ac N k2 xs (s8_0+1)
def Br (N:Nat) (a0:(List (List UInt8))):Option (Int):=
 AA (d:=.a (1,22) [(4,15)] [] (fun j1:Unit=>[])) (fun j1:Unit=>
  some ((-1))) fun k2=>
 grd (AB (a0.length)) (
  Ac N k2 a0 0)
def Bi (N:Nat) (a0:(List (List UInt8))):Option (Bool):=
 Option.bind (Br N a0) fun y1=>
 some ((decide (y1≥0)))
def MN (N:Nat) (a0:(List UInt8)):Option (Bool):=
 Option.bind (strings_Contains N a0 ([123,117,114,105,125]:List UInt8)) fun y1=>
 if y1=true then
  Option.bind (strings_Split N a0 ([123,117,114,105,125]:List UInt8)) fun y3=>
  Option.bind (Bi N y3) fun y5=>
  some ((!y5))
 else
  some (false)
def EP (N:Nat) (y3:(List UInt8)) (k6:(Bool×(List UInt8)→Option ((List UInt8)×Int))):Nat→(List UInt8)→Bool→Bool→(List UInt8)→Option ((List UInt8)×Int)
  |0,_,_,_,_=>none
  |k+1,s8,s9,bn4_addr,bn4_buf=>
  if s9=true then
   Option.bind (strings_Cut N s8 ([123,117,114,105,125]:List UInt8)) fun y10=>
   Option.bind (AL N (StringsBuilder.mk bn4_addr bn4_buf) y10.1) fun y12=>
   AA (d:=.b (12,5) [(29,3)] [] (fun j14:StringsBuilder=>[]) fun j14=>[.t (fun q=>[EE q 222 2 j14.addr,.buf 5 j14.buf true])]) (fun j14:StringsBuilder=>
    Option.bind (Gf N j14) fun y20=>
    if(decide (y20.1>4096))=true then
     some ([],5)
    else
     EP N y3 k6 k y10.2.1 y10.2.2 y20.2.addr y20.2.buf) fun k15=>
   if y10.2.2=true then
    Option.bind (AL N y12.2.2 y3) fun y18=>
    k15 y18.2.2
   else
    k15 y12.2.2
  else
   k6 (bn4_addr,bn4_buf)
def LH (N:Nat) (a0:(List UInt8)) (a1:(List UInt8)):Option ((List UInt8)×Int):=
 if(decide ((a0.length:Int)>4096))=true then
  some ([],5)
 else
  Option.bind (MN N a0) fun y1=>
  if y1=true then
   Option.bind (FU N a1 []) fun y3=>
   AA (d:=.b (7,30) [(4,2),(8,3),(19,15)] [] (fun j5:Bool×(List UInt8)=>[]) fun j5=>[.t (fun q=>[EE q 222 2 j5.1,.buf 5 j5.2 true])]) (fun j5:Bool×(List UInt8)=>
    Option.bind (BN N (StringsBuilder.mk j5.1 j5.2)) fun y22=>
    some (y22.1,0)) fun k6=>
   EP N y3 k6 N a0 true false []
  else
   some ([],230)
def G8 (N:Nat) (a1:ApiID) (k2:(Unit→Option (ApiURL×Int))):List ApiLink→Option (ApiURL×Int)
  |[]=>
  k2 ()
  |xk7::xs=>
  if(xk7.template==[])=true then
   G8 N a1 k2 xs
  else
   Option.bind (LH N xk7.template a1.text) fun y8=>
   Option.bind (Iz N y8.1) fun y10=>
   AA (d:=.a (7,1) [(35,5)] [40] (fun j12:Bool=>[.bool j12])) (fun j12:Bool=>
    if j12=true then
     some ((ApiURL.mk [] 0 [] [] [] false false),230)
    else
     some (y10.1,0)) fun k13=>
   if(y8.2 !=0)=true then
    k13 true
   else
    k13 (y10.2 !=0)
def PV (N:Nat) (a0:ApiJRD) (a1:ApiID):Option (ApiURL×Int):=
 AA (d:=.a (1,36) [(5,1),(7,37)] [] (fun j1:Unit=>[])) (fun j1:Unit=>
  some ((ApiURL.mk [] 0 [] [] [] false false),271)) fun k2=>
 Option.bind (Rk N a0 ([108,114,100,100]:List UInt8)) fun y5=>
 grd (AB (y5.length)) (
  G8 N a1 k2 y5)
def Hu (N:Nat) (a0:FingerLookup) (a1:ApiURL):Option (ApiFinding×Int×FingerLookup):=
 Option.bind (EB N a0 a1) fun y1=>
 if(y1.2.1 !=0)=true then
  some ((ApiFinding.mk (ApiID.mk 0 [] [] 0) [] 0 (ApiFresh.mk false 0) []),y1.2.1,y1.2.2)
 else
  Option.bind (Mx N y1.1 y1.2.2.id) fun y3=>
  some (y3.1,y3.2,y1.2.2)
def Et (N:Nat) (a0:FingerLookup):Option (ApiFinding×Int×Bool×FingerLookup):=
 Option.bind (LP N a0.id) fun y1=>
 Option.bind (EB N a0 y1.1) fun y3=>
 if(y3.2.1 !=0)=true then
  some ((ApiFinding.mk (ApiID.mk 0 [] [] 0) [] 0 (ApiFresh.mk false 0) []),y3.2.1,false,y3.2.2)
 else
  Option.bind (Ky N y3.1.head.status) fun y5=>
  if(y5 !=0)=true then
   some ((ApiFinding.mk (ApiID.mk 0 [] [] 0) [] 0 (ApiFresh.mk false 0) []),y5,(y5==261),y3.2.2)
  else
   Option.bind (Ig N y3.1) fun y7=>
   if(y7.2 !=0)=true then
    some ((ApiFinding.mk (ApiID.mk 0 [] [] 0) [] 0 (ApiFresh.mk false 0) []),y7.2,false,y3.2.2)
   else
    AA (d:=.b (11,1) [(49,9)] [8] (fun j9:Int×ApiURL=>[.int .i64 j9.1]) fun j9=>[.k,.k,.s ([.str j9.2.host,.int .i64 j9.2.port,.str j9.2.path,.str j9.2.query,.str j9.2.fragment,.bool j9.2.hasQuery,.bool j9.2.hasFrag])]) (fun j9:Int×ApiURL=>
     if(j9.1 !=0)=true then
      some ((ApiFinding.mk (ApiID.mk 0 [] [] 0) [] 0 (ApiFresh.mk false 0) []),j9.1,false,y3.2.2)
     else
      Option.bind (Hu N y3.2.2 j9.2) fun y15=>
      some (y15.1,y15.2.1,false,y15.2.2)) fun k10=>
    Option.bind (PV N y7.1 y3.2.2.id) fun y13=>
    k10 (y13.2,y13.1)
def Oz (N:Nat) (a0:ApiID):Option (ApiURL×Int):=
 Option.bind (Nf N a0 ([47]:List UInt8)) fun y1=>
 some (y1.1,y1.2)
def Ej (N:Nat) (a0:GrammarCursor) (k2:(GrammarCursor→Option ((List UInt8)×Bool×GrammarCursor))):Nat→(List UInt8)→Int→Option ((List UInt8)×Bool×GrammarCursor)
  |0,_,_=>none
  |k+1,bi0_s,bi0_at_=>
  AA (d:=.b (2,1) [(9,14)] [23] (fun j6:Bool×GrammarCursor=>[.bool j6.1]) fun j6=>[.s ([.str j6.2.s,.int .i64 j6.2.at_])]) (fun j6:Bool×GrammarCursor=>
   if j6.1=true then
    Option.bind (idx j6.2.s j6.2.at_) fun x15=>
    if((AY x15)==62)=true then
     Option.bind (sub j6.2.s a0.at_ (wr .i64 ((wr .i64 (j6.2.at_+1))-1))) fun x16=>
     some (x16,true,(GrammarCursor.mk j6.2.s (wr .i64 (j6.2.at_+1))))
    else
     Ej N a0 k2 k j6.2.s (wr .i64 (j6.2.at_+1))
   else
    k2 j6.2) fun k7=>
  Option.bind (Aw N (GrammarCursor.mk bi0_s bi0_at_)) fun y10=>
  if y10.1=true then
   k7 (false,y10.2)
  else
   Option.bind (idx y10.2.s y10.2.at_) fun x12=>
   Option.bind (Jh N (AY x12)) fun y13=>
   k7 (y13,y10.2)
def MH (N:Nat) (a0:GrammarCursor):Option ((List UInt8)×Bool×GrammarCursor):=
 AA (d:=.b (0,20) [(2,2),(9,50)] [] (fun j1:GrammarCursor=>[]) fun j1=>[.s ([.str j1.s,.int .i64 j1.at_])]) (fun j1:GrammarCursor=>
  some ([],false,j1)) fun k2=>
 Ej N a0 k2 N a0.s a0.at_
def KG (N:Nat) (a0:GrammarCursor):Option (ApiField×Bool×GrammarCursor):=
 Option.bind (Dv N a0) fun y1=>
 Option.bind (Dp N y1.1) fun y3=>
 Option.bind (Ay N y1.2.2) fun y5=>
 AA (d:=.b (4,7) [(17,13)] [5] (fun j7:Bool×(List UInt8)×GrammarCursor=>[.bool j7.1]) fun j7=>[.p [.k,.v (.str j7.2.1)],.k,.s ([.str j7.2.2.s,.int .i64 j7.2.2.at_])]) (fun j7:Bool×(List UInt8)×GrammarCursor=>
  some ((ApiField.mk y3 j7.2.1),j7.1,j7.2.2)) fun k8=>
 AA (d:=.b (4,1) [(17,4)] [21] (fun j11:Bool×GrammarCursor=>[.bool j11.1]) fun j11=>[.k,.k,.s ([.str j11.2.s,.int .i64 j11.2.at_])]) (fun j11:Bool×GrammarCursor=>
  if j11.1=true then
   Option.bind (Ay N j11.2) fun y17=>
   Option.bind (Ee N y17) fun y19=>
   k8 (y19.2.1,y19.1,y19.2.2)
  else
   k8 (y1.2.1,[],j11.2)) fun k12=>
 if y1.2.1=true then
  Option.bind (Au N y5 61) fun y15=>
  k12 (y15.1,y15.2)
 else
  k12 (false,y5)
def NI (N:Nat) (a0:Int):Option (Bool):=
 if(a0==32)=true then
  some (true)
 else
  some ((a0==9))
def BB (N:Nat) (a0:(List UInt8)) (k13:((List (List UInt8))→Option ((List (List UInt8))))):List StringsSpan→Int→(List (List UInt8))→Option ((List (List UInt8)))
  |[],s49,bn111=>
  k13 bn111
  |xk16::xs,s49,bn111=>
  Option.bind (sub a0 xk16.start xk16.end_) fun x17=>
  Option.bind (idx bn111 s49) fun x18=>
  BB N a0 k13 xs (s49+1) (bn111.set s49.toNat x17)
def Ad (N:Nat) (a0:(List UInt8)) (k2:((List StringsSpan)×Int→Option ((List (List UInt8))))):Nat→(List StringsSpan)→Int→Nat→Option ((List (List UInt8)))
  |0,_,_,_=>none
  |k+1,s5,s6,s14=>
  if(decide (s14<a0.length))=true then
   Option.bind (NI N ((C8 a0 s14).1:Int)) fun y6=>
   if y6=true then
    if(decide (s6≥0))=true then
     grd (CG (s5.length+1) 16) (
     Ad N a0 k2 k (s5++[(StringsSpan.mk s6 ((s14:Nat):Int))]) (AOC .i64 (-1) s6) (s14+(C8 a0 s14).2))
    else
     Ad N a0 k2 k s5 s6 (s14+(C8 a0 s14).2)
   else
    if(decide (s6<0))=true then
     Ad N a0 k2 k s5 ((s14:Nat):Int) (s14+(C8 a0 s14).2)
    else
     Ad N a0 k2 k s5 s6 (s14+(C8 a0 s14).2)
  else
   k2 (s5,s6)
def Cf (N:Nat) (a0:(List UInt8)):Option ((List (List UInt8))):=
 grd (OY 0 32 16) (
 AA (d:=.b (3,28) [(7,2),(13,22)] [5,6] (fun j1:(List StringsSpan)×Int=>[.vec 2 (List.map KP j1.1),.int .i64 j1.2]) fun j1=>[.d]) (fun j1:(List StringsSpan)×Int=>
  AA (d:=.a (12,5) [(35,9)] [5] (fun j8:(List StringsSpan)=>[.vec 2 (List.map KP j8)])) (fun j8:(List StringsSpan)=>
   grd (OY (j8.length:Int) (j8.length:Int) 16) (
   AA (d:=.b (15,16) [(10,2),(47,17)] [] (fun j12:(List (List UInt8))=>[]) fun j12=>[.s ([.vec 1 (List.map AVal.str j12)])]) (fun j12:(List (List UInt8))=>
    some (j12)) fun k13=>
   grd (AB (j8.length)) (
    BB N a0 k13 j8 0 (List.replicate j8.length ([]:List UInt8))))) fun k9=>
  if(decide (j1.2≥0))=true then
   grd (CG (j1.1.length+1) 16) (
   k9 (j1.1++[(StringsSpan.mk j1.2 (a0.length:Int))]))
  else
   k9 j1.1) fun k2=>
 Ad N a0 k2 N ([]:List StringsSpan) (-1) 0)
def Fp (N:Nat) (k2:(Unit→Option ((List (List UInt8))))):List ApiField→Option ((List (List UInt8)))
  |[]=>
  k2 ()
  |xk5::xs=>
  if(xk5.name==([114,101,108]:List UInt8))=true then
   Option.bind (Dp N xk5.value) fun y6=>
   Option.bind (Cf N y6) fun y8=>
   some (y8)
  else
   Fp N k2 xs
def OM (N:Nat) (a0:(List ApiField)):Option ((List (List UInt8))):=
 AA (d:=.a (1,22) [(2,1),(4,15)] [] (fun j1:Unit=>[])) (fun j1:Unit=>
  some ([])) fun k2=>
 grd (AB (a0.length)) (
  Fp N k2 a0)
def F3 (N:Nat) (k4:(Bool×(List ApiField)×GrammarCursor→Option (ApiWebLink×Bool×GrammarCursor))):Nat→Bool→(List ApiField)→GrammarCursor→Option (ApiWebLink×Bool×GrammarCursor)
  |0,_,_,_=>none
  |k+1,s5,bn2_params,bi0=>
  AA (d:=.b (4,1) [(17,4)] [21] (fun j10:Bool×GrammarCursor=>[.bool j10.1]) fun j10=>[.k,.k,.s ([.str j10.2.s,.int .i64 j10.2.at_])]) (fun j10:Bool×GrammarCursor=>
   if j10.1=true then
    Option.bind (Ay N j10.2) fun y16=>
    Option.bind (KG N y16) fun y18=>
    grd (CG (bn2_params.length+1) 32) (
    Option.bind (Ay N y18.2.2) fun y20=>
    F3 N k4 k y18.2.1 (bn2_params++[y18.1]) y20)
   else
    k4 (s5,bn2_params,j10.2)) fun k11=>
  if s5=true then
   Option.bind (Au N bi0 59) fun y14=>
   k11 (y14.1,y14.2)
  else
   k11 (false,bi0)
def Nz (N:Nat) (a0:GrammarCursor):Option (ApiWebLink×Bool×GrammarCursor):=
 Option.bind (MH N a0) fun y1=>
 AA (d:=.b (3,20) [(7,1),(15,22)] [5] (fun j3:Bool×(List ApiField)×GrammarCursor=>[.bool j3.1]) fun j3=>[.p [.k,.k,.v (.slice 2 (List.map Af j3.2.1) true)],.k,.s ([.str j3.2.2.s,.int .i64 j3.2.2.at_])]) (fun j3:Bool×(List ApiField)×GrammarCursor=>
  Option.bind (OM N j3.2.1) fun y22=>
  some ((ApiWebLink.mk y1.1 y22 j3.2.1),j3.1,j3.2.2)) fun k4=>
 Option.bind (Ay N y1.2.2) fun y7=>
 F3 N k4 N y1.2.1 [] y7
def ER (N:Nat):Nat→(List ApiWebLink)→(List UInt8)→Int→Option ((List ApiWebLink)×Int)
  |0,_,_,_=>none
  |k+1,s4,bn_s,bn_at_=>
  Option.bind (Ay N (GrammarCursor.mk bn_s bn_at_)) fun y2=>
  Option.bind (Aw N y2) fun y4=>
  if y4.1=true then
   some (s4,0)
  else
   Option.bind (Au N y4.2 44) fun y6=>
   if y6.1=true then
    ER N k s4 y6.2.s y6.2.at_
   else
    Option.bind (Au N y6.2 60) fun y8=>
    if y8.1=true then
     if(decide ((s4.length:Int)≥64))=true then
      some ([],161)
     else
      Option.bind (Nz N y8.2) fun y10=>
      AA (d:=.b (12,1) [(33,11)] [44] (fun j12:Bool×GrammarCursor=>[.bool j12.1]) fun j12=>[.k,.s ([.str j12.2.s,.int .i64 j12.2.at_])]) (fun j12:Bool×GrammarCursor=>
       if j12.1=true then
        some ([],6)
       else
        grd (CG (s4.length+1) 64) (
        ER N k (s4++[y10.1]) j12.2.s j12.2.at_)) fun k13=>
      if y10.2.1=true then
       Option.bind (Aw N y10.2.2) fun y16=>
       if y16.1=true then
        k13 (false,y16.2)
       else
        Option.bind (Au N y16.2 44) fun y18=>
        k13 ((!y18.1),y18.2)
      else
       k13 (true,y10.2.2)
    else
     some ([],6)
def NL (N:Nat) (a0:(List UInt8)):Option ((List ApiWebLink)×Int):=
 ER N N [] a0 0
def Fy (N:Nat) (a1:(List UInt8)) (xk5:ApiWebLink) (k7:(Unit→Option ((List UInt8)×Bool))):List (List UInt8)→Option ((List UInt8)×Bool)
  |[]=>
  k7 ()
  |xk10::xs=>
  Option.bind (GA N xk10 a1) fun y11=>
  if y11=true then
   some (xk5.target,true)
  else
   Fy N a1 xk5 k7 xs
def Fu (N:Nat) (a1:(List UInt8)) (k2:(Unit→Option ((List UInt8)×Bool))):List ApiWebLink→Option ((List UInt8)×Bool)
  |[]=>
  k2 ()
  |xk5::xs=>
  AA (d:=.a (1,25) [(4,2),(7,1),(9,1),(14,15)] [] (fun j6:Unit=>[])) (fun j6:Unit=>
   Fu N a1 k2 xs) fun k7=>
  grd (AB (xk5.rels.length)) (
   Fy N a1 xk5 k7 xk5.rels)
def OD (N:Nat) (a0:(List ApiWebLink)) (a1:(List UInt8)):Option ((List UInt8)×Bool):=
 AA (d:=.a (1,37) [(4,2),(7,1),(9,21)] [] (fun j1:Unit=>[])) (fun j1:Unit=>
  some ([],false)) fun k2=>
 grd (AB (a0.length)) (
  Fu N a1 k2 a0)
def Hq (N:Nat) (a0:FingerLookup):Option (ApiFinding×Int×Bool×FingerLookup):=
 Option.bind (Oz N a0.id) fun y1=>
 Option.bind (EB N a0 y1.1) fun y3=>
 if(y3.2.1 !=0)=true then
  some ((ApiFinding.mk (ApiID.mk 0 [] [] 0) [] 0 (ApiFresh.mk false 0) []),y3.2.1,false,y3.2.2)
 else
  Option.bind (K9 N y3.1.head ([108,105,110,107]:List UInt8)) fun y5=>
  Option.bind (NL N y5.1) fun y7=>
  Option.bind (OD N y7.1 ([108,114,100,100]:List UInt8)) fun y9=>
  Option.bind (Je N y3.1.uRL y9.1) fun y11=>
  AA (d:=.a (9,1) [(57,13)] [70] (fun j13:Bool=>[.bool j13])) (fun j13:Bool=>
   if j13=true then
    some ((ApiFinding.mk (ApiID.mk 0 [] [] 0) [] 0 (ApiFresh.mk false 0) []),261,false,y3.2.2)
   else
    Option.bind (Hu N y3.2.2 y11.1) fun y17=>
    some (y17.1,y17.2.1,false,y17.2.2)) fun k14=>
  if y5.2=true then
   if(y7.2 !=0)=true then
    k14 true
   else
    if y9.2=true then
     k14 (y11.2 !=0)
    else
     k14 true
  else
   k14 true
def Kq (N:Nat) (a0:(List ApiAnswer)) (a1:Int) (a2:ApiID):Option (ApiFinding×Int):=
 Option.bind (LD N a2) fun y1=>
 if y1=true then
  AA (d:=.b (5,36) [(7,1),(10,5),(25,33)] [] (fun j3:FingerLookup=>[]) fun j3=>[.s ([.slice 7 (List.map Ag j3.l) false,.int .u64 j3.now,.int .i64 j3.id.kind,.str j3.id.text,.str j3.id.host,.int .i64 j3.id.port,.slice 9 (List.map AO j3.trace) true])]) (fun j3:FingerLookup=>
   some ((ApiFinding.mk (ApiID.mk 0 [] [] 0) [] 0 (ApiFresh.mk false 0) j3.trace),261)) fun k4=>
  Option.bind (Gg N (FingerLookup.mk a0 a1 a2 [])) fun y7=>
  if y7.2.2.1=true then
   Option.bind (Et N y7.2.2.2) fun y9=>
   if y9.2.2.1=true then
    Option.bind (Hq N y9.2.2.2) fun y11=>
    if y11.2.2.1=true then
     k4 y11.2.2.2
    else
     if(y11.2.1 !=0)=true then
      some ((ApiFinding.mk (ApiID.mk 0 [] [] 0) [] 0 (ApiFresh.mk false 0) y11.2.2.2.trace),y11.2.1)
     else
      some ((ApiFinding.mk y11.1.subject y11.1.names 3 y11.1.fresh y11.2.2.2.trace),0)
   else
    if(y9.2.1 !=0)=true then
     some ((ApiFinding.mk (ApiID.mk 0 [] [] 0) [] 0 (ApiFresh.mk false 0) y9.2.2.2.trace),y9.2.1)
    else
     some ((ApiFinding.mk y9.1.subject y9.1.names 2 y9.1.fresh y9.2.2.2.trace),0)
  else
   if(y7.2.1 !=0)=true then
    some ((ApiFinding.mk (ApiID.mk 0 [] [] 0) [] 0 (ApiFresh.mk false 0) y7.2.2.2.trace),y7.2.1)
   else
    some ((ApiFinding.mk y7.1.subject y7.1.names 1 y7.1.fresh y7.2.2.2.trace),0)
 else
  some ((ApiFinding.mk (ApiID.mk 0 [] [] 0) [] 0 (ApiFresh.mk false 0) []),8)
def BZ (N:Nat) (a0:(List Int)) (a1:Int):Option (Bool):=
 Option.bind (Qh N) fun y1=>
 if y1=true then
  Option.bind (ET N a0) fun y3=>
  if(y3.kind==4)=true then
   some (true)
  else
   Option.bind (Ml N y3) fun y5=>
   Option.bind (L6 N y3) fun y7=>
   Option.bind (Qp N y3) fun y9=>
   grd (AB (([123,34,97,108,105,97,115,101,115,34,58,91,34]:List UInt8).length+y3.text.length)) (
   grd (AB ((([123,34,97,108,105,97,115,101,115,34,58,91,34]:List UInt8)++y3.text).length+([34,44,34,97,99,99,116,58,109,101,64,122,46,101,120,97,109,112,108,101,34,93,125]:List UInt8).length)) (
   Option.bind (Ng N 200 ([97,112,112,108,105,99,97,116,105,111,110,47,106,115,111,110]:List UInt8) ((([123,34,97,108,105,97,115,101,115,34,58,91,34]:List UInt8)++y3.text)++([34,44,34,97,99,99,116,58,109,101,64,122,46,101,120,97,109,112,108,101,34,93,125]:List UInt8)) [] false) fun y11=>
   Option.bind (Ng N 410 [] [] [] false) fun y13=>
   Option.bind (Ng N 200 ([97,112,112,108,105,99,97,116,105,111,110,47,106,114,100,43,106,115,111,110]:List UInt8) ((123::34::108::105::110::107::115::34::58::91::123::34::114::101::108::34::58::34::108::114::100::100::34::44::34::116::101::109::112::108::97::116::101::34::58::34::104::116::116::112::115::58::47::47::122::46::101::120::97::109::112::108::101::47::100::111::99::63::123::117::114::105::125::34::125::93::125::[]):List UInt8) [] false) fun y15=>
   Option.bind (Ng N 500 [] [] [(ApiField.mk ([108,105,110,107]:List UInt8) ([60,47,47,122,46,101,120,97,109,112,108,101,47,100,111,99,62,59,114,101,108,61,108,114,100,100]:List UInt8))] false) fun y17=>
   letL ([y11,y13,y13]:(List (List UInt8))) fun l19=>
   Option.bind (idx l19 (wr .i64 (a1.tmod 3))) fun x20=>
   Option.bind (ME N y5.1 x20) fun y21=>
   letL ([y11,y15,y13]:(List (List UInt8))) fun l23=>
   Option.bind (idx l23 (wr .i64 (a1.tmod 3))) fun x24=>
   Option.bind (ME N y7.1 x24) fun y25=>
   Option.bind (ME N y9.1 y17) fun y27=>
   Option.bind (ME N (ApiURL.mk ([122,46,101,120,97,109,112,108,101]:List UInt8) 0 ([47,100,111,99]:List UInt8) [] [] false false) y11) fun y29=>
   letL ([y21,y25,y27,y29]:(List ApiAnswer)) fun l31=>
   Option.bind (NG N y3) fun y32=>
   AA (d:=.n (17,1) [(86,11)] [19,20] 19 (fun(j35:Int×ApiFinding) g=>[.ptr g 0,.int .i64 j35.1]) (fun j35 g=>[]) (fun j35 g=>[.int .i64 j35.2.subject.kind,.str j35.2.subject.text,.str j35.2.subject.host,.int .i64 j35.2.subject.port,.slice 4 (List.map Ap j35.2.names) false,.int .i64 j35.2.via,.bool j35.2.fresh.store,.int .u64 j35.2.fresh.seconds,.slice 9 (List.map AO j35.2.trace) false])) (fun j35:Int×ApiFinding=>
    if(y5.2 !=0)=true then
     some (true)
    else
     if (j35.1==0)=true then
      if(j35.2.via==(wr .i64 ((wr .i64 (a1.tmod 3))+1)))=true then
       if((j35.2.names.length:Int)==1)=true then
        Option.bind (idx j35.2.names 0) fun x43=>
        if(x43.text==([97,99,99,116,58,109,101,64,122,46,101,120,97,109,112,108,101]:List UInt8))=true then
         letL ([1,3,4]:(List Int)) fun l44=>
         Option.bind (idx l44 (wr .i64 (a1.tmod 3))) fun x45=>
         some (((j35.2.trace.length:Int)==x45))
        else
         some (false)
       else
        some (false)
      else
       some (false)
     else
      some (false)) fun k36=>
   Option.bind (ME N (ApiURL.mk ([122,46,101,120,97,109,112,108,101]:List UInt8) 0 ([47,100,111,99]:List UInt8) y32 [] true false) y11) fun y39=>
   grd (CG (l31.length+1) 80) (
   Option.bind (Kq N (l31++[y39]) 0 y3) fun y41=>
   k36 (y41.2,y41.1))))
 else
  some (false)
end Go.VM
