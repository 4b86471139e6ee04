import Derived.Test.YtmalodjbhonipaaGreatDoorL1
import Derived.Laws.RangeString
set_option linter.unusedVariables false
set_option linter.unusedSimpArgs false
namespace Go.VM
section
variable{N:Nat}
def Gp (c:UInt8):Bool:=H7 c||(Fy c||([45,46,95,126]:List UInt8).contains c)
theorem AH1 (c:UInt8):Ea N (AC c)=some (Gp c):=by have:=Ct (f:=fun n=>Ea N (n:Int)) (g:=fun n=>some (Gp (UInt8.ofNat n))) (by kernel_rfl) c;simp only[bL]at this;exact this
theorem AHb (c:UInt8):Ec N (AC c)=some (Gp c):=by have:=Ct (f:=fun n=>Ec N (n:Int)) (g:=fun n=>some (Gp (UInt8.ofNat n))) (by kernel_rfl) c;simp only[bL]at this;exact this
theorem Vs (c:UInt8) (h:KU c=true):Gd N (AC c)=some ((IA c.toNat:Nat):Int):=by have:=Ct (f:=fun n=>if QE n=true then Gd N (n:Int)else none) (g:=fun n=>if QE n=true then some ((IA n:Nat):Int)else none) (by kernel_rfl) c;simp only[show QE c.toNat=true from h,aE]at this;exact this
theorem VI (c:UInt8) (h:KU c=true):Il N (AC c)=some ((IA c.toNat:Nat):Int):=by have:=Ct (f:=fun n=>if QE n=true then Il N (n:Int)else none) (g:=fun n=>if QE n=true then some ((IA n:Nat):Int)else none) (by kernel_rfl) c;simp only[show QE c.toNat=true from h,aE]at this;exact this
def AO (a b:UInt8):UInt8:=UInt8.ofNat (16 * IA a.toNat+IA b.toNat)
theorem AYo{x y:Nat} (AO:x<16) (hy:y<16):LP .u8 (AHA .u8 (x:Int) 4) (y:Int)=AC (UInt8.ofNat (16 * x+y)):=by
 have:=Ct (f:=fun n=>LP .u8 (AHA .u8 ((n / 16:Nat):Int) 4) ((n % 16:Nat):Int)) (g:=fun n=>AC (UInt8.ofNat n)) (by kernel_rfl) (UInt8.ofNat (16 * x+y));have e:(UInt8.ofNat (16 * x+y)).toNat=16 * x+y:=by rw[dM];omega
 simp only[e]at this;rw[show(16 * x+y) / 16=x by omega,show(16 * x+y) % 16=y by omega]at this;exact this
theorem AY0{x y:Nat} (AO:x<16) (hy:y<16):wr .u8 ((wr .u8 (16 * (x:Int)))+(y:Int))=AC (UInt8.ofNat (16 * x+y)):=by
 have e:(UInt8.ofNat (16 * x+y)).toNat=16 * x+y:=by rw[dM];omega
 rw[Vx (n:=16 * (x:Int)) eT,Vx eT,IW,e];omega
def JK:List UInt8→Option UInt8 |a::b::_=>if(KU a&&KU b)=true then some (AO a b)else none|_=>none
def Rt:Option UInt8→Int×Bool |some x=>(AC x,true)|none=>(0,false)
section
variable{l t:List UInt8}{i:Nat}{c:UInt8}
theorem AH2 (h:l.drop i=c::t) (hb:l.length≤2^40):Fe N l (i:Int)=some (Rt (JK t)):=by
 have hi:i≤l.length:=by have:=a7 List.length h;simp only[aw,ae]at this;omega
 have hl:=IQ h hi;simp only[ae]at hl;unfold Fe;dsimp only[AB];rw[AQ eT];match t,h,hl with
 |[],h,hl=>simp only[an]at hl;rw[ah (by rw[al];omega),ah rfl];rfl
 |[a],h,hl=>simp only[ae,an]at hl;rw[ah (by rw[al];omega),ah rfl];rfl
 | a::b::r,h,hl=>
  simp only[ae]at hl;rw[ag eW,show wr .i64 ((i:Int)+1)=((i+1:Nat):Int) by rw[AQ eT];omega,show wr .i64 ((i:Int)+2)=((i+2:Nat):Int) by rw[AQ eT];omega,JV (j:=1) h rfl,JV (j:=2) h rfl,aa,aa,AHU,aa,aa,AHU,aa];unfold JK;cases ha:KU a;·simp[Rt,ha]
  ·cases hb2:KU b;·simp[Rt,ha,hb2]
   ·simp only[bI,cV,aE,av,aR];rw[Vs a ha,aa,aa,Vs b hb2,aa,AYo (SA a ha) (SA b hb2)];simp[Rt,ha,hb2,AO]
theorem AIJ (h:l.drop i=37::t) (hb:l.length≤2^40):Hg N l (i:Int)=some (Rt (JK t)):=by
 have hi:i≤l.length:=by have:=a7 List.length h;simp only[aw,ae]at this;omega
 have hl:=IQ h hi;simp only[ae]at hl;unfold Hg;dsimp only[AB];rw[show wr .i64 ((i:Int)+1)=((i+1:Nat):Int) by rw[AQ eT];omega,show wr .i64 ((i:Int)+2)=((i+2:Nat):Int) by rw[AQ eT];omega];match t,h,hl with
 |[],h,hl=>simp only[an]at hl;rw[ah (by rw[al];omega),ah rfl];rfl
 |[a],h,hl=>simp only[ae,an]at hl;rw[ah (by rw[al];omega),ah rfl];rfl
 | a::b::r,h,hl=>
  simp only[ae]at hl;rw[ag eW,show idx l (i:Int)=some 37 from JV (j:=0) h rfl,aa,ag eV,JV (j:=1) h rfl,JV (j:=2) h rfl,aa,aa,AHd,aa,aa,AHd,aa];unfold JK;cases ha:KU a;·simp[Rt,ha]
  ·cases hb2:KU b;·simp[Rt,ha,hb2]
   ·simp only[bI,cV,aE,av,aR];rw[VI a ha,aa,aa,VI b hb2,aa,AY0 (SA a ha) (SA b hb2)];simp[Rt,ha,hb2,AO]
def Nb:Nat→List UInt8→List UInt8→List UInt8×Int |0,_,_=>([],2)|_+1,[],out=>(out,0)|k+1,c::t,out=>if c=37 then(match JK t with|some x=>Nb k (t.drop 2) (out++[x])|none=>([],2))else Nb k t (out++[c])
theorem KN{n:Nat} (h:n≤1000000000):CW n 1:=by unfold CW;omega
theorem Nv{x:UInt8} (h:JK t=some x):2≤t.length:=by match t,h with |[],h=>cases h|[_],h=>cases h|_::_::_,_=>simp
theorem UE (c:UInt8):(AC c==37)=decide (c=37):=by have:=Ct (f:=fun n=>((n:Int)==37)) (g:=fun n=>decide (UInt8.ofNat n=37)) (by kernel_rfl) c;simp only[bL]at this;exact this
theorem Qs (hb:l.length≤100000): ∀(k:Nat) (t:List UInt8) (i:Nat) (out:List UInt8),l.drop i=t→i≤l.length→t.length<k→out.length≤i→Co N l (fun j=>some (List.map FZ j,0)) k (List.map AC out) (i:Int)=some (Nb k t out)
 |0,t,i,out,_,_,h,_=>by omega
 | k+1,[],i,out,h,hi,hk,ho=>by have hl:=IQ h hi;rw[Co,ag (by simp at hl⊢;omega),Ib];rfl
 | k+1,c::t,i,out,h,hi,hk,ho=>by
  have hl:=IQ h hi;simp only[ae]at hl hk;rw[Co,ah eW,show idx l (i:Int)=some c from JV (j:=0) h rfl,aa,AB,UE];have hd:l.drop (i+1)=t:=by rw[←a8,h];rfl
  by_cases hc:c=37;·rw[aF hc,ah rfl,AH2 h eT,aa,Nb,ah hc];cases he:JK t with |none=>rfl| some x=>have:=Nv he;simp only[Rt,aE];rw[AU (KN eW),show wr .i64 (wr .i64 ((i:Int)+2)+1)=((i+3:Nat):Int) by rw[AQ (n:=(i:Int)+2) eT,AQ eT];omega,show List.map AC out++[AC x]=List.map AC (out++[x]) by simp];exact Qs hb k _ (i+3) (out++[x]) (by rw[show i+3=i+1+2 by omega,←a8,hd]) eT (by rw[aw];omega) eW
  ·rw[aO hc,ag eV,Nb,ag hc];dsimp only;rw[AU (KN eW),show wr .i64 ((i:Int)+1)=((i+1:Nat):Int) by rw[AQ eT];omega,show List.map AC out++[AC c]=List.map AC (out++[c]) by simp];exact Qs hb k t (i+1) (out++[c]) hd eT eT eW
theorem Qb (hb:l.length≤100000): ∀(k:Nat) (t:List UInt8) (i:Nat) (out:List UInt8),l.drop i=t→i≤l.length→t.length<k→out.length≤i→Dp N l (fun j=>some (List.map FZ j,0)) k (List.map AC out) (i:Int)=some (Nb k t out)
 |0,t,i,out,_,_,h,_=>by omega
 | k+1,[],i,out,h,hi,hk,ho=>by have hl:=IQ h hi;rw[Dp,ag (by simp at hl⊢;omega),Ib];rfl
 | k+1,c::t,i,out,h,hi,hk,ho=>by
  have hl:=IQ h hi;simp only[ae]at hl hk;rw[Dp,ah eW,show idx l (i:Int)=some c from JV (j:=0) h rfl,aa,AB,UE];have hd:l.drop (i+1)=t:=by rw[←a8,h];rfl
  by_cases hc:c=37;·subst hc;rw[aF rfl,ah rfl,AIJ h eT,aa,Nb,ah rfl];cases he:JK t with |none=>rfl| some x=>have:=Nv he;simp only[Rt,aE];rw[AU (KN eW),show wr .i64 (wr .i64 ((i:Int)+2)+1)=((i+3:Nat):Int) by rw[AQ (n:=(i:Int)+2) eT,AQ eT];omega,show List.map AC out++[AC x]=List.map AC (out++[x]) by simp];exact Qb hb k _ (i+3) (out++[x]) (by rw[show i+3=i+1+2 by omega,←a8,hd]) eT (by rw[aw];omega) eW
  ·rw[aO hc,ag eV,Nb,ag hc];dsimp only;rw[AU (KN eW),show wr .i64 ((i:Int)+1)=((i+1:Nat):Int) by rw[AQ eT];omega,show List.map AC out++[AC c]=List.map AC (out++[c]) by simp];exact Qb hb k t (i+1) (out++[c]) hd eT eT eW
end
def ES (N:Nat) (s:List UInt8):List UInt8×Int:=if s.length>16384 then([],5)else Nb N s []
theorem TH (s:List UInt8) (hN:20000≤N):Et N s=some (ES N s):=by
 unfold Et ES;by_cases h:s.length>16384;·rw[ah eW,ah h]
 ·rw[ag eW,ag h,AB];exact Qs (l:=s) eT N s 0 [] rfl eT eT eU
theorem O6 (s:List UInt8) (hN:20000≤N):GR N s=some (ES N s):=by
 unfold GR ES;by_cases h:s.length>16384;·rw[ah eW,ah h]
 ·rw[ag eW,ag h,AB];exact Qb (l:=s) eT N s 0 [] rfl eT eT eU
end
end Go.VM
namespace Go.VM
section
variable{N:Nat}
def UN (n:Nat):UInt8:=([48,49,50,51,52,53,54,55,56,57,65,66,67,68,69,70]:List UInt8).getD n 0
def Lr (c:UInt8):List UInt8:=[37,UN (c.toNat / 16),UN (c.toNat % 16)]
theorem RV (c:UInt8):HY N (AC c)=some (Lr c):=by have:=Ct (f:=fun n=>HY N (n:Int)) (g:=fun n=>some ([37,UN (n / 16),UN (n % 16)]:List UInt8)) (by kernel_rfl) c;exact this
def NL (also:List UInt8):Nat→List UInt8→List UInt8→List UInt8×Int |0,_,_=>([],2)|_+1,[],out=>(out,0)| k+1,c::t,out=>if c=37 then(match JK t with|some x=>NL also k (t.drop 2) (out++(if Gp x=true then [x]else Lr x))|none=>([],2)) else if(Gp c||also.contains c)=true then NL also k t (out++[c])else([],1)
section
variable{l also:List UInt8}
theorem OC (hb:l.length≤100000) (ha:also.length≤1000): ∀(k:Nat) (t:List UInt8) (i:Nat) (out:List UInt8),l.drop i=t→i≤l.length→t.length<k→out.length≤3 * i→Bl N l also (fun j=>some (List.map FZ j,0)) k (List.map AC out) (i:Int)=some (NL also k t out)
 |0,t,i,out,_,_,h,_=>by omega
 | k+1,[],i,out,h,hi,hk,ho=>by have hl:=IQ h hi;rw[Bl,ag (by simp at hl⊢;omega),Ib];rfl
 | k+1,c::t,i,out,h,hi,hk,ho=>by
  have hl:=IQ h hi;simp only[ae]at hl hk;rw[Bl,ah eW,AB,show idx l (i:Int)=some c from JV (j:=0) h rfl,aa,bne,UE,NL];have hd:l.drop (i+1)=t:=by rw[←a8,h];rfl
  by_cases hc:c=37
  ·subst hc;rw[aF rfl,ag eV,ah rfl,AIJ h eT,aa];cases he:JK t with
   |none=>rfl
   | some x=>
    have:=Nv he;simp only[Rt,aE];rw[AB,AHb,aa];have e3:wr .i64 (wr .i64 ((i:Int)+2)+1)=((i+3:Nat):Int):=by rw[AQ (n:=(i:Int)+2) eT,AQ eT];omega
    cases hu:Gp x;·rw[ag eV,RV,aa,AU (KN (by simp[Lr];omega))];dsimp only;rw[e3,show List.map AC out++List.map AC (Lr x)=List.map AC (out++Lr x) by simp];exact OC hb ha k _ (i+3) (out++Lr x) (by rw[show i+3=i+1+2 by omega,←a8,hd]) eT (by rw[aw];omega) (by simp[Lr];omega)
    ·rw[ah rfl,AU (KN eW)];dsimp only;rw[e3,show List.map AC out++[AC x]=List.map AC (out++[x]) by simp];exact OC hb ha k _ (i+3) (out++[x]) (by rw[show i+3=i+1+2 by omega,←a8,hd]) eT (by rw[aw];omega) eW
  ·rw[aO hc,ah eV,ag hc,AB,AHb,aa];have step:grd (CW ((List.map AC out).length+1) 1) ((fun j6:List Int×Int=>Bl N l also (fun j=>some (List.map FZ j,0)) k j6.1 (wr .i64 (j6.2+1))) (List.map AC out++[AC c],(i:Int)))=some (NL also k t (out++[c])):=by rw[AU (KN eW)];dsimp only;rw[show wr .i64 ((i:Int)+1)=((i+1:Nat):Int) by rw[AQ eT];omega,show List.map AC out++[AC c]=List.map AC (out++[c]) by simp];exact OC hb ha k t (i+1) (out++[c]) hd eT eT eW
   cases hu:Gp c
   ·rw[ag eV,TF c also ha,aa,bd];cases hk2:also.contains c;·rfl
    ·simpa using step
   ·rw[ah rfl];simpa using step
end
def Bj (N:Nat) (s also:List UInt8):List UInt8×Int:=if s.length>16384 then([],5)else NL also N s []
theorem Gg (s also:List UInt8) (hN:20000≤N) (ha:also.length≤1000):Cx N s also=some (Bj N s also):=by
 unfold Cx Bj;by_cases h:s.length>16384;·rw[ah eW,ah h]
 ·rw[ag eW,ag h,AB];exact OC (l:=s) eT ha N s 0 [] rfl eT eT eU
end
end Go.VM
namespace Go.VM
section
variable{N:Nat}
theorem G9 (c:UInt8): ∀l:List UInt8,decide (Go.Lib.indexByte l c≥0)=l.contains c
 |[]=>rfl
 | b::l=>by
  have ih:=G9 c l;have hge:=Go.Lib.indexByte_ge l c;unfold Go.Lib.indexByte;rw[aX];by_cases h:b=c;·subst h;simp
  ·rw[ag (by simpa using h),show(c==b)=false by simpa using fun e=>h e.symm,bd,←ih];by_cases h1:Go.Lib.indexByte l c= -1;·rw[h1];rfl
   ·rw[ag (by simpa using h1)];congr 1;simp only[eq_iff_iff];constructor<;>intro<;>omega
theorem TJ (out:List UInt8) (c:UInt8) (ho:out.length≤900000000):FC N (List.map AC out) (AC c)=some (List.map AC (out++Lr c)):=by have h1:=Ct (f:=fun n=>idx ([48,49,50,51,52,53,54,55,56,57,65,66,67,68,69,70]:List UInt8) (UQ .u8 (n:Int) 4)) (g:=fun n=>some (UN (n / 16))) (by kernel_rfl) c;have h2:=Ct (f:=fun n=>idx ([48,49,50,51,52,53,54,55,56,57,65,66,67,68,69,70]:List UInt8) (Jo .u8 (n:Int) 15)) (g:=fun n=>some (UN (n % 16))) (by kernel_rfl) c;unfold FC;rw[show AC c=(c.toNat:Int)from rfl,h1,aa,h2,aa,AU (KN eW)];simp[Lr,AC]
section
variable{l also:List UInt8}
theorem Nt (hb:l.length≤100000): ∀(k:Nat) (t:List UInt8) (i:Nat) (out:List UInt8),l.drop i=t→i≤l.length→t.length<k→out.length≤i→BL N l also (fun j=>some (List.map FZ j,0)) k (i:Int) (List.map AC out)=some (NL also k t out)
 |0,t,i,out,_,_,h,_=>by omega
 | k+1,[],i,out,h,hi,hk,ho=>by have hl:=IQ h hi;rw[BL,ag (by simp at hl⊢;omega),Ib];rfl
 | k+1,c::t,i,out,h,hi,hk,ho=>by
  have hl:=IQ h hi;simp only[ae]at hl hk;rw[BL,ah eW];dsimp only[AB];rw[show idx l (i:Int)=some c from JV (j:=0) h rfl,aa,UE,NL];have hd:l.drop (i+1)=t:=by rw[←a8,h];rfl
  by_cases hc:c=37
  ·rw [aF hc,ah rfl,ah hc,AH2 h eT,aa];cases he:JK t with
   |none=>rfl
   | some x=>
    have:=Nv he;simp only[Rt,aE];rw[AH1,aa];have e3:wr .i64 (wr .i64 ((i:Int)+2)+1)=((i+3:Nat):Int):=by rw[AQ (n:=(i:Int)+2) eT,AQ eT];omega
    cases hu:Gp x;·rw[ag eV,TJ out x eT,aa,e3];exact Nt hb k _ (i+3) (out++Lr x) (by rw[show i+3=i+1+2 by omega,←a8,hd]) eT (by rw[aw];omega) (by simp[Lr];omega)
    ·rw[ah rfl,AU (KN eW),e3,show List.map AC out++[AC x]=List.map AC (out++[x]) by simp];exact Nt hb k _ (i+3) (out++[x]) (by rw[show i+3=i+1+2 by omega,←a8,hd]) eT (by rw[aw];omega) eW
  ·rw[aO hc,ag eV,ag hc,AH1,aa,I9,aa,G9];have step:grd (CW ((List.map AC out).length+1) 1) (BL N l also (fun j=>some (List.map FZ j,0)) k (wr .i64 ((i:Int)+1)) (List.map AC out++[AC c]))=some (NL also k t (out++[c])):=by rw[AU (KN eW),show wr .i64 ((i:Int)+1)=((i+1:Nat):Int) by rw[AQ eT];omega,show List.map AC out++[AC c]=List.map AC (out++[c]) by simp];exact Nt hb k t (i+1) (out++[c]) hd eT eT eW
   cases hu:Gp c
   ·rw[ag eV,bd];cases hk2:also.contains c;·rfl
    ·simpa using step
   ·rw[ah rfl];simpa using step
end
theorem Fu (s also:List UInt8) (hN:20000≤N):Bf N s also=some (Bj N s also):=by
 unfold Bf Bj;by_cases h:s.length>16384;·rw[ah eW,ah h]
 ·rw[ag eW,ag h,AB];exact Nt (l:=s) eT N s 0 [] rfl eT eT eU
end
end Go.VM
namespace Go.VM
section
variable{N:Nat}
theorem Lc{l:List UInt8}{i:Nat}{c:UInt8} (h:l[i]?=some c) (hc:c.toNat<128):CR l i=(c.toNat,1):=by
 have hi:i<l.length:=by
  rcases aS i l.length with h'|h';·exact h'
  ·rw[bz h']at h;cases h
 have e:l[i]=c:=by rw[aN hi]at h;exact aQ h
 unfold CR;have hs:i<(⟨l.toArray⟩:ByteArray).size:=hi;have AO:((⟨l.toArray⟩:ByteArray)[i]'hs)=c:=e;rw[decode_ascii _ i hs (by rw[AO];exact hc),AO]
theorem AHs{set:List UInt8}{c:UInt8} (hc:c.toNat<128):Ci N set ((c.toNat:Nat):Int)=some (Go.Lib.indexByte set c):=by
 unfold Ci;dsimp only[AB];have e:wr .u8 ((c.toNat:Nat):Int)=AC c:=by rw[Vx eT];rfl
 rw[ah eU,ah (by simpa using(by omega:(c.toNat:Int)<128)),e,I9];rfl
def AK4 (set l:List UInt8):Int:=if(l.any set.contains)=true then(((l.takeWhile fun c=>!set.contains c).length:Nat):Int)else-1
theorem Vo{as:List Bool}{set:List UInt8} (hs:ADi as set) (k17:List Bool→Option Int): ∀(l:List UInt8) (i:Int),Bu N k17 l i as=if(l.any set.contains)=true then some (i+(((l.takeWhile fun c=>!set.contains c).length:Nat):Int))else k17 as
 |[],i=>by rw[Bu];rfl
 | c::l,i=>by
  rw[Bu,ADh hs,aa];dsimp only;cases h:set.contains c
  ·rw[ag eV,Vo hs k17 l (i+1)];simp only[b9,h,bd,aP,bg,aE,ae];split;·congr 1;omega
   ·rfl
  ·have hw:((c::l).takeWhile fun c=>!set.contains c)=[]:=by rw[aP,h];rfl
   rw[ah rfl,b9,h,dh,ah rfl,hw];simp
theorem VZ{set l:List UInt8} (k24:Unit→Option Int): ∀(t pre:List UInt8) (k:Nat),l=pre++t→t.length<k→(∀c,c∈(t.takeWhile fun c=>!set.contains c)→c.toNat<128)→(∀c,c∈set→c.toNat<128)→BJ N l set k24 k pre.length=if(t.any set.contains)=true then some (((pre.length+(t.takeWhile fun c=>!set.contains c).length:Nat):Int))else k24 ()
 |_,_,0,_,h,_,_=>by omega
 | [],pre,k+1,h,_,_,_=>by rw[BJ,ag (by rw[h];simp)];rfl
 | c::t,pre,k+1,h,hk,ha,hset=>by
  simp only[ae]at hk;have hget:l[pre.length]?=some c:=by rw[h,dN (ao _),cQ];rfl
  have hc:c.toNat<128:=by
   cases AO:set.contains c;·exact ha c (by rw[aP,AO];simp)
   ·exact hset c (by simpa using AO)
  rw[BJ,ah (by rw[h];simp),Lc hget hc];dsimp only;rw[AHs hc,aa,G9];cases AO:set.contains c
  ·rw[ag eV];have:=VZ (l:=l) (set:=set) k24 t (pre++[c]) k (by rw[h];simp) eT (fun x hm=>ha x (by simp only[aP,AO,bg,aE,aL];exact .inr hm)) hset;rw[aj,List.length_singleton]at this;rw[this];simp only[b9,AO,bd,aP,bg,aE,ae];split;·congr 2;omega
   ·rfl
  ·have hw:((c::t).takeWhile fun c=>!set.contains c)=[]:=by rw[aP,AO];rfl
   rw[ah rfl,b9,AO,dh,ah rfl,hw];simp
theorem VV{set l:List UInt8} (h2:2≤set.length) (hs:set.length≤1000) (hset: ∀c,c∈set→c.toNat<128) (ha:l.length≤8→∀c,c∈(l.takeWhile fun c=>!set.contains c)→c.toNat<128) (hb:l.length≤1000000) (hN:20≤N):strings_IndexAny N l set=some (AK4 set l):=by
 unfold strings_IndexAny AK4;have hne:set≠ []:=fun e=>by subst e;simp at h2
 have hsh:strings_shouldUseASCIISet N (l.length:Int)=some (decide ((l.length:Int)>8)):=rfl;obtain⟨as,e1,e2⟩:=AMu (N:=N) set hset hs;rw[ag (by simpa using hne),ag eW];dsimp only[AB];rw[hsh,aa];by_cases h:l.length>8;·rw[ah eW,e1,aa,AU TZ];dsimp only;rw[AU e2.1,ah rfl,BR eT,Vo e2];split<;>simp
 ·rw[ag eW,show(0:Nat)=([]:List UInt8).length from rfl,VZ (l:=l) _ l [] N rfl eT (ha eT) hset];split<;>simp
end
end Go.VM
namespace Go.VM
section
variable{N:Nat}
theorem AVe (l:List UInt8) (i:Nat):(⟨l.toArray⟩:ByteArray).get! i=l.getD i 0:=by change (l.toArray[i]!)=_;rw[List.getElem!_toArray,List.getElem!_eq_getElem?_getD,cP];rfl
theorem VU{l:List UInt8}{j:Nat} (h:j<l.length∧(l.getD j 0).toNat / 64=2): ∀d,l[j]?=some d→128≤d.toNat:=fun d hd=>by
 have e:l.getD j 0=d:=by rw[cP,hd];rfl
 rw[e]at h;omega
theorem AOc{l:List UInt8}{i:Nat}{c:UInt8} (h:l[i]?=some c) (hc:128≤c.toNat):∃r w,CR l i=(r,w)∧128≤r∧r≤1114111∧(Go.Utf8.valid r=true)∧1≤w∧i+w≤l.length∧∀j,j<w→∀d,l[i+j]?=some d→128≤d.toNat:=by
 have hi:i<l.length:=by
  rcases aS i l.length with h'|h';·exact h'
  ·rw[bz h']at h;cases h
 have h0:l.getD i 0=c:=by rw[cP,h];rfl
 have one: ∀j,j<1→∀d,l[i+j]?=some d→128≤d.toNat:=fun j hj d hd=>by obtain rfl:j=0:=eT;rw[bM,h]at hd;cases hd;exact hc
 have bad: ∃r w,(Go.Utf8.runeError,1)=(r,w)∧128≤r∧r≤1114111∧(Go.Utf8.valid r=true)∧1≤w∧i+w≤l.length∧∀j,j<w→∀d,l[i+j]?=some d→128≤d.toNat:=⟨_,_,rfl,eV,eV,eV,ao 1,eT,one⟩;have hsz:(⟨l.toArray⟩:ByteArray).size=l.length:=rfl;unfold CR Go.Utf8.decode;simp only[AVe,hsz,bM,h0];have hb:=UInt8.toNat_lt c;rw[ag eT];split
 ·rename_i h2;simp only[az,bw,al]at h2;split
  ·rename_i h3;refine⟨_,_,rfl,eT,eT,?_,eT,eT,fun j hj=>?_⟩;·unfold Go.Utf8.valid;simp only[cj,az,al];omega
   ·rcases (by omega:j=0∨j=1)with rfl|rfl;·exact one 0 eT
    ·exact VU h2.2
  ·exact bad
 split
 ·rename_i h2;simp only[az,bw,al]at h2;split
  ·rename_i h3;simp only[az,ge_iff_le,al]at h3;refine⟨_,_,rfl,eT,eT,h3.2,eT,eT,fun j hj=>?_⟩;rcases (by omega:j=0∨j=1∨j=2)with rfl|rfl|rfl;·exact one 0 eT
   ·exact VU h2.1.2
   ·exact VU h2.2
  ·exact bad
 split
 ·rename_i h2;simp only[az,bw,al]at h2;split
  ·rename_i h3;simp only[az,ge_iff_le,al]at h3;have hv:=h3.2;unfold Go.Utf8.valid at hv;simp only[cj,az,al]at hv;refine⟨_,_,rfl,eT,eT,h3.2,eT,eT,fun j hj=>?_⟩;rcases (by omega:j=0∨j=1∨j=2∨j=3)with rfl|rfl|rfl|rfl;·exact one 0 eT
   ·exact VU h2.1.1.2
   ·exact VU h2.1.2
   ·exact VU h2.2
  ·exact bad
 ·exact bad
theorem ABb{l:List UInt8}{set:List UInt8}: ∀(w i:Nat),i+w≤l.length→(∀j,j<w→∀d,l[i+j]?=some d→set.contains d=false)→(l.drop i).any set.contains=(l.drop (i+w)).any set.contains∧((l.drop i).takeWhile fun c=>!set.contains c).length=w+((l.drop (i+w)).takeWhile fun c=>!set.contains c).length |0,i,_,_=>by simp| w+1,i,h,hs=>by have hi:i<l.length:=eT;have h0:=hs 0 eT l[i] (by rw[show i+0=i from rfl,aN hi]);obtain⟨e1,e2⟩:=ABb (l:=l) (set:=set) w (i+1) eT fun j hj d hd=>hs (j+1) eT d (by rw[show i+(j+1)=i+1+j by omega];exact hd);rw[dV hi,b9,h0,bd,e1,aP,h0];simp only[bg,aE,ae];rw[e2,show i+1+w=i+(w+1) by omega];exact⟨rfl,eT⟩
theorem AE5{r:Nat} (hv:Go.Utf8.valid r=true):Go.Utf8.encode (r:Int)=(if r<128 then⟨#[UInt8.ofNat r]⟩else if r<2048 then⟨#[UInt8.ofNat (0xC0+r / 64),UInt8.ofNat (0x80+r % 64)]⟩ else if r<65536 then⟨#[UInt8.ofNat (0xE0+r / 4096),UInt8.ofNat (0x80+r / 64 % 64),UInt8.ofNat (0x80+r % 64)]⟩ else⟨#[UInt8.ofNat (0xF0+r / 262144),UInt8.ofNat (0x80+r / 4096 % 64),UInt8.ofNat (0x80+r / 64 % 64),UInt8.ofNat (0x80+r % 64)]⟩:ByteArray):=by
 have e:(if Go.Utf8.valid r=true then(r:Int).toNat else Go.Utf8.runeError)=r:=by rw[ah hv];rfl
 unfold Go.Utf8.encode;simp only[e]
theorem AOg{n:Nat} (h:n<64):128≤(UInt8.ofNat (0x80+n)).toNat:=by rw[dM];omega
theorem enc2{r:Nat} (hv:Go.Utf8.valid r=true) (h1: ¬r<128) (h2:r<2048): ∃a b,Go.Utf8.encode (r:Int)=⟨#[a,b]⟩∧128≤b.toNat:=by rw[AE5 hv,ag h1,ah h2];exact⟨_,_,rfl,AOg (Nat.mod_lt _ eT)⟩
theorem enc3{r:Nat} (hv:Go.Utf8.valid r=true) (h1: ¬r<128) (h2: ¬r<2048) (h3:r<65536): ∃a b c,Go.Utf8.encode (r:Int)=⟨#[a,b,c]⟩∧128≤c.toNat:=by rw[AE5 hv,ag h1,ag h2,ah h3];exact⟨_,_,_,rfl,AOg (Nat.mod_lt _ eT)⟩
theorem enc4{r:Nat} (hv:Go.Utf8.valid r=true) (h1: ¬r<128) (h2: ¬r<2048) (h3: ¬r<65536): ∃a b c d,Go.Utf8.encode (r:Int)=⟨#[a,b,c,d]⟩∧128≤d.toNat:=by rw[AE5 hv,ag h1,ag h2,ag h3];exact⟨_,_,_,_,rfl,AOg (Nat.mod_lt _ eT)⟩
theorem AX3{a b:UInt8}:(⟨#[a,b]⟩:ByteArray).data.toList=[a,b]:=rfl
theorem AYG{a b c:UInt8}:(⟨#[a,b,c]⟩:ByteArray).data.toList=[a,b,c]:=rfl
theorem AXt{a b c d:UInt8}:(⟨#[a,b,c,d]⟩:ByteArray).data.toList=[a,b,c,d]:=rfl
def HiT (u:List UInt8):Prop:= ∃k c,u.length=k+2∧k≤2∧u[k+1]?=some c∧128≤c.toNat
theorem AYe{a b:UInt8} (h:128≤b.toNat):HiT [a,b]:=⟨0,b,rfl,eT,rfl,h⟩
theorem AZJ{a b c:UInt8} (h:128≤c.toNat):HiT [a,b,c]:=⟨1,c,rfl,eT,rfl,h⟩
theorem AY3{a b c d:UInt8} (h:128≤d.toNat):HiT [a,b,c,d]:=⟨2,d,rfl,eT,rfl,h⟩
theorem AZH{r:Nat} (hv:Go.Utf8.valid r=true) (h1: ¬r<128) (h:r<2048):HiT (Go.Utf8.encode (r:Int)).data.toList:=by obtain⟨a,b,e,hb⟩:=enc2 hv h1 h;rw[e,AX3];exact AYe hb
theorem AZC{r:Nat} (hv:Go.Utf8.valid r=true) (h1: ¬r<128) (h: ¬r<2048) (h':r<65536):HiT (Go.Utf8.encode (r:Int)).data.toList:=by obtain⟨a,b,c,e,hb⟩:=enc3 hv h1 h h';rw[e,AYG];exact AZJ hb
theorem AYw{r:Nat} (hv:Go.Utf8.valid r=true) (h1: ¬r<128) (h: ¬r<2048) (h': ¬r<65536):HiT (Go.Utf8.encode (r:Int)).data.toList:=by obtain⟨a,b,c,d,e,hb⟩:=enc4 hv h1 h h';rw[e,AXt];exact AY3 hb
theorem hiu{r:Nat} (hv:Go.Utf8.valid r=true) (h1: ¬r<128):HiT (Go.Utf8.encode (r:Int)).data.toList:=(di (r<2048)).elim (fun h=>AZH hv h1 h) fun h=>(di (r<65536)).elim (fun h'=>AZC hv h1 h h') fun h'=>AYw hv h1 h h'
theorem AJo (q:Int):Gi q=(Go.Utf8.encode q).data.toList:=by rw[Gi]
theorem AUA{r:Nat} (hv:Go.Utf8.valid r=true) (h1: ¬r<128):HiT (Gi (r:Int)):=(AJo r).symm▸hiu hv h1
theorem AW6{q:Int} (h:0≤q) (k:q<55296∨(57343<q∧q≤1114111)):CJ N q=some true:=by
 unfold CJ;have h0:decide (0≤q)=true:=aF h;by_cases h':q<55296;·have h1:=aF h';simp only[AB,h0,h1,aE]
 ·have h1:=aO h';have h2:decide (57343<q)=true:=aF eT;have h3:decide (q≤1114111)=true:=aF eT;simp only[AB,h0,h1,h2,h3,aE,av,aR]
theorem ANt{r:Nat} (hv:Go.Utf8.valid r=true):CJ N r=some true:=by unfold Go.Utf8.valid at hv;simp only[cj,az,al]at hv;exact AW6 eT eT
theorem ARo{q:Int}{u:List UInt8} (hu:Gi q=u){k15:Unit→Option Int} (n s9:Nat) (w:wr .i64 ((u.length:Int)-1)=(s9:Int)){c x:UInt8} (AO:([58,47]:List UInt8)[s9]?=some x) (hc:u[s9]?=some c) (hne:(AC x !=AC c)=true){t:List UInt8} (ht:sub ([58,47]:List UInt8) (wr .i64 ((s9:Int)+1)) ((([58,47]:List UInt8).length:Nat):Int)=some t) (hb:strings_IndexByte N t (AC c)=some (-1)) (hlt:s9<2):BP N [58,47] q k15 (n+1) (s9:Int)=some (-1):=by
 have e9:decide ((s9:Int)<((([58,47]:List UInt8).length:Nat):Int))=true:=by simp only[al,ae,an];omega
 rw[BP,ah e9];simp only[AB];rw[hu,w,HV,HV,AO,aa,hc,aa,ah hne,ht,aa,hb,aa];rfl
theorem AQq{r:Nat}{k15:Unit→Option Int} (hr:128≤r) (hv:Go.Utf8.valid r=true) (hk:k15 ()=some (-1)) (n:Nat):BP N [58,47] (r:Int) k15 (n+1) (wr .i64 (((Gi (r:Int)).length:Int)-1))=some (-1):=by
 obtain⟨k,c,e1,e2,e3,e4⟩:=AUA hv eT;have w:wr .i64 (((Gi (r:Int)).length:Int)-1)=((k+1:Nat):Int):=by rw[e1,AQ eT];omega
 have hc:c≠47:=fun e=>by rw[e]at e4;revert e4;decide
 generalize (r:Int)=q at *;rw[w];rcases (by omega:k=0∨¬k=0)with h0|h0;·subst h0;exact ARo (t:=[]) rfl n 1 w rfl e3 (by rw[bne,AT9];simp;exact fun e=>hc e.symm) rfl (by rw[I9];rfl) eT
 ·rw[BP,ag (by simp only[al,ae,an];omega),hk]
theorem irh{r:Nat} (h0:decide (0≤(r:Int))=true) (h1:decide ((r:Int)<128)=false):Ci N [58,47] (r:Int)=if((r:Int)==65533)=true then BO N [58,47] (fun _=>some (-1)) N 0 else Option.bind (CJ N r) fun y12=>if y12=true then BP N [58,47] r (fun _=>some (-1)) N (wr .i64 (((Gi r).length:Int)-1))else some (-1):=by generalize (r:Int)=q at *;unfold Ci;dsimp only[AB];rw[ah h0,h1,ag eV]
theorem APc{r:Nat} (hr:128≤r) (hv:Go.Utf8.valid r=true) (hN:20≤N):Ci N [58,47] (r:Int)=some (-1):=by
 obtain⟨n,rfl⟩: ∃n,N=n+3:=⟨N-3,eT⟩;rw[irh (aF eT) (aO eT)];by_cases h:((r:Int)==65533)=true;·have d0:CR ([58,47]:List UInt8) 0=(58,1):=Lc (c:=58) rfl eV;have d1:CR ([58,47]:List UInt8) 1=(47,1):=Lc (c:=47) rfl eV;rw[ah h,BO,ah eV,d0,ag eV];rw[BO,ah eV,show(0:Nat)+((58:Nat),(1:Nat)).2=1 from rfl,d1,ag eV];rw[BO,ag eV]
 ·rw[ag h,ANt hv,aa,ah rfl];exact AQq hr hv rfl _
theorem Q0{l:List UInt8} (hN:20≤N) (k24:Unit→Option Int): ∀(k i:Nat),i≤l.length→l.length-i<k→BJ N l [58,47] k24 k i=if((l.drop i).any ([58,47]:List UInt8).contains)=true then some (((i+((l.drop i).takeWhile fun c=>!([58,47]:List UInt8).contains c).length:Nat):Int))else k24 ()
 |0,i,_,h=>by omega
 | k+1,i,hi,hk=>by
  rw[BJ];by_cases he:i<l.length;case neg=>rw[ag (by simpa using he),cJ eT];rfl
  rw[ah (by simpa using he)];have hget:l[i]?=some l[i]:=aN he;by_cases hc:l[i].toNat<128
  ·rw[Lc hget hc];dsimp only;rw[AHs hc,aa,G9,dV he,b9,aP];cases AO:([58,47]:List UInt8).contains l[i];·rw[ag eV,Q0 hN k24 k (i+1) eT eT];simp only[bd,bg,aE,ae];rw[show i+(((l.drop (i+1)).takeWhile fun c=>!([58,47]:List UInt8).contains c).length+1)=i+1+((l.drop (i+1)).takeWhile fun c=>!([58,47]:List UInt8).contains c).length by omega]
   ·rw[ah rfl];simp
  ·obtain⟨r,w,e1,e2,e3,e4,e5,e6,e7⟩:=AOc hget eT;rw[e1];dsimp only;rw[APc e2 e4 hN,aa,ag eV,Q0 hN k24 k (i+w) eT eT];obtain⟨s1,s2⟩:=ABb (set:=[58,47]) w i e6 fun j hj d hd=>by
    have:=e7 j hj d hd;have h1:d≠58:=fun e=>by subst e;revert this;decide
    have h2:d≠47:=fun e=>by subst e;revert this;decide
    simp[h1,h2]
   rw[s1,s2,show i+(w+((l.drop (i+w)).takeWhile fun c=>!([58,47]:List UInt8).contains c).length)=i+w+((l.drop (i+w)).takeWhile fun c=>!([58,47]:List UInt8).contains c).length by omega]
theorem AJE{l:List UInt8} (hb:l.length≤1000000) (hN:20≤N):strings_IndexAny N l [58,47]=some (AK4 [58,47] l):=by
 by_cases h:l.length>8;·exact VV eV eV eV (fun h'=>absurd h' eT) hb hN
 ·have hsh:strings_shouldUseASCIISet N (l.length:Int)=some (decide ((l.length:Int)>8)):=rfl;unfold strings_IndexAny AK4;rw[ag eV,ag eV];dsimp only[AB];rw[hsh,aa,ag eW,Q0 hN _ N 0 eT eT,aT];split<;>simp
end
end Go.VM
namespace Go.VM
section
variable{N:Nat}
theorem RP (set:List UInt8) (hs:set.length≤1000) (k2:Unit→Option Int) (n:Int) (h:k2 ()=some n): ∀(l:List UInt8) (i:Nat),((i+l.length:Nat):Int)=n→Ca N set k2 l (i:Int)=some ((i+(l.takeWhile fun c=>!set.contains c).length:Nat):Int)
 |[],i,hn=>by rw[Ca,h,←hn];simp
 | c::l,i,hn=>by
  rw[Ca,TF _ _ hs,aa,aP];cases hc:set.contains c;·simp only[ae]at hn;rw[ag eV,show(i:Int)+1=((i+1:Nat):Int) by simp,RP set hs k2 n h l (i+1) (by rw[←hn];congr 1;omega)];simp only[bg,aE,ae];congr 2;omega
  ·simp
theorem I4 (l set:List UInt8) (hs:set.length≤1000) (hb:l.length≤2^60):Aw N l set=some (((l.takeWhile fun c=>!set.contains c).length:Nat):Int):=by unfold Aw;rw[AB,AU (by unfold AL;omega),show(0:Int)=((0:Nat):Int)from rfl,RP set hs _ _ rfl l 0 eU];simp
section
variable{s sg W F FR P EX:List UInt8}
end
end
end Go.VM
namespace Go.VM
section
variable{N:Nat}
def preB (p l:List UInt8):Bool:=if p.length≤l.length then l.take p.length==p else false
theorem AQ9 (p l:List UInt8):A8 N l p=some (preB p l):=by
 unfold A8 preB;by_cases h:p.length≤l.length;·rw[ah eW,ah h,show(0:Int)=((0:Nat):Int)from rfl,Cm l 0 _ (bk _) h,aa];simp
 ·rw[ag eW,ag h]
theorem Nr (p l:List UInt8):strings_HasPrefix N l p=some (preB p l):=by unfold strings_HasPrefix;rw[AQ9];rfl
theorem Md (p l:List UInt8):Dt N l p=some (preB p l):=by
 unfold Dt preB;by_cases h:p.length≤l.length;·rw[ah eW,ah h,show(0:Int)=((0:Nat):Int)from rfl,Cm l 0 _ (bk _) h,aa];simp
 ·rw[ag eW,ag h]
theorem SK{p l:List UInt8} (h:preB p l=true): ∃t,l=p++t:=by
 unfold preB at h;split at h;·have:=bw.1 h;exact⟨l.drop p.length,by conv=>lhs;rw[←bF p.length l,this]⟩
 ·cases h
theorem Bp{l:List UInt8}{n:Nat} (h:n≤l.length):sub l (n:Int) (l.length:Int)=some (l.drop n):=by rw[Cm l n l.length h (ao _),aM eU]
theorem ADu (p l:List UInt8):strings_TrimPrefix N l p=some (if preB p l=true then l.drop p.length else l):=by
 unfold strings_TrimPrefix Cs;rw[AQ9,aa];by_cases h:preB p l=true;·obtain⟨t,rfl⟩:=SK h;rw[ah h,ah h,Bp eU,aa,aa]
 ·rw[ag h,ag h];rfl
theorem AHT (p l:List UInt8):strings_CutPrefix N l p=some (if preB p l=true then(l.drop p.length,true)else(l,false)):=by
 unfold strings_CutPrefix DK;rw[AQ9,aa];by_cases h:preB p l=true;·obtain⟨t,rfl⟩:=SK h;rw[ah h,ah h,Bp eU,aa,aa]
 ·rw[ag h,ag h];rfl
def KP (l:List UInt8):Nat→Option Nat |0=>none|n+1=>if l[n]?=some 47 then some n else KP l n
theorem QO{l:List UInt8}{i:Nat}: ∀ {n:Nat},KP l n=some i→i<n
 |0,h=>by cases h
 | n+1,h=>by
  rw[KP]at h;split at h;·cases h;omega
  ·have:=QO h;omega
theorem b47 (c:UInt8):(AC c==47)=decide (c=47):=by have:=Ct (f:=fun n=>((n:Int)==47)) (g:=fun n=>decide (UInt8.ofNat n=47)) (by kernel_rfl) c;simp only[bL]at this;exact this
theorem Vl{l:List UInt8} (hb:l.length≤1000000): ∀(n k:Nat),n≤l.length→n<k→AV N l 47 (fun _=>some (-1)) k ((n:Int)-1)=some (match KP l n with|some i=>(i:Int)|none=> -1)
 |n,0,_,h=>by omega
 |0,k+1,_,_=>by rw[AV,ag eV];rfl
 | n+1,k+1,hn,hk=>by
  rw[AV,ah eU,show((n+1:Nat):Int)-1=(n:Int) by omega,HV,aN eT,aa,b47,KP,aN eT];by_cases h:l[n]=47;·rw[aF h,ah rfl,ah (by rw[h])]
  ·rw[aO h,ag eV,ag (by simpa using h),AQ eT];exact Vl hb n k eT eT
theorem VP (l:List UInt8) (hb:l.length≤1000000) (hN:l.length<N):strings_LastIndexByte N l 47=some (match KP l l.length with|some i=>(i:Int)|none=> -1):=by unfold strings_LastIndexByte Bt;rw[AB,AQ eT,Vl hb l.length N (ao _) hN];rfl
def Gj (l:List UInt8):List UInt8:=match KP l l.length with|some i=>l.take i|none=>[]
theorem Sa{l:List UInt8} (hb:l.length≤1000000): ∀(n k:Nat),n≤l.length→n<k→DL N l (fun _=>some []) k ((n:Int)-1)=some (match KP l n with|some i=>l.take i|none=>[])
 |n,0,_,h=>by omega
 |0,k+1,_,_=>by rw[DL,ag eV];rfl
 | n+1,k+1,hn,hk=>by
  rw[DL,ah eU,show((n+1:Nat):Int)-1=(n:Int) by omega,HV,aN eT,aa,b47,KP,aN eT];by_cases h:l[n]=47;·rw[aF h,ah rfl,ah (by rw[h]),show(0:Int)=((0:Nat):Int)from rfl,Cm l 0 n (bk _) eT,aa];simp
  ·rw[aO h,ag eV,ag (by simpa using h),AQ eT];exact Sa hb n k eT eT
theorem VN (l:List UInt8) (hb:l.length≤1000000) (hN:l.length<N):Gf N l=some (Gj l):=by unfold Gf Gj;rw[AB,AQ eT,Sa hb l.length N (ao _) hN]
def Jr (s:List UInt8):Nat:=1+((s.drop 1).takeWhile (· !=47)).length
def G7:Nat→List UInt8→List UInt8→List UInt8 |0,_,_=>[]| k+1,s,out=>if s=[]then out else if preB [46,46,47] s=true then G7 k (s.drop 3) out else if preB [46,47] s=true then G7 k (s.drop 2) out else if preB [47,46,47] s=true then G7 k (s.drop 2) out else if s=[47,46]then G7 k [47] out else if preB [47,46,46,47] s=true then G7 k (s.drop 3) (Gj out) else if s=[47,46,46]then G7 k [47] (Gj out) else if s=[46]∨s=[46,46]then G7 k [] out else G7 k (s.drop (Jr s)) (out++s.take (Jr s))
theorem N9 (l:List UInt8):(Gj l).length≤l.length:=by unfold Gj;split<;>simp<;>omega
theorem AOG{s:List UInt8} (h:s≠ []):Jr s≤s.length:=by cases s with |nil=>exact absurd rfl h|cons c t=>unfold Jr;have:=Kq (· !=(47:UInt8)) t;simp only[List.drop_one,List.tail_cons,ae];omega
theorem KV{p l:List UInt8} (h:preB p l=true):p.length≤l.length:=by obtain⟨t,rfl⟩:=SK h;simp
theorem Hu (hN:20000≤N) (k2:List UInt8→Option (List UInt8)): ∀(k:Nat) (s out:List UInt8),s.length<k→s.length+out.length≤16400→Ab N k2 k s out=k2 (G7 k s out)
 |0,s,out,h,_=>by omega
 | k + 1,s,out,hk,hb=>by
  rw[Ab,G7];by_cases h0:s=[];·rw[ah (by simpa using h0),ah h0]
  have hpos:0<s.length:=cl.2 h0;have hso:=N9 out;rw[ag (by simpa using h0),ag h0,Md,aa];by_cases h1:preB [46,46,47] s=true;·have:=KV h1;simp only[ae,an]at this;rw[ah h1,ah h1,show(3:Int)=((3:Nat):Int)from rfl,Bp eT,aa];exact Hu hN k2 k _ out eW eW
  rw[ag h1,ag h1,Md,aa];by_cases h2:preB [46,47] s=true;·have:=KV h2;simp only[ae,an]at this;rw[ah h2,ah h2,show(2:Int)=((2:Nat):Int)from rfl,Bp eT,aa];exact Hu hN k2 k _ out eW eW
  rw[ag h2,ag h2,Md,aa];by_cases h3:preB [47,46,47] s=true;·have:=KV h3;simp only[ae,an]at this;rw[ah h3,ah h3,show(2:Int)=((2:Nat):Int)from rfl,Bp eT,aa];exact Hu hN k2 k _ out eW eW
  rw[ag h3,ag h3];by_cases h4:s=[47,46];·rw[ah (by simpa using h4),ah h4];have:=a7 List.length h4;simp only[ae,an]at this;exact Hu hN k2 k _ out eW eW
  rw[ag (by simpa using h4),ag h4,Md,aa];by_cases h5:preB [47,46,46,47] s=true;·have:=KV h5;simp only[ae,an]at this;rw[ah h5,ah h5,show(3:Int)=((3:Nat):Int)from rfl,Bp eT,aa,VN out eT eT,aa];exact Hu hN k2 k _ _ eW eW
  rw[ag h5,ag h5];by_cases h6:s=[47,46,46];·rw[ah (by simpa using h6),ah h6,VN out eT eT,aa];have:=a7 List.length h6;simp only[ae,an]at this;exact Hu hN k2 k _ _ eW eW
  rw[ag (by simpa using h6),ag h6];dsimp only[AB];have hdd:(if(s==([46]:List UInt8))=true then Ab N k2 k [] out else if(s==([46,46]:List UInt8))=true then Ab N k2 k [] out else Option.bind (sub s 1 (s.length:Int)) fun x26=>Option.bind (Aw N x26 ([47]:List UInt8)) fun y27=>Option.bind (sub s (wr .i64 (1+y27)) (s.length:Int)) fun x29=>Option.bind (sub s 0 (wr .i64 (1+y27))) fun x30=>grd (AL (out.length+x30.length)) (Ab N k2 k x29 (out++x30)))=k2 (if s=[46]∨s=[46,46]then G7 k [] out else G7 k (s.drop (Jr s)) (out++s.take (Jr s))):=by
   have hrec:=Hu hN k2 k [] out eW eW;by_cases h7:s=[46];·rw[ah (by simpa using h7),ah (.inl h7)];exact hrec
   by_cases h8:s=[46,46];·rw[ag (by simpa using h7),ah (by simpa using h8),ah (.inr h8)];exact hrec
   have hw:(fun c:UInt8=>!([47]:List UInt8).contains c)=(fun c=>c !=47):=by funext c;simp[bne];rfl
   have hsl:=AOG h0;rw[ag (by simpa using h7),ag (by simpa using h8),ag (by rintro(h|h);exact h7 h;exact h8 h),show(1:Int)=((1:Nat):Int)from rfl,Bp eT,aa,I4 _ [47] eV eW,aa,hw];have e:wr .i64 (((1:Nat):Int)+(((s.drop 1).takeWhile (fun c=>c !=47)).length:Int))=((Jr s:Nat):Int):=by unfold Jr at hsl⊢;rw[AQ eT];omega
   rw[e,Bp hsl,aa,show(0:Int)=((0:Nat):Int)from rfl,Cm s 0 _ (bk _) hsl,aa,BR eW,aT,bA];have h1s:1≤Jr s:=by unfold Jr;omega
   exact Hu hN k2 k _ _ eW eW
  by_cases h7:(s==([46]:List UInt8))=true;·rw[ah h7]at hdd⊢;rw[ah rfl];exact hdd
  ·rw[ag h7]at hdd⊢;exact hdd
theorem QM (s:List UInt8) (hN:20000≤N) (hb:s.length≤16400):Cf N s=some (G7 N s []):=by unfold Cf;rw[AB,Hu hN _ N s [] eT (by simpa using hb)]
end
end Go.VM
namespace Go.VM
section
variable{N:Nat}
theorem Uz (l:List UInt8) (hb:l.length≤2^60) (k2:List Int→Option (List UInt8)): ∀(t pre:List UInt8),l=pre++t→EG N l k2 t (pre.length:Int) (List.map AC (pre.map E5)++List.map AC t)=k2 (List.map AC (l.map E5))
 |[],pre,h=>by rw[EG,h];simp
 | c::t,pre,h=>by
  have hlen:pre.length<l.length:=by rw[h];simp
  have hc:=c.toNat_lt;have next:=Uz l hb k2 t (pre++[c]) (by rw[h];simp);rw[←NR]at next;have hi:idx (List.map AC (pre.map E5)++List.map AC (c::t)) (pre.length:Int)=some (AC c):=by have:=XN (List.map AC (pre.map E5)) (List.map AC t) (AC c);simpa using this
  have hset:(List.map AC (pre.map E5)++List.map AC (c::t)).set pre.length (AC (E5 c))=List.map AC ((pre++[c]).map E5)++List.map AC t:=eU;rw[EG];dsimp only[AB];rw[AU eT,hi,aa];by_cases h1:65≤c.toNat∧c.toNat≤90
  ·have e:E5 c=UInt8.ofNat (c.toNat+32):=by unfold E5 AMm;rw[ah h1]
   have e2:AC (E5 c)=wr .u8 (AC c+32):=by rw[e,Vx (by simp only[AC];omega)];simp only[AC];rw[toNat_ofNat eT];simp
   rw[ah (by have:=IW c;rw[al];omega),ah (by have:=IW c;rw[al];omega),AU eT,aa,AU (by simp<;>omega),←e2];rw[show((pre.length:Nat):Int).toNat=pre.length from rfl,hset];exact next
  ·have e:E5 c=c:=by unfold E5 AMm;rw[ag h1];simp
   have e3:List.map AC ((pre++[c]).map E5)++List.map AC t=List.map AC (pre.map E5)++List.map AC (c::t):=by simp[e]
   rw[e3]at next;by_cases h2:65≤c.toNat;·rw[ah (by have:=IW c;rw[al];omega),ag (by have:=IW c;rw[al];omega)];exact next
   ·rw[ag (by have:=IW c;rw[al];omega),ag eV];exact next
theorem QX (l:List UInt8) (hb:l.length≤2^60):Gt N l=some (l.map E5):=by unfold Gt;rw[AB,AU (by unfold AL;omega)];have:=Uz (N:=N) l hb (fun j1=>grd (l.length≤j1.length∧AL l.length) (some (List.map FZ (List.take l.length j1)))) l [] rfl;simp only[cy,ba,an]at this;rw[show(0:Int)=((0:Nat):Int)from rfl,this,AU (by unfold AL;simp;omega),aM eU,Ib]
theorem Vb (a b:List UInt8) (ha:a.length≤2^60) (hb:b.length≤2^60):Ir N a b=some (a.map E5==b.map E5):=by unfold Ir;rw[lower_eq a ha,aa,lower_eq b hb,aa]
theorem VJ (a b:List UInt8) (ha:a.length≤2^60) (hb:b.length≤2^60):Ik N a b=some (a.map E5==b.map E5):=by unfold Ik;rw[QX a ha,aa,QX b hb,aa]
def MQ (l:List UInt8):List UInt8×Int:=if l=[]then([],3)else if l.length>253 then([],5)else if(AGM l||OX l)=true then(l.map E5,0)else([],50)
theorem AP8 (l:List UInt8):Kt N l=some (MQ l):=by
 unfold Kt MQ;by_cases h:l=[];·subst h;rfl
 rw[ag (by simpa using h),ag h];by_cases h2:l.length>253;·rw[ah (by simp only[al];omega),ah h2]
 rw[ag (by simp only[al];omega),ag h2];dsimp only[AB];rw[ATz l eT,aa,AMa l eT,aa,QX l eT,aa];cases AGM l<;>cases OX l<;>rfl
end
end Go.VM
namespace Go.VM
section
variable{N:Nat}
theorem NZ (m:Nat) (l:List UInt8):0≤(Ee m l).1∧(Ee m l).1≤m:=by
 unfold Ee;split;·simp
 ·split
  ·split;·simp
   ·split;·exact⟨by simp only[];omega,by simp only[];omega⟩
    ·simp
  ·simp
def M3 (l:List UInt8):Int×Int:=if((Ee 65535 l).2 !=0||(Ee 65535 l).1==0)=true then(0,51)else((Ee 65535 l).1,0)
theorem APs (l:List UInt8) (hb:l.length≤2^60):MF N l=some (M3 l):=by have:=NZ 65535 l;unfold MF M3;rw[show(65535:Int)=((65535:Nat):Int)from rfl,TY eV l hb,aa];dsimp only[AB];rw[AQ eT];cases (Ee 65535 l).2 !=0<;>cases (Ee 65535 l).1==0<;>rfl
theorem ANa (l:List UInt8) (hb:l.length≤2^60):K3 N l=some (M3 l):=by have:=NZ 65535 l;unfold K3 M3;rw[show(65535:Int)=((65535:Nat):Int)from rfl,SV eV eV l hb,aa];dsimp only[AB];rw[AQ eT];cases (Ee 65535 l).2 !=0<;>cases (Ee 65535 l).1==0<;>rfl
def hpS (l:List UInt8):ApiHostPort×Int:=if((MQ (AP 58 l).1).2 !=0)=true then(⟨[],0⟩,(MQ (AP 58 l).1).2) else if(AP 58 l).2.2=true then(if((M3 (AP 58 l).2.1).2 !=0)=true then(⟨[],0⟩,(M3 (AP 58 l).2.1).2)else(⟨(MQ (AP 58 l).1).1,if((M3 (AP 58 l).2.1).1==443)=true then 0 else(M3 (AP 58 l).2.1).1⟩,0)) else(⟨(MQ (AP 58 l).1).1,0⟩,0)
theorem LD{c:UInt8}: ∀l:List UInt8,l.contains c=false→l.takeWhile (· !=c)=l
 |[],_=>rfl
 | x::t,h=>by
  rw[aX,Bool.or_eq_false_iff]at h;have e:(x !=c)=true:=by simp only[dO,dp];rintro rfl;simp at h
  rw[aP,e,ah rfl,LD t h.2]
theorem AWZ (l:List UInt8) (hb:l.length≤1000000):KF N l=some (hpS l):=by
 have hw:(fun c:UInt8=>!([58]:List UInt8).contains c)=(fun c=>c !=58):=by funext c;simp[bne];rfl
 have hle:=Kq (· !=(58:UInt8)) l;have h0:sub l 0 ((l.takeWhile (· !=(58:UInt8))).length:Int)=some (l.takeWhile (· !=(58:UInt8))):=by have:=Cm l 0 _ (bk _) hle;rw[aT,bA,Fv]at this;exact this
 unfold KF hpS;rw[I4 l [58] eV eT,aa,hw,h0,aa,AP8,aa];unfold AP;cases hc:l.contains 58
 ·have hall:l.takeWhile (· !=(58:UInt8))=l:=by exact LD l hc
  simp only[av,aR];rw[hall];by_cases h:((MQ l).2 !=0)=true;·rw[ah h,ah h]
  ·rw[ag h,ag h,ah eU]
 ·have hlt:=Je hc;have hd:l.drop ((l.takeWhile (· !=(58:UInt8))).length+1)=(l.dropWhile (· !=(58:UInt8))).drop 1:=by rw[←a8];congr 1;have e:=aU (p:=(· !=(58:UInt8))) (l:=l);have e2:(l.takeWhile (· !=(58:UInt8))++l.dropWhile (· !=(58:UInt8))).drop (l.takeWhile (· !=(58:UInt8))).length=l.dropWhile (· !=(58:UInt8)):=cq;rw[e]at e2;exact e2
  simp only[aE];by_cases h:((MQ (l.takeWhile (· !=(58:UInt8)))).2 !=0)=true;·rw[ah h,ah h]
  ·rw[ag h,ag h,ag eW];rw[show wr .i64 (((l.takeWhile (· !=(58:UInt8))).length:Int)+1)=(((l.takeWhile (· !=(58:UInt8))).length+1:Nat):Int) by rw[AQ eT];omega,Cm l _ _ eT eT,aa,hd,aM (by have:=a7 List.length hd;rw[aw]at this;omega),ANa _ (by rw[aw];have:=(df (· !=(58:UInt8)) (l:=l)).length_le;omega),aa];dsimp only[AB];by_cases hp:((M3 ((l.dropWhile (· !=(58:UInt8))).drop 1)).2 !=0)=true;·rw[ah hp,ah hp]
   ·rw[ag hp,ag hp];split<;>rfl
end
end Go.VM
