import Derived.Test.YtenhbiooanampaaGreatDoorL4
set_option linter.defProp false
set_option linter.unusedVariables false
set_option linter.unusedSimpArgs false
namespace Go.VM
section
variable{N:Nat}
def AMc (l:B8):Option ApiField:=if(l.contains 58&&((!(Af 58 l).1.isEmpty&&(Af 58 l).1.all Yq)&&(Af 58 l).2.1.all TG))=true then some ⟨(Af 58 l).1.map FP,trimB (Af 58 l).2.1⟩else none
def AR7 (c:B8×B8×Bool):B8:=if c.2.2=true then c.2.1++Bg else []
def XR (l:B8):(JV l).1.length<=l.length/\(JV l).2.1.length<=l.length/\((JV l).2.2=true->(JV l).2.1.length<l.length):=by unfold JV;cases h:DW Bg l with|none=>exact⟨av _,aK _,nofun⟩|some k=>have:=(PE h).1;rw[show Bg.length=2 from rfl]at this;simp only[bg,aP];exact⟨fH,fH,λ_=>by omega⟩
def ACH{l:B8} (hb:l.length<=1000000): ∃k:Nat,RZ Bg (l++Bg)=(k:Int)/\sub (l++Bg) 0 (k:Int)=some (JV l).1/\sub (l++Bg) (wr .i64 ((k:Int)+2)) ((l++Bg).length:Int)=some (AR7 (JV l)):=by
 refine⟨(DW Bg l).getD l.length,?_,?_,?_⟩;·unfold RZ;rw[AU0]
 ·unfold JV;cases h:DW Bg l with|none=>have:=A8 (l++Bg) 0 l.length fH fI;simpa using this|some k=>have h1:=(PE h).1;rw[show Bg.length=2 from rfl]at h1;have:=A8 (l++Bg) 0 k fH fK;rw[aO,bB,List.take_append_of_le_length fH]at this;simpa using this
 ·unfold AR7 JV;cases h:DW Bg l with
  |none=>
   have w:wr .i64 (((none:Option Nat).getD l.length:Nat)+2:Int)=(((l++Bg).length:Nat):Int):=by rw[Ai (by simp only[cj];omega)];simp[Bg]
   rw[w,Be fH,List.drop_length];rfl
  |some k=>have h1:=(PE h).1;rw[show Bg.length=2 from rfl]at h1;have w:wr .i64 (((some k:Option Nat).getD l.length:Nat)+2:Int)=((k+2:Nat):Int):=Ai (by simp only[dy];omega);rw[w,Be fK,cy h1];rfl
def AFX{l:B8} (m:Bool) (hb:l.length<=1000000):Iq N ⟨l,m⟩=some ((JV l).1,⟨(JV l).2.1,(JV l).2.2⟩):=by unfold Iq;rw[Aqk (by simp only;omega),aa]
def Ar2 (k14:List ApiField×HeadLines->Option (ApiHead×Int×Int)) (k:Nat) (fs:List ApiField){l:B8} (hb:l.length<=1000000) (hN:1000000<N):EA N k14 (k+1) fs ⟨l,true⟩=if fs.length>=64 then some (Sl,0,161)else match AMc (JV l).1 with|none=>some (Sl,0,180)|some f=>EA N k14 k (fs++[f]) ⟨(JV l).2.1,(JV l).2.2⟩:=by
 conv=>lhs;unfold EA
 have hc:=XR l;have hc2:=JY 58 (JV l).1;rw[an rfl];by_cases h64:fs.length>=64;·rw[an h64,an (aE fH)];rfl
 ·rw[aj h64,aj (by simp only[au];omega),AFX true hb,aa,RJ _ _ (by simp only;omega),aa];simp only[AB];rw[Akg fH,AZV fH,lower_eq _ fH,AB0 fH fH];have hg: ∀x:Option (ApiHead×Int×Int),grd (Ae (fs.length+1) 32) x=x:=λx=>AO (Hq fH fH);simp only[hg];unfold AMc;rw[ALM];cases (JV l).1.contains 58;·rfl
  ·generalize Af 58 (JV l).1=c;simp only[aa,aB,bQ];cases (!c.1.isEmpty&&c.1.all Yq);·rfl
   ·cases c.2.1.all TG<;>rfl
def AFu (k11:List ApiField->Option (ApiHead×Int×Int)) (k:Nat) (fs:List ApiField){l:B8} (hb:l.length<=1000000) (hN:1000010<N):Bz N k11 (k+1) (l++Bg) fs=if fs.length>=64 then some (Sl,0,161)else match AMc (JV l).1 with|none=>some (Sl,0,180)|some f=>Bz N k11 k (AR7 (JV l)) (fs++[f]):=by
 conv=>lhs;unfold Bz
 have hc:=XR l;have hc2:=JY 58 (JV l).1;simp only[AB];rw[aj (by simp[Bg])];by_cases h64:fs.length>=64;·rw[an h64,an (aE fH)];rfl
 ·obtain⟨n,hn1,hn2,hn3⟩:=ACH hb;have hf:Ha N (l++Bg) [13,10]=some (n:Int):=by rw[<-hn1];exact Ui fI (by simp[Bg];omega) (by simp[Bg];omega)
  rw[aj h64,aj (by simp only[au];omega),hf,aa,hn2,aa];simp only[hn3,aa];generalize JV l=C at *;rw[Awo 58 _ fH,aa,ACq];unfold AMc;cases h58:C.1.contains 58;·rfl
  ·obtain⟨s1,s2⟩:=ACk h58 fH;simp only[s1,s2,aa];rw[AlR fH,ATx fH,QY _ fH,AUX fH fH];have hg: ∀x:Option (ApiHead×Int×Int),grd (Ae (fs.length+1) 32) x=x:=λx=>AO (Hq fH fH);simp only[hg];generalize Af 58 C.1=c;simp only[aa,bQ,bE,aq,az];cases (!c.1.isEmpty&&c.1.all Yq);·rfl
   ·cases c.2.1.all TG<;>rfl
def ED (fs:List ApiField):Nat:=(fs.map λf=>f.name.length+f.value.length).sum
def Fok (B:Nat) (fs:List ApiField):Prop:=fs.length<=64/\ED fs<=B
def Arh (c:UInt8) (l:B8):(Af c l).1.length+(Af c l).2.1.length<=l.length:=by
 unfold Af;split;·have:=br List.length (bl (p:=(· !=c)) (l:=l));simp only[ah,aP]at this⊢;omega
 ·simp
def ApV{l:B8}{f:ApiField} (h:AMc l=some f):f.name.length+f.value.length<=l.length:=by
 unfold AMc at h;split at h;·cases h;have hc:=Arh 58 l;have:=XZ (Af 58 l).2.1;simp only[cp];omega
 ·cases h
def Ajp (l:B8):(JV l).1.length+(JV l).2.1.length<=l.length:=by unfold JV;cases h:DW Bg l with|none=>simp|some k=>simp only[bg,aP];omega
def VY (fs:List ApiField) (f:ApiField):ED (fs++[f])=ED fs+(f.name.length+f.value.length):=by simp[ED]
def AaE{B:Nat} (hB:B<=1000000) (hN:1000010<N) (k14:List ApiField×HeadLines->Option (ApiHead×Int×Int)) (k11:List ApiField->Option (ApiHead×Int×Int)) (Q:ApiHead×Int×Int->Prop) (hk: ∀fs hl,Fok B fs->k14 (fs,hl)=k11 fs/\∃r,k11 fs=some r/\Q r) (q1:Q (Sl,0,161)) (q2:Q (Sl,0,180)):∀(k:Nat) (fs:List ApiField) (l:B8) (m:Bool),fs.length<=64->ED fs+l.length<=B->(if m=true then l.length+1 else 0)<k->EA N k14 k fs ⟨l,m⟩=Bz N k11 k (if m=true then l++Bg else []) fs/\∃r,Bz N k11 k (if m=true then l++Bg else []) fs=some r/\Q r
 |0,fs,l,m,hf,hl,hm=>absurd hm (cq _)
 |k+1,fs,l,false,hf,hl,hm=>by
  have e1:EA N k14 (k+1) fs ⟨l,false⟩=k14 (fs,⟨l,false⟩):=by unfold EA;rfl
  have e2:Bz N k11 (k+1) [] fs=k11 fs:=by unfold Bz;rfl
  rw[e1,aj fJ,e2];exact hk fs _ ⟨hf,fH⟩
 | k+1,fs,l,true,hf,hl,hm=>by
  rw[an rfl,Ar2 k14 k fs fH fH,AFu k11 k fs fH hN];by_cases h64:fs.length>=64;·rw[an h64,an h64];exact⟨rfl,_,rfl,q1⟩
  ·rw[aj h64,aj h64];have hc:=XR l;have hs:=Ajp l;cases h:AMc (JV l).1 with
   |none=>exact⟨rfl,_,rfl,q2⟩
   |some f=>
    have hfl:=ApV h;rw[an rfl]at hm;refine AaE hB hN k14 k11 Q hk q1 q2 k (fs++[f]) (JV l).2.1 (JV l).2.2 fK (by rw[VY];omega) ?_;split;·rename_i h2;have:=hc.2.2 h2;omega
    ·omega
def AF5 (n:Nat) (r:ApiHead×Int×Int):Prop:=Fok 16384 r.1.fields/\0<=r.2.1/\r.2.1<=n/\(r.2.2=0->100<=r.1.status/\r.1.status<=599/\4<=r.2.1)/\0<=r.1.status/\r.1.status<=599/\(r.1.minor=0\/r.1.minor=1)/\(r.2.2=0\/r.2.2=142\/r.2.2=161\/r.2.2=180\/r.2.2=191)
def UE (n:Nat){e:Int} (he:e=142\/e=161\/e=180\/e=191):AF5 n (Sl,0,e):=⟨⟨aK _,aK _⟩,bD _,by simp only;omega,λh=>by simp only at h;omega,bD 0,(by show(0:Int)<=599;decide),.inl rfl,.inr he⟩
def AQh{l:B8}{h:ApiHead} (e:OB l=some h):100<=h.status/\h.status<=599/\(h.minor=0\/h.minor=1)/\h.fields=[]:=by
 unfold OB at e;split at e
 ·unfold AEc at e;split at e
  ·split at e
   ·rename_i h2;cases e;refine⟨by simp only;omega,by simp only;omega,?_,rfl⟩;rcases h2.1 with rfl|rfl;·exact .inl rfl
    ·exact .inr rfl
   ·cases e
  ·cases e
 ·cases e
def AkJ (l:B8) (r:ApiHead×Int×Int):Prop:=r.2.2=0-> ∃k h,DW [13,10,13,10] (l.take 16384)=some k/\OB (JV (l.take k)).1=some h/\r.1.status=h.status
def Zn{l:B8} (hb:l.length<=100000000) (hN:1000010<N):O1 N l=D6 N l/\∃r,D6 N l=some r/\AF5 l.length r/\AkJ l r:=by
 unfold O1 D6;have s0:sub l 0 (if 16384<(l.length:Int)then 16384 else(l.length:Int))=some (l.take 16384):=by
  by_cases h:16384<(l.length:Int);·rw[an h];have:=A8 l 0 16384 fH fH;simpa using this
  ·rw[aj h];have:=A8 l 0 l.length fH fH;rw[aO,bB,cY]at this;rw[ba fH];exact this
 have hT:(l.take 16384).length<=16384:=by rw[bg];omega
 have hT2:(l.take 16384).length<=l.length:=by rw[bg];omega
 have hi:strings_Index N (l.take 16384) [13,10,13,10]=some (RZ [13,10,13,10] (l.take 16384)):=ApY fI fH;have hr:Ha N (l.take 16384) [13,10,13,10]=some (RZ [13,10,13,10] (l.take 16384)):=Ui fI (by simp only[ae,ap];omega) fH;rw[s0,aa,aa,hi,hr,aa,aa];unfold RZ;cases hf:DW [13,10,13,10] (l.take 16384)with
 |none=>
  simp only[AB];by_cases h:(l.length:Int)>16384;·simp only[aE h];exact⟨rfl,_,rfl,UE _ fH,λh=>absurd h fJ⟩
  ·simp only[aJ h];exact⟨rfl,_,rfl,UE _ fH,λh=>absurd h fJ⟩
 | some k=>
  obtain⟨hk1,hk2⟩:=PE hf;simp only[ae,ap]at hk1;have hneg:decide ((k:Int)<0)=false:=aJ fH;have w2:wr .i64 ((k:Int)+2)=((k+2:Nat):Int):=Ai fH;have w4:wr .i64 ((k:Int)+4)=((k+4:Nat):Int):=Ai fH;have p8:sub l 0 (k:Int)=some (l.take k):=by have:=A8 l 0 k fH fH;simpa using this
  have r4:sub (l.take 16384) 0 ((k+2:Nat):Int)=some (l.take k++Bg):=by
   have:=A8 (l.take 16384) 0 (k+2) fH fH;rw[aO,bB]at this;rw[show((0:Nat):Int)=0 from rfl]at this;rw[this,List.take_add];congr 2;·rw[fu];congr 1;omega
   ·have:=br (List.take 2) hk2;rw[fu]at this;exact this
  have hlk:(l.take k).length<=16384:=by rw[bg];omega
  obtain⟨n,hn1,hn2,hn3⟩:=ACH (l:=l.take k) fH;have hfn:Ha N (l.take k++Bg) [13,10]=some (n:Int):=by rw[<-hn1];exact Ui fI (by simp[Bg];omega) (by simp[Bg];omega)
  simp only[AB,hneg,w2,w4,aq,az,p8,r4,aa,hfn,hn2,AFX false (show(l.take k).length<=1000000 by omega)];have hc:=XR (l.take k);obtain⟨X,hX,hX2⟩:=ARm (N:=N) (l:=(JV (l.take k)).1) fH;rw[Anl fH,hX,aa,aa];cases hs:OB (JV (l.take k)).1 with|none=>exact⟨rfl,_,rfl,UE _ fH,λh=>absurd h fJ⟩|some h=>have hok:=AQh hs;rw[hX2 h hs];simp only[ci,aB,dy,hn3,aa];refine AaE (B:=16384) fH hN _ _ (λr=>AF5 l.length r/\AkJ l r) ?_ ⟨UE _ fH,λh=>absurd h fJ⟩ ⟨UE _ fH,λh=>absurd h fJ⟩ N h.fields (JV (l.take k)).2.1 (JV (l.take k)).2.2 (by rw[hok.2.2.2];exact aK _) (by rw[hok.2.2.2];simp only[ED,cv,List.sum_nil];omega) (by split<;>omega);intro fs hl hfs;exact⟨rfl,_,rfl,⟨hfs,by simp only;omega,by simp only;omega,λ_=>⟨hok.1,hok.2.1,by simp only;omega⟩,by simp only;omega,hok.2.1,hok.2.2.1,.inl rfl⟩,λ_=>⟨k,h,hf,hs,rfl⟩⟩
def ABn{l:B8} (hb:l.length<=100000000) (hN:1000010<N):O1 N l=D6 N l/\∃r,D6 N l=some r/\AF5 l.length r:=by obtain⟨h1,r,h2,h3,_⟩:=Zn (N:=N) hb hN;exact⟨h1,r,h2,h3⟩
def notE (c:UInt8):Bool:=!([13,10]:B8).contains c
def Jb (l:B8):Int:=if preB [13,10] l=true then 0 else if(l==[]||l==[13])=true then 191 else 190
def G7 (l:B8):B8:=l.takeWhile notE
def FM (l:B8):B8:=l.dropWhile notE
def Rw (l:B8):B8:=if Jb l=0 then l.drop 2 else l
def Amo (l:B8):G7 l++FM l=l:=bl
def ABl (l:B8):(G7 l).length+(FM l).length=l.length:=by have:=br List.length (Amo l);rwa[ah]at this
def WO (l:B8):l.drop (G7 l).length=FM l:=LB notE l
def AUG{l:B8} (h:preB [13,10] l=true):2<=l.length:=by obtain⟨t,rfl⟩:=QK h;simp
def AaY (x:UInt8) (t:B8):Jb (13::x::t)=if x=10 then 0 else 190:=by
 unfold Jb preB;rw[an (show([13,10]:B8).length<=(13::x::t).length from by simp)];by_cases h:x=10;·subst h;rw[an rfl];rfl
 ·have e:(List.take ([13,10]:B8).length (13::x::t)==([13,10]:B8))=false:=by show([13,x]==([13,10]:B8))=false;simpa using h
  rw[e,aj h];rfl
def Amg{l:B8} (h:Jb l=0):preB [13,10] l=true:=by
 unfold Jb at h;split at h;·assumption
 ·split at h<;>cases h
def ALE (l:B8):Jb l=0\/Jb l=191\/Jb l=190:=by
 unfold Jb;split;·exact .inl rfl
 ·split;·exact .inr (.inl rfl)
  ·exact .inr (.inr rfl)
def AZZ{l:B8} (s:Int):ES N ⟨l,s⟩=some (Jb l,⟨Rw l,s⟩):=by
 unfold ES;rw[VU,aa];simp only[AB];unfold Rw Jb;cases hp:preB [13,10] l
 ·simp only[aq,az];cases h:l==[];·cases h2:l==([13]:B8)<;>simp
  ·simp
 ·have:=Be (l:=l) (n:=2) (AUG hp);simp only[aB];rw[show((2:Nat):Int)=2 from rfl]at this;rw[this];rfl
def ACP{p:UInt8->Bool}: ∀l:B8,(∀c,c∈l->p c=true)->l.takeWhile p=l|[],_=>rfl|c::l,h=>by rw[bc,an (h c (.head _)),ACP l λd hd=>h d (.tail _ hd)]
def Ahi (l:B8):(if decide (AAc [13,10] l<0)=true then((l.length:Nat):Int)else AAc [13,10] l)=(((G7 l).length:Nat):Int):=by
 unfold AAc G7;by_cases h:l.any ([13,10]:B8).contains=true;·rw[an h,aj (by simp only[au];omega)];rfl
 ·rw[aj h,an fJ];have:l.takeWhile notE=l:=by refine ACP _ λc hc=>?_;unfold notE;simp only[List.any_eq_true,not_exists,not_and]at h;simpa using h c hc
  rw[this]
def AP7{l:B8} (s:Int) (hb:l.length<=1000000) (hN:20<=N):IM N ⟨l,s⟩=some (G7 l,Jb (FM l),⟨Rw (FM l),s⟩):=by
 unfold IM;rw[show strings_IndexAny N (BodyChunks.mk l s).rest [13,10]=some (AAc [13,10] l)from AWa hb hN,aa];simp only[AB];have hl:=ABl l;have key: ∀j:Int,j=(((G7 l).length:Nat):Int)->((sub l 0 j).bind λx7=>(sub l j (l.length:Int)).bind λx8=>(ES N ⟨x8,s⟩).bind λy9=>some (x7,y9.1,y9.2))=some (G7 l,Jb (FM l),⟨Rw (FM l),s⟩):=by rintro j rfl;have h1:=A8 l 0 (G7 l).length fH fH;rw[aO,bB]at h1;rw[show(0:Int)=((0:Nat):Int)from rfl,h1,Be fH,WO,aa,aa,AZZ,aa];congr 2;exact HZ notE l
 have ha:=Ahi l;split at ha;·rename_i h;rw[an h];exact key _ ha
 ·rename_i h;rw[aj h];exact key _ ha
theorem ABt (a:B8) (p:Nat) (hb:a.length<=1000000) (k2:Unit->Option (B8×Int×Int)) (hk:k2 ()=some ([],0,191)): ∀(k i:Nat),i+k=a.length->p<=i->H9 N a (p:Int) k2 k (i:Int)=if Jb (FM (a.drop i))=0 then some ((a.drop p).take (i-p+(G7 (a.drop i)).length),((i+(G7 (a.drop i)).length+2:Nat):Int),0)else some ([],0,Jb (FM (a.drop i)))
 |0,i,h,_=>by rw[H9,hk,bK fH];rfl
 | k+1,i,h,hp=>by
  have he:i<a.length:=fH;have hget:a[i]?=some a[i]:=aS he;rw[H9,Ea,hget,aa,bN he];have b10:(AJ a[i]==10)=(a[i]==10):=ABw a[i] 10;have b13:(AJ a[i]==13)=(a[i]==13):=ABw a[i] 13;rw[b10,b13];by_cases e10:a[i]=10
  ·rw[e10];have hl:FM (10::a.drop (i+1))=10::a.drop (i+1):=rfl;have hE:Jb (10::a.drop (i+1))=190:=by unfold Jb preB;cases a.drop (i+1)<;>rfl
   rw[an (show((10:UInt8)==10)=true from rfl),hl,hE];rfl
  ·rw[aj (by simpa using e10)];by_cases e13:a[i]=13
   ·rw[e13];have hl:FM (13::a.drop (i+1))=13::a.drop (i+1):=rfl;have ht:G7 (13::a.drop (i+1))=[]:=rfl;rw[an (show((13:UInt8)==13)=true from rfl),hl,ht];by_cases hl2:i+1=a.length;·rw[an (by rw[bf];omega),bK fH];rfl
    ·have he2:i+1<a.length:=fH;have hget2:a[i+1]?=some a[i+1]:=aS he2;rw[aj (by rw[bf];omega),show(i:Int)+1=((i+1:Nat):Int) by omega,Ea,hget2,aa,bN he2];have b10':(AJ a[i+1] !=10)=(a[i+1] !=10):=bnb a[i+1] 10;rw[b10'];by_cases e2:a[i+1]=10
     ·rw[e2];have hE:Jb (13::10::a.drop (i+1+1))=0:=by rw[AaY];rfl
      have w:wr .i64 ((i:Int)+2)=((i+2:Nat):Int):=Ai fH;rw[aj fJ,hE,an rfl,A8 a p i fH fH,aa,w];rfl
     ·have hE:Jb (13::a[i+1]::a.drop (i+1+1))=190:=by rw[AaY,aj e2]
      rw[an (by simpa using e2),hE];rfl
   ·rw[aj (by simpa using e13)];have hn:notE a[i]=true:=by unfold notE;simp[e10,e13]
    have ht:G7 (a[i]::a.drop (i+1))=a[i]::G7 (a.drop (i+1)):=by unfold G7;rw[bc,an hn]
    have hr:FM (a[i]::a.drop (i+1))=FM (a.drop (i+1)):=by unfold FM;rw[bX,an hn]
    rw[ht,hr,show(i:Int)+1=((i+1:Nat):Int) by omega,ABt a p hb k2 hk k (i+1) fH fH,ae];split
    ·congr 3;·omega
     ·omega
    ·rfl
def ABR{a:B8}{p:Nat} (hb:a.length<=1000000) (hp:p<=a.length):Ll N a (p:Int)=some (if Jb (FM (a.drop p))=0 then(G7 (a.drop p),((p+(G7 (a.drop p)).length+2:Nat):Int),0)else([],0,Jb (FM (a.drop p)))):=by
 unfold Ll;rw[AB,AO fH,show((a.length:Int)-(p:Int)).toNat=a.length-p by omega,ABt a p hb _ rfl (a.length-p) p fH (av _),dv,bI];split;·congr 2;exact HZ notE _
 ·rfl
def hxT (l:B8):B8:=l.takeWhile JX
def hxR (l:B8):B8:=l.dropWhile JX
def AFb (l:B8):Int:=if((Xp 4611686018427387904 (hxT l)).2 !=0)=true then 4611686018427387904 else(Xp 4611686018427387904 (hxT l)).1
def Md (l:B8):Int×Nat×Int:=match hxR l with|[]=>(0,0,191)|x::t=>if(hxT l==[]||!(x==59||x==13))=true then(0,0,190)else if Jb (FM (x::t))=0 then(AFb l,(hxT l).length+(G7 (x::t)).length+2,0)else(0,0,Jb (FM (x::t)))
def AtZ (l:B8):hxT l++hxR l=l:=bl
def ALB (l:B8):(hxT l).length+(hxR l).length=l.length:=by have:=br List.length (AtZ l);rwa[ah]at this
def Yh (l:B8):l.drop (hxT l).length=hxR l:=LB JX l
def AmP{c:UInt8} (h:JX c=true):notE c=true:=by
 have h1:c≠13:=λe=>by subst e;cases h
 have h2:c≠10:=λe=>by subst e;cases h
 unfold notE;simp[h1,h2]
def ArJ (l:B8): ∀c,c∈hxT l->JX c=true:=λc hc=>by
 induction l with
 |nil=>cases hc
 | cons x l ih=>
  unfold hxT at hc ih;rw[bc]at hc;split at hc
  ·rcases aM.1 hc with rfl|hc;·assumption
   ·exact ih hc
  ·cases hc
def ARZ: ∀(h t:B8),(∀c,c∈h->notE c=true)->G7 (h++t)=h++G7 t/\FM (h++t)=FM t|[],t,_=>⟨rfl,rfl⟩|c::h,t,hh=>by obtain⟨e1,e2⟩:=ARZ h t λd hd=>hh d (.tail _ hd);have hc:=hh c (.head _);unfold G7 FM at *;rw[bz,bc,bX,an hc,an hc,e1,e2];exact⟨rfl,rfl⟩
def Aj8 (l:B8):G7 l=hxT l++G7 (hxR l)/\FM l=FM (hxR l):=by have:=ARZ (hxT l) (hxR l) λc hc=>AmP (ArJ l c hc);rwa[AtZ]at this
def AFg{l:B8} (s:Int) (hb:l.length<=1000000) (k2:Int->Option (Int×BodyChunks)): ∀(k i:Nat),i<=l.length->l.length-i<k->Dy N ⟨l,s⟩ k2 k (i:Int)=k2 (((i+(hxT (l.drop i)).length:Nat):Int))
 |0,i,_,h=>by omega
 | k+1,i,hi,hk=>by
  rw[Dy];simp only[AB];by_cases he:i<l.length
  ·have hget:l[i]?=some l[i]:=aS he;rw[an (aE fH),Ea,hget,aa,AA1,aa,bN he];unfold hxT;rw[bc];cases hh:JX l[i];·rfl
   ·have w:wr .i64 ((i:Int)+1)=((i+1:Nat):Int):=Ai fH;rw[an rfl,w,AFg s hb k2 k (i+1) fH fH,an rfl,ae];unfold hxT;congr 2;omega
  ·rw[aj (by simp only[au];omega),bK fH];rfl
def AEk{a:B8} (hb:a.length<=1000000) (k2:Int->Option (Int×Int×Int)): ∀(k i:Nat),i<=a.length->a.length-i<k->JZ N a k2 k (i:Int)=k2 (((i+(hxT (a.drop i)).length:Nat):Int))
 |0,i,_,h=>by omega
 | k+1,i,hi,hk=>by
  rw[JZ];simp only[AB];by_cases he:i<a.length
  ·have hget:a[i]?=some a[i]:=aS he;rw[an (aE fH),Ea,hget,aa,AAu,aa,bN he];unfold hxT;rw[bc];cases hh:JX a[i];·rfl
   ·have w:wr .i64 ((i:Int)+1)=((i+1:Nat):Int):=Ai fH;rw[an rfl,w,AEk hb k2 k (i+1) fH fH,an rfl,ae];unfold hxT;congr 2;omega
  ·rw[aj (by simp only[au];omega),bK fH];rfl
def AaK{l:B8}{x:UInt8}{t:B8} (h:hxR l=x::t):l[(hxT l).length]?=some x:=by have:=Yh l;rw[h]at this;have h2:=br (·[0]?) this;simpa using h2
def Acw{l:B8} (s:Int) (hb:l.length<=1000000) (hN:1000010<=N): ∃b,JJ N ⟨l,s⟩=some ((Md l).2.2,b)/\((Md l).2.2=0->b=⟨l.drop (Md l).2.1,(Md l).1⟩):=by
 unfold JJ;simp only[AB];have hl:=ALB l;have hlp:=AFg (N:=N) (l:=l) s hb;rw[show(0:Int)=((0:Nat):Int)from rfl,hlp _ N 0 fH fH,aO,bI];have h1:=A8 l 0 (hxT l).length fH fH;rw[aO,bB]at h1;have h2:l.take (hxT l).length=hxT l:=HZ JX l;rw[h2]at h1;simp only[show((0:Nat):Int)=0 from rfl]at *;rw[h1,aa];unfold Md;cases hr:hxR l with
 |nil=>rw[hr,ap]at hl;rw[an (by rw[bf];omega)];exact⟨_,rfl,λh=>by cases h⟩
 | cons x t=>
  rw[hr,ae]at hl;have hx:=AaK hr;rw[aj (by rw[bf];omega)];have hz:((((hxT l).length:Nat):Int)==0)=(hxT l==[]):=by cases hxT l with|nil=>rfl|cons y u=>simp;omega
  rw[hz];have hib:strings_IndexByte N ([59,13]:B8) (AJ x)=some (Go.Lib.indexByte [59,13] x):=MC _ _;have hlt:decide (Go.Lib.indexByte [59,13] x<0)=!(x==59||x==13):=by
   have:=Js x [59,13];have e:([59,13]:B8).contains x=(x==59||x==13):=by rw[bC,bC,eR,di]
   rw[e]at this;rw[<-this];by_cases h0:Go.Lib.indexByte [59,13] x<0;·rw[aE h0,aJ fH];rfl
   ·rw[aJ h0,aE fH];rfl
  have hline:=Aj8 l;rw[hr]at hline;have hx':idx l (((hxT l).length:Nat):Int)=some x:=by rw[Ea];exact hx
  have hM:PN N (hxT l) 4611686018427387904=some (Xp 4611686018427387904 (hxT l)):=Akv (m:=4611686018427387904) fH _ fH;simp only[hx',aa,hib,hlt,AP7 (N:=N) (l:=l) s hb fH,hM];cases h0:hxT l==[]
  ·cases h5:(x==59||x==13);·exact⟨_,rfl,λh=>by cases h⟩
   ·simp only[be,bE,aq,az];rw[hline.2];by_cases hE:Jb (FM (x::t))=0
    ·rw[an hE,aj (by rw[hE];decide)];unfold AFb;have hd:Rw (FM (x::t))=l.drop ((hxT l).length+(G7 (x::t)).length+2):=by unfold Rw;rw[an hE,<-aT,<-aT,Yh,hr,WO]
     rw[hd];cases ((Xp 4611686018427387904 (hxT l)).2 !=0);·exact⟨_,rfl,λ_=>rfl⟩
     ·exact⟨_,rfl,λ_=>rfl⟩
    ·rw[aj hE,an (by simpa using hE)];exact⟨_,rfl,λh=>absurd h hE⟩
  ·exact⟨_,rfl,λh=>by cases h⟩
def Ajc{a:B8}{p:Nat} (hb:a.length<=1000000) (hp:p<=a.length) (hN:1000010<=N):Qm N a (p:Int)=some (if(Md (a.drop p)).2.2=0 then((Md (a.drop p)).1,((p+(Md (a.drop p)).2.1:Nat):Int),0)else(0,0,(Md (a.drop p)).2.2)):=by
 unfold Qm;simp only[AB];have hl:=ALB (a.drop p);have hal:(a.drop p).length=a.length-p:=aP;rw[AEk hb _ N p hp fH];unfold Md;have hdd: ∀i,a.drop (p+i)=(a.drop p).drop i:=λi=>by rw[aT]
 have h1:=A8 a p (p+(hxT (a.drop p)).length) fH fH;rw[show p+(hxT (a.drop p)).length-p=(hxT (a.drop p)).length by omega,show(a.drop p).take (hxT (a.drop p)).length=hxT (a.drop p)from HZ JX (a.drop p)]at h1;cases hr:hxR (a.drop p)with
 |nil=>rw[hr,ap]at hl;rw[an (by rw[bf];omega)];rfl
 | cons x t=>
  rw[hr,ae]at hl;have hx:=AaK hr;have hx':idx a (((p+(hxT (a.drop p)).length:Nat):Int))=some x:=by rw[Ea,<-bV];exact hx
  rw[aj (by rw[bf];omega)];have hz:((((p+(hxT (a.drop p)).length:Nat):Int))==(p:Int))=(hxT (a.drop p)==[]):=by cases hxT (a.drop p)with|nil=>simp|cons y u=>simp;omega
  have b59:(AJ x !=59)=(x !=59):=bnb x 59;have b13:(AJ x !=13)=(x !=13):=bnb x 13;have hline:Ll N a (((p+(hxT (a.drop p)).length:Nat):Int))=some (if Jb (FM (x::t))=0 then(G7 (x::t),((p+(hxT (a.drop p)).length+(G7 (x::t)).length+2:Nat):Int),0)else([],0,Jb (FM (x::t)))):=by rw[ABR hb fH,hdd,Yh,hr]
  have hM:QX N (hxT (a.drop p)) 4611686018427387904=some (Xp 4611686018427387904 (hxT (a.drop p))):=AlG (m:=4611686018427387904) fH fH _ fH;rw[hz];simp only[hx',aa,b59,b13,hline,hM];have h1':sub a (p:Int) (((p+(hxT (a.drop p)).length:Nat):Int))=some (hxT (a.drop p)):=h1;unfold AFb;cases h0:hxT (a.drop p)==[]
  ·cases h5:x==59
   ·cases h6:x==13;·simp[bne,h5,h6]
    ·by_cases hE:Jb (FM (x::t))=0;·simp only[bne,h5,h6,hE,h1',hM,aB,bE,bA,be,fD,aq,az,aa];(generalize Xp 4611686018427387904 (hxT (a.drop p))=P;by_cases hP:P.2=0<;>simp[hP]<;>omega)
     ·have:(Jb (FM (x::t))==0)=false:=by simpa using hE
      simp[bne,h5,h6,hE,this]
   ·by_cases hE:Jb (FM (x::t))=0;·simp only[bne,h5,hE,h1',hM,aB,bE,bA,be,cN,aq,az,aa];(generalize Xp 4611686018427387904 (hxT (a.drop p))=P;by_cases hP:P.2=0<;>simp[hP]<;>omega)
    ·have:(Jb (FM (x::t))==0)=false:=by simpa using hE
     simp[bne,h5,hE,this]
  ·rfl
def ABf{l:B8} (h:Jb l=0):2<=l.length:=AUG (Amg h)
def AgC{a:B8}{p:Nat} (hp:p<=a.length) (h:Jb (FM (a.drop p))=0):Rw (FM (a.drop p))=a.drop (p+(G7 (a.drop p)).length+2)/\p+(G7 (a.drop p)).length+2<=a.length:=by have h1:=ABf h;have h2:=ABl (a.drop p);rw[aP]at h2;refine⟨?_,fH⟩;unfold Rw;rw[an h,<-WO,aT,aT,cG]
theorem ACe{a:B8} (hb:a.length<=1000000) (hN:1000010<=N) (buf:B8) (ad:Bool) (b0:BodyChunks) (s:Int): ∀(k p:Nat),p<=a.length->a.length-p<k->∃e:Int,(e=0\/e=191\/e=190)/\F6 N (b0,ad,buf) k ⟨a.drop p,s⟩=some (if e=0 then(buf,0)else([],e))/\GZ N a k (p:Int)=some e
 |0,p,_,h=>absurd h (cq _)
 | k+1,p,hp,hk=>by
  rw[F6,GZ,AP7 s (by rw[aP];omega) fH,aa,ABR hb hp,aa];simp only[AB];have ho:=ALE (FM (a.drop p));by_cases hE:Jb (FM (a.drop p))=0
  ·obtain⟨n1,n2⟩:=AgC hp hE;have z:((0:Int) !=0)=false:=rfl;simp only[n1,hE,aB,z,aq,az];by_cases ht:(G7 (a.drop p)==[])=true;·simp only[ht,aB];exact⟨0,.inl rfl,rfl,rfl⟩
   ·simp only[ht,az];exact ACe hb hN buf ad b0 s k (p+(G7 (a.drop p)).length+2) n2 fH
  ·rw[aj hE,an (by simpa using hE),an (by simpa using hE)];refine⟨_,ho,?_,rfl⟩;rw[aj hE]
def Ajs (m:Nat) (l:B8):0<=(Xp m l).1/\(Xp m l).1<=m:=by
 unfold Xp;split;·exact⟨bD 0,fH⟩
 ·split
  ·split;·exact⟨by simp only;omega,by simp only;omega⟩
   ·exact⟨bD 0,fH⟩
  ·exact⟨bD 0,fH⟩
def AgK (l:B8):0<=AFb l/\AFb l<=4611686018427387904:=by unfold AFb;have:=Ajs 4611686018427387904 (hxT l);split<;>omega
def Abk (l:B8):0<=(Md l).1/\(Md l).1<=4611686018427387904/\((Md l).2.2=0->(Md l).2.1<=l.length/\2<=(Md l).2.1)/\((Md l).2.2=0\/(Md l).2.2=191\/(Md l).2.2=190):=by
 have hl:=ALB l;unfold Md;cases hr:hxR l with
 |nil=>exact⟨bD 0,(by show(0:Int)<=4611686018427387904;decide),nofun,.inr (.inl rfl)⟩
 | cons x t=>
  rw[hr]at hl;simp only;split;·exact⟨bD 0,(by show(0:Int)<=4611686018427387904;decide),nofun,.inr (.inr rfl)⟩
  ·split;·rename_i hE;have h2:=ABf hE;have h3:=ABl (x::t);have h4:=AgK l;exact⟨h4.1,h4.2,λ_=>by simp only;omega,.inl rfl⟩
   ·rename_i hE;exact⟨bD 0,(by show(0:Int)<=4611686018427387904;decide),λh=>absurd h hE,ALE _⟩
def AlN{l:B8} (h:Jb l=0):G7 l=[]/\FM l=l:=by obtain⟨t,rfl⟩:=QK (Amg h);exact⟨rfl,rfl⟩
def AkI{l:B8} (h:G7 l=[]):FM l=l:=by have:=Amo l;rwa[h]at this
theorem ACZ{a:B8} (hb:a.length<=1000000) (hN:1000010<=N){lim:Int} (hlim:0<=lim): ∀(k p:Nat) (s:Int) (ad:Bool) (buf:B8),p<=a.length->a.length-p<k->buf.length+(a.length-p)<=1000000->∃r,F4 N lim (λj1=>F6 N j1 N j1.1) k (a.drop p) s ad buf=some r/\FD N a lim k buf (p:Int)=some r/\r.1.length<=buf.length+(a.length-p)/\(r.2=0\/r.2=142\/r.2=191\/r.2=190)/\(r.2≠0->r.1=[])
 |0,p,s,ad,buf,_,h,_=>absurd h (cq _)
 | k+1,p,s,ad,buf,hp,hk,hbuf=>by
  have hal:(a.drop p).length=a.length-p:=aP;obtain⟨b,hb1,hb2⟩:=Acw (N:=N) (l:=a.drop p) s fH hN;obtain⟨r1,r2,r3,r4⟩:=Abk (a.drop p);rw[F4,FD,hb1,aa,Ajc hb hp hN,aa];simp only[AB];by_cases h0:(Md (a.drop p)).2.2=0
  ·obtain⟨c1,c2⟩:=r3 h0;have hb3:=hb2 h0;subst hb3;have z:((0:Int) !=0)=false:=rfl;have zl:decide (lim<0)=false:=aJ fH;simp only[h0,aB,z,zl,aq,az];generalize hc:(Md (a.drop p)).2.1=c at *;generalize hz:(Md (a.drop p)).1=z at *;have hL:Jd N ⟨ad,buf⟩=some ((buf.length:Int),⟨ad,buf⟩):=rfl;rw[hL,aa];by_cases hov:decide (z>wr .u64 (wr .i64 (lim-(buf.length:Int))))=true;·simp only[hov,aB];exact⟨_,rfl,rfl,aK _,.inr (.inl rfl),λ_=>rfl⟩
   ·simp only[hov,az];by_cases hz0:(z==0)=true
    ·simp only[hz0,aB,aT];obtain⟨e,e1,e2,e3⟩:=ACe hb hN buf ad ⟨a.drop (p+c),z⟩ z N (p+c) fH fH;rw[e2];unfold PW;rw[e3,aa];by_cases he:e=0;·subst he;exact⟨_,rfl,rfl,by simp only[aB];omega,.inl rfl,λh=>absurd rfl h⟩
     ·have he2:(e !=0)=true:=by simpa using he
      simp only[he,he2,aB,az];exact⟨_,rfl,rfl,aK _,by simp only;omega,λ_=>rfl⟩
    ·simp only[hz0,az,aT];have hal2:(a.drop (p+c)).length=a.length-(p+c):=aP;have hz1:z≠0:=by simpa using hz0
     have w1:wr .u64 ((a.drop (p+c)).length:Int)=((a.length-(p+c):Nat):Int):=by rw[hal2,FV fH]
     have w2:wr .i64 ((a.length:Int)-((p+c:Nat):Int))=((a.length-(p+c):Nat):Int):=by rw[Ai fH];omega
     have w3:wr .i64 z=z:=Ai fH;rw[w1,w2,w3];by_cases hlt:((a.length-(p+c):Nat):Int)<z;·simp only[aE hlt,aB];exact⟨_,rfl,rfl,aK _,.inr (.inr (.inl rfl)),λ_=>rfl⟩
     ·obtain⟨n,rfl⟩: ∃n:Nat,z=(n:Int):=⟨z.toNat,fH⟩;simp only[aJ hlt,aq,az];have s1:=A8 (a.drop (p+c)) 0 n fH fH;rw[aO,bB]at s1;have w4:wr .i64 (((p+c:Nat):Int)+(n:Int))=((p+c+n:Nat):Int):=by rw[Ai fH];omega
      have s2:=A8 a (p+c) (p+c+n) fH fH;rw[show p+c+n-(p+c)=n by omega]at s2;have hx:((a.drop (p+c)).take n).length=n:=by rw[bg];omega
      simp only[show((0:Nat):Int)=0 from rfl]at s1;rw[s1,aa,w4,s2,aa,QC _ _ _ fH,aa,Be fH,aa,aT,AZZ,aa,A9 fH,ABR hb fH,aa];generalize hq:p+c+n=q at *;have ho:=ALE (a.drop q);by_cases hE:Jb (a.drop q)=0
      ·obtain⟨t1,t2⟩:=AlN hE;have hl2:=ABf hE;rw[aP]at hl2;have hA:Rw (a.drop q)=a.drop (q+2):=by unfold Rw;rw[an hE,aT]
       simp only[t1,t2,hE,hA,aB,z,aq,az];have ih:=ACZ hb hN hlim k (q+2) (n:Int) true (buf++(a.drop (p+c)).take n) fH fH (by rw[ah,hx];omega);obtain⟨r,i1,i2,i3,i4⟩:=ih;refine⟨r,i1,?_,?_,i4⟩;·exact i2
       ·rw[ah,hx]at i3;omega
      ·have hE2:(Jb (a.drop q) !=0)=true:=by simpa using hE
       simp only[hE2,aB];have hno: ¬(Jb (FM (a.drop q))=0/\G7 (a.drop q)=[]):=λh=>hE (by rw[AkI h.2]at h;exact h.1);have hxs:sub a (q:Int) (a.length:Int)=some (a.drop q):=Be fH;have hEv:(if(a.drop q==[])=true then some (([]:B8),(191:Int))else if(a.drop q==[13])=true then some ([],191)else some ([],190))=some ([],Jb (a.drop q)):=by
        have hpf: ¬preB [13,10] (a.drop q)=true:=λh=>hE (by unfold Jb;rw[an h]);unfold Jb;rw[aj hpf];cases a.drop q==[];·cases a.drop q==([13]:B8)<;>rfl
        ·rfl
       refine⟨_,rfl,?_,aK _,by simp only;omega,λ_=>rfl⟩;by_cases h1:Jb (FM (a.drop q))=0
       ·have h2:(G7 (a.drop q)==[])=false:=by rw[bv];exact λh=>hno ⟨h1,h⟩
        have z0:((0:Int)==0)=true:=rfl;simp only[h1,h2,aB,z0,aq,az,hxs,aa];exact hEv
       ·have h3:(Jb (FM (a.drop q))==0)=false:=by simpa using h1
        simp only[h1,h3,aq,az,hxs,aa];exact hEv
  ·rw[aj h0,an (by simpa using h0),an (by simpa using h0)];exact⟨_,rfl,rfl,aK _,by simp only;omega,λ_=>rfl⟩
def AHr{a:B8} (hb:a.length<=1000000) (hN:1000010<=N){lim:Int} (hlim:0<=lim): ∃r,OX N a lim=some r/\KZ N a lim=some r/\r.1.length<=a.length/\(r.2=0\/r.2=142\/r.2=191\/r.2=190)/\(r.2≠0->r.1=[]):=by obtain⟨r,h1,h2,h3,h4⟩:=ACZ hb hN hlim N 0 0 false [] (aK _) fH fK;refine⟨r,?_,h2,by simpa using h3,h4⟩;unfold OX;rw[AB];exact h1
def FN:Nat->B8->Option (List (Bool×UInt8))|0,_=>none|_+1,[]=>some []|k+1,c::t=>if c=37 then(match NU t with|some x=>(FN k (t.drop 2)).map ((true,x):: ·)|none=>none)else(FN k t).map ((false,c):: ·)
def AN8: ∀(k k':Nat) (t:B8),t.length<k->t.length<k'->FN k t=FN k' t
 |0,_,_,h,_=>by omega
 |_,0,_,_,h=>by omega
 |k+1,k'+1,[],_,_=>rfl
 |k+1,k'+1,c::t,h,h'=>by
  simp only[ae]at h h';rw[FN,FN];split;·cases he:NU t with|none=>rfl|some x=>simp only;rw[AN8 k k' (t.drop 2) (by grind) (by grind)]
  ·rw[AN8 k k' t fH fH]
def unS (t:B8):Option (List (Bool×UInt8)):=FN (t.length+1) t
def AWE{k:Nat}{t:B8} (h:t.length<k):FN k t=unS t:=AN8 k _ t h (fa _)
theorem ZJ: ∀(k:Nat) (t out:B8),t.length<k->UY k t out=(match FN k t with|some us=>(out++us.map (·.2),0)|none=>([],2))
 |0,_,_,h=>by omega
 |k+1,[],out,_=>by simp[UY,FN]
 |k+1,c::t,out,h=>by
  simp only[ae]at h;rw[UY,FN];split;·cases he:NU t with|none=>rfl|some x=>simp only;rw[ZJ k (t.drop 2) (out++[x]) (by grind)];cases FN k (t.drop 2)<;>simp
  ·rw[ZJ k t (out++[c]) fH];cases FN k t<;>simp
def nuC (u:Bool×UInt8):B8:=if u.1=true then(if FY u.2=true then [u.2]else NZ u.2)else [u.2]
def okN (also:B8) (u:Bool×UInt8):Bool:=u.1||(FY u.2||also.contains u.2)
def AMT (also:B8): ∀(k:Nat) (t out:B8) (us:List (Bool×UInt8)),t.length<k->FN k t=some us->Ub also k t out=if us.all (okN also)=true then(out++us.flatMap nuC,0)else([],1)
 |0,_,_,_,h,_=>by omega
 |k+1,[],out,us,_,hu=>by grind[FN,Ub]
 | k+1,c::t,out,us,h,hu=>by
  simp only[ae]at h;rw[FN]at hu;rw[Ub];split at hu;·rename_i hc;rw[an hc];cases he:NU t with|none=>grind|some x=>rw[he]at hu;simp only[aV]at hu;obtain⟨vs,hv,rfl⟩:=hu;simp only;rw[AMT also k (t.drop 2) _ vs (by grind) hv,aQ,show okN also (true,x)=true from rfl,bQ,aR,<-aH];rfl
  ·rename_i hc;rw[aj hc];simp only[aV]at hu;obtain⟨vs,hv,rfl⟩:=hu;have ih:=AMT also k t (out++[c]) vs fH hv;cases AX:(FY c||also.contains c);·simp_all[okN]
   ·rw[an rfl,ih,aQ,show okN also (false,c)=true from AX,bQ,aR,<-aH];rfl
def AuB:JX 58=false:=fJ
def AiT{p r:B8} (h58: ∀x,x∈p->x≠58):NU (p++58::r)=NU p/\(NU p≠none->2<=p.length):=by
 match p with
 |[]=>refine⟨?_,λh=>absurd rfl h⟩;cases r with|nil=>rfl|cons y r=>simp[NU,AuB]
 |[a]=>exact⟨by simp[NU,AuB],λh=>absurd rfl h⟩
 |a::b::q=>exact⟨rfl,λ_=>by simp⟩
theorem ABs: ∀(k:Nat) (p r:B8),(p++58::r).length<k->(∀x,x∈p->x≠58)->FN k (p++58::r)=(unS p).bind λu=>(unS r).map λv=>u++(false,58)::v
 |0,_,_,h,_=>by omega
 |k+1,[],r,h,_=>by simp only[bm,ae]at h;rw[bm,FN,aj fJ,AWE fH];have:unS []=some []:=rfl;grind
 |k+1,c::p,r,h,h58=>by
  simp only[bz,ae,ah]at h;have hp58: ∀x,x∈p->x≠58:=λx AX=>h58 x (by grind);rw[bz,FN];have hunS:unS (c::p)=if c=37 then(match NU p with|some x=>(FN (p.length+1) (p.drop 2)).map ((true,x):: ·)|none=>none)else(FN (p.length+1) p).map ((false,c):: ·):=rfl;rw[hunS];obtain⟨e1,e2⟩:=AiT (r:=r) hp58;split;·rw[e1];cases he:NU p with|none=>rfl|some x=>have h2:2<=p.length:=e2 (by grind);simp only;rw[cy h2,ABs k (p.drop 2) r (by grind) (λy hy=>hp58 y (cx hy)),AWE (t:=p.drop 2) (by grind)];cases unS (p.drop 2)with|none=>rfl|some u=>cases unS r<;>rfl
  ·rw[ABs k p r (by grind) hp58,AWE (t:=p) fH];cases unS p with|none=>rfl|some u=>cases unS r<;>rfl
def AHF (x:UInt8) (AX:JX x=false) (h37:x≠37): ∀(k:Nat) (t:B8) (us:List (Bool×UInt8)),FN k t=some us->t.contains x=us.any λu=>!u.1&&u.2==x
 |0,_,_,h=>by cases h
 |k+1,[],us,h=>by grind[FN]
 | k+1,c::t,us,h=>by
  rw[FN]at h;split at h
  ·rename_i hc;match t,h with
   |[],h=>cases h
   |[_],h=>cases h
   | a::b::r,h=>
    simp only[NU]at h;by_cases hh:(JX a&&JX b)=true
    ·rw[an hh]at h;simp only[aV]at h;obtain⟨vs,hv,rfl⟩:=h;have ih:=AHF x AX h37 k r vs hv;rw[aw]at hh;have ha:(x==a)=false:=by simp only[bv,ek];rintro rfl;grind
     have hb:(x==b)=false:=by simp only[bv,ek];rintro rfl;grind
     simp_all
    simp_all
  ·simp only[aV]at h;obtain⟨vs,hv,rfl⟩:=h;rw[bC,AHF x AX h37 k t vs hv,bT];congr 1;simp only[bA,bQ];grind
def AXD (f:UInt8->Bool) (hf: ∀c,JX c=true->f c=true) (h37:f 37=true): ∀(k:Nat) (t:B8) (us:List (Bool×UInt8)),FN k t=some us->t.all f=us.all λu=>u.1||f u.2
 |0,_,_,h=>by cases h
 |k+1,[],us,h=>by grind[FN]
 | k+1,c::t,us,h=>by
  rw[FN]at h;split at h
  ·rename_i hc;match t,h with
   |[],h=>cases h
   |[_],h=>cases h
   |a::b::r,h=>
    simp only[NU]at h;by_cases hh:(JX a&&JX b)=true;·rw[an hh]at h;simp only[aV]at h;obtain⟨vs,hv,rfl⟩:=h;have ih:=AXD f hf h37 k r vs hv;simp_all
    simp_all
  ·simp only[aV]at h;obtain⟨vs,hv,rfl⟩:=h;rw[aQ,AXD f hf h37 k t vs hv,aQ];simp
def Es (c:UInt8):Bool:=Me c||(GH c||([46,45,95]:B8).contains c)
def AE8 (c:UInt8):Nn N (AJ c)=some (Es c):=by unfold Nn Es;rw[U6,aa,VO,aa,ACt c _ fJ,aa];cases Me c<;>cases GH c<;>rfl
def WF (c:UInt8):(FY c=(Es c||c==126))/\(Es c=true->c≠37/\c≠58/\c≠126)/\(JX c=true->Es c=true):=by have key:=Bt (f:=λn=>(FY (UInt8.ofNat n)==(Es (UInt8.ofNat n)||UInt8.ofNat n==126))&&((!Es (UInt8.ofNat n))||(decide (UInt8.ofNat n≠37)&&decide (UInt8.ofNat n≠58)&&decide (UInt8.ofNat n≠126)))&&((!JX (UInt8.ofNat n))||Es (UInt8.ofNat n))) (g:=λ_=>true) (by kernel_rfl) c;simp only[bP,aw,ce,eS,bf,au]at key;grind
def IX (b:UInt8):B8:=if Es b=true then [b]else NZ b
theorem Og (b:UInt8):(IX b).length<=3/\1<=(IX b).length:=by unfold IX;split<;>simp[NZ]
def AQi:UInt8->B8:=AAf [37,55,69] 126
def Aj9 (b:UInt8):(NZ b).flatMap AQi=NZ b:=by have key:=Bt (f:=λn=>decide (([37,Tw (n / 16),Tw (n % 16)]:B8).flatMap AQi=[37,Tw (n / 16),Tw (n % 16)])) (g:=λ_=>true) (by kernel_rfl) b;simp only[au]at key;exact key
theorem AaX (b:UInt8):(if FY b=true then [b]else NZ b).flatMap AQi=IX b:=by
 obtain⟨k1,k2,_⟩:=WF b;unfold IX;rw[k1];cases hp:Es b
 ·by_cases h:b=126;·subst h;rfl
  ·rw[show(b==126)=false by grind,di,aj fJ,Aj9]
 ·obtain⟨_,_,h3⟩:=k2 hp;rw[cN,an rfl];simp[AQi,AAf,h3]
def Anm (b:UInt8):(P8 [] b).flatMap AQi=IX b:=by grind[AaX,P8]
def guC (u:Bool×UInt8):B8:=if u.1=true then IX u.2 else [u.2]
def Vf (u:Bool×UInt8):Bool:=u.1||(Es u.2||u.2==58)
def Auv{u:Bool×UInt8} (h:Vf u=true):(nuC u).flatMap AQi=guC u:=by
 obtain⟨e,c⟩:=u;unfold nuC guC;cases e
 ·simp only[aq,az];have hc:c≠126:=by rintro rfl;simp only[Vf,be]at h;exact absurd h fJ
  simp[AQi,AAf,hc]
 ·simp only[aB];exact AaX c
def Ace{us:List (Bool×UInt8)} (h:us.all Vf=true):(us.flatMap nuC).flatMap AQi=us.flatMap guC:=by induction us with|nil=>rfl|cons u us ih=>rw[aQ,aw]at h;rw[aR,cV,Auv h.1,ih h.2,aR]
def Qv (s:B8):B8×Int:=match unS s with|none=>([],2)|some us=>if us.all Vf=true then(us.flatMap guC,0)else([],1)
def AyN (us:List (Bool×UInt8)):(us.all (okN [58])&&!(us.any λu=>!u.1&&u.2==126))=us.all Vf:=by
 induction us with
 |nil=>rfl
 | cons u us ih=>
  rw[aQ,bT,aQ,<-ih];obtain⟨e,c⟩:=u;obtain⟨k1,k2,_⟩:=WF c;have hu:(okN [58] (e,c)&&!(!e&&c==126))=Vf (e,c):=by
   unfold okN Vf;cases e;·simp only[be,bA,bQ];grind
   ·simp
  rw[<-hu];cases okN [58] (e,c)<;>cases (!e&&c==126)<;>cases us.all (okN [58])<;>cases (us.any λu=>!u.1&&u.2==126)<;>rfl
def ArB (s:B8) (hb:s.length<=16000) (hN:20000<=N): ∃v,M3 N s=some (v,(Qv s).2)/\((Qv s).2=0->v=(Qv s).1):=by
 unfold M3;have hd:Ao N s=UY N s []:=by unfold Ao;grind
 have hn:EP N s [58]=Ub [58] N s []:=by unfold EP;grind
 have hun:FN N s=unS s:=AWE fH;rw[PP _ _ hN,aa,Ta _ hN,aa,hd,hn,ZJ N s [] fH,hun];dsimp only[AB];unfold Qv;cases hu:unS s with
 |none=>simp
 | some us=>
  simp only;rw[aj fJ,AMT [58] N s [] us fH (by grind),ATW,aa];have h126:s.contains 126=us.any λu=>!u.1&&u.2==126:=AHF 126 fJ fJ _ s us hu;have hk:=AyN us;rw[<-h126]at hk;have hlen:=NF (N:=N) s [58];rw[hn,AMT [58] N s [] us fH (by grind)]at hlen;cases h1:us.all (okN [58]);·rw[h1,Bool.false_and]at hk;rw[<-hk];simp only[aq,az];rw[aj fJ,Re _ _ _ rfl fI,aa];simp
  ·rw[h1,bQ]at hk;rw[h1]at hlen;simp only[aB,bm]at hlen⊢;rw[an fJ];cases h2:s.contains 126;·rw[h2]at hk;rw[<-hk];simp only[bA,aq,az,aB];rw[Re _ _ _ rfl fH,aa];exact⟨_,rfl,λ_=>Ace hk.symm⟩
   ·rw[h2]at hk;rw[<-hk];simp only[bE,aq,az,aB];rw[Re _ _ _ rfl fH,aa];simp
end
end Go.VM
