import Derived.Test.YtalbfkgififmfaaGreatDoorL3
set_option linter.defProp false
set_option linter.unusedVariables false
set_option linter.unusedSimpArgs false
namespace Go.VM
section
variable{N:Nat}
def AUG (c:UInt8) (l:B8):strings_Contains N l [c]=some (l.contains c):=by unfold strings_Contains;rw[AKd,aa,IV]
def Ayk{c:UInt8}{l:B8} (hb:l.length<=1000000):decide ((((l.takeWhile λx=>!([c]:B8).contains x).length:Nat):Int)<(l.length:Int))=l.contains c:=by grind[bne,Vl,PE]
theorem AOw (also:B8): ∀(k:Nat) (t out:B8),(VP also k t out).1.length<=out.length+t.length
 |0,t,out=>by simp[VP]
 |k+1,[],out=>by simp[VP]
 | k+1,c::t,out=>by
  rw[VP];split;·cases h:OI t with|none=>simp|some x=>have h2:=WP h;have:=AOw also k (t.drop 2) (out++(if Eh x=true then [x]else OO x));grind[Eh,OO]
  ·split;·have:=AOw also k t (out++[c]);grind
   ·simp
def Jo (s also:B8):(De N s also).1.length<=s.length:=by grind[De,AOw]
def MO (u:As):B8:=if u.b=true then u.c++[63]++u.h else u.c
def Hw (u:As):B8:=if u.f=true then([104,116,116,112,115,58,47,47]++hpF u.d u.g)++MO u++([35]++u.a)else([104,116,116,112,115,58,47,47]++hpF u.d u.g)++MO u
def AWo (u:As) (h:u.c.length<=1000000/\u.h.length<=1000000):LX N u=some (MO u):=by
 unfold LX MO;cases u.b;·rfl
 ·rw[an rfl,an rfl,Ap (by grind),Ap (by grind)]
def ZH (u:As) (h:u.c.length<=1000000/\u.h.length<=1000000):IE N u=some (MO u):=by
 unfold IE MO;cases u.b;·rfl
 ·rw[an rfl,an rfl,Ap (by grind),Ap (by grind)]
def ADB (u:As):(MO u).length<=u.c.length+u.h.length+1:=by grind[MO]
def Um (u:As):Prop:=QC u.g/\u.d.length<=1000000/\u.c.length<=1000000/\u.h.length<=1000000/\u.a.length<=1000000
def WI (u:As) (h:Um u) (hN:20<=N):Ev N u=some (Hw u):=by
 obtain⟨h1,h2,h3,h4,h5⟩:=h;have hh:=WU u.d u.g;have ht:=ADB u;unfold Ev Lh Hw;rw[aa,AwD _ _ h1 h2 hN,aa,Ap fP,AWo u ⟨h3,h4⟩,aa,Ap fP];dsimp only[AB];cases u.f;·rfl
 ·rw[an rfl,an rfl,Ap (by grind),Ap fP]
def Rz (u:As) (h:Um u) (hN:20<=N):C8 N u=some (Hw u):=by
 obtain⟨h1,h2,h3,h4,h5⟩:=h;have hh:=WU u.d u.g;have ht:=ADB u;unfold C8 RQ Hw;rw[aa,Aw8 _ _ h1 h2 hN,aa,Ap fP,ZH u ⟨h3,h4⟩,aa,Ap fP];dsimp only[AB];cases u.f;·rfl
 ·rw[an rfl,an rfl,Ap (by grind),Ap fP]
theorem AU6 (r:B8):(Pk r).1.length<=r.length/\(Pk r).2.1.length<=r.length:=by grind[Pk,List.dropWhile_sublist,UK,List.length_drop]
def AuU (a b:B8):(XJ a b).k.length<=b.length/\(XJ a b).c.length<=b.length/\(XJ a b).h.length<=b.length/\(XJ a b).a.length<=b.length:=by grind[FZ,Ac,AU6,XJ]
def inP:B8:=[33,36,38,39,40,41,42,43,44,59,61,58,64,47]
def inQ:B8:=[33,36,38,39,40,41,42,43,44,59,61,58,64,47,63]
def Ka:As:=⟨[],0,[],[],[],false,false⟩
def TA (N:Nat) (p:B8):B8:=if Ll N p []=[]then [47]else Ll N p []
def AAx (N:Nat) (U:AT):As×Int:=if U.j=false then(Ka,71)else if U.k.contains 64=true then(Ka,70)else if((hpS U.k).2 !=0)=true then(Ka,(hpS U.k).2)else if((De N U.c inP).2 !=0)=true then(Ka,(De N U.c inP).2)else if((De N U.h inQ).2 !=0)=true then(Ka,(De N U.h inQ).2)else if((De N U.a inQ).2 !=0)=true then(Ka,(De N U.a inQ).2)else if(Hw ⟨(hpS U.k).1.d,(hpS U.k).1.g,TA N (De N U.c inP).1,(De N U.h inQ).1,(De N U.a inQ).1,U.b,U.f⟩).length>4096 then(Ka,5)else(⟨(hpS U.k).1.d,(hpS U.k).1.g,TA N (De N U.c inP).1,(De N U.h inQ).1,(De N U.a inQ).1,U.b,U.f⟩,0)
def XI (N:Nat) (a b:B8):As×Int:=if(a++58::b).length>4096 then(Ka,5)else AAx N (XJ a b)
def Yh (p:B8):(TA N p).length<=p.length+1:=by grind[PP,List.length_nil,TA]
def AqL{a:B8} (h:NP a):(a.map DL==List.map DL [104,116,116,112,115])=true:=by rw[h];decide
def AE4 (N:Nat) (s:B8):As×Int:=if s.length>4096 then(Ka,5)else if((OH s).2 !=0)=true then(Ka,(OH s).2)else if(!((OH s).1.s&&((OH s).1.t.map DL==List.map DL [104,116,116,112,115])))=true then(Ka,60)else AAx N (OH s).1
def Avo{d a r:B8} (h:AFc d=some (a,r)):a.length<=d.length/\r.length<=d.length:=by
 unfold AFc at h;split at h;·cases h;have:=br List.length (Vw d);grind
 grind
theorem TH (s:B8):(OH s).1.k.length<=s.length/\(OH s).1.c.length<=s.length/\(OH s).1.h.length<=s.length/\(OH s).1.a.length<=s.length/\(OH s).1.t.length<=s.length:=by
 have hc1:=FZ 35 s;have hc2:=FZ 63 (Ac 35 s).1;unfold OH;split;·simp[AgP]
 generalize hd:(Ac 63 (Ac 35 s).1).1=d at *;have key: ∀a h r,r.length<=d.length->a.length<=s.length->(usT s a h r).k.length<=s.length/\(usT s a h r).c.length<=s.length/\(usT s a h r).h.length<=s.length/\(usT s a h r).a.length<=s.length/\(usT s a h r).t.length<=s.length:=λa h r hr ha=>by grind[AU6,usT]
 split;·simp_all
 ·rename_i a r hc;have:=Avo hc;grind[AgP]
theorem AS8 (s:B8) (hb:s.length<=1000000) (hN:20000<=N):Jn N s=some (AE4 N s):=by
 unfold Jn AE4;by_cases hl:s.length>4096;·rw[an (by simp only[au];omega),an hl];rfl
 rw[aj (by simp only[au];omega),aj hl,UV s hb fM,aa];obtain⟨l1,l2,l3,l4,l5⟩:=TH s;generalize OH s=X at *;obtain⟨U,e⟩:=X;dsimp only[AB]at *;by_cases he:(e !=0)=true;·rw[an he,an he];rfl
 rw[aj he,aj he];cases hS:U.s;·rfl
 rw[an rfl,UC _ _ fM fO,aa];cases hE:(U.t.map DL==List.map DL [104,116,116,112,115]);·rfl
 simp only[bo,cU,ap,aA];unfold AAx;cases hA:U.j;·rfl
 rw[an rfl,aj fO];rw[AUG,aa];cases hat:U.k.contains 64;rotate_left;·rfl
 rw[aj fO,aj fO,AkJ _ fM fM,aa];have q1:=ADU U.k;have q2:=Y7 U.k;generalize hpS U.k=H at *;by_cases e1:(H.2 !=0)=true;·rw[an e1,an e1];rfl
 rw[aj e1,aj e1];have n1:=Jo (N:=N) U.c inP;have n2:=Jo (N:=N) U.h inQ;have n3:=Jo (N:=N) U.a inQ;rw[Nf U.c _ hN,aa];change (if((De N U.c inP).2 !=0)=true then _ else _)=_;by_cases e2:((De N U.c inP).2 !=0)=true;·rw[an e2,an e2];rfl
 rw[aj e2,aj e2,Nf U.h _ hN,aa];change (if((De N U.h inQ).2 !=0)=true then _ else _)=_;by_cases e3:((De N U.h inQ).2 !=0)=true;·rw[an e3,an e3];rfl
 rw[aj e3,aj e3,Nf U.a _ hN,aa];change (if((De N U.a inQ).2 !=0)=true then _ else _)=_;by_cases e4:((De N U.a inQ).2 !=0)=true;·rw[an e4,an e4];rfl
 rw[aj e4,aj e4];change Option.bind (Dj N (De N U.c inP).1) _=_;rw[As1 _ hN fM,aa];have pl:=Yh (N:=N) (De N U.c inP).1;have hp:TA N (De N U.c inP).1=if(Ll N (De N U.c inP).1 []==[])=true then [47]else Ll N (De N U.c inP).1 []:=by unfold TA;split<;>simp_all
 have fin: ∀P:B8,P=TA N (De N U.c inP).1->((Ev N (As.mk H.1.d H.1.g P (De N U.h inQ).1 (De N U.a inQ).1 U.b U.f)).bind λy25=>if(decide ((y25.length:Int)>4096))=true then(some ((As.mk [] 0 [] [] [] false false),5):Option (As×Int))else some ((As.mk H.1.d H.1.g P (De N U.h inQ).1 (De N U.a inQ).1 U.b U.f),0))=some (if(Hw ⟨H.1.d,H.1.g,TA N (De N U.c inP).1,(De N U.h inQ).1,(De N U.a inQ).1,U.b,U.f⟩).length>4096 then(Ka,5)else(⟨H.1.d,H.1.g,TA N (De N U.c inP).1,(De N U.h inQ).1,(De N U.a inQ).1,U.b,U.f⟩,0)):=by
  intro P hP;subst hP;rw[WI _ ⟨q1,by grind,by grind,by grind,by grind⟩ fM,aa];split;·rename_i AX;rw[an (by simp only[au]at AX;omega)];rfl
  ·rename_i AX;rw[aj (by simp only[au]at AX;omega)]
 by_cases e5:(Ll N (De N U.c inP).1 []==[])=true;·rw[an e5]at hp⊢;exact fin _ hp.symm
 ·rw[aj e5]at hp⊢;exact fin _ hp.symm
theorem ATa (s:B8) (hb:s.length<=1000000) (hN:20000<=N):Ke N s=some (AE4 N s):=by
 unfold Ke AE4;by_cases hl:s.length>4096;·rw[an (by simp only[au];omega),an hl];rfl
 rw[aj (by simp only[au];omega),aj hl,Xg s hb,aa];obtain⟨l1,l2,l3,l4,l5⟩:=TH s;generalize OH s=X at *;obtain⟨U,e⟩:=X;dsimp only[AB]at *;by_cases he:(e !=0)=true;·rw[an he,an he];rfl
 rw[aj he,aj he];cases hS:U.s;·rfl
 rw[an rfl,Tz _ _ fM fO,aa];cases hE:(U.t.map DL==List.map DL [104,116,116,112,115]);·rfl
 simp only[bo,cU,ap,aA];unfold AAx;cases hA:U.j;·rfl
 rw[an rfl,aj fO];rw[OW _ [64] fO fM,aa,Ayk fM];cases hat:U.k.contains 64;rotate_left;·rfl
 rw[aj fO,aj fO,AmA _ fM,aa];have q1:=ADU U.k;have q2:=Y7 U.k;generalize hpS U.k=H at *;by_cases e1:(H.2 !=0)=true;·rw[an e1,an e1];rfl
 rw[aj e1,aj e1];have n1:=Jo (N:=N) U.c inP;have n2:=Jo (N:=N) U.h inQ;have n3:=Jo (N:=N) U.a inQ;rw[QW U.c _ hN fO,aa];change (if((De N U.c inP).2 !=0)=true then _ else _)=_;by_cases e2:((De N U.c inP).2 !=0)=true;·rw[an e2,an e2];rfl
 rw[aj e2,aj e2,QW U.h _ hN fO,aa];change (if((De N U.h inQ).2 !=0)=true then _ else _)=_;by_cases e3:((De N U.h inQ).2 !=0)=true;·rw[an e3,an e3];rfl
 rw[aj e3,aj e3,QW U.a _ hN fO,aa];change (if((De N U.a inQ).2 !=0)=true then _ else _)=_;by_cases e4:((De N U.a inQ).2 !=0)=true;·rw[an e4,an e4];rfl
 rw[aj e4,aj e4];change Option.bind (Cj N (De N U.c inP).1) _=_;rw[Ats _ hN fM,aa];have pl:=Yh (N:=N) (De N U.c inP).1;have hp:TA N (De N U.c inP).1=if(Ll N (De N U.c inP).1 []==[])=true then [47]else Ll N (De N U.c inP).1 []:=by unfold TA;split<;>simp_all
 have fin: ∀P:B8,P=TA N (De N U.c inP).1->((C8 N (As.mk H.1.d H.1.g P (De N U.h inQ).1 (De N U.a inQ).1 U.b U.f)).bind λy25=>if(decide ((y25.length:Int)>4096))=true then(some ((As.mk [] 0 [] [] [] false false),5):Option (As×Int))else some ((As.mk H.1.d H.1.g P (De N U.h inQ).1 (De N U.a inQ).1 U.b U.f),0))=some (if(Hw ⟨H.1.d,H.1.g,TA N (De N U.c inP).1,(De N U.h inQ).1,(De N U.a inQ).1,U.b,U.f⟩).length>4096 then(Ka,5)else(⟨H.1.d,H.1.g,TA N (De N U.c inP).1,(De N U.h inQ).1,(De N U.a inQ).1,U.b,U.f⟩,0)):=by
  intro P hP;subst hP;rw[Rz _ ⟨q1,by grind,by grind,by grind,by grind⟩ fM,aa];split;·rename_i AX;rw[an (by simp only[au]at AX;omega)];rfl
  ·rename_i AX;rw[aj (by simp only[au]at AX;omega)]
 by_cases e5:(Ll N (De N U.c inP).1 []==[])=true;·rw[an e5]at hp⊢;exact fin _ hp.symm
 ·rw[aj e5]at hp⊢;exact fin _ hp.symm
theorem Acd{a b:B8} (h:NP a) (hb:(a++58::b).length<=1000000) (hN:20000<=N):AE4 N (a++58::b)=XI N a b:=by
 unfold AE4 XI;by_cases hl:(a++58::b).length>4096;·simp_all
 rw[aj hl,aj hl];have e:OH (a++58::b)=(XJ a b,0):=cE ((UV (N:=N) _ hb fM).symm.trans (At9 h fM hN));rw[e,aj (show¬(((0:Int) !=0)=true) by decide),show(XJ a b).s=true from rfl,show(XJ a b).t=a from rfl,AqL h];rfl
def Ac1{a b:B8} (h:NP a) (hb:(a++58::b).length<=1000000) (hN:20000<=N):Jn N (a++58::b)=some (XI N a b):=by grind[AS8,Acd]
def Ab8{a b:B8} (h:NP a) (hb:(a++58::b).length<=1000000) (hN:20000<=N):Ke N (a++58::b)=some (XI N a b):=by grind[ATa,Acd]
def IP{n b:Nat} (h:n<=1000000) (hb:b<=1000):Af n b:=by unfold Af;have:n * b<=1000000 * 1000:=eI h hb;omega
def Alx (c:UInt8) (l:B8) (hb:l.length<=1000000):BO N l [c]=some (((l.takeWhile (· !=c)).length:Nat):Int):=by grind[bne,OW]
def WB{c:UInt8}{l:B8}:((((l.takeWhile (· !=c)).length:Nat):Int)==(l.length:Int))=!l.contains c:=by grind[Vl,PE]
def V5{c:UInt8}{l:B8} (h:l.contains c=true) (hb:l.length<=1000000):sub l 0 (((l.takeWhile (· !=c)).length:Nat):Int)=some (Ac c l).1/\sub l (wr .i64 ((((l.takeWhile (· !=c)).length:Nat):Int)+1)) (l.length:Int)=some (Ac c l).2.1:=by have hlt:=PE h;obtain⟨s1,s2⟩:=APR h hb;rw[PG,an h]at s1 s2;grind[wr,Ak]
def UR{c:UInt8}{l:B8}:(Ac c l).2.2=l.contains c:=by grind[Ui,Gf]
def PM:B8:=[33,36,38,39,40,41,42,43,44,59,61]
def Abn (N:Nat) (u h:B8):CI×Int:=if((De N u PM).2 !=0||((De N u PM).1==[]||(De N u PM).1.head?==some 37))=true then(⟨[],[]⟩,80)else if((Jy h).2 !=0)=true then(⟨[],[]⟩,(Jy h).2)else(⟨(De N u PM).1,(Jy h).1⟩,0)
def VE (N:Nat) (s:B8):CI×Int:=if s.length>4096 then(⟨[],[]⟩,5)else if s.length<5 then(⟨[],[]⟩,60)else if((s.take 5).map DL==List.map DL [97,99,99,116,58])=false then(⟨[],[]⟩,60)else if(Ac 64 (s.drop 5)).2.2=false then(⟨[],[]⟩,6)else Abn N (Ac 64 (s.drop 5)).1 (Ac 64 (s.drop 5)).2.1
def Acw{α:Type} (l:B8) (e:Bool) (A B:Option α):(if e=true then A else if(l==[])=true then A else(idx l 0).bind λx9=>if((AJ x9)==37)=true then A else B)=if(e||(l==[]||l.head?==some 37))=true then A else B:=by
 cases e;·cases l with|nil=>rfl|cons c t=>rw[aj fO,aj fN,show idx (c::t) 0=some c from rfl,aa,TU];simp
 ·rfl
def AmX (s:B8) (hb:s.length<=1000000) (hN:20000<=N):R6 N s=some (VE N s):=by
 unfold R6 Zc VE;by_cases h1:s.length>4096;·rw[an fP,an h1,aa];rfl
 rw[aj fP,aj h1];dsimp only[AB];by_cases h2:s.length<5;·rw[an fP,an h2,an rfl,aa];rfl
 have hl:=FZ 64 (s.drop 5);rw[aG]at hl;rw[aj fP,aj h2,show(0:Int)=((0:Nat):Int)from rfl,show(5:Int)=((5:Nat):Int)from rfl,Av s 0 5 fM fM,aa,aN,bw,UC _ _ (by rw[bb];omega) fO,aa,BP fM,aa,P6 64 _ (by rw[aG];omega),aa];cases (List.map DL (s.take 5)==List.map DL [97,99,99,116,58]);·simp only[ba,az,aa];rfl
 simp only[bo,ap,aA];cases hc:(Ac 64 (s.drop 5)).2.2;·simp only[ap,aA,az,aa];rfl
 simp only[az,aa];rw[aj fO,aj fO,Nf _ _ hN,aa,ACf _ fM,aa];change (if((De N (Ac 64 (s.drop 5)).1 PM).2 !=0)=true then _ else if((De N (Ac 64 (s.drop 5)).1 PM).1==[])=true then _ else Option.bind (idx (De N (Ac 64 (s.drop 5)).1 PM).1 0) _)=_;try rw[aj (by decide: ¬(true=false))]
 unfold Abn;refine(Acw _ _ _ _).trans ?_;split;·rfl
 ·by_cases hh:((Jy (Ac 64 (s.drop 5)).2.1).2 !=0)=true;·exact(an hh).trans (br some (an hh).symm)
  ·exact(aj hh).trans (br some (aj hh).symm)
def ArK (s:B8) (hb:s.length<=1000000) (hN:20000<=N):Qz N s=some (VE N s):=by
 unfold Qz VE;by_cases h1:s.length>4096;·rw[an fP,an h1]
 rw[aj fP,aj h1];dsimp only[AB];by_cases h2:s.length<5;·rw[an fP,an h2,an rfl]
 have hl:=FZ 64 (s.drop 5);rw[aG]at hl;rw[aj fP,aj h2,show(0:Int)=((0:Nat):Int)from rfl,show(5:Int)=((5:Nat):Int)from rfl,Av s 0 5 fM fM,aa,aN,bw,Tz _ _ (by rw[bb];omega) fO,aa,BP fM,aa,Alx 64 _ (by rw[aG];omega),aa,WB,UR];cases (List.map DL (s.take 5)==List.map DL [97,99,99,116,58]);·simp only[ba,az]
 simp only[bo,ap,aA];rw[aj (by decide: ¬(true=false))];cases hc:(s.drop 5).contains 64;·simp only[ba,az]
 obtain⟨s1,s2⟩:=V5 hc (by rw[aG];omega);simp only[bo,ap,aA];rw[show((0:Nat):Int)=0 from rfl,s1,aa,QW _ _ hN fO,aa,s2,aa,ADb,aa];change (if((De N (Ac 64 (s.drop 5)).1 PM).2 !=0)=true then _ else if((De N (Ac 64 (s.drop 5)).1 PM).1==[])=true then _ else Option.bind (idx (De N (Ac 64 (s.drop 5)).1 PM).1 0) _)=_;unfold Abn;refine(Acw _ _ _ _).trans ?_;split;·rfl
 ·by_cases hh:((Jy (Ac 64 (s.drop 5)).2.1).2 !=0)=true;·exact(an hh).trans (br some (an hh).symm)
  ·exact(aj hh).trans (br some (aj hh).symm)
def ARc (a:CI):B8:=(([97,99,99,116,58]++a.user)++[64])++a.d
def Adx (a:CI) (h:a.user.length<=1000000/\a.d.length<=1000000):Qo N a=some (ARc a):=by unfold Qo ARc;rw[Ap fP,Ap fP,Ap fP]
def AiX (a:CI) (h:a.user.length<=1000000/\a.d.length<=1000000):O6 N a=some (ARc a):=by unfold O6 ARc;rw[Ap fP,Ap fP,Ap fP]
def AGA (s:B8):(VE N s).1.user.length<=4096/\(VE N s).1.d.length<=253:=by
 have hh:=Ty (Ac 64 (s.drop 5)).2.1;have hn:=Jo (N:=N) (Ac 64 (s.drop 5)).1 PM;have hl:=FZ 64 (s.drop 5);rw[aG]at hl;unfold VE Abn;split;·simp
 split;·simp
 split;·simp
 split;·simp
 split;·simp
 split;·simp
 ·dsimp only;omega
def A1h:B8:=[33,35,36,37,38,39,42,43,45,47,61,63,94,95,96,123,124,125,126]
def Tg (c:UInt8):Bool:=K6 c||(Fj c||A1h.contains c)
def Ap2 (c:UInt8):UD N (AJ c)=some (Tg c):=by unfold UD Tg;rw[Tv,aa,Wn,aa,KP,aa,IV];cases K6 c<;>cases Fj c<;>rfl
def AmH (c:UInt8):R9 N (AJ c)=some (Tg c):=by unfold R9 Tg;rw[UL,aa,UX,aa,YS c _ fO,aa];cases K6 c<;>cases Fj c<;>rfl
def Yv:Bool->B8->Bool|dot,[]=>!dot|dot,c::t=>if c=46 then !dot&&Yv true t else Tg c&&Yv false t
def b46 (c:UInt8):(AJ c==46)=decide (c=46):=by have:=Bl (f:=λn=>((n:Int)==46)) (g:=λn=>decide (UInt8.ofNat n=46)) (by kernel_rfl) c;simp only[bP]at this;exact this
def AAt (b:Bool): ∀(l:B8) (dot:Bool),IU N (λj1=>if j1=true then some false else some b) l dot=some (Yv dot l&&b)
 |[],dot=>by rw[IU,Yv];cases dot<;>simp
 | c::t,dot=>by
  rw[IU,Yv];dsimp only[AB];rw[Ap2,aa,bne,b46];by_cases hc:c=46;·rw[aC hc,aj fO,an rfl,an hc,AAt b t];cases dot<;>simp
  ·rw[aF hc,an fO,aj hc];cases ha:Tg c;·rfl
   ·simp only[az,ap,aA];rw[AAt b t];simp
def AuX (l:B8) (hb:l.length<=1000000):Rp N l=some (Yv true l&&decide (l.length<=64)):=by
 unfold Rp;have e:decide ((l.length:Int)<=64)=decide (l.length<=64):=by congr 1;simp only[eq_iff_iff];omega
 rw[AB,Ap fM,AAt,e]
def AA0: ∀(l:B8) (dot:Bool),Yv dot l=(match AV 46 l with|p::ps=>(!(dot&&(p==[])))&&(p.all Tg&&ps.all λq=>!(q==[])&&q.all Tg)|[]=>false)
 |[],dot=>by cases dot<;>rfl
 |c::t,dot=>by
  rw[Yv,AV];by_cases hc:c=46;·rw[an hc,an hc,AA0 t true];grind[AV,absurd,ES,Bool.and_assoc]
  ·rw[aj hc,aj hc,AA0 t false];grind[AV,absurd,ES,Bool.and_assoc]
def AxN (k:Unit->Option Bool): ∀l:B8,Ho N k l=if l.all Tg=true then k ()else some false|[]=>by rw[Ho];rfl|c::l=>by rw[Ho,AmH,aa,AxN k l];cases h:Tg c<;>simp[h]
def Axf (k:Unit->Option Bool): ∀ps:List B8,(∀p,p∈ps->p.length<=1000000)->Hf N k ps=if(ps.all λq=>!(q==[])&&q.all Tg)=true then k ()else some false
 |[],_=>by rw[Hf];rfl
 |p::ps,h=>by
  have hp:=h p fN;rw[Hf];dsimp only[AB];rw[AxN,Axf k ps λq hq=>h q (by simp[hq]),aQ];cases AX:(p==([]:B8));·rw[aj fO,Ap fM];cases p.all Tg<;>simp
  ·rw[an rfl];rfl
def Atc (l:B8) (hb:l.length<=1000000):Qn N l=some (Yv true l&&decide (l.length<=64)):=by
 have hp:=IY 46 l;have hl:=H5 46 l;unfold Qn;dsimp only[AB];rw[show(46:Int)=AJ 46 from rfl,QG l 46 hb,aa,Ap fM,Axf _ _ λp h=>by have:=hp p h;omega];by_cases h0:l=[];·subst h0;rfl
 rw[aj (by simpa using h0)];have e:decide ((l.length:Int)>64)=!decide (l.length<=64):=by
  by_cases h:l.length<=64;·rw[aC h,aF fM];rfl
  ·rw[aF h,aC fM];rfl
 have hs:(AV 46 l).all (λq=>!(q==[])&&q.all Tg)=Yv true l:=by rw[AA0 l true];cases hs:AV 46 l with|nil=>exact absurd hs (ES 46 l)|cons p ps=>simp[fB]
 rw[e,hs];cases decide (l.length<=64)<;>cases Yv true l<;>rfl
def Vg:B8:=[33,36,39,42,43]
def AC8:B8:=[37,33,36,39,42,43]
def AYt (c:UInt8):Bool:=Eh c||AC8.contains c
def NM:BW:=⟨[],[]⟩
def AUC (k:Unit->Option (BW×Int)): ∀l:B8,Il N k l=if l.all AYt=true then k ()else some (NM,1)
 |[]=>by rw[Il];rfl
 | c::l=>by
  rw[Il];dsimp only[AB];rw[ZB,aa,KP,aa,AUC k l,aQ];have e:decide (Go.Lib.indexByte ([37,33,36,39,42,43]:B8) c<0)=!AC8.contains c:=by
   rw[<-IV c AC8];unfold AC8;by_cases h:Go.Lib.indexByte ([37,33,36,39,42,43]:B8) c<0;·rw[aC h,aF fM];rfl
   ·rw[aF h,aC fM];rfl
  rw[e];unfold AYt;cases Eh c<;>cases AC8.contains c<;>simp[NM]
def AWS{x8:B8} (k:Unit->Option (BW×Int)): ∀(l rest pre:B8),x8=pre++(l++rest)->HY N x8 k l.length pre.length=if l.all AYt=true then k ()else some (NM,1)
 |[],rest,pre,_=>by rw[aq,HY];rfl
 |c::l,rest,pre,h=>by
  rw[ae,HY];dsimp only[AB];have hget:idx x8 (pre.length:Int)=some c:=by rw[D7,h,dx (av _),dh];rfl
  have ih:=AWS (x8:=x8) k l rest (pre++[c]) (by rw[h];simp);rw[ag,bu]at ih;rw[hget,aa,Zo,aa,YS c _ fO,aa,show(pre.length:Int)+1=((pre.length+1:Nat):Int) by omega,ih,aQ];change (if Eh c=true then _ else if(!AC8.contains c)=true then _ else _)=_;unfold AYt;cases Eh c<;>cases AC8.contains c<;>simp[NM]
def AdE (N:Nat) (l h:B8):BW×Int:=if l.all AYt=false then(NM,1)else if((Ah N l).2 !=0)=true then(NM,(Ah N l).2)else if(Yv true (Ah N l).1&&decide ((Ah N l).1.length<=64))=false then(NM,80)else if((Jy h).2 !=0)=true then(NM,(Jy h).2)else if ADI (Jy h).1=true then(NM,50)else(⟨(Ah N l).1,(Jy h).1⟩,0)
def Vh (N:Nat) (s:B8):BW×Int:=if s.length>4096 then(NM,5)else if s.length<7 then(NM,60)else if((s.take 7).map DL==List.map DL [109,97,105,108,116,111,58])=false then(NM,60)else if((Ac 64 (s.drop 7)).2.2&&!((s.drop 7).any ([63,35]:B8).contains))=false then(NM,6)else AdE N (Ac 64 (s.drop 7)).1 (Ac 64 (s.drop 7)).2.1
theorem AOg: ∀(k:Nat) (t out:B8),(Vs k t out).1.length<=out.length+t.length
 |0,t,out=>by simp[Vs]
 |k+1,[],out=>by simp[Vs]
 |k+1,c::t,out=>by
  rw[Vs];split;·cases h:OI t with|none=>simp|some x=>have h2:=WP h;have:=AOg k (t.drop 2) (out++[x]);grind
  ·have:=AOg k t (out++[c]);grind
theorem KO (s:B8):(Ah N s).1.length<=s.length:=by grind[Ah,AOg]
def AlP{set:B8}: ∀ {l:B8},decide ((((l.takeWhile λx=>!set.contains x).length:Nat):Int)<(l.length:Int))=l.any set.contains|[]=>by simp|c::l=>by have ih:=AlP (set:=set) (l:=l);rw[bg,bN];cases h:set.contains c<;>simp_all
def AUf{p:B8} (h:(p.map DL==List.map DL [109,97,105,108,116,111,58])=true): ∀x,x∈p->x.toNat<128/\([63,35]:B8).contains x=false:=by
 intro x AX;have hm:DL x∈List.map DL [109,97,105,108,116,111,58]:=by rw[<-be.1 h];grind
 have key:=Bl (f:=λn=>(!(List.map DL [109,97,105,108,116,111,58]).contains (DL (UInt8.ofNat n)))||(decide (n<128)&&!([63,35]:B8).contains (UInt8.ofNat n))) (g:=λ_=>true) (by kernel_rfl) x;simp_all
def Ap8{s:B8} (h:((s.take 7).map DL==List.map DL [109,97,105,108,116,111,58])=true):s.any ([63,35]:B8).contains=(s.drop 7).any ([63,35]:B8).contains:=by
 conv=>lhs;rw[<-bI 7 s]
 rw[List.any_append];have:(s.take 7).any ([63,35]:B8).contains=false:=by rw[dX];intro x AX;rw[(AUf h x AX).2];decide
 grind
def Aku (s:B8) (hb:s.length<=1000000) (hN:20000<=N):Sk N s=some (Vh N s):=by
 unfold Sk Vh;by_cases h1:s.length>4096;·rw[an fP,an h1];rfl
 rw[aj fP,aj h1];dsimp only[AB];by_cases h2:s.length<7;·rw[an fP,an h2,an rfl];rfl
 have hl:=FZ 64 (s.drop 7);rw[aG]at hl;rw[aj fP,aj h2,show sub s 0 7=some (s.take 7)from(Av s 0 7 fM fM).trans fN,aa,UC _ _ (by rw[bb];omega) fO,aa,show sub s 7 (s.length:Int)=some (s.drop 7)from BP (n:=7) fM,aa,P6 64 _ (by rw[aG];omega),aa];cases hp:(List.map DL (s.take 7)==List.map DL [109,97,105,108,116,111,58]);·simp only[ba,az];rfl
 simp only[bo,ap,aA];rw[aj (by decide: ¬(true=false)),UR];cases hc:(s.drop 7).contains 64;·simp only[ap,aA,az,eO];rfl
 simp only[az,bM];rw[AaI fO fO fO (by
  intro h8 c hcm;have hcs:c∈s:=(fi _).subset hcm;rw[<-bI 7 s,aZ]at hcs;rcases hcs with hcs|hcs;·exact(AUf hp c hcs).1
  ·have hd:(s.drop 7).length<=1:=by rw[aG];omega
   match hq:s.drop 7,hd,hc,hcs with
   |[x],_,hc,hcs=>
    simp only[bA,dY,cV]at hc;have:c=x:=by simpa using hcs
    have h64:x=64:=(be.1 hc).symm;rw[this,h64];decide) fM fM,aa,Ap8 hp];cases (s.drop 7).any ([63,35]:B8).contains;rotate_left;·rfl
 simp only[ap,aA,ba];rw[aj (by decide: ¬(true=false)),Ap fM,AUC];unfold AdE;cases (Ac 64 (s.drop 7)).1.all AYt;·rfl
 simp only[az];rw[aj (by decide: ¬(true=false)),SI _ hN,aa];have hdl:=KO (N:=N) (Ac 64 (s.drop 7)).1;generalize Ah N (Ac 64 (s.drop 7)).1=D at *;by_cases h5:(D.2 !=0)=true;·rw[an h5,an h5];rfl
 rw[aj h5,aj h5,AuX _ fM,aa];cases (Yv true D.1&&decide (D.1.length<=64));·rfl
 simp only[az];rw[aj (by decide: ¬(true=false)),ACf _ fM,aa];have hh:=Ty (Ac 64 (s.drop 7)).2.1;generalize Jy (Ac 64 (s.drop 7)).2.1=H at *;by_cases h6:(H.2 !=0)=true;·rw[an h6,an h6];rfl
 rw[aj h6,aj h6,Ac4 _ fM,aa];cases ADI H.1<;>rfl
def AnW (s:B8) (hb:s.length<=1000000) (hN:20000<=N):Qt N s=some (Vh N s):=by
 unfold Qt Vh;by_cases h1:s.length>4096;·rw[an fP,an h1];rfl
 rw[aj fP,aj h1];dsimp only[AB];by_cases h2:s.length<7;·rw[an fP,an h2,an rfl];rfl
 have hl:=FZ 64 (s.drop 7);have hdl:(s.drop 7).length<=1000000:=by rw[aG];omega
 rw[aG]at hl;rw[aj fP,aj h2,show sub s 0 7=some (s.take 7)from(Av s 0 7 fM fM).trans fN,aa,Tz _ _ (by rw[bb];omega) fO,aa,show sub s 7 (s.length:Int)=some (s.drop 7)from BP (n:=7) fM,aa,Alx 64 _ hdl,aa,WB,UR];cases hp:(List.map DL (s.take 7)==List.map DL [109,97,105,108,116,111,58]);·simp only[ba,az];rfl
 simp only[bo,ap,aA];rw[aj (by decide: ¬(true=false))];cases hc:(s.drop 7).contains 64;·simp only[ba,az,eO];rfl
 simp only[bo,ap,aA,bM];rw[OW _ [63,35] fO fM,aa,AlP];cases (s.drop 7).any ([63,35]:B8).contains;rotate_left;·rfl
 simp only[ap,aA,ba];obtain⟨s1,s2⟩:=V5 hc hdl;have hlt:=PE hc;have hcut:(Ac 64 (s.drop 7)).1=(s.drop 7).takeWhile (· !=64):=by rw[Gf hc]
 have hpre:s.drop 7=[]++((Ac 64 (s.drop 7)).1++(s.drop 7).dropWhile (· !=64)):=by rw[hcut,bl,bh]
 have hloop:=λk=>AWS (N:=N) (x8:=s.drop 7) k (Ac 64 (s.drop 7)).1 _ [] hpre;rw[aj (by decide: ¬(true=false)),AP fM,Int.sub_zero,bG,<-hcut];refine(hloop _).trans ?_;rw[<-hcut]at s1 s2;unfold AdE;cases (Ac 64 (s.drop 7)).1.all AYt;·rfl
 simp only[az];rw[aj (by decide: ¬(true=false)),s1,aa,Py _ hN,aa];have hdl:=KO (N:=N) (Ac 64 (s.drop 7)).1;generalize Ah N (Ac 64 (s.drop 7)).1=D at *;by_cases h5:(D.2 !=0)=true;·rw[an h5,an h5];rfl
 rw[aj h5,aj h5,Atc _ fM,aa];cases (Yv true D.1&&decide (D.1.length<=64));·rfl
 simp only[az];rw[aj (by decide: ¬(true=false)),s2,aa,ADb,aa];have hh:=Ty (Ac 64 (s.drop 7)).2.1;generalize Jy (Ac 64 (s.drop 7)).2.1=H at *;by_cases h6:(H.2 !=0)=true;·rw[an h6,an h6];rfl
 rw[aj h6,aj h6,Ab9 _ fM,aa];cases ADI H.1<;>rfl
def AT4 (m:BW):B8:=(([109,97,105,108,116,111,58]++m.v.flatMap (M3 Vg))++[64])++m.d
theorem UU (keep:B8): ∀l:B8,(l.flatMap (M3 keep)).length<=3 * l.length|[]=>by simp|c::l=>by have:=UU keep l;have:=ADd keep c;rw[aR,ag,ae];omega
def AiR (m:BW) (h:m.v.length<=100000/\m.d.length<=100000):Qm N m=some (AT4 m):=by have:=UU Vg m.v;unfold Qm AT4;rw[YQ _ _ fM,aa];change grd (AL (_+(m.v.flatMap (M3 Vg)).length)) (grd _ (grd _ (some ((([109,97,105,108,116,111,58]++m.v.flatMap (M3 Vg))++[64])++m.d))))=_;rw[Ap (by simp only[ae,aq];omega),Ap (by simp only[ag,ae,aq];change _+(m.v.flatMap (M3 Vg)).length+_<=_;omega),Ap (by simp only[ag,ae,aq];change _+(m.v.flatMap (M3 Vg)).length+_+_<=_;omega)]
def Ahu (m:BW) (h:m.v.length<=100000/\m.d.length<=100000):O4 N m=some (AT4 m):=by have:=UU Vg m.v;unfold O4 AT4;rw[Vi _ _ fO fM,aa];change grd (AL (_+(m.v.flatMap (M3 Vg)).length)) (grd _ (grd _ (some ((([109,97,105,108,116,111,58]++m.v.flatMap (M3 Vg))++[64])++m.d))))=_;rw[Ap (by simp only[ae,aq];omega),Ap (by simp only[ag,ae,aq];change _+(m.v.flatMap (M3 Vg)).length+_<=_;omega),Ap (by simp only[ag,ae,aq];change _+(m.v.flatMap (M3 Vg)).length+_+_<=_;omega)]
def AGL (s:B8):(Vh N s).1.v.length<=4096/\(Vh N s).1.d.length<=253:=by
 have hh:=Ty (Ac 64 (s.drop 7)).2.1;have hn:=KO (N:=N) (Ac 64 (s.drop 7)).1;have hl:=FZ 64 (s.drop 7);rw[aG]at hl;unfold Vh AdE;split;·simp[NM]
 split;·simp[NM]
 split;·simp[NM]
 split;·simp[NM]
 split;·simp[NM]
 split;·simp[NM]
 split;·simp[NM]
 split;·simp[NM]
 split;·simp[NM]
 ·dsimp only;omega
def Q6 (d:Bool) (b s:B8) (h:b.length+s.length<=1000000000):AY N ⟨d,b⟩ s=some ((s.length:Int),(),⟨true,b++s⟩):=by unfold AY Gc;cases d<;>simp only[ap,aA,az,aa]<;>rw[AP (Pz fM)]
def ABm (r:B8) (x c:UInt8):B8:=if c=x then r else [c]
def AD9{r:B8}{x:UInt8}: ∀ {l:B8},l.contains x=false->l.flatMap (ABm r x)=l
 |[],_=>rfl
 |c::l,h=>by
  rw[bA,eg]at h;have hc: ¬c=x:=by grind
  rw[aR,AD9 h.2,ABm,aj hc];rfl
theorem AtG{r:B8}{x:UInt8}{l:B8} (h:l.contains x=true):l.flatMap (ABm r x)=(Ac x l).1++(r++(Ac x l).2.1.flatMap (ABm r x)):=by
 induction l with
 |nil=>grind
 | cons c t ih=>
  by_cases hc:c=x;·subst hc;rw[Gf h,aR,ABm,an rfl];simp
  ·have e1:(x==c)=false:=by grind
   have e2:(c !=x)=true:=by grind
   have ht:t.contains x=true:=by simp_all
   have hi:=ih ht;rw[Gf h,bg,e2,bX,e2,aR,hi,ABm,aj hc];grind[Gf]
def AVS{l r:B8}{x:UInt8} (hb:l.length<=1000000) (hr:r.length<=3) (k18:Int×Bool×B8->Option B8): ∀(k:Nat) (t pre buf:B8) (d:Bool),l=pre++t->t.count x=k->buf.length+3 * t.length<=100000000->∃last pre' buf' d',l=pre'++last/\buf'++last=buf++t.flatMap (ABm r x)/\buf'.length<=100000000/\DY N l [x] r k18 k pre.length d buf=k18 ((pre'.length:Int),d',buf')
 |0,t,pre,buf,d,h,hk,ho=>by have h0:=AAK.1 hk;exact⟨t,pre,buf,d,h,by rw[AD9 h0],fM,by rw[DY]⟩
 | k+1,t,pre,buf,d,h,hk,ho=>by
  have hl:=br List.length h;simp only[ag]at hl;have h1:t.contains x=true:=by grind
  have hlt:=PE h1;have hcnt:t.count x=(Ac x t).2.1.count x+1:=by grind[Gf,AAl]
  have hc:=FZ x t;have he:t=(Ac x t).1++(x::(Ac x t).2.1):=by
   rw[Gf h1];have e:=bh (p:=(· !=x)) (l:=t);have hd:t.dropWhile (· !=x)=x::(t.dropWhile (· !=x)).drop 1:=by cases hq:t.dropWhile (· !=x)with|nil=>grind|cons y ys=>grind[List.head?_dropWhile_not]
   grind
  have hlen:(Ac x t).1.length+1+(Ac x t).2.1.length=t.length:=by have:=br List.length he;grind
  have hi:(Go.Lib.indexByte t x)=((Ac x t).1.length:Int):=by rw[PG,an h1,Gf h1]
  have hlp:l=(pre++(Ac x t).1++[x])++(Ac x t).2.1:=by grind
  obtain⟨last,pre',buf',d',q1,q2,q3,q4⟩:=AVS (x:=x) hb hr k18 k (Ac x t).2.1 (pre++(Ac x t).1++[x]) (buf++(Ac x t).1++r) true hlp fM (by grind);refine⟨last,pre',buf',d',q1,?_,q3,?_⟩;·grind[AtG]
  ·have hdl:l.drop pre.length=t:=by grind
   rw[DY,BP fM,aa,hdl,AKd,aa,hi];have w1:wr .i64 ((pre.length:Int)+((Ac x t).1.length:Int))=((pre.length+(Ac x t).1.length:Nat):Int):=by rw[Ak fM];omega
   have w2:wr .i64 (((pre.length+(Ac x t).1.length:Nat):Int)+(([x]:B8).length:Int))=((pre.length+(Ac x t).1.length+1:Nat):Int):=by rw[Ak fP];simp
   have hseg:(l.drop pre.length).take (pre.length+(Ac x t).1.length-pre.length)=(Ac x t).1:=by grind[Nat.add_sub_cancel_left,Gf,Ht]
   rw[w1,w2,Av l _ _ fM fM,aa,hseg,Q6 _ _ _ fM,aa];dsimp only;rw[Q6 _ _ _ (by grind),aa];dsimp only;have e9:pre.length+(Ac x t).1.length+1=(pre++(Ac x t).1++[x]).length:=by grind
   grind
def TI (l:B8) (x:UInt8) (r:B8) (hr:r.length=3) (hb:l.length<=1000000):strings_ReplaceAll N l [x] r=some (l.flatMap (ABm r x)):=by
 have hcl:l.count x<=l.length:=List.count_le_length;have hcnt:strings_Count N l [x]=some ((l.count x:Nat):Int):=by unfold strings_Count;rw[aj fN,an (by rfl),show idx [x] 0=some x from rfl,aa,Rk];rfl
 have hne: ¬(([x]:B8)==r)=true:=by intro h;have:=be.1 h;grind
 unfold strings_ReplaceAll strings_Replace;dsimp only[AB];rw[aj hne,aj fO,hcnt,aa];by_cases h0:l.count x=0;·rw[an (by grind),aa,AD9 (AAK.1 h0)]
 rw[aj (by grind),an fO,an rfl];have wg:wr .i64 ((l.length:Int)+(wr .i64 (((l.count x:Nat):Int) * (wr .i64 ((r.length:Int)-(([x]:B8).length:Int))))))=((l.length+l.count x * 2:Nat):Int):=by rw[hr,show wr .i64 (((3:Nat):Int)-(([x]:B8).length:Int))=2 from rfl,Ak (n:=((l.count x:Nat):Int) * 2) fM,Ak fM];simp
 rw[wg];unfold EI;rw[AP fM,aa,an fN,AP fM,Int.sub_zero,bG];obtain⟨last,pre',buf',d',q1,q2,q3,q4⟩:=AVS (N:=N) (l:=l) (r:=r) (x:=x) hb fM (λj17:Int×Bool×B8=>(sub l j17.1 (l.length:Int)).bind λx41=>(AY N (BT.mk j17.2.1 j17.2.2) x41).bind λy42=>(BJ N y42.2.2).bind λy44=>some (y44.1)) (l.count x) l [] [] true rfl rfl (by grind);have hl:=br List.length q1;simp only[ag]at hl;rw[show(([]:B8).length:Int)=0 from rfl]at q4;rw[q4,BP fM,aa,show l.drop pre'.length=last by grind,Q6 _ _ _ (by grind),aa];grind[BJ]
def Ee (name:B8) (xs:List AG):List B8:=(xs.filter λf=>f.name.map DL==name.map DL).map (·.value)
def hdB (h:AH):Prop:=h.m.length<=100/\ ∀f,f∈h.m->f.name.length+f.value.length<=20000
def SK (xs:List B8):Nat:=(xs.map List.length).sum
def OY (sep:B8) (xs:List B8):B8:=xs.flatMap λx=>sep++x
def RG (sep:B8):List B8->B8|[]=>[]|x::xs=>x++OY sep xs
def AV6 (name:B8) (xs:List AG):(Ee name xs).length<=xs.length:=by unfold Ee;rw[cq];exact List.length_filter_le ..
def A0n{name:B8}{xs:List AG} (h: ∀f,f∈xs->f.name.length+f.value.length<=20000): ∀v,v∈Ee name xs->v.length<=20000:=by intro v hv;obtain⟨f,hf,rfl⟩:=bv.1 hv;have:=h f (List.mem_filter.1 hf).1;omega
def Avr{xs:List B8}{M:Nat} (h: ∀v,v∈xs->v.length<=M):SK xs<=xs.length * M:=by induction xs with|nil=>simp[SK]|cons x xs ih=>have h1:=h x (.head _);have h2:=ih λv hv=>h v (.tail _ hv);simp only[SK,aH,cx,ae,bH]at *;omega
def Wh (sep:B8): ∀xs:List B8,(OY sep xs).length=xs.length * sep.length+SK xs|[]=>by simp[OY,SK]|x::xs=>by have:=Wh sep xs;unfold OY SK at *;rw[aR,ag,ag,this,aH,cx,ae,bH];omega
def AeT (sep:B8) (xs:List B8):(RG sep xs).length<=xs.length * sep.length+SK xs:=by cases xs with|nil=>simp[RG]|cons x xs=>rw[RG,ag,Wh,ae,bH];simp only[SK,aH,cx];omega
def X7 (name:B8) (hn:name.length<=1000000) (k:List B8->Option (List B8)): ∀(xs:List AG) (s:List B8),(∀f,f∈xs->f.name.length+f.value.length<=20000)->s.length+xs.length<=1000->HZ N name k xs s=k (s++Ee name xs)
 |[],s,_,_=>by rw[HZ];simp[Ee]
 |f::xs,s,h,hl=>by
  have h1:=h f (.head _);rw[ae]at hl;rw[HZ];dsimp only[AB];rw[UC _ _ fM fM,aa];have AX: ∀g,g∈xs->g.name.length+g.value.length<=20000:=λg hg=>h g (.tail _ hg);unfold Ee;rw[dC];by_cases e:(f.name.map DL==name.map DL)=true;·rw[an e,an e,A1p fM fO,X7 name hn k xs _ AX fP];simp[Ee]
  ·rw[aj e,aj e,X7 name hn k xs _ AX fM];simp[Ee]
def Xr (name:B8) (hn:name.length<=1000000) (k:List B8->Option (List B8)): ∀(xs:List AG) (s:List B8),(∀f,f∈xs->f.name.length+f.value.length<=20000)->s.length+xs.length<=1000->GU N name k xs s=k (s++Ee name xs)
 |[],s,_,_=>by rw[GU];simp[Ee]
 |f::xs,s,h,hl=>by
  have h1:=h f (.head _);rw[ae]at hl;rw[GU];dsimp only[AB];rw[Tz _ _ fM fM,aa];have AX: ∀g,g∈xs->g.name.length+g.value.length<=20000:=λg hg=>h g (.tail _ hg);unfold Ee;rw[dC];by_cases e:(f.name.map DL==name.map DL)=true;·rw[an e,an e,A1p fM fO,Xr name hn k xs _ AX fP];simp[Ee]
  ·rw[aj e,aj e,Xr name hn k xs _ AX fM];simp[Ee]
def ASk{h:AH} (hh:hdB h) (name:B8) (hn:name.length<=1000000):Ov N h name=some (Ee name h.m):=by obtain⟨h1,h2⟩:=hh;unfold Ov;rw[AB,Ap fM,X7 name hn _ _ _ h2 fP];rfl
def ARh{h:AH} (hh:hdB h) (name:B8) (hn:name.length<=1000000):M6 N h name=some (Ee name h.m):=by obtain⟨h1,h2⟩:=hh;unfold M6;rw[AB,Ap fM,Xr name hn _ _ _ h2 fP];rfl
def pj1 (k:Int->Option B8): ∀(xs:List B8) (s:Nat),s+SK xs<=1000000000->GN N k xs (s:Int)=k ((s+SK xs:Nat):Int)|[],s,_=>by rw[GN];simp[SK]|x::xs,s,h=>by simp only[SK,aH,cx]at h;have hi:=pj1 k xs (s+x.length) (by simp only[SK];omega);rw[GN];dsimp only[AB];rw[aj (by rw[Ak fM];simp;omega),Ak fM,show(s:Int)+(x.length:Int)=((s+x.length:Nat):Int) by omega,hi];simp only[SK,aH,cx,cH]
def pj2 (sep:B8) (k:BT->Option B8): ∀(xs:List B8) (b:B8),b.length+(OY sep xs).length<=1000000000->GM N sep k xs ⟨true,b⟩=k ⟨true,b++OY sep xs⟩|[],b,_=>by rw[GM];simp[OY]|x::xs,b,h=>by simp only[OY,aR,ag]at h;have hi:=pj2 sep k xs (b++sep++x) (by simp only[ag,OY];omega);rw[GM,Q6 _ _ _ fM,aa];dsimp only;rw[Q6 _ _ _ fP,aa];dsimp only;rw[hi];simp[OY]
theorem Anb{sep:B8} (h1:1<=sep.length) (h2:sep.length<=100) (xs:List B8) (hl:xs.length<=10000) (hs:SK xs<=100000000):strings_Join N xs sep=some (RG sep xs):=by
 unfold strings_Join;match xs,hl,hs with
 |[],_,_=>rfl
 |[x],_,_=>simp[idx,RG,OY]
 | x::y::r,hl,hs=>
  simp only[ae]at hl;have hm:sep.length * (r.length+1)<=1000000:=bK (eI h2 (show r.length+1<=10000 by omega)) fO;have ht:=Wh sep (y::r);have hsx:SK (x::y::r)=x.length+SK (y::r):=by simp[SK]
  rw[aj fP,aj fP];dsimp only[AB];have e1:wr .i64 ((((x::y::r).length:Nat):Int)-1)=((r.length+1:Nat):Int):=by rw[Ak (by simp only[ae];omega)];simp
  rw[an fP,e1,AP fM,aj,show wr .i64 ((sep.length:Int) * ((r.length+1:Nat):Int))=((sep.length * (r.length+1):Nat):Int) by rw[<-Int.natCast_mul,Ak fM],Ak fM,Int.zero_add,Ap fP,pj1 _ _ _ fM]
  ·unfold EI;rw[AP ⟨by have:1<=sep.length * (r.length+1):=Nat.mul_pos h1 fM;omega,fM⟩,aa];have e2:idx (x::y::r) 0=some x:=rfl;have e3:sub (x::y::r) 1 (((x::y::r).length:Nat):Int)=some (y::r):=by rw[show(1:Int)=((1:Nat):Int)from rfl,Av _ _ _ fN fN];simp
   rw[e2,aa,Q6 _ _ _ fP,aa,e3,aa,Ap fP];dsimp only;rw[pj2 _ _ _ _ (by simp only[ag,aq];rw[ht];simp only[ae];have:(r.length+1) * sep.length=sep.length * (r.length+1):=Nat.mul_comm ..;omega)];unfold BJ;simp[RG]
  ·have h0:(0:Int)<((r.length+1:Nat):Int):=fM;have h9:(922337203685477:Int)<=Int.tdiv 9223372036854775807 ((r.length+1:Nat):Int):=by rw[bF fO,Int.le_ediv_iff_mul_le h0];omega
   have h10:Int.tdiv 9223372036854775807 ((r.length+1:Nat):Int)<=9223372036854775807:=by rw[bF fO];exact Int.ediv_le_self _ fO
   rw[Ak ⟨Int.le_trans fO h9,h10⟩,au];exact λh=>absurd (Int.le_trans h9 h) fM
def AGl (k:B8->Option (B8×Bool)): ∀(xs:List B8) (i:Nat) (s:B8),1<=i->s.length+(OY [44,32] xs).length<=1000000000->Gv N k xs (i:Int) s=k (s++OY [44,32] xs)|[],i,s,_,_=>by rw[Gv];simp[OY]|x::xs,i,s,hi,h=>by simp only[OY,aR,ag]at h;have ih:=AGl k xs (i+1) (s++[44,32]++x) fM (by simp only[ag,OY];omega);rw[Gv];dsimp only[AB];rw[an fP,Ap fM,Ap (by simp only[ag];omega),show(i:Int)+1=((i+1:Nat):Int) by omega,ih];simp[OY]
def Ach{h:AH} (hh:hdB h) (name:B8):(Ee name h.m).length<=100/\SK (Ee name h.m)<=2000000:=by have h1:=AV6 name h.m;have h2:=Avr (A0n (name:=name) hh.2);have h3:=bO 20000 (bK h1 hh.1);exact⟨bK h1 hh.1,fM⟩
def AFC (h:AH) (name:B8):B8×Bool:=(RG [44,32] (Ee name h.m),decide (((Ee name h.m).length:Int)>0))
def Yt{h:AH} (hh:hdB h) (name:B8) (hn:name.length<=1000000):MW N h name=some (AFC h name):=by have h1:=Ach hh name;unfold MW;rw[ASk hh name hn,aa,Anb fO fO _ fM fM,aa];rfl
def Ob{h:AH} (hh:hdB h) (name:B8) (hn:name.length<=1000000):JP N h name=some (AFC h name):=by have h1:=Ach hh name;unfold JP AFC;rw[ARh hh name hn,aa,AB,Ap fM];generalize Ee name h.m=vs at *;cases vs with|nil=>rw[Gv];rfl|cons x xs=>simp only[SK,aH,cx,ae]at h1;rw[Gv];dsimp only[AB];rw[aj fO,Ap fP,show(0:Int)+1=((1:Nat):Int) by rfl,AGl _ _ _ _ fO (by rw[Wh];simp only[ag,aq,ae,SK];omega)];rfl
end
section
variable{N:Nat}{l:B8}
def AzR (n:Nat):Bool:=AC3 n||(decide (48<=n)&&decide (n<=57))||([33,35,36,37,38,39,42,43,45,46,94,95,96,124,126]:List Nat).contains n
def AAV (c:UInt8):Bool:=AzR c.toNat
def VT (c:UInt8):Bool:=decide (c.toNat=32)||decide (c.toNat=9)
def A10 (c:UInt8):LZ N (AJ c)=some (AAV c):=Bl (f:=λn=>LZ N (n:Int)) (g:=λn=>some (AzR n)) (by kernel_rfl) c
def A2G (c:UInt8):Lb N (AJ c)=some (AAV c):=Bl (f:=λn=>Lb N (n:Int)) (g:=λn=>some (AzR n)) (by kernel_rfl) c
def Axt (c:UInt8):MV N (AJ c)=some (VT c):=Bl (f:=λn=>MV N (n:Int)) (g:=λn=>some (decide (n=32)||decide (n=9))) (by kernel_rfl) c
end
end Go.VM
