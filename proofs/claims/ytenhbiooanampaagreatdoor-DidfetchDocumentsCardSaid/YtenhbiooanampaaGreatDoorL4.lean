import Derived.Test.YtenhbiooanampaaGreatDoorL3
set_option linter.defProp false
set_option linter.unusedVariables false
set_option linter.unusedSimpArgs false
namespace Go.VM
section
variable{N:Nat}
def ATW (c:UInt8) (l:B8):strings_Contains N l [c]=some (l.contains c):=by unfold strings_Contains;rw[AN4,aa,Js]
def AuN{c:UInt8}{l:B8} (hb:l.length<=1000000):decide ((((l.takeWhile λx=>!([c]:B8).contains x).length:Nat):Int)<(l.length:Int))=l.contains c:=by grind[bne,UK,QA]
theorem AHZ (also:B8): ∀(k:Nat) (t out:B8),(Ub also k t out).1.length<=out.length+t.length
 |0,t,out=>by simp[Ub]
 |k+1,[],out=>by simp[Ub]
 | k+1,c::t,out=>by
  rw[Ub];split;·cases h:NU t with|none=>simp|some x=>have h2:=VV h;have:=AHZ also k (t.drop 2) (out++(if FY x=true then [x]else NZ x));grind[FY,NZ]
  ·split;·have:=AHZ also k t (out++[c]);grind
   ·simp
def NF (s also:B8):(EP N s also).1.length<=s.length:=by grind[EP,AHZ]
def Lm (u:ApiURL):B8:=if u.hasQuery=true then u.path++[63]++u.query else u.path
def Im (u:ApiURL):B8:=if u.hasFrag=true then([104,116,116,112,115,58,47,47]++hpF u.host u.port)++Lm u++([35]++u.fragment)else([104,116,116,112,115,58,47,47]++hpF u.host u.port)++Lm u
def AR2 (u:ApiURL) (h:u.path.length<=1000000/\u.query.length<=1000000):Kl N u=some (Lm u):=by
 unfold Kl Lm;cases u.hasQuery;·rfl
 ·rw[an rfl,an rfl,A9 (by grind),A9 (by grind)]
def YH (u:ApiURL) (h:u.path.length<=1000000/\u.query.length<=1000000):Hu N u=some (Lm u):=by
 unfold Hu Lm;cases u.hasQuery;·rfl
 ·rw[an rfl,an rfl,A9 (by grind),A9 (by grind)]
def AUe (u:ApiURL):(Lm u).length<=u.path.length+u.query.length+1:=by grind[Lm]
def Vl (u:ApiURL):Prop:=RI u.port/\u.host.length<=1000000/\u.path.length<=1000000/\u.query.length<=1000000/\u.fragment.length<=1000000
def Xl (u:ApiURL) (h:Vl u) (hN:20<=N):FU N u=some (Im u):=by
 obtain⟨h1,h2,h3,h4,h5⟩:=h;have hh:=YT u.host u.port;have ht:=AUe u;unfold FU KX Im;rw[aa,Aps _ _ h1 h2 hN,aa,A9 fK,AR2 u ⟨h3,h4⟩,aa,A9 fK];dsimp only[AB];cases u.hasFrag;·rfl
 ·rw[an rfl,an rfl,A9 (by grind),A9 fK]
def SI (u:ApiURL) (h:Vl u) (hN:20<=N):Cy N u=some (Im u):=by
 obtain⟨h1,h2,h3,h4,h5⟩:=h;have hh:=YT u.host u.port;have ht:=AUe u;unfold Cy QW Im;rw[aa,AsI _ _ h1 h2 hN,aa,A9 fK,YH u ⟨h3,h4⟩,aa,A9 fK];dsimp only[AB];cases u.hasFrag;·rfl
 ·rw[an rfl,an rfl,A9 (by grind),A9 fK]
theorem AjH (r:B8):(OU r).1.length<=r.length/\(OU r).2.1.length<=r.length:=by grind[OU,List.dropWhile_sublist,Sj,List.length_drop]
def inP:B8:=[33,36,38,39,40,41,42,43,44,59,61,58,64,47]
def inQ:B8:=[33,36,38,39,40,41,42,43,44,59,61,58,64,47,63]
def Mf:ApiURL:=⟨[],0,[],[],[],false,false⟩
def Ri (N:Nat) (p:B8):B8:=if Kn N p []=[]then [47]else Kn N p []
def AAT (N:Nat) (U:ApiURI):ApiURL×Int:=if U.hasAuthority=false then(Mf,71)else if U.authority.contains 64=true then(Mf,70)else if((hpS U.authority).2 !=0)=true then(Mf,(hpS U.authority).2)else if((EP N U.path inP).2 !=0)=true then(Mf,(EP N U.path inP).2)else if((EP N U.query inQ).2 !=0)=true then(Mf,(EP N U.query inQ).2)else if((EP N U.fragment inQ).2 !=0)=true then(Mf,(EP N U.fragment inQ).2)else if(Im ⟨(hpS U.authority).1.host,(hpS U.authority).1.port,Ri N (EP N U.path inP).1,(EP N U.query inQ).1,(EP N U.fragment inQ).1,U.hasQuery,U.hasFrag⟩).length>4096 then(Mf,5)else(⟨(hpS U.authority).1.host,(hpS U.authority).1.port,Ri N (EP N U.path inP).1,(EP N U.query inQ).1,(EP N U.fragment inQ).1,U.hasQuery,U.hasFrag⟩,0)
def AUM (N:Nat) (a b:B8):ApiURL×Int:=if(a++58::b).length>4096 then(Mf,5)else AAT N (ADv a b)
def ACC (p:B8):(Ri N p).length<=p.length+1:=by grind[OA,List.length_nil,Ri]
def Am1{a:B8} (h:SA a):(a.map FP==List.map FP [104,116,116,112,115])=true:=by rw[h];decide
def ADG (N:Nat) (s:B8):ApiURL×Int:=if s.length>4096 then(Mf,5)else if((NR s).2 !=0)=true then(Mf,(NR s).2)else if(!((NR s).1.hasScheme&&((NR s).1.scheme.map FP==List.map FP [104,116,116,112,115])))=true then(Mf,60)else AAT N (NR s).1
def Arr{d a r:B8} (h:AEF d=some (a,r)):a.length<=d.length/\r.length<=d.length:=by
 unfold AEF at h;split at h;·cases h;have:=br List.length (UJ d);grind
 grind
theorem Rf (s:B8):(NR s).1.authority.length<=s.length/\(NR s).1.path.length<=s.length/\(NR s).1.query.length<=s.length/\(NR s).1.fragment.length<=s.length/\(NR s).1.scheme.length<=s.length:=by
 have hc1:=JY 35 s;have hc2:=JY 63 (Af 35 s).1;unfold NR;split;·simp[Abd]
 generalize hd:(Af 63 (Af 35 s).1).1=d at *;have key: ∀a h r,r.length<=d.length->a.length<=s.length->(usT s a h r).authority.length<=s.length/\(usT s a h r).path.length<=s.length/\(usT s a h r).query.length<=s.length/\(usT s a h r).fragment.length<=s.length/\(usT s a h r).scheme.length<=s.length:=λa h r hr ha=>by grind[AjH,usT]
 split;·simp_all
 ·rename_i a r hc;have:=Arr hc;grind[Abd]
theorem ARA (s:B8) (hb:s.length<=1000000) (hN:20000<=N):J7 N s=some (ADG N s):=by
 unfold J7 ADG;by_cases hl:s.length>4096;·rw[an (by simp only[au];omega),an hl];rfl
 rw[aj (by simp only[au];omega),aj hl,Tc s hb fH,aa];obtain⟨l1,l2,l3,l4,l5⟩:=Rf s;generalize NR s=X at *;obtain⟨U,e⟩:=X;dsimp only[AB]at *;by_cases he:(e !=0)=true;·rw[an he,an he];rfl
 rw[aj he,aj he];cases hS:U.hasScheme;·rfl
 rw[an rfl,ZU _ _ fH fJ,aa];cases hE:(U.scheme.map FP==List.map FP [104,116,116,112,115]);·rfl
 simp only[bE,cS,aq,az];unfold AAT;cases hA:U.hasAuthority;·rfl
 rw[an rfl,aj fJ];rw[ATW,aa];cases hat:U.authority.contains 64;rotate_left;·rfl
 rw[aj fJ,aj fJ,AkQ _ fH fH,aa];have q1:=AO3 U.authority;have q2:=AAz U.authority;generalize hpS U.authority=H at *;by_cases e1:(H.2 !=0)=true;·rw[an e1,an e1];rfl
 rw[aj e1,aj e1];have n1:=NF (N:=N) U.path inP;have n2:=NF (N:=N) U.query inQ;have n3:=NF (N:=N) U.fragment inQ;rw[PP U.path _ hN,aa];change (if((EP N U.path inP).2 !=0)=true then _ else _)=_;by_cases e2:((EP N U.path inP).2 !=0)=true;·rw[an e2,an e2];rfl
 rw[aj e2,aj e2,PP U.query _ hN,aa];change (if((EP N U.query inQ).2 !=0)=true then _ else _)=_;by_cases e3:((EP N U.query inQ).2 !=0)=true;·rw[an e3,an e3];rfl
 rw[aj e3,aj e3,PP U.fragment _ hN,aa];change (if((EP N U.fragment inQ).2 !=0)=true then _ else _)=_;by_cases e4:((EP N U.fragment inQ).2 !=0)=true;·rw[an e4,an e4];rfl
 rw[aj e4,aj e4];change Option.bind (De N (EP N U.path inP).1) _=_;rw[AqM _ hN fH,aa];have pl:=ACC (N:=N) (EP N U.path inP).1;have hp:Ri N (EP N U.path inP).1=if(Kn N (EP N U.path inP).1 []==[])=true then [47]else Kn N (EP N U.path inP).1 []:=by unfold Ri;split<;>simp_all
 have fin: ∀P:B8,P=Ri N (EP N U.path inP).1->((FU N (ApiURL.mk H.1.host H.1.port P (EP N U.query inQ).1 (EP N U.fragment inQ).1 U.hasQuery U.hasFrag)).bind λy25=>if(decide ((y25.length:Int)>4096))=true then(some ((ApiURL.mk [] 0 [] [] [] false false),5):Option (ApiURL×Int))else some ((ApiURL.mk H.1.host H.1.port P (EP N U.query inQ).1 (EP N U.fragment inQ).1 U.hasQuery U.hasFrag),0))=some (if(Im ⟨H.1.host,H.1.port,Ri N (EP N U.path inP).1,(EP N U.query inQ).1,(EP N U.fragment inQ).1,U.hasQuery,U.hasFrag⟩).length>4096 then(Mf,5)else(⟨H.1.host,H.1.port,Ri N (EP N U.path inP).1,(EP N U.query inQ).1,(EP N U.fragment inQ).1,U.hasQuery,U.hasFrag⟩,0)):=by
  intro P hP;subst hP;rw[Xl _ ⟨q1,by grind,by grind,by grind,by grind⟩ fH,aa];split;·rename_i AX;rw[an (by simp only[au]at AX;omega)];rfl
  ·rename_i AX;rw[aj (by simp only[au]at AX;omega)]
 by_cases e5:(Kn N (EP N U.path inP).1 []==[])=true;·rw[an e5]at hp⊢;exact fin _ hp.symm
 ·rw[aj e5]at hp⊢;exact fin _ hp.symm
theorem ATZ (s:B8) (hb:s.length<=1000000) (hN:20000<=N):J3 N s=some (ADG N s):=by
 unfold J3 ADG;by_cases hl:s.length>4096;·rw[an (by simp only[au];omega),an hl];rfl
 rw[aj (by simp only[au];omega),aj hl,WV s hb,aa];obtain⟨l1,l2,l3,l4,l5⟩:=Rf s;generalize NR s=X at *;obtain⟨U,e⟩:=X;dsimp only[AB]at *;by_cases he:(e !=0)=true;·rw[an he,an he];rfl
 rw[aj he,aj he];cases hS:U.hasScheme;·rfl
 rw[an rfl,ZE _ _ fH fJ,aa];cases hE:(U.scheme.map FP==List.map FP [104,116,116,112,115]);·rfl
 simp only[bE,cS,aq,az];unfold AAT;cases hA:U.hasAuthority;·rfl
 rw[an rfl,aj fJ];rw[PH _ [64] fJ fH,aa,AuN fH];cases hat:U.authority.contains 64;rotate_left;·rfl
 rw[aj fJ,aj fJ,Alr _ fH,aa];have q1:=AO3 U.authority;have q2:=AAz U.authority;generalize hpS U.authority=H at *;by_cases e1:(H.2 !=0)=true;·rw[an e1,an e1];rfl
 rw[aj e1,aj e1];have n1:=NF (N:=N) U.path inP;have n2:=NF (N:=N) U.query inQ;have n3:=NF (N:=N) U.fragment inQ;rw[R9 U.path _ hN fJ,aa];change (if((EP N U.path inP).2 !=0)=true then _ else _)=_;by_cases e2:((EP N U.path inP).2 !=0)=true;·rw[an e2,an e2];rfl
 rw[aj e2,aj e2,R9 U.query _ hN fJ,aa];change (if((EP N U.query inQ).2 !=0)=true then _ else _)=_;by_cases e3:((EP N U.query inQ).2 !=0)=true;·rw[an e3,an e3];rfl
 rw[aj e3,aj e3,R9 U.fragment _ hN fJ,aa];change (if((EP N U.fragment inQ).2 !=0)=true then _ else _)=_;by_cases e4:((EP N U.fragment inQ).2 !=0)=true;·rw[an e4,an e4];rfl
 rw[aj e4,aj e4];change Option.bind (Cf N (EP N U.path inP).1) _=_;rw[Apx _ hN fH,aa];have pl:=ACC (N:=N) (EP N U.path inP).1;have hp:Ri N (EP N U.path inP).1=if(Kn N (EP N U.path inP).1 []==[])=true then [47]else Kn N (EP N U.path inP).1 []:=by unfold Ri;split<;>simp_all
 have fin: ∀P:B8,P=Ri N (EP N U.path inP).1->((Cy N (ApiURL.mk H.1.host H.1.port P (EP N U.query inQ).1 (EP N U.fragment inQ).1 U.hasQuery U.hasFrag)).bind λy25=>if(decide ((y25.length:Int)>4096))=true then(some ((ApiURL.mk [] 0 [] [] [] false false),5):Option (ApiURL×Int))else some ((ApiURL.mk H.1.host H.1.port P (EP N U.query inQ).1 (EP N U.fragment inQ).1 U.hasQuery U.hasFrag),0))=some (if(Im ⟨H.1.host,H.1.port,Ri N (EP N U.path inP).1,(EP N U.query inQ).1,(EP N U.fragment inQ).1,U.hasQuery,U.hasFrag⟩).length>4096 then(Mf,5)else(⟨H.1.host,H.1.port,Ri N (EP N U.path inP).1,(EP N U.query inQ).1,(EP N U.fragment inQ).1,U.hasQuery,U.hasFrag⟩,0)):=by
  intro P hP;subst hP;rw[SI _ ⟨q1,by grind,by grind,by grind,by grind⟩ fH,aa];split;·rename_i AX;rw[an (by simp only[au]at AX;omega)];rfl
  ·rename_i AX;rw[aj (by simp only[au]at AX;omega)]
 by_cases e5:(Kn N (EP N U.path inP).1 []==[])=true;·rw[an e5]at hp⊢;exact fin _ hp.symm
 ·rw[aj e5]at hp⊢;exact fin _ hp.symm
theorem Aad{a b:B8} (h:SA a) (hb:(a++58::b).length<=1000000) (hN:20000<=N):ADG N (a++58::b)=AUM N a b:=by
 unfold ADG AUM;by_cases hl:(a++58::b).length>4096;·simp_all
 rw[aj hl,aj hl];have e:NR (a++58::b)=(ADv a b,0):=cD ((Tc (N:=N) _ hb fH).symm.trans (Aq9 h fH hN));rw[e,aj (show¬(((0:Int) !=0)=true) by decide),show(ADv a b).hasScheme=true from rfl,show(ADv a b).scheme=a from rfl,Am1 h];rfl
def AqE{a b:B8} (h:SA a) (hb:(a++58::b).length<=1000000) (hN:20000<=N):J7 N (a++58::b)=some (AUM N a b):=by grind[ARA,Aad]
def Aqe{a b:B8} (h:SA a) (hb:(a++58::b).length<=1000000) (hN:20000<=N):J3 N (a++58::b)=some (AUM N a b):=by grind[ATZ,Aad]
def Hq{n b:Nat} (h:n<=1000000) (hb:b<=1000):Ae n b:=by unfold Ae;have:n * b<=1000000 * 1000:=fr h hb;omega
def Awo (c:UInt8) (l:B8) (hb:l.length<=1000000):BK N l [c]=some (((l.takeWhile (· !=c)).length:Nat):Int):=by grind[bne,PH]
def ACq{c:UInt8}{l:B8}:((((l.takeWhile (· !=c)).length:Nat):Int)==(l.length:Int))=!l.contains c:=by grind[UK,QA]
def ACk{c:UInt8}{l:B8} (h:l.contains c=true) (hb:l.length<=1000000):sub l 0 (((l.takeWhile (· !=c)).length:Nat):Int)=some (Af c l).1/\sub l (wr .i64 ((((l.takeWhile (· !=c)).length:Nat):Int)+1)) (l.length:Int)=some (Af c l).2.1:=by have hlt:=QA h;obtain⟨s1,s2⟩:=AIl h hb;rw[OY,an h]at s1 s2;grind[wr,Ai]
def ALM{c:UInt8}{l:B8}:(Af c l).2.2=l.contains c:=by grind[TC,Hf]
theorem AHi: ∀(k:Nat) (t out:B8),(UY k t out).1.length<=out.length+t.length
 |0,t,out=>by simp[UY]
 |k+1,[],out=>by simp[UY]
 |k+1,c::t,out=>by
  rw[UY];split;·cases h:NU t with|none=>simp|some x=>have h2:=VV h;have:=AHi k (t.drop 2) (out++[x]);grind
  ·have:=AHi k t (out++[c]);grind
theorem NA (s:B8):(Ao N s).1.length<=s.length:=by grind[Ao,AHi]
theorem YF (keep:B8): ∀l:B8,(l.flatMap (P8 keep)).length<=3 * l.length|[]=>by simp|c::l=>by have:=YF keep l;have:=ABy keep c;rw[aR,ah,ae];omega
def QC (d:Bool) (b s:B8) (h:b.length+s.length<=1000000000):AY N ⟨d,b⟩ s=some ((s.length:Int),(),⟨true,b++s⟩):=by unfold AY GJ;cases d<;>simp only[aq,az,aB,aa]<;>rw[AO (O0 fH)]
def AAf (r:B8) (x c:UInt8):B8:=if c=x then r else [c]
def ACV{r:B8}{x:UInt8}: ∀ {l:B8},l.contains x=false->l.flatMap (AAf r x)=l
 |[],_=>rfl
 |c::l,h=>by
  rw[bC,d8]at h;have hc: ¬c=x:=by grind
  rw[aR,ACV h.2,AAf,aj hc];rfl
theorem Asu{r:B8}{x:UInt8}{l:B8} (h:l.contains x=true):l.flatMap (AAf r x)=(Af x l).1++(r++(Af x l).2.1.flatMap (AAf r x)):=by
 induction l with
 |nil=>grind
 | cons c t ih=>
  by_cases hc:c=x;·subst hc;rw[Hf h,aR,AAf,an rfl];simp
  ·have e1:(x==c)=false:=by grind
   have e2:(c !=x)=true:=by grind
   have ht:t.contains x=true:=by simp_all
   have hi:=ih ht;rw[Hf h,bc,e2,bX,e2,aR,hi,AAf,aj hc];grind[Hf]
def ARB{l r:B8}{x:UInt8} (hb:l.length<=1000000) (hr:r.length<=3) (k18:Int×Bool×B8->Option B8): ∀(k:Nat) (t pre buf:B8) (d:Bool),l=pre++t->t.count x=k->buf.length+3 * t.length<=100000000->∃last pre' buf' d',l=pre'++last/\buf'++last=buf++t.flatMap (AAf r x)/\buf'.length<=100000000/\DU N l [x] r k18 k pre.length d buf=k18 ((pre'.length:Int),d',buf')
 |0,t,pre,buf,d,h,hk,ho=>by have h0:=Y0.1 hk;exact⟨t,pre,buf,d,h,by rw[ACV h0],fH,by rw[DU]⟩
 | k+1,t,pre,buf,d,h,hk,ho=>by
  have hl:=br List.length h;simp only[ah]at hl;have h1:t.contains x=true:=by grind
  have hlt:=QA h1;have hcnt:t.count x=(Af x t).2.1.count x+1:=by grind[Hf,Y9]
  have hc:=JY x t;have he:t=(Af x t).1++(x::(Af x t).2.1):=by
   rw[Hf h1];have e:=bl (p:=(· !=x)) (l:=t);have hd:t.dropWhile (· !=x)=x::(t.dropWhile (· !=x)).drop 1:=by cases hq:t.dropWhile (· !=x)with|nil=>grind|cons y ys=>grind[List.head?_dropWhile_not]
   grind
  have hlen:(Af x t).1.length+1+(Af x t).2.1.length=t.length:=by have:=br List.length he;grind
  have hi:(Go.Lib.indexByte t x)=((Af x t).1.length:Int):=by rw[OY,an h1,Hf h1]
  have hlp:l=(pre++(Af x t).1++[x])++(Af x t).2.1:=by grind
  obtain⟨last,pre',buf',d',q1,q2,q3,q4⟩:=ARB (x:=x) hb hr k18 k (Af x t).2.1 (pre++(Af x t).1++[x]) (buf++(Af x t).1++r) true hlp fH (by grind);refine⟨last,pre',buf',d',q1,?_,q3,?_⟩;·grind[Asu]
  ·have hdl:l.drop pre.length=t:=by grind
   rw[DU,Be fH,aa,hdl,AN4,aa,hi];have w1:wr .i64 ((pre.length:Int)+((Af x t).1.length:Int))=((pre.length+(Af x t).1.length:Nat):Int):=by rw[Ai fH];omega
   have w2:wr .i64 (((pre.length+(Af x t).1.length:Nat):Int)+(([x]:B8).length:Int))=((pre.length+(Af x t).1.length+1:Nat):Int):=by rw[Ai fK];simp
   have hseg:(l.drop pre.length).take (pre.length+(Af x t).1.length-pre.length)=(Af x t).1:=by grind[Nat.add_sub_cancel_left,Hf,HZ]
   rw[w1,w2,A8 l _ _ fH fH,aa,hseg,QC _ _ _ fH,aa];dsimp only;rw[QC _ _ _ (by grind),aa];dsimp only;have e9:pre.length+(Af x t).1.length+1=(pre++(Af x t).1++[x]).length:=by grind
   grind
def Re (l:B8) (x:UInt8) (r:B8) (hr:r.length=3) (hb:l.length<=1000000):strings_ReplaceAll N l [x] r=some (l.flatMap (AAf r x)):=by
 have hcl:l.count x<=l.length:=List.count_le_length;have hcnt:strings_Count N l [x]=some ((l.count x:Nat):Int):=by unfold strings_Count;rw[aj fI,an (by rfl),show idx [x] 0=some x from rfl,aa,Qf];rfl
 have hne: ¬(([x]:B8)==r)=true:=by intro h;have:=bf.1 h;grind
 unfold strings_ReplaceAll strings_Replace;dsimp only[AB];rw[aj hne,aj fJ,hcnt,aa];by_cases h0:l.count x=0;·rw[an (by grind),aa,ACV (Y0.1 h0)]
 rw[aj (by grind),an fJ,an rfl];have wg:wr .i64 ((l.length:Int)+(wr .i64 (((l.count x:Nat):Int) * (wr .i64 ((r.length:Int)-(([x]:B8).length:Int))))))=((l.length+l.count x * 2:Nat):Int):=by rw[hr,show wr .i64 (((3:Nat):Int)-(([x]:B8).length:Int))=2 from rfl,Ai (n:=((l.count x:Nat):Int) * 2) fH,Ai fH];simp
 rw[wg];unfold D9;rw[AO fH,aa,an fI,AO fH,Int.sub_zero,bH];obtain⟨last,pre',buf',d',q1,q2,q3,q4⟩:=ARB (N:=N) (l:=l) (r:=r) (x:=x) hb fH (λj17:Int×Bool×B8=>(sub l j17.1 (l.length:Int)).bind λx41=>(AY N (StringsBuilder.mk j17.2.1 j17.2.2) x41).bind λy42=>(BG N y42.2.2).bind λy44=>some (y44.1)) (l.count x) l [] [] true rfl rfl (by grind);have hl:=br List.length q1;simp only[ah]at hl;rw[show(([]:B8).length:Int)=0 from rfl]at q4;rw[q4,Be fH,aa,show l.drop pre'.length=last by grind,QC _ _ _ (by grind),aa];grind[BG]
def GR (name:B8) (xs:List ApiField):List B8:=(xs.filter λf=>f.name.map FP==name.map FP).map (·.value)
def hdB (h:ApiHead):Prop:=h.fields.length<=100/\ ∀f,f∈h.fields->f.name.length+f.value.length<=20000
def Q7 (xs:List B8):Nat:=(xs.map List.length).sum
def Nz (sep:B8) (xs:List B8):B8:=xs.flatMap λx=>sep++x
def QF (sep:B8):List B8->B8|[]=>[]|x::xs=>x++Nz sep xs
def AQ8 (name:B8) (xs:List ApiField):(GR name xs).length<=xs.length:=by unfold GR;rw[cp];exact List.length_filter_le ..
def Avn{name:B8}{xs:List ApiField} (h: ∀f,f∈xs->f.name.length+f.value.length<=20000): ∀v,v∈GR name xs->v.length<=20000:=by intro v hv;obtain⟨f,hf,rfl⟩:=bk.1 hv;have:=h f (List.mem_filter.1 hf).1;omega
def Arl{xs:List B8}{M:Nat} (h: ∀v,v∈xs->v.length<=M):Q7 xs<=xs.length * M:=by induction xs with|nil=>simp[Q7]|cons x xs ih=>have h1:=h x (.head _);have h2:=ih λv hv=>h v (.tail _ hv);simp only[Q7,aF,cw,ae,bG]at *;omega
def VD (sep:B8): ∀xs:List B8,(Nz sep xs).length=xs.length * sep.length+Q7 xs|[]=>by simp[Nz,Q7]|x::xs=>by have:=VD sep xs;unfold Nz Q7 at *;rw[aR,ah,ah,this,aF,cw,ae,bG];omega
def Afj (sep:B8) (xs:List B8):(QF sep xs).length<=xs.length * sep.length+Q7 xs:=by cases xs with|nil=>simp[QF]|cons x xs=>rw[QF,ah,VD,ae,bG];simp only[Q7,aF,cw];omega
def Wm (name:B8) (hn:name.length<=1000000) (k:List B8->Option (List B8)): ∀(xs:List ApiField) (s:List B8),(∀f,f∈xs->f.name.length+f.value.length<=20000)->s.length+xs.length<=1000->G5 N name k xs s=k (s++GR name xs)
 |[],s,_,_=>by rw[G5];simp[GR]
 |f::xs,s,h,hl=>by
  have h1:=h f (.head _);rw[ae]at hl;rw[G5];dsimp only[AB];rw[ZU _ _ fH fH,aa];have AX: ∀g,g∈xs->g.name.length+g.value.length<=20000:=λg hg=>h g (.tail _ hg);unfold GR;rw[dx];by_cases e:(f.name.map FP==name.map FP)=true;·rw[an e,an e,Ax7 fH fJ,Wm name hn k xs _ AX fK];simp[GR]
  ·rw[aj e,aj e,Wm name hn k xs _ AX fH];simp[GR]
def Wv (name:B8) (hn:name.length<=1000000) (k:List B8->Option (List B8)): ∀(xs:List ApiField) (s:List B8),(∀f,f∈xs->f.name.length+f.value.length<=20000)->s.length+xs.length<=1000->Fu N name k xs s=k (s++GR name xs)
 |[],s,_,_=>by rw[Fu];simp[GR]
 |f::xs,s,h,hl=>by
  have h1:=h f (.head _);rw[ae]at hl;rw[Fu];dsimp only[AB];rw[ZE _ _ fH fH,aa];have AX: ∀g,g∈xs->g.name.length+g.value.length<=20000:=λg hg=>h g (.tail _ hg);unfold GR;rw[dx];by_cases e:(f.name.map FP==name.map FP)=true;·rw[an e,an e,Ax7 fH fJ,Wv name hn k xs _ AX fK];simp[GR]
  ·rw[aj e,aj e,Wv name hn k xs _ AX fH];simp[GR]
def ATB{h:ApiHead} (hh:hdB h) (name:B8) (hn:name.length<=1000000):Nw N h name=some (GR name h.fields):=by obtain⟨h1,h2⟩:=hh;unfold Nw;rw[AB,A9 fH,Wm name hn _ _ _ h2 fK];rfl
def AUx{h:ApiHead} (hh:hdB h) (name:B8) (hn:name.length<=1000000):MR N h name=some (GR name h.fields):=by obtain⟨h1,h2⟩:=hh;unfold MR;rw[AB,A9 fH,Wv name hn _ _ _ h2 fK];rfl
def pj1 (k:Int->Option B8): ∀(xs:List B8) (s:Nat),s+Q7 xs<=1000000000->F7 N k xs (s:Int)=k ((s+Q7 xs:Nat):Int)|[],s,_=>by rw[F7];simp[Q7]|x::xs,s,h=>by simp only[Q7,aF,cw]at h;have hi:=pj1 k xs (s+x.length) (by simp only[Q7];omega);rw[F7];dsimp only[AB];rw[aj (by rw[Ai fH];simp;omega),Ai fH,show(s:Int)+(x.length:Int)=((s+x.length:Nat):Int) by omega,hi];simp only[Q7,aF,cw,cG]
def pj2 (sep:B8) (k:StringsBuilder->Option B8): ∀(xs:List B8) (b:B8),b.length+(Nz sep xs).length<=1000000000->F9 N sep k xs ⟨true,b⟩=k ⟨true,b++Nz sep xs⟩|[],b,_=>by rw[F9];simp[Nz]|x::xs,b,h=>by simp only[Nz,aR,ah]at h;have hi:=pj2 sep k xs (b++sep++x) (by simp only[ah,Nz];omega);rw[F9,QC _ _ _ fH,aa];dsimp only;rw[QC _ _ _ fK,aa];dsimp only;rw[hi];simp[Nz]
theorem Ale{sep:B8} (h1:1<=sep.length) (h2:sep.length<=100) (xs:List B8) (hl:xs.length<=10000) (hs:Q7 xs<=100000000):strings_Join N xs sep=some (QF sep xs):=by
 unfold strings_Join;match xs,hl,hs with
 |[],_,_=>rfl
 |[x],_,_=>simp[idx,QF,Nz]
 | x::y::r,hl,hs=>
  simp only[ae]at hl;have hm:sep.length * (r.length+1)<=1000000:=bJ (fr h2 (show r.length+1<=10000 by omega)) fJ;have ht:=VD sep (y::r);have hsx:Q7 (x::y::r)=x.length+Q7 (y::r):=by simp[Q7]
  rw[aj fK,aj fK];dsimp only[AB];have e1:wr .i64 ((((x::y::r).length:Nat):Int)-1)=((r.length+1:Nat):Int):=by rw[Ai (by simp only[ae];omega)];simp
  rw[an fK,e1,AO fH,aj,show wr .i64 ((sep.length:Int) * ((r.length+1:Nat):Int))=((sep.length * (r.length+1):Nat):Int) by rw[<-Int.natCast_mul,Ai fH],Ai fH,Int.zero_add,A9 fK,pj1 _ _ _ fH]
  ·unfold D9;rw[AO ⟨by have:1<=sep.length * (r.length+1):=Nat.mul_pos h1 fH;omega,fH⟩,aa];have e2:idx (x::y::r) 0=some x:=rfl;have e3:sub (x::y::r) 1 (((x::y::r).length:Nat):Int)=some (y::r):=by rw[show(1:Int)=((1:Nat):Int)from rfl,A8 _ _ _ fI fI];simp
   rw[e2,aa,QC _ _ _ fK,aa,e3,aa,A9 fK];dsimp only;rw[pj2 _ _ _ _ (by simp only[ah,ap];rw[ht];simp only[ae];have:(r.length+1) * sep.length=sep.length * (r.length+1):=Nat.mul_comm ..;omega)];unfold BG;simp[QF]
  ·have h0:(0:Int)<((r.length+1:Nat):Int):=fH;have h9:(922337203685477:Int)<=Int.tdiv 9223372036854775807 ((r.length+1:Nat):Int):=by rw[bF fJ,Int.le_ediv_iff_mul_le h0];omega
   have h10:Int.tdiv 9223372036854775807 ((r.length+1:Nat):Int)<=9223372036854775807:=by rw[bF fJ];exact Int.ediv_le_self _ fJ
   rw[Ai ⟨Int.le_trans fJ h9,h10⟩,au];exact λh=>absurd (Int.le_trans h9 h) fH
def AE7 (k:B8->Option (B8×Bool)): ∀(xs:List B8) (i:Nat) (s:B8),1<=i->s.length+(Nz [44,32] xs).length<=1000000000->Gj N k xs (i:Int) s=k (s++Nz [44,32] xs)|[],i,s,_,_=>by rw[Gj];simp[Nz]|x::xs,i,s,hi,h=>by simp only[Nz,aR,ah]at h;have ih:=AE7 k xs (i+1) (s++[44,32]++x) fH (by simp only[ah,Nz];omega);rw[Gj];dsimp only[AB];rw[an fK,A9 fH,A9 (by simp only[ah];omega),show(i:Int)+1=((i+1:Nat):Int) by omega,ih];simp[Nz]
def AaM{h:ApiHead} (hh:hdB h) (name:B8):(GR name h.fields).length<=100/\Q7 (GR name h.fields)<=2000000:=by have h1:=AQ8 name h.fields;have h2:=Arl (Avn (name:=name) hh.2);have h3:=bL 20000 (bJ h1 hh.1);exact⟨bJ h1 hh.1,fH⟩
def ADu (h:ApiHead) (name:B8):B8×Bool:=(QF [44,32] (GR name h.fields),decide (((GR name h.fields).length:Int)>0))
def AN1{h:ApiHead} (hh:hdB h) (name:B8) (hn:name.length<=1000000):RL N h name=some (ADu h name):=by have h1:=AaM hh name;unfold RL;rw[ATB hh name hn,aa,Ale fJ fJ _ fH fH,aa];rfl
def Rl{h:ApiHead} (hh:hdB h) (name:B8) (hn:name.length<=1000000):Nc N h name=some (ADu h name):=by have h1:=AaM hh name;unfold Nc ADu;rw[AUx hh name hn,aa,AB,A9 fH];generalize GR name h.fields=vs at *;cases vs with|nil=>rw[Gj];rfl|cons x xs=>simp only[Q7,aF,cw,ae]at h1;rw[Gj];dsimp only[AB];rw[aj fJ,A9 fK,show(0:Int)+1=((1:Nat):Int) by rfl,AE7 _ _ _ _ fJ (by rw[VD];simp only[ah,ap,ae,Q7];omega)];rfl
end
section
variable{N:Nat}{l:B8}
def AvY (n:Nat):Bool:=AB4 n||(decide (48<=n)&&decide (n<=57))||([33,35,36,37,38,39,42,43,45,46,94,95,96,124,126]:List Nat).contains n
def Yq (c:UInt8):Bool:=AvY c.toNat
def UQ (c:UInt8):Bool:=decide (c.toNat=32)||decide (c.toNat=9)
def Ax9 (c:UInt8):Ki N (AJ c)=some (Yq c):=Bt (f:=λn=>Ki N (n:Int)) (g:=λn=>some (AvY n)) (by kernel_rfl) c
def AyK (c:UInt8):Kk N (AJ c)=some (Yq c):=Bt (f:=λn=>Kk N (n:Int)) (g:=λn=>some (AvY n)) (by kernel_rfl) c
def Atr (c:UInt8):L8 N (AJ c)=some (UQ c):=Bt (f:=λn=>L8 N (n:Int)) (g:=λn=>some (decide (n=32)||decide (n=9))) (by kernel_rfl) c
end
section
variable{N:Nat}
def trimB (l:B8):B8:=Z4 UQ (l.dropWhile UQ)
def XZ (l:B8):(trimB l).length<=l.length:=by have h1:=An3 UQ (l.dropWhile UQ);have h2:=(b9 (l:=l) UQ).length_le;unfold trimB;omega
def Ayj (c:UInt8):Nf N (AJ c)=some (UQ c):=Bt (f:=λn=>Nf N (n:Int)) (g:=λn=>some (decide (n=32)||decide (n=9))) (by kernel_rfl) c
def Aid (k2:B8->Option B8): ∀(l:B8) (k:Nat),l.length<k->H5 N k2 k l=k2 (l.dropWhile UQ)
 |[],k+1,_=>by rw[H5,AB];rfl
 |x::l,k+1,h=>by
  simp only[ae]at h;rw[H5,AB,an (by simp<;>omega),show idx (x::l) 0=some x from rfl,aa,Ayj,aa,bX];try dsimp only
  cases UQ x;·rfl
  ·rw[an rfl,APk,aa,Aid k2 l k fH];rfl
def Ak1 (k2:B8->Option B8): ∀(l:B8) (k:Nat),l.length<k->H8 N k2 k l=k2 (l.dropWhile UQ)
 |[],k+1,_=>by rw[H8,AB];rfl
 |x::l,k+1,h=>by
  simp only[ae]at h;rw[H8,AB,an (by simp<;>omega),show idx (x::l) 0=some x from rfl,aa,Atr,aa,bX];try dsimp only
  cases UQ x;·rfl
  ·rw[an rfl,APk,aa,Ak1 k2 l k fH];rfl
def Ahr (k2:B8->Option B8): ∀(n:Nat) (l:B8),l.length=n->n<=2^60->∀k:Nat,n<k->IE N k2 k l=k2 (Z4 UQ l)
 |0,l,hl,hb,k+1,_=>by have:l=[]:=dP.1 hl;subst this;rw[IE,AB];rfl
 | n+1,l,hl,hb,k+1,h=>by
  obtain⟨l',x,rfl⟩: ∃l' x,l=l'++[x]:=by
   have hne:l≠ []:=λe=>by subst e;simp at hl
   exact⟨l.dropLast,l.getLast hne,(ef hne).symm⟩
  have hl':l'.length=n:=by simpa using hl
  rw[IE,AB,an (by simp<;>omega),AQj l' x fH,aa,Ayj,aa,ABz];try dsimp only
  cases UQ x;·rfl
  ·rw[an rfl,an rfl,AUO l' x fH,aa,Ahr k2 n l' hl' fH k fH]
def AjC (k2:B8->Option B8): ∀(n:Nat) (l:B8),l.length=n->n<=2^60->∀k:Nat,n<k->II N k2 k l=k2 (Z4 UQ l)
 |0,l,hl,hb,k+1,_=>by have:l=[]:=dP.1 hl;subst this;rw[II,AB];rfl
 | n+1,l,hl,hb,k+1,h=>by
  obtain⟨l',x,rfl⟩: ∃l' x,l=l'++[x]:=by
   have hne:l≠ []:=λe=>by subst e;simp at hl
   exact⟨l.dropLast,l.getLast hne,(ef hne).symm⟩
  have hl':l'.length=n:=by simpa using hl
  rw[II,AB,an (by simp<;>omega),AQj l' x fH,aa,Atr,aa,ABz];try dsimp only
  cases UQ x;·rfl
  ·rw[an rfl,an rfl,AUO l' x fH,aa,AjC k2 n l' hl' fH k fH]
def AB0{l:B8} (hb:l.length<=2^60) (hN:l.length<N):NP N l=some (trimB l):=by have h2:=(b9 (l:=l) UQ).length_le;unfold NP;simp only[AB];rw[Aid _ l N hN,Ahr _ _ _ rfl fH N fH];rfl
def AUX{l:B8} (hb:l.length<=2^60) (hN:l.length<N):PI N l=some (trimB l):=by have h2:=(b9 (l:=l) UQ).length_le;unfold PI;simp only[AB];rw[Ak1 _ l N hN,AjC _ _ _ rfl fH N fH];rfl
def Auf (n:Nat):Bool:=decide (n=9)||(decide (32<=n)&&decide (n≠127))
def TG (c:UInt8):Bool:=Auf c.toNat
def AzL (c:UInt8):KO N (AJ c)=some (TG c):=Bt (f:=λn=>KO N (n:Int)) (g:=λn=>some (Auf n)) (by kernel_rfl) c
def AB8 (k2:Unit->Option Bool): ∀l:B8,Di N k2 l=if l.all TG=true then k2 ()else some false|[]=>by rw[Di];rfl|x::l=>by rw[Di,AzL,aa,AB8 k2 l,aQ];cases TG x<;>simp
def ATx{l:B8} (hb:l.length<=2^60):GU N l=some (l.all TG):=by
 unfold GU;simp only[AB];try rw[AO (by unfold AL;omega)]
 rw[AB8];cases l.all TG<;>rfl
def hvc (x:UInt8):(if decide (AJ x<32)=true then(if(AJ x !=9)=true then true else AJ x==127)else AJ x==127)=!TG x:=Bt (f:=λn=>(if decide ((n:Int)<32)=true then(if((n:Int) !=9)=true then true else(n:Int)==127)else(n:Int)==127)) (g:=λn=>!Auf n) (by kernel_rfl) x
def AFG (k2:Unit->Option Bool): ∀l:B8,Gi N k2 l=if l.all TG=true then k2 ()else some false
 |[]=>by rw[Gi];rfl
 | x::l=>by
  have hk: ∀K:Bool->Option Bool,(if decide (AJ x<32)=true then(if(AJ x !=9)=true then K true else K (AJ x==127))else K (AJ x==127))=K (!TG x):=λK=>by
   rw[<-hvc x];split;·split<;>rfl
   ·rfl
  rw[Gi,AB];refine(hk λj6=>if j6=true then some false else Gi N k2 l).trans ?_;try dsimp only
  rw[AFG k2 l,aQ];cases TG x<;>simp
def AZV{l:B8} (hb:l.length<=2^60):NQ N l=some (l.all TG):=by
 unfold NQ;simp only[AB];try rw[AO (by unfold AL;omega)]
 rw[AFG];cases l.all TG<;>rfl
def ACj (k2:Unit->Option Bool): ∀l:B8,JB N k2 l=if l.all Yq=true then k2 ()else some false|[]=>by rw[JB];rfl|x::l=>by rw[JB,Ax9,aa,ACj k2 l,aQ];cases Yq x<;>simp
def Akg{l:B8} (hb:l.length<=2^60):Sa N l=some (!l.isEmpty&&l.all Yq):=by
 unfold Sa;simp only[AB];try rw[AO (by unfold AL;omega)]
 rw[ACj];cases l with|nil=>rfl|cons x l=>cases (x::l).all Yq<;>rfl
def ABi (k2:Unit->Option Bool): ∀l:B8,Fw N k2 l=if l.all Yq=true then k2 ()else some false|[]=>by rw[Fw];rfl|x::l=>by rw[Fw,AyK,aa,ABi k2 l,aQ];cases Yq x<;>simp
def AlR{l:B8} (hb:l.length<=2^60):Oo N l=some (!l.isEmpty&&l.all Yq):=by
 unfold Oo;simp only[AB];try rw[AO (by unfold AL;omega)]
 rw[ABi];cases l with|nil=>rfl|cons x l=>cases (x::l).all Yq<;>rfl
def QG:B8:=[72,84,84,80,47,49,46]
def Sl:ApiHead:=⟨0,0,[]⟩
def AEc:B8->Option ApiHead|a::b::c::d::e::f::t=>if(a=48\/a=49)/\b=32/\f=32/\t.all TG=true/\[c,d,e].all GH=true/\100<=Em 0 [c,d,e]/\Em 0 [c,d,e]<=599 then some ⟨((a.toNat-48:Nat):Int),((Em 0 [c,d,e]:Nat):Int),[]⟩else none|_=>none
def OB (l:B8):Option ApiHead:=if preB QG l=true then AEc (l.drop 7)else none
def AtI{c d e:UInt8} (h:[c,d,e].all GH=true) (h0:c=48):Em 0 [c,d,e]<100:=by simp only[aQ,dS,dh,aw]at h;have h1:=PT h.1;have h2:=PT h.2.1;have h3:=PT h.2.2;have r1:=QM h.1;have r2:=QM h.2.1;have r3:=QM h.2.2;subst h0;simp only[Em];rw[h1.2,h2.2,h3.2];simp;omega
def Aqw (c d e:UInt8):(([c,d,e].all GH=true/\100<=Em 0 [c,d,e]/\Em 0 [c,d,e]<=599)/\Dp 599 [c,d,e]=(((Em 0 [c,d,e]:Nat):Int),0))\/(¬([c,d,e].all GH=true/\100<=Em 0 [c,d,e]/\Em 0 [c,d,e]<=599)/\((Dp 599 [c,d,e]).2 !=0||decide ((Dp 599 [c,d,e]).1<100))=true):=by
 unfold Dp;rw[aj fI];by_cases hd:[c,d,e].all GH=true
 ·rw[an hd];by_cases h48:1< [c,d,e].length/\[c,d,e].head?=some 48;·rw[an h48];have:=AtI hd (by simpa using h48.2);exact .inr ⟨λh=>absurd h.2.1 fH,rfl⟩
  ·rw[aj h48];by_cases hv:Em 0 [c,d,e]<=599
   ·rw[an hv];by_cases hw:100<=Em 0 [c,d,e];·exact .inl ⟨⟨hd,hw,hv⟩,rfl⟩
    ·exact .inr ⟨λh=>hw h.2.1,by rw[ce];exact .inr (aE (by simp only;omega))⟩
   ·rw[aj hv];exact .inr ⟨λh=>hv h.2.2,rfl⟩
 ·rw[aj hd];exact .inr ⟨λh=>hd h.1,rfl⟩
def bnb (x k:UInt8):(AJ x !=AJ k)=(x !=k):=by simp only[bne,ABw]
def AQq{x:UInt8} (h:x=48\/x=49):wr .i64 (wr .u8 (AJ x-48))=((x.toNat-48:Nat):Int):=by rcases h with rfl|rfl<;>rfl
def At2{r:B8} (h: ¬r.length<6): ∃a b c d e f t,r=a::b::c::d::e::f::t:=by match r,h with|a::b::c::d::e::f::t,_=>exact⟨a,b,c,d,e,f,t,rfl⟩|[],h|[_],h|[_,_],h|[_,_,_],h|[_,_,_,_],h|[_,_,_,_,_],h=>simp at h
def Zq{r:B8} (h6:r.length<6):AEc r=none:=by
 unfold AEc;split;·simp only[ae]at h6;omega
 ·rfl
theorem Anl{l:B8} (hb:l.length<=2^60):Ps N l=some ((OB l).getD Sl,(OB l).isSome):=by
 unfold Ps;rw[show([72,84,84,80,47,49,46]:B8)=QG from rfl,AJO,aa];simp only[AB];unfold OB;cases hp:preB QG l with
 |false=>rfl
 | true=>
  obtain⟨r,rfl⟩:=QK hp;rw[an rfl,an rfl,an rfl,show(QG++r).drop QG.length=r from cX,show(QG++r).drop 7=r from rfl];by_cases h6:r.length<6;·rw[an (aE (by simp only;omega)),Zq h6];rfl
  ·obtain⟨a,b,c,d,e,f,t,rfl⟩:=At2 h6;simp only[ah,ae]at hb;have e0:idx (a::b::c::d::e::f::t) 0=some a:=rfl;have e1:idx (a::b::c::d::e::f::t) 1=some b:=rfl;have e5:idx (a::b::c::d::e::f::t) 5=some f:=rfl;have s6:sub (a::b::c::d::e::f::t) 6 (((a::b::c::d::e::f::t).length:Nat):Int)=some t:=by have:=Be (l:=a::b::c::d::e::f::t) (n:=6) fI;simpa using this
   have s2:sub (a::b::c::d::e::f::t) 2 5=some [c,d,e]:=by have:=A8 (a::b::c::d::e::f::t) 2 5 fH fI;simpa using this
   have hst:H7 N [c,d,e] 599=some (Dp 599 [c,d,e]):=WW (m:=599) fH _ fI;have a48:(AJ a !=48)=(a !=48):=bnb a 48;have a49:(AJ a !=49)=(a !=49):=bnb a 49;have b32:(AJ b !=32)=(b !=32):=bnb b 32;have f32:(AJ f !=32)=(f !=32):=bnb f 32;rw[aj (by simp only[au];omega)];simp only[e0,e1,e5,s6,s2,aa,AZV (N:=N) (l:=t) fH,hst,a48,a49,b32,f32];have hR:AEc (a::b::c::d::e::f::t)=if(a=48\/a=49)/\b=32/\f=32/\t.all TG=true/\[c,d,e].all GH=true/\100<=Em 0 [c,d,e]/\Em 0 [c,d,e]<=599 then some ⟨((a.toNat-48:Nat):Int),((Em 0 [c,d,e]:Nat):Int),[]⟩else none:=rfl;rw[hR];generalize t.all TG=V;generalize hv9:Em 0 [c,d,e]=v at *;rcases Aqw c d e with⟨hD,hS⟩|⟨hD,hS⟩
   ·rw[hv9]at hD hS;rw[hS];by_cases ha:a=48\/a=49;·have hm:=AQq ha;have hw:wr .i64 (v:Int)=(v:Int):=Ai fH;have h100:decide ((v:Int)<100)=false:=aJ fH;by_cases hb2:b=32<;>by_cases hf:f=32<;>cases V<;>rcases ha with rfl|rfl<;>simp[hb2,hf,hD,hm,hw,h100,Sl]
    ·have ha1:a≠48:=λh=>ha (.inl h);have ha2:a≠49:=λh=>ha (.inr h);simp[ha1,ha2,Sl]
   ·rw[hv9]at hD;have hno: ¬((a=48\/a=49)/\b=32/\f=32/\V=true/\[c,d,e].all GH=true/\100<=v/\v<=599):=λh=>hD h.2.2.2.2;rw[aj hno];clear hno hD hst hR s2;generalize Dp 599 [c,d,e]=S at hS;rw[ce]at hS;by_cases hb2:b=32<;>by_cases hf:f=32<;>by_cases h1:a=48<;>by_cases h2:a=49<;>cases V<;>simp[hb2,hf,h1,h2,Sl];all_goals (rcases hS with hS|hS<;>simp_all)
def ASS{l:B8} (h:l.length<13):OB l=none:=by
 unfold OB;split;·exact Zq (by simp only[aP];omega)
 ·rfl
def AE9{p:B8}: ∀ {l:B8},preB p l=decide (l.take p.length=p):=by
 intro l;by_cases h:l.take p.length=p;·rw[aE h];unfold preB;rw[an (by have:=br List.length h;rw[bg]at this;omega),h];exact dY _
 ·rw[aJ h,<-eZ];intro hp;obtain⟨r,rfl⟩:=QK hp;exact h eG
theorem ARm{l:B8} (hb:l.length<=2^60): ∃X:ApiHead,OO N l=some (X,(OB l).isSome)/\∀h,OB l=some h->X=h:=by
 unfold OO;simp only[AB];by_cases h13:l.length<13;·rw[an (aE fH),ASS h13];exact⟨_,rfl,λ_ h=>nomatch h⟩
 ·have s0:sub l 0 7=some (l.take 7):=by have:=A8 l 0 7 fH fH;simpa using this
  rw[aj (by simp only[au];omega),s0,aa];by_cases h7:l.take 7=QG
  ·have hp:preB QG l=true:=by rw[AE9];exact aE h7
   unfold OB;rw[an hp];obtain⟨r,rfl⟩:=QK hp;have h6: ¬r.length<6:=by rw[ah,show QG.length=7 from rfl]at h13;omega
   rw[show(QG++r).drop 7=r from rfl];obtain⟨a,b,c,d,e,f,t,rfl⟩:=At2 h6;simp only[ah,ae,show QG.length=7 from rfl]at hb;generalize hL:QG++a::b::c::d::e::f::t=L at *;have e0:idx L 7=some a:=by rw[<-hL];rfl
   have e1:idx L 8=some b:=by rw[<-hL];rfl
   have e5:idx L 12=some f:=by rw[<-hL];rfl
   have s6:sub L 13 (L.length:Int)=some t:=by have:=Be (l:=L) (n:=13) fH;rw[<-hL]at this⊢;simpa[QG]using this
   have s2:sub L 9 12=some [c,d,e]:=by have:=A8 L 9 12 fH fH;rw[<-hL]at this⊢;simpa[QG]using this
   have hdi:Ht N [c,d,e]=some ([c,d,e].all GH):=by rw[WP _ fI];rfl
   have hpa:I1 N [c,d,e] 999=some (Vp 999 [c,d,e]):=by unfold I1;rw[show(999:Int)=((999:Nat):Int)from rfl,ACB fH fH _ fI,aa]
   have a48:(AJ a !=48)=(a !=48):=bnb a 48;have a49:(AJ a !=49)=(a !=49):=bnb a 49;have b32:(AJ b !=32)=(b !=32):=bnb b 32;have f32:(AJ f !=32)=(f !=32):=bnb f 32;have hbe:(L.take 7==([72,84,84,80,47,49,46]:B8))=true:=bf.2 h7;simp only[hbe,aB,e0,e1,e5,s6,s2,aa,ATx (N:=N) (l:=t) fH,hdi,hpa,a48,a49,b32,f32];have hR:AEc (a::b::c::d::e::f::t)=if(a=48\/a=49)/\b=32/\f=32/\t.all TG=true/\[c,d,e].all GH=true/\100<=Em 0 [c,d,e]/\Em 0 [c,d,e]<=599 then some ⟨((a.toNat-48:Nat):Int),((Em 0 [c,d,e]:Nat):Int),[]⟩else none:=rfl;rw[hR];have h999:[c,d,e].all GH=true->Vp 999 [c,d,e]=(((Em 0 [c,d,e]:Nat):Int),0)/\Em 0 [c,d,e]<=999:=by
    intro hd;have hv:Em 0 [c,d,e]<=999:=by have hd':=hd;simp only[aQ,dS,dh,aw]at hd';have h1:=PT hd'.1;have h2:=PT hd'.2.1;have h3:=PT hd'.2.2;have r1:=QM hd'.1;have r2:=QM hd'.2.1;have r3:=QM hd'.2.2;simp only[Em];rw[h1.2,h2.2,h3.2];omega
    unfold Vp;rw[aj fI,an hd,an hv];exact⟨rfl,hv⟩
   generalize Vp 999 [c,d,e]=P at *;generalize [c,d,e].all GH=D at *;generalize Em 0 [c,d,e]=v at *;generalize t.all TG=V at *;by_cases ha:a=48\/a=49
   ·have hm:=AQq ha;simp only[hm];generalize ((a.toNat-48:Nat):Int)=M at *;clear hm;by_cases hb2:b=32
    ·by_cases hf:f=32;·cases D with|false=>rcases ha with rfl|rfl<;>simp[hb2,hf]|true=>obtain⟨rfl,hv⟩:=h999 rfl;have hw:wr .i64 (v:Int)=(v:Int):=Ai fH;cases V with|false=>rcases ha with rfl|rfl<;>simp[hb2,hf]|true=>have g1:((100:Int)<=(v:Int))=(100<=v):=propext fH;have g2:((v:Int)<=599)=(v<=599):=propext fH;by_cases h1:100<=v<;>by_cases h2:v<=599;all_goals rcases ha with rfl|rfl<;>simp[hb2,hf,hw,h1,h2,g1,g2]
     ·rcases ha with rfl|rfl<;>simp[hb2,hf]
    ·rcases ha with rfl|rfl<;>simp[hb2]
   ·have ha1:a≠48:=λh=>ha (.inl h);have ha2:a≠49:=λh=>ha (.inr h);simp[ha1,ha2]
  ·have hp: ¬preB QG l=true:=by rw[AE9,show QG.length=7 from rfl];simpa using h7
   unfold OB;have hbe:(l.take 7==([72,84,84,80,47,49,46]:B8))=false:=by rw[bv];exact h7
   rw[aj hp,hbe];exact⟨_,rfl,λ_ h=>nomatch h⟩
end
end Go.VM
