import Derived.Test.YtalbfkgififmfaaGreatDoorL9
import Derived.Test.YtalbfkgififmfaaGreatDoorVM3
set_option linter.defProp false
set_option linter.unusedVariables false
set_option linter.unusedSimpArgs false
set_option maxRecDepth 100000
namespace Go.VM
section
variable{N:Nat}
def ATI (f:AG):Bool:=(match AM9 (Gh f)with|some g=>g.name==f.name&&g.value==f.value|none=>false)&&(!(Gh f).isEmpty&&(Gh f).all (· !=13))
def Yo{f:AG} (h:ATI f=true):Uj f:=by
 unfold ATI at h;rw[aw,aw]at h;obtain⟨h1,h2,h3⟩:=h;refine⟨?_,?_,?_⟩
 ·split at h1;·rename_i g hg;rw[hg,aw]at *;obtain⟨e1,e2⟩:=h1;cases g;cases f;simp only[be]at e1 e2;rw[e1,e2]
  ·cases h1
 ·intro e;rw[e]at h2;cases h2
 ·intro c hc;have:=aK.1 h3 c hc;simpa using this
def A33: ∀ty,ty∈KR->∀f,f∈tyF ty->Uj f:=by
 have:(KR.all λty=>(tyF ty).all ATI)=true:=by kernel_rfl
 intro ty h f hf;exact Yo (aK.1 (aK.1 this ty h) f hf)
def A3j: ∀fs,fs∈Vf->∀f,f∈fs->Uj f:=by
 have:(Vf.all λfs=>fs.all ATI)=true:=by kernel_rfl
 intro fs h f hf;exact Yo (aK.1 (aK.1 this fs h) f hf)
def A3m:Uj ⟨teN,chV⟩:=Yo (by kernel_rfl)
def Ax2: ∀ty,ty∈KR->∀fs,fs∈Vf->Ee teN (tyF ty++fs)=[]/\Ee clN (tyF ty++fs)=[]/\Ee ctN fs=[]:=by
 have:(KR.all λty=>Vf.all λfs=>(Ee teN (tyF ty++fs)).isEmpty&&((Ee clN (tyF ty++fs)).isEmpty&&(Ee ctN fs).isEmpty))=true:=by kernel_rfl
 intro ty h fs hf;have:=aK.1 (aK.1 this ty h) fs hf;rw[aw,aw]at this;exact⟨c8.1 this.1,c8.1 this.2.1,c8.1 this.2.2⟩
def tyV: ∀ty,ty∈KR->Ee ctN (tyF ty)=if(ty==[])=true then []else [ty]:=by
 have:(KR.all λty=>Ee ctN (tyF ty)==if(ty==[])=true then []else [ty])=true:=by kernel_rfl
 intro ty h;simpa using aK.1 this ty h
def Vk (n:B8) (a b:List AG):Ee n (a++b)=Ee n a++Ee n b:=by simp[Ee]
def Ax1 (N m:Nat):Prop:= ∀n d,n<=m->EW N (n:Int)=some d->Uj ⟨clN,d⟩/\AB2 d=((n:Int),true)
def A2p (N:Nat) (P:B8->Prop):Prop:= ∀b E,P b->Gx N b 50=some E->Lj N E 1048576=some (b,0)
def AxK:PZ (Sd [50,48,48])=some ⟨1,200,[]⟩/\ACw (Sd [50,48,48]):=⟨by kernel_rfl,fO,fO⟩
def headD (ty:B8) (fs:List AG) (last:AG):AH:=⟨1,200,tyF ty++fs++[last]⟩
def ArP (f:AG):Prop:=f.name=teN\/f.name=clN
theorem AqI (hN:1000011<=N) (h200:Bp N 200=some [50,48,48]){P:B8->Prop} (hP: ∀b,P b->b.length<=2000) (hL:Ax1 N 2000) (hE:A2p N P){raw:B8} (hl:raw.length<=9000) (hr:A2Z N P raw){h:AH}{n:Nat}{b:B8} (h1:EF N raw=some (h,(n:Int),0)) (h2:H7 N h (raw.drop n) 1048576=some (b,0)):P b/\∃ty fs last,ty∈KR/\fs∈Vf/\ArP last/\h=headD ty fs last:=by
 obtain⟨ty,body,fs,c,hty,hb,hfs,hraw⟩:=hr;have hbl:=hP body hb;have htl:ty.length<=30:=(show∀s,s∈KR->s.length<=30 by decide) _ hty;obtain⟨c4,c5⟩:=An6 _ hfs;obtain⟨r',e1,F,tail,e2,e3⟩:=A2a (N:=N) (st:=200) h200 fO (ty:=ty) (body:=body) (fs:=fs) c fM fM fM fM fM;rw[hraw]at e1;cases e1;have hFl:(tyF ty).length<=1:=by unfold tyF;split<;>simp
 have hok: ∀f,f∈tyF ty++fs->Uj f:=λf hf=>(aZ.1 hf).elim (A33 ty hty f) (A3j fs hfs f);obtain⟨n1,n2,_⟩:=Ax2 ty hty fs hfs;have main: ∀last:AG,F=tyF ty++fs++[last]->Uj last->h=headD ty fs last/\raw.drop n=tail:=by
  intro last hF hlast;have hb2:=Ahb (N:=N) AxK.1 AxK.2 (F:=F) (λf hf=>by
   rw[hF]at hf;rcases aZ.1 hf with hf|hf;·exact hok f hf
   ·rw[aV.1 hf];exact hlast) (by rw[hF];simp only[ag,bu];omega) tail (by rw[<-e2];omega) fM;rw[<-e2,h1]at hb2;simp only[ah,aB]at hb2;obtain⟨q1,q2,_⟩:=hb2;refine⟨by rw[q1,hF];rfl,?_⟩;have hn:n=(Ox (Sd [50,48,48]::F.map Gh)).length+2:=fM;rw[hn,e2,cv];simp[Bj]
 have hd:hdB h:=by obtain⟨_,r,q1,q2⟩:=ACY (N:=N) (l:=raw) fM fM;rw[h1]at q1;cases q1;exact AGQ q2.1
 have gets: ∀last:AG,h=headD ty fs last->∀nm:B8,nm.length<=100->Ee nm (tyF ty++fs)=[]->JP N h nm=some (RG [44,32] (Ee nm [last]),decide (((Ee nm [last]).length:Int)>0)):=by
  intro last hh nm hnl hv;rw[Ob hd nm fM];unfold AFC;have e:Ee nm h.m=Ee nm [last]:=by rw[hh];show Ee nm (tyF ty++fs++[last])=_;rw[Vk,hv,bl]
  simp only[e]
 have z1:decide ((200:Int)>=100)=true:=fO;have z2:decide ((200:Int)<=199)=false:=fO;have z3:((200:Int)==204)=false:=fO;have z4:((200:Int)==304)=false:=fO;have z5:decide ((1048576:Int)<0)=false:=fO;cases c
 ·rw[aj fO]at e3;obtain⟨d,d1,d2,d3⟩:=e3;obtain⟨k1,k2⟩:=hL body.length d hbl d1;obtain⟨m1,m2⟩:=main ⟨clN,d⟩ d2 k1;refine⟨?_,ty,fs,⟨clN,d⟩,hty,hfs,.inr rfl,m1⟩;have g1:=gets _ m1 teN fO n1;have g2:=gets _ m1 clN fO n2;have v1:Ee teN [(⟨clN,d⟩:AG)]=[]:=rfl;have v2:Ee clN [(⟨clN,d⟩:AG)]=[d]:=rfl;rw[v1]at g1;rw[v2]at g2;have hst:h.l=200:=by rw[m1];rfl
  have hdl:d.length<=10:=by obtain⟨d',q1,q2⟩:=Wi (N:=N) (n:=body.length) fM fM;rw[d1]at q1;cases q1;exact q2
  unfold teN at g1;unfold clN at g2;rw[m2,d3]at h2;unfold H7 at h2;have hlen:NH N d=some ((body.length:Int),true):=by rw[Acf fM fM,k2]
  have j1:RG [44,32] [d]=d:=by simp[RG,OY]
  have j0:decide (((([]:List B8).length:Int))>0)=false:=fO;have j2:decide (((([d]:List B8).length:Int))>0)=true:=fN;rw[j0]at g1;rw[j1,j2]at g2;have w1:wr .u64 (1048576:Int)=1048576:=fO;have w2:wr .u64 (body.length:Int)=(body.length:Int):=Fw fM;have y1:decide ((body.length:Int)>1048576)=false:=aF fM;have y2:decide ((body.length:Int)<(body.length:Int))=false:=aF fM;have y3:sub body 0 (body.length:Int)=some body:=by have:=Av body 0 body.length fM fM;rwa[aN,bw,c9]at this
  simp only[AB,hst,z1,z2,z3,z4,z5,g1,g2,aa,ap,az,aA,hlen,w1,w2,y1,y2,y3]at h2;cases h2;exact hb
 ·rw[an rfl]at e3;obtain⟨d2,d3⟩:=e3;obtain⟨m1,m2⟩:=main ⟨teN,chV⟩ d2 A3m;refine⟨?_,ty,fs,⟨teN,chV⟩,hty,hfs,.inl rfl,m1⟩;have g1:=gets _ m1 teN fO n1;have g2:=gets _ m1 clN fO n2;have v1:Ee teN [(⟨teN,chV⟩:AG)]=[chV]:=rfl;have v2:Ee clN [(⟨teN,chV⟩:AG)]=[]:=rfl;rw[v1]at g1;rw[v2]at g2;have hst:h.l=200:=by rw[m1];rfl
  unfold teN at g1;unfold clN at g2;rw[m2]at h2;unfold H7 at h2;have j1:RG [44,32] [chV]=chV:=by simp[RG,OY]
  have j0:decide (((([]:List B8).length:Int))>0)=false:=fO;have j2:decide (((([chV]:List B8).length:Int))>0)=true:=fO;rw[j1,j2]at g1;rw[j0]at g2;have hlow:EE N chV=some chV:=by rw[P8 _ fO];rfl
  have hbq:(chV==([99,104,117,110,107,101,100]:B8))=true:=fO;simp only[AB,hst,z1,z2,z3,z4,z5,g1,g2,aa,ap,az,aA,hlow,hbq,bo,hE body tail hb d3,(by decide:((0:Int) !=0)=false)]at h2;cases h2;exact hb
end
section
def A1I:B8:=[97,99,99,116,58,98,111,98,64,98,46,101,120,97,109,112,108,101]
def AR6:Ax:=Ax.mk 0 [] [] []
def rdT (N:Nat) (b:B8) (d:AF):Option (Ax×Int):=(J7 N b).bind λy11=>if(y11.2.2 !=0)=true then some ((Ax.mk 0 [] [] []),y11.2.2)else(Io N y11.1).bind λy13=>if(y13.2 !=0)=true then some ((Ax.mk 0 [] [] []),y13.2)else(Ct N d).bind λy15=>(QN N y13.1.u y15).bind λy17=>if y17=true then some (y11.1,0)else some ((Ax.mk 0 [] [] []),280)
def ACk:B8->(B8->Bool)->Bool|[],k=>k []|x::t,k=>match x.toNat with|0=>ACk t λt'=>k (0::t')|n+1=>ACk t λt'=>k (UInt8.ofNat (n+1)::t')
def AAZ: ∀(l:B8) (k:B8->Bool),ACk l k=k l
 |[],k=>rfl
 |x::t,k=>by
  rw[ACk];split;·rename_i h;rw[AAZ t];have:x=0:=dN.1 h;rw[this]
  ·rename_i n h;rw[AAZ t,show n+1=x.toNat from h.symm,bP]
def Ax8 (a b:AD):Bool:=a.kind==b.kind&&(a.text==b.text&&(a.d==b.d&&a.g==b.g))
def AZd (u:As):Bool:=decide (0<=u.g)&&(decide (u.g<=65535)&&(decide (u.d.length<=1000)&&(decide (u.c.length<=1000)&&(decide (u.h.length<=1000)&&(decide (u.a.length<=1000)&&(decide ((Hw u).length<=4096)&&(u.a==[]&&u.f==false)))))))
def Adq:List B8:=Tx (Tx [[100,105,100,58,119,101,98,58]] ANo) [[],[58,117],[58,117,58,98,111,98],[58,97,37,55,101,98]]
end
section
def AVa{u:As} (h:AZd u=true):K9 u/\TM u=u:=by unfold AZd at h;simp only[aw,be,au]at h;obtain⟨h1,h2,h3,h4,h5,h6,h7,h8,h9⟩:=h;refine⟨⟨⟨⟨h1,h2⟩,fM,fM,fM,fM⟩,h7⟩,?_⟩;unfold TM;cases u;simp_all
def AwT{a b:AD} (h:Ax8 a b=true):a=b:=by unfold Ax8 at h;simp only[aw,be]at h;obtain⟨h1,h2,h3,h4⟩:=h;cases a;cases b;simp_all
def stB (N:Nat) (st:Nat):Bool:=match Bp N (st:Int)with
 |some y=>decide (y.length<=100)&&(((Sd y).all (· !=13))&&(match PZ (Sd y)with|some h=>h.l !=200|none=>false))
 |none=>false
def A0X{N st:Nat} (h:stB N st=true):StO N (st:Int):=by
 unfold stB at h;split at h
 ·rename_i y hy;rw[aw,aw,au]at h;obtain⟨h1,h2,h3⟩:=h;split at h3;·rename_i h0 hs;refine⟨y,h0,hy,h1,⟨by simp[Sd],λc hc=>?_⟩,hs,by simpa using h3⟩;have:=aK.1 h2 c hc;simpa using this
  ·cases h3
 ·cases h
def AuG:DM 1099511627776 where
  st:=by
    have:([301,302,307,404,410,500,403,204].all λst=>stB 1099511627776 st)=true:=by kernel_rfl
    intro st hst
    exact A0X (aK.1 this st hst)
  abc:=AoZ (N:=1099511627776) (h0:=⟨1,200,[⟨clN,[57]⟩]⟩) (n0:=38) (e0:=0) (by kernel_rfl) (.inr ⟨[],191,by kernel_rfl,fO⟩)
  non:=AoZ (N:=1099511627776) (h0:=⟨0,0,[]⟩) (n0:=0) (e0:=191) (by kernel_rfl) (.inl fO)
def A3n:Ax1 1099511627776 2000:=by
 have:((List.range 2001).all λn=>match EW 1099511627776 (n:Int)with|some d=>ATI ⟨clN,d⟩&&((AB2 d).1==(n:Int)&&(AB2 d).2)|none=>false)=true:=by kernel_rfl
 intro n d hn hd;have:=aK.1 this n (eJ.2 fM);rw[hd]at this;simp only[aw,be]at this;obtain⟨h1,h2,h3⟩:=this;refine⟨Yo h1,?_⟩;generalize AB2 d=z at h2 h3;cases z;simp only at h2 h3;rw[h2,h3]
def A1W:Bp 1099511627776 200=some [50,48,48]:=by kernel_rfl
end
section
def Alo (N:Nat) (s:B8):Bool:=match Jg N s,EH N s with|some i,some j=>Ax8 i.1 j.1&&i.2==j.2|_,_=>false
def A1D (N:Nat) (b:B8):Bool:=match J7 N b,Qh N b with
 |some y,some z=>y.2.2==z.2.2&&(if(y.2.2 !=0)=true then true else match Io N y.1,Jt N z.1 with|some p,some q=>p.2==q.2&&(if(p.2 !=0)=true then true else p.1.u==q.1.u&&(Alo N p.1.u&&(p.1.also==q.1.also&&(decide (p.1.also.length<=1000)&&p.1.also.all λs=>decide (s.length<=2000)))))|_,_=>false)
 |_,_=>false
def AC6 (N:Nat) (b:B8):Bool:=
  decide (b.length<=2000)&&((match Gx N b 50 with|some E=>(match Lj N E 1048576 with|some r=>r.1==b&&r.2==0|none=>false)|none=>false)&&A1D N b)
def nmX (id:AD):List B8:=[A1I,id.text,[120],[65,67,67,84,58,98,111,98,64,66,46,101,120,97,109,112,108,101],[104,116,116,112,115,58,47,47,97,46,101,120,97,109,112,108,101]]
def A0d (N:Nat) (id:AD) (ab:B8):Bool:=(X3 ab).all λsv=>match ADV N ab (nmX id) sv with|some b=>ACk b λb=>AC6 N b|none=>false
def idX (N:Nat) (t:B8):Bool:=match EH N t with
 |some y=>y.1.kind==4&&(decide (y.1.text.length<=1000)&&(match Cc N y.1.text with
 |some x=>(match Ic N x.1 with|some u=>AZd u.1|none=>false)
 |none=>false))
 |none=>false
def AlF (N:Nat) (p:Nat) (t:B8):Bool:=match EH N t with|some y=>A0d N y.1 (if p=0 then y.1.text else AAw)|none=>false
def ER (p i:Nat):Bool:=match Adq[i]? with|some t=>AlF 1099511627776 p t|none=>false
end
section
def A3l: ∀ty,ty∈KR->Ee ccN (tyF ty)=[]/\Ee agN (tyF ty)=[]:=by
 have:(KR.all λty=>(Ee ccN (tyF ty)).isEmpty&&(Ee agN (tyF ty)).isEmpty)=true:=by kernel_rfl
 intro ty h;have:=aK.1 this ty h;rw[aw]at this;exact⟨c8.1 this.1,c8.1 this.2⟩
def Akg{f:AG} (h:ArP f):Ee ccN [f]=[]/\Ee agN [f]=[]/\Ee ctN [f]=[]:=by obtain⟨nm,v⟩:=f;rcases h with h|h<;>(simp only at h;subst h;exact⟨rfl,rfl,rfl⟩)
def Yu{h:AH}{nm:B8}{xs:List B8} (e:Ee nm h.m=xs):AFC h nm=(RG [44,32] xs,decide ((xs.length:Int)>0)):=by unfold AFC;simp only[e]
end
section
variable{N:Nat}
def eqI (a b:AD):Bool:=a.kind==b.kind&&(a.text==b.text&&(a.d==b.d&&a.g==b.g))
def Amj (a:AD):eqI a a=true:=by unfold eqI;simp
def ACt (N:Nat) (x:AD):Bool:=if((II N x.text).2==0)=true then eqI (II N x.text).1 x else false
def AtH (x:AD) (hb:x.text.length<=1000000) (hN:20000<=N):Qp N x=some (ACt N x):=by unfold Qp ACt;rw[AAH _ hb hN,aa];split<;>rfl
def Av7 (x:AD) (hb:x.text.length<=1000000) (hN:20000<=N):Q0 N x=some (ACt N x):=by unfold Q0 ACt;rw[AbA _ hb hN,aa];split<;>rfl
def Xa (N:Nat) (a:AD) (acc:List AD) (t:B8):List AD:=if((II N t).2==0)=false then acc else if eqI (II N t).1 a=true then acc else if(acc.any λx=>eqI (II N t).1 x)=true then acc else if acc.length<64 then acc++[(II N t).1]else acc
def AgW{a:AD}{acc:List AD}{t:B8} (h:acc.length<=64):(Xa N a acc t).length<=64:=by
 unfold Xa;split;·exact h
 split;·exact h
 split;·exact h
 split;·rw[ag,ae,aq];omega
 ·exact h
def ADc{a:AD}: ∀(xs:List B8) (acc:List AD),acc.length<=64->(xs.foldl (Xa N a) acc).length<=64|[],_,h=>h|x::xs,acc,h=>ADc xs _ (AgW h)
def AcK{n b:Nat} (h:n<=1000000) (hb:b<=1000):Af n b:=by unfold Af;have:n * b<=1000000 * 1000:=eI h hb;omega
def AGu (y:AD): ∀(xs:List AD) (i:Int),0<=i->∃r,BS N y (λ_=>some (-1)) xs i=some r/\decide (r>=0)=xs.any λx=>eqI y x
 |[],i,_=>⟨-1,by rw[BS],rfl⟩
 |x::xs,i,hi=>by
  rw[BS,bN];change∃r,(if eqI y x=true then _ else _)=some r/\_;cases h:eqI y x;·obtain⟨r,h1,h2⟩:=AGu y xs (i+1) fM;exact⟨r,by rw[aj fO];exact h1,by rw[h2];rfl⟩
  ·exact⟨i,by rw[an rfl],by simpa using hi⟩
def Ait (xs:List AD) (y:AD) (hb:xs.length<=1000000):DV N xs y=some (xs.any λx=>eqI y x):=by obtain⟨r,h1,h2⟩:=AGu (N:=N) y xs 0 (bE _);unfold DV Fv;dsimp only[AB];rw[Ap fM,h1,aa,h2]
def Axb (hN:20000<=N) (a:AD) (k:List AD->Option (List AD)): ∀(xs:List B8) (s:List AD),(∀t,t∈xs->t.length<=1000000)->s.length<=64->Kn N a 64 k xs s=k (xs.foldl (Xa N a) s)
 |[],s,_,_=>by rw[Kn];rfl
 |t::xs,s,h,hs=>by
  have ih:=λs' hs'=>Axb hN a k xs s' (λy hy=>h y (by simp[hy])) hs';rw[Kn,ev];dsimp only[AB];rw[AAH _ (h t fN) hN,aa,Ait _ _ fM,aa];simp only[AP (AcK (show s.length+1<=1000000 by omega) (show 48<=1000 by omega))];change (if((II N t).2==0)=true then(if eqI (II N t).1 a=true then _ else _)else _)=_;unfold Xa;cases ((II N t).2==0);·exact ih s hs
  rw[an rfl,aj (show¬(true=false) by decide)];cases eqI (II N t).1 a;rotate_left;·exact ih s hs
  rw[aj fO,aj (show¬(false=true) by decide)];cases (s.any λx=>eqI (II N t).1 x);rotate_left;·exact ih s hs
  rw[aj fO,aj (show¬(false=true) by decide)];by_cases h64:s.length<64;·rw[aC (show(s.length:Int)<64 by omega),an rfl,an h64];exact ih _ (by rw[ag,ae,aq];omega)
  ·rw[aF (show¬(s.length:Int)<64 by omega),aj fO,aj h64];exact ih s hs
def AxT (hN:20000<=N) (a:AD) (k:List AD->Option (List AD)): ∀(xss:List (List B8)) (s:List AD),(∀xs,xs∈xss->xs.length<=1000000/\∀t,t∈xs->t.length<=1000000)->s.length<=64->Km N a 64 k xss s=k (xss.foldl (λs xs=>xs.foldl (Xa N a) s) s)|[],s,_,_=>by rw[Km];rfl|xs::xss,s,h,hs=>by obtain⟨h1,h2⟩:=h xs fN;rw[Km];dsimp only[AB];rw[Ap fM,Axb hN a _ xs s h2 hs,ev];exact AxT hN a k xss _ (λy hy=>h y (by simp[hy])) (ADc xs s hs)
def AyG (hN:20000<=N) (a:AD) (xss:List (List B8)) (hl:xss.length<=1000000) (h: ∀xs,xs∈xss->xs.length<=1000000/\∀t,t∈xs->t.length<=1000000):WJ N a 64 xss=some (xss.foldl (λs xs=>xs.foldl (Xa N a) s) []):=by unfold WJ;dsimp only[AB];rw[Ap fM,AxT hN a _ xss [] h fN]
def Apd (y:AD×Int) (k:Bool->Option (List AD)): ∀(xs:List AD) (b:Bool),FP N y k xs b=k (b||xs.any λx=>eqI y.1 x)|[],b=>by rw[FP];simp|x::xs,b=>by rw[FP,bN];dsimp only[AB];rw[Apd y k xs,Apd y k xs];change (if b=true then _ else k (eqI y.1 x||_))=_;cases b<;>rfl
theorem Axl (hN:20000<=N) (a:AD) (k:List AD->Option (List AD)): ∀(xs:List B8) (s:List AD),(∀t,t∈xs->t.length<=1000000)->s.length<=64->FQ N a k xs s=k (xs.foldl (Xa N a) s)
 |[],s,_,_=>by rw[FQ];rfl
 |t::xs,s,h,hs=>by
  have ih:=λs' hs'=>Axl hN a k xs s' (λy hy=>h y (by simp[hy])) hs';rw[FQ,ev];dsimp only[AB];rw[AbA _ (h t fN) hN,aa];simp only[Ap (show s.length<=4611686018427387904 by omega),Apd,AP (AcK (show s.length+1<=1000000 by omega) (show 48<=1000 by omega))];have e:((II N t).2 !=0)=!((II N t).2==0):=rfl;rw[e];change (if(!(II N t).2==0)=true then _ else(if(eqI (II N t).1 a||s.any λx=>eqI (II N t).1 x)=true then _ else _))=_;unfold Xa;cases ((II N t).2==0);·exact ih s hs
  rw[aj fO,aj (show¬(true=false) by decide)];cases eqI (II N t).1 a;rotate_left;·exact ih s hs
  rw[bk,aj (show¬(false=true) by decide)];cases (s.any λx=>eqI (II N t).1 x);rotate_left;·exact ih s hs
  rw[aj fO,aj (show¬(false=true) by decide)];by_cases h64:s.length<64;·rw[aC (show(s.length:Int)<64 by omega),an rfl,an h64];exact ih _ (by rw[ag,ae,aq];omega)
  ·rw[aF (show¬(s.length:Int)<64 by omega),aj fO,aj h64];exact ih s hs
def Au1 (hN:20000<=N) (a:AD) (xs:List B8) (hl:xs.length<=1000000) (h: ∀t,t∈xs->t.length<=1000000):Nt N xs a=some (xs.foldl (Xa N a) []):=by unfold Nt;dsimp only[AB];rw[Ap fM,Axl hN a _ xs [] h fN]
def AGq (l:List AD) (k:Unit->Option Bool): ∀(xs pre:List AD),l=pre++xs->EG N l k xs (pre.length:Int)=k ()
 |[],pre,_=>by rw[EG]
 |x::xs,pre,h=>by
  have e:idx l (pre.length:Int)=some x:=by rw[D7,h];simp
  rw[EG,e,aa];change (if eqI x x=true then _ else _)=_;rw[an (Amj x)];have:=AGq l k xs (pre++[x]) (by rw[h];simp);rw[ag,ae,aq]at this;exact this
def AD4 (l:List AD) (hb:l.length<=1000000):JW N l l=some true:=by unfold JW;dsimp only[AB];rw[aj fN,Ap fM];exact AGq l _ l [] rfl
end
section
def QB (b:B8):Prop:=AC6 1099511627776 b=true
def AGH{b:B8} (h:QB b):b.length<=2000:=by unfold QB AC6 at h;rw[aw,au]at h;exact h.1
def ApI:A2p 1099511627776 QB:=by
 intro b E h hE;unfold QB AC6 at h;rw[aw,aw,hE]at h;obtain⟨_,h,_⟩:=h;simp only at h;split at h;·rename_i r hr;rw[aw,be,be]at h;rw[hr];obtain⟨e1,e2⟩:=h;cases r;simp only at e1 e2;rw[e1,e2]
 ·cases h
def AFR{s:B8} (h:Alo 1099511627776 s=true){d:AF} (hm:d.i.length<=4096) (hi:d.u.length<=16000): ∃r,QN 1099511627776 s (KN d)=some r/\QJ 1099511627776 s (KN d)=some r:=by
 unfold Alo at h;split at h
 ·rename_i i j hi' hj;rw[aw,be]at h;have e:i=j:=Prod.ext (AwT h.1) h.2;subst e;have hb:(KN d).length<=1000000:=by simp[KN];omega
  have z1:=AAH (N:=1099511627776) (KN d) hb fM;have z2:=AbA (N:=1099511627776) (KN d) hb fM;generalize II 1099511627776 (KN d)=z at z1 z2;unfold QN QJ;rw[hi',hj,z1,z2];simp only[aa];cases i.2==0;·exact⟨_,rfl,rfl⟩
  ·cases z.2==0<;>exact⟨_,rfl,rfl⟩
 ·cases h
def rdX (N:Nat) (b:B8) (d:AF):Option (Ax×Int):=(Qh N b).bind λy13=>if(y13.2.2 !=0)=true then some ((Ax.mk 0 [] [] []),y13.2.2)else(Jt N y13.1).bind λy15=>if(y15.2 !=0)=true then some ((Ax.mk 0 [] [] []),y15.2)else(CV N d).bind λy17=>(QJ N y15.1.u y17).bind λy19=>if y19=true then some (y13.1,0)else some ((Ax.mk 0 [] [] []),280)
def AWb (w w':Ax×Int):Prop:=w.2=w'.2/\(w.2=0-> ∃p q,Io 1099511627776 w.1=some p/\Jt 1099511627776 w'.1=some q/\p.1.also=q.1.also/\p.1.also.length<=1000/\ ∀s,s∈p.1.also->s.length<=2000)
def ATf{e:Int} (h:e≠0):AWb (AR6,e) (AR6,e):=⟨rfl,λh0=>absurd h0 h⟩
def AoM{b:B8} (h:QB b){d:AF} (hm:d.i.length<=4096) (hi:d.u.length<=16000): ∃w w',rdT 1099511627776 b d=some w/\rdX 1099511627776 b d=some w'/\AWb w w':=by
 unfold QB AC6 A1D at h;rw[aw,aw]at h;obtain⟨_,_,h⟩:=h;split at h
 ·rename_i y z hy hz;rw[aw,be]at h;obtain⟨e,h⟩:=h;unfold rdT rdX;rw[hy,hz,aa,aa,<-e];cases he:(y.2.2 !=0)
  ·rw[he,aj fO]at h;split at h
   ·rename_i p q hp hq;rw[aw,be]at h;obtain⟨f,h⟩:=h;simp only[ap,aA];rw[hp,hq,aa,aa,<-f];cases hf:(p.2 !=0)
    ·rw[hf,aj fO,aw,aw,aw,aw,be,be,au,aK]at h;obtain⟨g,k1,k2,k3,k4⟩:=h;simp only[ap,aA];rw[Y0 d ⟨fM,fM⟩,Yw d ⟨fM,fM⟩,aa,aa,<-g];obtain⟨r,r1,r2⟩:=AFR k1 hm hi;rw[r1,r2,aa,aa];cases r;·exact⟨_,_,rfl,rfl,ATf fO⟩
     ·exact⟨_,_,rfl,rfl,rfl,λ_=>⟨p,q,hp,hq,k2,k3,λs hs=>dr (k4 s hs)⟩⟩
    ·exact⟨_,_,rfl,rfl,ATf (by simpa using hf)⟩
   ·cases h
  ·exact⟨_,_,rfl,rfl,ATf (by simpa using he)⟩
 ·cases h
def Ami: ∀ty,ty∈KR->∃m m' b b',Ql 1099511627776 ty=some m/\Qb 1099511627776 m.1=some b/\Qf 1099511627776 ty=some m'/\Qr 1099511627776 m'.1=some b'/\(m.2 !=0||!b)=(m'.2 !=0||!b'):=by
 have:(KR.all λty=>match Ql 1099511627776 ty,Qf 1099511627776 ty with
 |some m,some m'=>(match Qb 1099511627776 m.1,Qr 1099511627776 m'.1 with|some b,some b'=>(m.2 !=0||!b)==(m'.2 !=0||!b')|_,_=>false)
 |_,_=>false)=true:=by kernel_rfl
 intro ty h;have:=aK.1 this ty h;split at this
 ·rename_i m m' hm hm';split at this;·rename_i b b' hb hb';exact⟨m,m',b,b',hm,hb,hm',hb',by simpa using this⟩
  ·cases this
 ·cases this
def AyW: ∀fs,fs∈Vf->∃f,Rv 1099511627776 ⟨1,200,fs⟩=some f/\SG 1099511627776 ⟨1,200,fs⟩=some f:=by
 have:(Vf.all λfs=>match Rv 1099511627776 ⟨1,200,fs⟩,SG 1099511627776 ⟨1,200,fs⟩with|some f,some g=>f.store==g.store&&f.seconds==g.seconds|_,_=>false)=true:=by kernel_rfl
 intro fs h;have:=aK.1 this fs h;split at this
 ·rename_i f g hf hg;rw[aw,be,be]at this;have e:f=g:=by cases f;cases g;simp_all
  exact⟨f,hf,by rw[hg,e]⟩
 ·cases this
def FrX (h:AH):Prop:= ∃f,Rv 1099511627776 h=some f/\SG 1099511627776 h=some f
def AUw{ty:B8}{fs:List AG}{last:AG} (hty:ty∈KR) (hfs:fs∈Vf) (hl:ArP last) (hF:Fok 16384 (headD ty fs last).m):FrX (headD ty fs last):=by
 obtain⟨f,hf,hf'⟩:=AyW fs hfs;obtain⟨t1,t2⟩:=A3l ty hty;obtain⟨l1,l2,_⟩:=Akg hl;have hd:=AGQ hF;obtain⟨c4,c5⟩:=An6 _ hfs;have hd2:hdB ⟨1,200,fs⟩:=AGQ (h:=⟨1,200,fs⟩) ⟨by simp only;omega,by simp only;omega⟩;have v: ∀nm:B8,Ee nm (tyF ty)=[]->Ee nm [last]=[]->Ee nm (headD ty fs last).m=Ee nm fs:=by intro nm e1 e2;show Ee nm (tyF ty++fs++[last])=Ee nm fs;rw[Vk,Vk,e1,e2,bl,bm]
 have g: ∀nm:B8,nm.length<=100->Ee nm (tyF ty)=[]->Ee nm [last]=[]->MW 1099511627776 (headD ty fs last) nm=MW 1099511627776 ⟨1,200,fs⟩ nm:=by intro nm hn e1 e2;rw[Yt hd nm fM,Yt hd2 nm fM,Yu (v nm e1 e2),Yu (h:=⟨1,200,fs⟩) rfl]
 have g': ∀nm:B8,nm.length<=100->Ee nm (tyF ty)=[]->Ee nm [last]=[]->JP 1099511627776 (headD ty fs last) nm=JP 1099511627776 ⟨1,200,fs⟩ nm:=by intro nm hn e1 e2;rw[Ob hd nm fM,Ob hd2 nm fM,Yu (v nm e1 e2),Yu (h:=⟨1,200,fs⟩) rfl]
 refine⟨f,?_,?_⟩;·rw[<-hf];have g1:=g ccN fO t1 l1;have g2:=g agN fO t2 l2;unfold ccN at g1;unfold agN at g2;unfold Rv;rw[g1,g2]
 ·rw[<-hf'];have g1:=g' ccN fO t1 l1;have g2:=g' agN fO t2 l2;unfold ccN at g1;unfold agN at g2;unfold SG;rw[g1,g2]
def AZi{l:List AK} (hW: ∀a,a∈l->WR 1099511627776 QB a.raw){h:AH}{b:B8} (hs:At4 1099511627776 l h b) (hF:Fok 16384 h.m) (u:As) (tr:List CH){d:AF} (hdm:d.i.length<=4096) (hdi:d.u.length<=16000):∃w w',Ig 1099511627776 ⟨u,h,b,tr⟩ d=some w/\QD 1099511627776 ⟨u,h,b,tr⟩ d=some w'/\AWb w w'/\(w.2=0->FrX h):=by
 obtain⟨a,n,ha,h1,hred,h2⟩:=hs;obtain⟨hl,hW⟩:=hW a ha;by_cases h200:h.l=200
 ·rcases hW with hD|hO
  ·obtain⟨hb,ty,fs,last,hty,hfs,hlast,hh⟩:=AqI fM A1W (λb=>AGH) A3n ApI hl hD h1 h2;have hd:=AGQ hF;have hfr:FrX h:=by rw[hh]at hF⊢;exact AUw hty hfs hlast hF
   have hv:Ee ctN h.m=if(ty==[])=true then []else [ty]:=by rw[hh];show Ee ctN (tyF ty++fs++[last])=_;rw[Vk,Vk,tyV ty hty,(Ax2 ty hty fs hfs).2.2,(Akg hlast).2.2,bm,bm]
   have hg:=Yt hd ctN fO (N:=1099511627776);have hg':=Ob hd ctN fO (N:=1099511627776);rw[Yu hv]at hg hg';unfold ctN at hg hg';obtain⟨w,w',w1,w2,w3⟩:=AoM hb hdm hdi;have hst:(h.l==200)=true:=by rw[h200];rfl
   have hms:Nn 1099511627776 h.l=some 0:=by rw[h200];kernel_rfl
   have bad: ∀e:Int,e≠0->AWb (AR6,e) (AR6,e)/\((AR6,e).2=0->FrX h):=λe he=>⟨ATf he,λh0=>absurd h0 he⟩;unfold Ig QD;unfold rdT at w1;unfold rdX at w2;simp only[hst,hms,az,hg,hg',aa,AB,(by decide:((0:Int) !=0)=false),ap,aA];cases hte:(ty==([]:B8))
   ·simp only[hte,ap,aA];have j1:RG [44,32] [ty]=ty:=by simp[RG,OY]
    have j2:decide ((([ty]:List B8).length:Int)>0)=true:=fN;rw[j1,j2];obtain⟨m,m',c,c',m1,m2,m3,m4,m5⟩:=Ami ty hty;rw[m1,m3,aa,aa,an rfl,an rfl];cases hm:(m.2 !=0)<;>cases hm':(m'.2 !=0)<;>rw[hm,hm']at m5<;>simp only[cO,bk]at m5<;>simp only[ap,aA,az,m2,m4,aa]
    ·cases c<;>cases c'<;>simp only[bo,ba,ap,aA,az,reduceCtorEq]at m5⊢;·exact⟨_,_,rfl,rfl,bad _ fO⟩
     ·exact⟨w,w',w1,w2,w3,λ_=>hfr⟩
    ·cases c<;>simp only[bo,ba,ap,aA,az,reduceCtorEq]at m5⊢;exact⟨_,_,rfl,rfl,bad _ fO⟩
    ·cases c'<;>simp only[bo,ba,ap,aA,az,reduceCtorEq]at m5⊢;exact⟨_,_,rfl,rfl,bad _ fO⟩
    ·exact⟨_,_,rfl,rfl,bad _ fO⟩
   ·simp only[hte,az];have j2:decide ((([]:List B8).length:Int)>0)=false:=fO;obtain⟨m,m',c,c',m1,m2,m3,m4,m5⟩:=Ami [] fO;rw[j2,show RG [44,32] []=[]from rfl,m1,m3,aa,aa];simp only[ap,aA,az];exact⟨_,_,rfl,rfl,bad _ fO⟩
  ·exact absurd h200 (hO h n b h1 (by simpa using h2))
 ·have hst:(h.l==200)=false:=by simpa using h200
  have hst':(h.l !=200)=true:=by simp[bne,hst]
  have bad: ∀e:Int,e≠0->AWb (AR6,e) (AR6,e)/\((AR6,e).2=0->FrX h):=λe he=>⟨ATf he,λh0=>absurd h0 he⟩;unfold Ig QD Nn QR;simp only[hst,hst',ap,aA,AB];cases (h.l==404)<;>cases (h.l==410)<;>simp only[az,aA,ap,aa,(by decide:((260:Int) !=0)=true),(by decide:((261:Int) !=0)=true)]<;>exact⟨_,_,rfl,rfl,bad _ fO⟩
end
section
def Afn (d:AF):K9 (toS 1099511627776 d).1:=by
 by_cases h:((toS 1099511627776 d).2 !=0)=true
 ·have e:(toS 1099511627776 d).1=Ka:=by
   unfold toS at h⊢;split;·rfl
   ·split;·rfl
    ·split;·rfl
     ·rename_i h1 h2 h3;rw[aj h1,aj h2,aj h3]at h;cases h
  rw[e];exact ABJ
 ·obtain⟨e,l,_,_⟩:=ACS h;refine⟨?_,l⟩;rw[e];exact ACs h
def AYr{N:Nat} (hN:1000020<=N){l:List AK}{t:Int}{u:As} (hu:K9 u){r:Bs×Int} (h:Pw N l t u=some r) (h0:r.2=0):MF N u=true:=by
 cases hv:MF N u;·exfalso;unfold Pw Qy at h;rw[NY u hu.1 (by have:=hu.2;omega) fM,aa]at h;obtain⟨m,rfl⟩: ∃m,N=m+1:=⟨N-1,fM⟩;simp only[AB,hv,ap,aA,aa,IQ,az,ah]at h;rw[<-h]at h0;exact absurd h0 fO
 ·rfl
def Aff{l:List AK} (hl:l.length<=1000) (hW: ∀a,a∈l->WR 1099511627776 QB a.raw) (t:Int){d:AF} (hm:d.i.length<=4096) (hi:d.u.length<=16000):∃v w r e,JZ 1099511627776 l t d=some (v,r,e)/\Md 1099511627776 l t d=some (w,r,e)/\r.r.length<=10/\(e=0->(∃p q,Io 1099511627776 v=some p/\Jt 1099511627776 w=some q/\p.1.also=q.1.also/\p.1.also.length<=1000/\∀s,s∈p.1.also->s.length<=2000)/\FrX r.head):=by
 have hg:=Afn d;unfold JZ Md;rw[Acg d hm hi fM,AdI d hm hi fM,aa,aa];generalize toS 1099511627776 d=U at *;cases hU:U.2 !=0
 ·obtain⟨r,r1,r2,r3,r4⟩:=AZQ (N:=1099511627776) (B:=9000) fM (l:=l) fM t (λa ha=>(hW a ha).1) fM hg;simp only[ap,aA,r1,r2,aa];cases hr:(r.2 !=0)
  ·have hr0:r.2=0:=by simpa using hr
   obtain⟨s1,_⟩:=r4 (AYr fM hg r1 hr0);obtain⟨w,w',w1,w2,⟨w3,w4⟩,w5⟩:=AZi hW (s1 hr0) r3.1 r.1.q r.1.r hm hi;simp only[ap,aA,w1,w2,<-w3,aa];cases hw:(w.2 !=0)
   ·have hw0:w.2=0:=by simpa using hw
    exact⟨_,_,_,_,rfl,rfl,r3.2.2,λ_=>⟨w4 hw0,w5 hw0⟩⟩
   ·exact⟨_,_,_,_,rfl,rfl,r3.2.2,λh=>absurd h (by simpa using hw)⟩
  ·exact⟨_,_,_,_,rfl,rfl,r3.2.2,λh=>absurd h (by simpa using hr)⟩
 ·exact⟨_,_,_,_,rfl,rfl,aM _,λh=>absurd h (by simpa using hU)⟩
def Abl{p q:Cd} (h:p.also=q.also) (hl:p.also.length<=1000) (hs: ∀s,s∈p.also->s.length<=1000000) (y:AD): ∃L,KT 1099511627776 p y=some L/\Oj 1099511627776 q y=some L/\L.length<=64:=by unfold KT Oj;rw[AyG (N:=1099511627776) fM y [p.also] fN (λxs hx=>by rw[aV.1 hx];exact⟨fM,hs⟩),<-h,Au1 (N:=1099511627776) fM y p.also fM hs];exact⟨_,rfl,rfl,ADc _ _ (aM _)⟩
def AZ8{l:List AK} (hl:l.length<=1000) (hW: ∀a,a∈l->WR 1099511627776 QB a.raw) (t:Int) (y:AD) (hy:y.text.length<=1000):∃F e,LP 1099511627776 l t y=some (F,e)/\PX 1099511627776 l t y=some (F,e)/\F.names.length<=64/\F.r.length<=10:=by
 unfold LP PX;rw[AtH y fM fM,Av7 y fM fM];simp only[AB,aa];have none': ∀e:Int,∃F e',some ((Dg.mk (AD.mk 0 [] [] 0) [] 0 (CM.mk false 0) []),e)=some (F,e')/\some ((Dg.mk (AD.mk 0 [] [] 0) [] 0 (CM.mk false 0) []),e)=some (F,e')/\F.names.length<=64/\F.r.length<=10:=λe=>⟨_,_,rfl,rfl,aM _,aM _⟩;cases ACt 1099511627776 y;·simp only[ap,aA,az];exact none' _
 ·simp only[az];cases hk:(y.kind !=4)
  ·simp only[ap,aA];obtain⟨d1,d2⟩:=AC7 y.text;rw[AJk y.text fM fM,AKt y.text fM fM,aa,aa];obtain⟨v,w,r,e,e1,e2,e3,e4⟩:=Aff hl hW t (d:=(Oy y.text).1) d1 fM;rw[e1,e2,aa,aa];cases he:(e !=0);·obtain⟨⟨p,q,h1,h2,h3,h4,h5⟩,f,f1,f2⟩:=e4 (by simpa using he);obtain⟨L,L1,L2,L3⟩:=Abl h3 h4 (λs hs=>by have:=h5 s hs;omega) y;simp only[ap,aA,h1,h2,L1,L2,f1,f2,aa];exact⟨_,_,rfl,rfl,L3,e3⟩
   ·simp only[az];exact⟨_,_,rfl,rfl,aM _,e3⟩
  ·simp only[az];exact none' _
def AYU{F:Dg} (h1:F.names.length<=64) (h2:F.r.length<=10):SE 1099511627776 F F=some true:=by have f2:=AGD (N:=1099511627776) (λ_=>some true) F.r [];rw[aq,bl,show((0:Nat):Int)=0 from rfl]at f2;unfold SE N7;simp only[d9,cU,az,AD4 (N:=1099511627776) F.names fM,aa,AB,bne_self_eq_false,ap,aA];rw[Ap fM,f2];rfl
def ABf{y:List AK×AI} (hl:y.1.length<=1000) (hW: ∀a,a∈y.1->WR 1099511627776 QB a.raw) (t:Int) (k:Unit->Option Bool): ∀xs:List AD,(∀d,d∈xs->d.text.length<=1000)->Db 1099511627776 t y k xs=k ()|[],_=>rfl|d::xs,h=>by obtain⟨F,e,h1,h2,h3,h4⟩:=AZ8 hl hW t d (h d (.head _));rw[Db,h1,h2];dsimp only[AB,Option.bind_some];rw[AYU h3 h4,aj fN,aa,aj fO];exact ABf hl hW t k xs λd hd=>h d (.tail _ hd)
end
end Go.VM
