import Derived.Test.YtenhbiooanampaaGreatDoorL8
import Derived.Test.YtenhbiooanampaaGreatDoorVM3
set_option linter.defProp false
set_option linter.unusedVariables false
set_option linter.unusedSimpArgs false
set_option maxRecDepth 100000
namespace Go.VM
section
variable{N:Nat}
def Yg:B8:=[97,99,99,116,58,111,116,104,101,114,64,97,46,101,120,97,109,112,108,101]
def Axk:List B8:=[[104,116,116,112,115,58,47,47,97,46,101,120,97,109,112,108,101,47,102,47],[104,116,116,112,115,58,47,47,98,46,101,120,97,109,112,108,101,47,120,63,121,35,122],[104,116,116,112,58,47,47,99,46,101,120,97,109,112,108,101,47],[110,111,116,104,105,110,103]]
def AzX (ab e:B8):List ApiService:=[(ApiService.mk (ab++([35,102,105,108,101,115]:B8)) [([70]:B8)] [e]),(ApiService.mk (ab++([35,107]:B8)) [([75]:B8)] [([104,116,116,112,115,58,47,47,100,46,101,120,97,109,112,108,101]:B8)])]
def WG (ab:B8):List (List ApiService):=[]::Axk.map (AzX ab)
def ASd{d:MadeDice} (hd:GK d){ab:B8} (hl:ab.length<=1000):Ok (Mr N d ab) λr=>r.1∈WG ab/\GK r.2:=by unfold Mr;refine .bind (V8 hd (n:=3) fJ) λy ⟨_,y1⟩=>?_;refine .ite (λ_=>.ret ⟨dK,y1⟩) λ_=>?_;refine AAS (by simp only[ae,ap];omega) ?_;refine .letL (.bind (oneG y1 fJ) λz ⟨z1,z2⟩=>?_);refine AAS (by simp only[ae,ap];omega) (.letL (.ret ⟨?_,z2⟩));exact aX _ (bk.2 ⟨z.1,z1,rfl⟩)
def ABF (N:Nat) (ab:B8) (names:List B8) (sv:List ApiService):Option B8:=(OI N (ApiDoc.mk ab names [] [] sv)).bind λv=>(Rb N v).bind λy=>some y.1
def Ave:B8:=[123,34,115,117,98,106,101,99,116,34,58]
def Aum:B8:=[123,34,105,100,34,58,49,44,34,108,105,110,107,115,34,58,91,123,125,93,125]
def AyV:B8:=[97,112,112,108,105,99,97,116,105,111,110,47,100,105,100,43,106,115,111,110]
def AAB:B8:=[97,112,112,108,105,99,97,116,105,111,110,47,106,114,100,43,106,115,111,110]
def ACO:B8:=[116,101,120,116,47,104,116,109,108]
def Atn:B8:=[97,112,112,108,105,99,97,116,105,111,110,47,106,115,111,110]
def K8:List B8:=[AyV,AAB,ACO,Atn,[]]
def kD1:Atn∈K8/\AAB∈K8/\AAB∈[AAB,ACO,([]:B8)]/\ACO∈[AAB,ACO,([]:B8)]/\([]:B8)∈[AAB,ACO,[]]:=fJ
def Afo{id:ApiID} (hk:id.kind=4){names:List B8}{P:B8->Prop} (H: ∀ab,ab∈[id.text,Yg]->∀sv,sv∈WG ab->Ok (ABF N ab names sv) P) (h1:P Ave) (h2:P Aum) (hlen:id.text.length<=1000){d:MadeDice} (hd:GK d):Ok (Mw N d id names) λr=>P r.1/\r.2.1∈K8/\GK r.2.2:=by
 unfold Mw;refine .meet (λj=>j.1∈[id.text,Yg]/\j.2.1∈[AAB,ACO,[]]/\GK j.2.2) (λj ⟨j1,j2,j3⟩=>?_) λk hk'=>?_
 ·refine .meet (λi=>(∃sv,sv∈WG j.1/\OI N (ApiDoc.mk j.1 names [] [] sv)=some i.2.1)/\i.1∈K8/\GK i.2.2) (λi ⟨⟨sv,i1,i2⟩,i3,i4⟩=>?_) λk8 hk8=>?_;·obtain⟨b,e1,e2⟩:=H j.1 j1 sv i1;unfold ABF at e1;rw[i2,aa]at e1;obtain⟨y,e3,e4⟩:=c7.1 e1;cases e4;exact .bind ⟨y,e3,rfl⟩ λy' hy=>.ret (by subst hy;exact⟨e2,i3,i4⟩)
  ·refine .ite (λ_=>?_) λhne=>absurd hk (by simpa using hne);have hjl:j.1.length<=1000:=by
    rcases aM.1 j1 with h|h;·rw[h];exact hlen
    ·rw[aY.1 h];decide
   refine .bind (ASd j3 hjl) λy ⟨y1,y2⟩=>?_;obtain⟨b,e1,e2⟩:=H j.1 j1 y.1 y1;unfold ABF at e1;obtain⟨v,e3,e4⟩:=c7.1 e1;refine .bind ⟨v,e3,rfl⟩ λv' hv=>?_;subst hv;refine .letL (.bind (oneG y2 fI) λz ⟨z1,z2⟩=>?_);refine .ite (λ_=>hk8 _ ⟨⟨y.1,y1,e3⟩,kD1.1,z2⟩) λ_=>hk8 _ ⟨⟨y.1,y1,e3⟩,?_,z2⟩;rcases aM.1 z1 with h|h;·rw[h];decide
   ·rw[aY.1 h];revert j2;generalize j.2.1=t;have: ∀s,s∈[AAB,ACO,([]:B8)]->s∈K8:=fJ;exact this t
 ·refine .bind (V8 hd (n:=24) fJ) λy ⟨_,y1⟩=>?_;refine .ite (λ_=>hk' _ ⟨by simp[Yg],kD1.2.2.1,y1⟩) λ_=>.ite (λ_=>.ret ⟨h1,kD1.2.1,y1⟩) λ_=>.ite (λ_=>hk' _ ⟨fI,kD1.2.2.2.1,y1⟩) λ_=>.ite (λ_=>.ret ⟨h2,kD1.2.1,y1⟩) λ_=>.ite (λ_=>hk' _ ⟨fI,kD1.2.2.2.2,y1⟩) λ_=>hk' _ ⟨fI,kD1.2.2.1,y1⟩
def N8 (ls:List B8):B8:=ls.flatMap λx=>x++Bg
def Dr (x:B8) (ls:List B8):N8 (x::ls)=x++(Bg++N8 ls):=by simp[N8]
def Qg{q t:B8}: ∀ {x:B8},(∀c,c∈x->c≠13)->DW (13::q) (x++t)=(DW (13::q) t).map (· +x.length)
 |[],_=>by simp
 | c::x,h=>by
  have hc:=h c fI;have hp:List.isPrefixOf (13::q) (c::(x++t))=false:=by
   have:((13:UInt8)==c)=false:=by simpa using λe=>hc e.symm
   simp[List.isPrefixOf,this]
  show(if List.isPrefixOf (13::q) (c::(x++t))=true then some 0 else(DW (13::q) (x++t)).map (· +1))=_;rw[hp,aj fJ,Qg λd hd=>h d (by simp[hd]),fw];congr 1
def ZV{x t:B8} (h: ∀c,c∈x->c≠13):JV (x++(Bg++t))=(x,t,true):=by
 unfold JV;have:DW Bg (x++(Bg++t))=some x.length:=by
  show DW (13::[10]) (x++(Bg++t))=_;rw[Qg h];have:DW (13::[10]) (Bg++t)=some 0:=by show(if List.isPrefixOf [13,10] (13::10::t)=true then some 0 else _)=_;rw[an (by simp[List.isPrefixOf])]
  rw[this];simp
 rw[this];simp[Bg]
def Yy{x:B8} (h: ∀c,c∈x->c≠13):JV x=(x,[],false):=by
 unfold JV;have:DW Bg x=none:=by have e:DW (13::[10]) (x++[])=(DW (13::[10]) []).map (· +x.length):=Qg h;rw[bo]at e;exact e
 rw[this]
def AQR: ∀ls:List B8,ls≠ []->2<=(N8 ls).length|x::ls,_=>by rw[Dr];simp only[Bg,ah,ae,ap];omega
def ACx (x:B8):Prop:=x≠ []/\ ∀c,c∈x->c≠13
def AtT: ∀(ls:List B8) (b:B8),ls≠ []->(∀x,x∈ls->ACx x)->DW [13,10,13,10] (N8 ls++(Bg++b))=some ((N8 ls).length-2)
 |[x],b,_,h=>by
  rw[Dr,show N8 []=[]from rfl,bo,aH,Qg (h x fI).2];have:DW [13,10,13,10] (Bg++(Bg++b))=some 0:=by show(if List.isPrefixOf [13,10,13,10] (13::10::13::10::b)=true then some 0 else _)=_;rw[an (by simp[List.isPrefixOf])]
  rw[this];simp[Bg]
 | x::y::r,b,_,h=>by
  have ih:=AtT (y::r) b fI λz hz=>h z (by simp[hz]);have h2:=AQR (y::r) fI;rw[Dr,aH,aH,Qg (h x fI).2];obtain⟨hy,hy2⟩:=h y fI;obtain⟨c,y',rfl⟩: ∃c y',y=c::y':=by cases y with|nil=>exact absurd rfl hy|cons c y'=>exact⟨c,y',rfl⟩
  have hc:=hy2 c fI;have e1: ∀Z:B8,DW [13,10,13,10] (Bg++(c::Z))=(DW [13,10,13,10] (c::Z)).map (· +2):=by
   intro Z;have hc':((13:UInt8)==c)=false:=by simpa using λe=>hc e.symm
   have p1:List.isPrefixOf [13,10,13,10] (13::10::c::Z)=false:=by simp[List.isPrefixOf,hc']
   have p2:List.isPrefixOf [13,10,13,10] (10::c::Z)=false:=by simp[List.isPrefixOf]
   show(if List.isPrefixOf [13,10,13,10] (13::10::c::Z)=true then some 0 else(if List.isPrefixOf [13,10,13,10] (10::c::Z)=true then some 0 else(DW [13,10,13,10] (c::Z)).map (· +1)).map (· +1))=_;rw[p1,p2,aj fJ,aj fJ,fw];congr 1
  have e2:N8 ((c::y')::r)++(Bg++b)=c::(y'++(Bg++N8 r)++(Bg++b)):=by rw[Dr];simp
  rw[e2]at ih⊢;rw[e1,ih];simp only[aN,ag,ah,Bg,ae,ap];omega
def AAx: ∀ls:List B8,ls≠ []->∃l,N8 ls=l++Bg|[x],_=>⟨x,by rw[Dr];rfl⟩|x::y::r,_=>by obtain⟨l,hl⟩:=AAx (y::r) fI;exact⟨x++(Bg++l),by rw[Dr,hl];simp⟩
def GQ (f:ApiField):B8:=f.name++([58,32]++f.value)
def TA (f:ApiField):Prop:=AMc (GQ f)=some f/\ACx (GQ f)
def Zy (k11:List ApiField->Option (ApiHead×Int×Int)) (hN:1000010<N): ∀(F fs:List ApiField) (k:Nat),F.length<k->fs.length+F.length<=64->(∀f,f∈F->TA f)->(N8 (F.map GQ)).length<=1000000->Bz N k11 k (N8 (F.map GQ)) fs=k11 (fs++F)
 |[],fs,k+1,_,_,_,_=>by
  have e2:Bz N k11 (k+1) [] fs=k11 fs:=by unfold Bz;rfl
  rw[bo];exact e2
 | f::F,fs,k+1,hk,hl,hF,hb=>by
  obtain⟨f1,f2⟩:=hF f fI;simp only[ae]at hk hl;have ih:=Zy k11 hN F (fs++[f]) k fH fK (λg hg=>hF g (by simp[hg])) (by rw[aF,Dr]at hb;simp only[ah]at hb;omega);rw[aH]at ih;cases F with
  |nil=>
   have e:N8 ([f].map GQ)=GQ f++Bg:=by rw[aF,Dr];rfl
   rw[e]at hb⊢;rw[AFu k11 k fs (by simp only[ah]at hb;omega) hN,aj fH,Yy f2.2];simp only[f1];exact ih
  |cons g G=>
   obtain⟨l,hl'⟩:=AAx ((g::G).map GQ) fI;have e:N8 ((f::g::G).map GQ)=(GQ f++(Bg++l))++Bg:=by rw[aF,Dr,hl'];simp
   rw[e]at hb⊢;rw[AFu k11 k fs (by simp only[ah]at hb⊢;omega) hN,aj fH,ZV f2.2];simp only[f1];have:AR7 (GQ f,l,true)=N8 ((g::G).map GQ):=by rw[hl'];rfl
   rw[this];exact ih
def AcP{sl:B8}{st:ApiHead} (hs:OB sl=some st) (hg:ACx sl){F:List ApiField} (hF: ∀f,f∈F->TA f) (hl:F.length<=64) (b:B8) (hb:(N8 (sl::F.map GQ)++(Bg++b)).length<=16384) (hN:1000010<N):D6 N (N8 (sl::F.map GQ)++(Bg++b))=some (⟨st.minor,st.status,F⟩,(((N8 (sl::F.map GQ)).length+2:Nat):Int),0):=by
 have hfind:=AtT (sl::F.map GQ) b fI λx hx=>by
  rcases aM.1 hx with rfl|h;·exact hg
  ·obtain⟨f,h1,rfl⟩:=bk.1 h;exact(hF f h1).2
 have h2:=AQR (sl::F.map GQ) fI;obtain⟨l0,hl0⟩:=AAx (sl::F.map GQ) fI;have hcut:(JV l0).1=sl/\AR7 (JV l0)=N8 (F.map GQ):=by
  cases F with
  | nil=>
   have:l0=sl:=by
    have e:N8 (sl::([]:List ApiField).map GQ)=sl++Bg:=by rw[Dr];rfl
    rw[e]at hl0;exact(eW hl0).symm
   rw[this,Yy hg.2];exact⟨rfl,rfl⟩
  | cons f F=>
   obtain⟨l,hl'⟩:=AAx ((f::F).map GQ) fI;have:l0=sl++(Bg++l):=by
    have e:N8 (sl::(f::F).map GQ)=(sl++(Bg++l))++Bg:=by rw[Dr,hl'];simp
    rw[e]at hl0;exact(eW hl0).symm
   rw[this,ZV hg.2];exact⟨rfl,hl'.symm⟩
 generalize hT:N8 (sl::F.map GQ)=T at *;generalize hL:T++(Bg++b)=l at *;have hle:T.length+2+b.length=l.length:=by rw[<-hL];simp only[Bg,ah,ae,ap];omega
 unfold D6;have s0:sub l 0 (if 16384<(l.length:Int)then 16384 else(l.length:Int))=some l:=by rw[aj fH];have:=A8 l 0 l.length fH fH;rwa[aO,bB,cY]at this
 have hr:Ha N l [13,10,13,10]=some (((T.length-2:Nat)):Int):=by rw[Ui fI (by simp only[ae,ap];omega) fH];unfold RZ;rw[hfind]
 have hneg:decide (((T.length-2:Nat):Int)<0)=false:=aJ fH;have w2:wr .i64 (((T.length-2:Nat):Int)+2)=((T.length:Nat):Int):=by rw[Ai fH];omega
 have w4:wr .i64 (((T.length-2:Nat):Int)+4)=((T.length+2:Nat):Int):=by rw[Ai fH];omega
 have r4:sub l 0 ((T.length:Nat):Int)=some (l0++Bg):=by have:=A8 l 0 T.length fH fH;rw[aO,bB,show((0:Nat):Int)=0 from rfl]at this;rw[this,<-hL,eG,hl0]
 have hl0l:l0.length<=16384:=by have:=br List.length hl0;simp only[ah]at this;omega
 obtain⟨n,hn1,hn2,hn3⟩:=ACH (l:=l0) fH;have hfn:Ha N (l0++Bg) [13,10]=some (n:Int):=by rw[<-hn1];exact Ui fI (by simp[Bg];omega) (by simp[Bg];omega)
 obtain⟨X,hX,hX2⟩:=ARm (N:=N) (l:=(JV l0).1) (by rw[hcut.1];have:=XR l0;rw[hcut.1]at this;omega);rw[hcut.1]at hX hX2;have hok:=AQh hs;rw[s0,aa,hr,aa];simp only[AB,hneg,w2,w4,aq,az,r4,aa,hfn,hn2,hn3,hcut.1,hcut.2,hX,hs,ci,bE];rw[hX2 st hs,hok.2.2.2];rw[Zy _ hN F [] N fH (by simpa using hl) hF (by have e:=Dr sl (F.map GQ);rw[hT]at e;have:=br List.length e;simp only[ah]at this;omega)];rfl
def AYM{sl:B8}{st:ApiHead} (hs:OB sl=some st) (hg:ACx sl){t:B8} (hb:(sl++(Bg++t)).length<=16384) (hN:1000010<N){h:ApiHead}{n:Int} (hp:D6 N (sl++(Bg++t))=some (h,n,0)):h.status=st.status:=by
 obtain⟨_,r,h2,_,h4⟩:=Zn (N:=N) (l:=sl++(Bg++t)) fH hN;rw[hp]at h2;cases h2;obtain⟨k,h0,e1,e2,e3⟩:=h4 rfl;rw[ba hb,Qg hg.2]at e1;obtain⟨j,j1,j2⟩:=aV.1 e1;have hk:(JV ((sl++(Bg++t)).take k)).1=sl:=by
  rw[<-j2,ez,List.take_length_add_append];have hj:j=0\/2<=j:=by
   change (if List.isPrefixOf [13,10,13,10] (13::10::t)=true then some 0 else(DW [13,10,13,10] (10::t)).map (· +1))=some j at j1;split at j1;·cases j1;exact .inl rfl
   ·have p2:List.isPrefixOf [13,10,13,10] (10::t)=false:=by simp[List.isPrefixOf]
    change Option.map (· +1) (if List.isPrefixOf [13,10,13,10] (10::t)=true then some 0 else(DW [13,10,13,10] t).map (· +1))=some j at j1;rw[p2,aj fJ,fw]at j1;obtain⟨i,_,i2⟩:=aV.1 j1;simp only[Function.comp]at i2;exact .inr fH
  rcases hj with rfl|hj;·rw[dr,bo,Yy hg.2]
  ·obtain⟨i,rfl⟩: ∃i,j=i+2:=⟨j-2,fH⟩;have:(Bg++t).take (i+2)=Bg++t.take i:=by simp[Bg]
   rw[this,ZV hg.2]
 rw[hk,hs]at e2;cases e2;exact e3
def ctN:B8:=[99,111,110,116,101,110,116,45,116,121,112,101]
def clN:B8:=[99,111,110,116,101,110,116,45,108,101,110,103,116,104]
def teN:B8:=[116,114,97,110,115,102,101,114,45,101,110,99,111,100,105,110,103]
def chV:B8:=[99,104,117,110,107,101,100]
def Q6 (y:B8):B8:=[72,84,84,80,47,49,46,49,32]++(y++[32,45])
def AFW (k8:B8->Option B8){M:Nat} (hM:M<=1000000): ∀(fs:List ApiField) (s:B8),s.length+ED fs+4 * fs.length<=M->Dc N k8 fs s=k8 (s++N8 (fs.map GQ))
 |[],s,_=>by rw[Dc];simp[N8]
 |f::fs,s,h=>by
  have e:ED (f::fs)=f.name.length+f.value.length+ED fs:=by simp[ED]
  rw[e,ae]at h;rw[Dc,A9 (by simp only[ae,ap];omega),A9 (by simp only[ah,ae,ap];omega),A9 (by simp only[ah,ae,ap];omega),A9 (by simp only[ah,ae,ap];omega),AFW k8 hM fs _ (by simp only[ah,ae,ap];omega),aF,Dr];simp[GQ,Bg]
def Anu{st:Int}{y:B8} (hy:Bi N st=some y) (hyl:y.length<=100){F:List ApiField} (hs:ED F+4 * F.length<=800000):En N ⟨1,st,F⟩=some (N8 (Q6 y::F.map GQ)++Bg):=by
 unfold En;simp only[AB];rw[aj fJ,A9 (by simp only[ae,ap];omega),A9 (by simp only[ah,ae,ap];omega),hy,aa,A9 (by simp only[ah,ae,ap];omega),A9 (by simp only[ah,ae,ap];omega),A9 fH,AFW _ (M:=1000000) (av _) F _ (by simp only[ah,ae,ap];omega)];have hl:(N8 (F.map GQ)).length=ED F+4 * F.length:=by clear hs;induction F with|nil=>rfl|cons f F ih=>rw[aF,Dr,show ED (f::F)=f.name.length+f.value.length+ED F by simp[ED]];simp only[ah,ih,GQ,Bg,ae,ap];omega
 rw[A9 (by simp only[ah,ae,ap,hl];omega),Dr];simp[Q6,Bg]
def tyF (ty:B8):List ApiField:=if(ty==[])=true then []else [⟨ctN,ty⟩]
def Azk (N:Nat) (y ty body:B8) (fs:List ApiField) (c:Bool) (r:B8):Prop:=∃F tail,r=N8 (Q6 y::F.map GQ)++(Bg++tail)/\if c=true then F=tyF ty++fs++[⟨teN,chV⟩]/\Gh N body 50=some tail else∃d,EH N (body.length:Int)=some d/\F=tyF ty++fs++[⟨clN,d⟩]/\tail=body
theorem Ayd{st:Int}{y:B8} (hy:Bi N st=some y) (hyl:y.length<=100){ty body:B8}{fs:List ApiField} (c:Bool) (hty:ty.length<=1000) (hb:body.length<=50000) (hf:fs.length<=100) (hs:ED fs<=10000) (hN:1000000<=N):Ok (GN N st ty body fs c) (Azk N y ty body fs c):=by
 have ht:(tyF ty).length<=1/\ED (tyF ty)<=12+ty.length:=by
  unfold tyF;split;·exact⟨aK _,by simp[ED]⟩
  ·exact⟨av _,by simp[ED,ctN]⟩
 have key:GN N st ty body fs c=(if c=true then(En N (ApiHead.mk 1 st ((tyF ty++fs)++[⟨teN,chV⟩]))).bind λy5=>(Gh N body 50).bind λy7=>grd (AL (y5.length+y7.length)) (some (y5++y7))else(EH N (body.length:Int)).bind λy13=>(En N (ApiHead.mk 1 st ((tyF ty++fs)++[⟨clN,y13⟩]))).bind λy15=>grd (AL (y15.length+body.length)) (some (y15++body))):=by
  unfold GN;simp only[AB];have f1: ∀j:List ApiField,j.length<=1->Ae (j.length+fs.length) 32:=λj hj=>Hq fH fH;have f2: ∀j:List ApiField,j.length<=1->Ae ((j++fs).length+1) 32:=λj hj=>Hq (by simp only[ah];omega) fH;unfold tyF;by_cases h0:(ty==[])=true;·rw[an h0,an h0,AO (f1 [] fI)];have g: ∀x:Option B8,grd (Ae ((([]:List ApiField)++fs).length+1) 32) x=x:=λx=>AO (f2 [] fI);simp only[g];rfl
  ·rw[aj h0,aj h0,AO (Hq fI fH),AO (f1 _ fI)];have g: ∀x:Option B8,grd (Ae (([⟨ctN,ty⟩]++fs:List ApiField).length+1) 32) x=x:=λx=>AO (f2 _ fI);unfold ctN at g;simp only[g];rfl
 rw[key];have hF: ∀f:ApiField,f.name.length+f.value.length<=1000->ED ((tyF ty++fs)++[f])+4 * ((tyF ty++fs)++[f]).length<=800000:=by intro f hf';rw[VY,ACT];simp only[ah,bh];omega
 refine .ite (λhc=>?_) λhc=>?_
 ·obtain⟨E,e1,e2⟩:=AaG (N:=N) (a:=body) fH hN;rw[Anu hy hyl (hF _ fJ),aa,e1,aa];have hl: ∀F:List ApiField,(N8 (F.map GQ)).length=ED F+4 * F.length:=by intro F;induction F with|nil=>rfl|cons f F ih=>rw[aF,Dr,show ED (f::F)=f.name.length+f.value.length+ED F by simp[ED]];simp only[ah,ih,GQ,Bg,ae,ap];omega
  have:=hF ⟨teN,chV⟩ fJ;rw[A9 (by rw[Dr];simp only[ah,hl,Q6,Bg,ae,ap]at this⊢;omega)];exact .ret ⟨_,E,by rw[aH],by rw[an hc];exact⟨rfl,e1⟩⟩
 ·obtain⟨d,e1,e2⟩:=VI (N:=N) (n:=body.length) fH fH;rw[e1,aa,Anu hy hyl (hF _ (by show clN.length+d.length<=1000;have:clN.length=14:=rfl;omega)),aa];have hl: ∀F:List ApiField,(N8 (F.map GQ)).length=ED F+4 * F.length:=by intro F;induction F with|nil=>rfl|cons f F ih=>rw[aF,Dr,show ED (f::F)=f.name.length+f.value.length+ED F by simp[ED]];simp only[ah,ih,GQ,Bg,ae,ap];omega
  have:=hF ⟨clN,d⟩ (by show clN.length+d.length<=1000;have:clN.length=14:=rfl;omega);rw[A9 (by rw[Dr];simp only[ah,hl,Q6,Bg,ae,ap]at this⊢;omega)];exact .ret ⟨_,body,by rw[aH],by rw[hc,aj fJ];exact⟨d,e1,rfl,rfl⟩⟩
def AnR (N:Nat) (raw:B8):Prop:= ∀h n b,D6 N raw=some (h,n,0)->HY N h (raw.drop n.toNat) 1048576=some (b,0)->h.status≠200
def AZa{st:Int}{y:B8} (hy:Bi N st=some y) (hyl:y.length<=100) (hg:ACx (Q6 y)){h0:ApiHead} (hs:OB (Q6 y)=some h0) (h200:h0.status≠200){ty body:B8}{fs:List ApiField}{c:Bool} (hty:ty.length<=1000) (hb:body.length<=50000) (hf:fs.length<=100) (hs':ED fs<=10000) (hN:1000011<=N){r:B8} (hr:GN N st ty body fs c=some r) (hl:r.length<=16384):AnR N r:=by intro h n b hp _;obtain⟨r',e1,F,tail,e2,_⟩:=Ayd (N:=N) hy hyl c hty hb hf hs' fH;rw[hr]at e1;cases e1;rw[Dr]at e2;rw[e2,aH,aH]at hp hl;rw[AYM hs hg hl fH hp];exact h200
def Akd{raw:B8}{h0:ApiHead}{n0 e0:Int} (hp:D6 N raw=some (h0,n0,e0)) (hr:e0≠0\/∃b0 e1,HY N h0 (raw.drop n0.toNat) 1048576=some (b0,e1)/\e1≠0):AnR N raw:=by
 intro h n b h1 h2;rw[hp]at h1;cases h1;rcases hr with hr|⟨b0,e1,h3,h4⟩;·exact absurd rfl hr
 ·rw[h3]at h2;cases h2;exact absurd rfl h4
def ccN:B8:=[99,97,99,104,101,45,99,111,110,116,114,111,108]
def agN:B8:=[97,103,101]
def ccL:List B8:=[[109,97,120,45,97,103,101,61,49,48,48],[109,97,120,45,97,103,101,61,49,48,48,48,44,32,112,117,98,108,105,99],[109,97,120,45,97,103,101,61,53],[109,97,120,45,97,103,101,61,57,57,57,57,57,57,57,57,57],[110,111,45,115,116,111,114,101,44,32,109,97,120,45,97,103,101,61,57],[112,114,105,118,97,116,101],[109,97,120,45,97,103,101,61,120]]
def agL:List B8:=[[52,48],[51],[49,48,48,48],[121]]
def AAD:List (List ApiField):=ccL.flatMap λv=>[⟨ccN,v⟩]::agL.map λw=>[⟨ccN,v⟩,⟨agN,w⟩]
def AyS{d:MadeDice} (hd:GK d):Ok (Oc N d) λr=>r.1∈AAD/\GK r.2:=by
 unfold Oc;refine .letL (.bind (oneG hd fJ) λy ⟨y1,y2⟩=>?_);simp only[AB];refine .bind (V8 y2 (n:=4) fJ) λz ⟨_,z1⟩=>?_;refine .ite (λ_=>?_) λ_=>?_;·refine .letL (.bind (oneG z1 fJ) λw ⟨w1,w2⟩=>?_);refine .grd (Hq fI fH) (.ret ⟨?_,w2⟩);exact dX.2 ⟨y.1,y1,aX _ (bk.2 ⟨w.1,w1,rfl⟩)⟩
 ·exact .ret ⟨dX.2 ⟨y.1,y1,dK⟩,z1⟩
def At1: ∀fs,fs∈AAD->fs.length<=2/\ED fs<=100:=by decide+kernel
def AxX (N:Nat) (P:B8->Prop) (raw:B8):Prop:= ∃ty body fs c,ty∈K8/\P body/\fs∈AAD/\GN N 200 ty body fs c=some raw
def WR (N:Nat) (P:B8->Prop) (raw:B8):Prop:=raw.length<=9000/\(AxX N P raw\/AnR N raw)
def StO (N:Nat) (st:Int):Prop:= ∃y h0,Bi N st=some y/\y.length<=100/\ACx (Q6 y)/\OB (Q6 y)=some h0/\h0.status≠200
def AxO:B8:=[72,84,84,80,47,49,46,49,32,50,48,48,32,79,75,13,10,99,111,110,116,101,110,116,45,108,101,110,103,116,104,58,32,57,13,10,13,10,97,98,99]
def AyE:B8:=[110,111,110,115,101,110,115,101]
structure Closed (N:Nat):Prop where
  st: ∀st:Nat,st∈[301,302,307,404,410,500,403,204]->StO N (st:Int)
  abc:AnR N AxO
  non:AnR N AyE
def AxS (hC:Closed N){P:B8->Prop}{d:MadeDice} (hd:GK d){u:ApiURL} (hu:KU u) (hN:1000011<=N):Ok (OT N d u) λr=>WR N P r.1.raw/\GK r.2:=by
 unfold OT;simp only[AB];refine .letL (.bind (V8 hd (n:=5) fH) λy ⟨⟨y0,y1⟩,d1⟩=>?_);have hi: ∃st:Nat,idx ([404,410,500,403,204]:List Int) y.1=some (st:Int)/\st∈[301,302,307,404,410,500,403,204]:=by
  obtain⟨n,hn⟩: ∃n:Nat,y.1=(n:Int):=⟨y.1.toNat,fH⟩;rw[hn]at y1⊢;rcases (by omega:n=0\/n=1\/n=2\/n=3\/n=4)with rfl|rfl|rfl|rfl|rfl;·exact⟨404,rfl,fJ⟩
  ·exact⟨410,rfl,fJ⟩
  ·exact⟨500,rfl,fJ⟩
  ·exact⟨403,rfl,fJ⟩
  ·exact⟨204,rfl,fJ⟩
 obtain⟨st,i1,i2⟩:=hi;have i3:st<=1000:=(show∀x,x∈[301,302,307,404,410,500,403,204]->x<=1000 by decide) st i2;obtain⟨r,h1,h2⟩:=AMR (N:=N) (st:=st) fH (ty:=[]) (body:=[]) (fs:=[]) false fJ fJ fJ fJ fH;simp only[ap,show ED []=0 from rfl]at h2;obtain⟨yy,h0,s1,s2,s3,s4,s5⟩:=hC.st st i2;have hO:=AZa s1 s2 s3 s4 s5 (ty:=[]) (body:=[]) (fs:=[]) (c:=false) fJ fJ fJ fJ hN h1 fH;rw[i1,aa,h1,aa];refine .bind (VQ (N:=N) hu r) λa ha=>?_;refine .bind (V8 d1 (n:=8) fH) λz ⟨_,e1⟩=>?_;have hal:WR N P a.raw:=by rw[ha];exact⟨fH,.inr hO⟩
 refine .ite (λ_=>?_) λ_=>.ite (λ_=>?_) λ_=>.ite (λ_=>?_) λ_=>?_;·exact .ret ⟨⟨(by decide:AxO.length<=9000),.inr hC.abc⟩,e1⟩
 ·exact .bind (V8 e1 (n:=4) fH) λw ⟨_,g1⟩=>.ret ⟨hal,g1⟩
 ·exact .ret ⟨⟨(by decide:AyE.length<=9000),.inr hC.non⟩,e1⟩
 ·exact .ret ⟨hal,e1⟩
def Aw8 (hC:Closed N) (hN:1000011<=N){id:ApiID} (hk:id.kind=4){names:List B8}{P:B8->Prop} (H: ∀ab,ab∈[id.text,Yg]->∀sv,sv∈WG ab->Ok (ABF N ab names sv) P) (h1:P Ave) (h2:P Aum) (hP: ∀b,P b->b.length<=2000) (hlen:id.text.length<=1000){x:ApiDID×Int}{u:ApiURL×Int} (hx:CZ N id.text=some x) (hu:Hy N x.1=some u) (hg:KU u.1) {d:MadeDice} (hd:GK d):Ok (O9 N d id names) λr=>(r.1.length<=200/\∀a,a∈r.1->WR N P a.raw)/\GK r.2:=by unfold O9;refine .bind (Afo hk H h1 h2 hlen hd) λy ⟨y1,y2,y3⟩=>?_;refine .bind (AyS y3) λc ⟨c1,c3⟩=>?_;refine .bind (V8 c3 (n:=3) fJ) λz ⟨_,z1⟩=>?_;have hty:y.2.1.length<=30:=(show∀s,s∈K8->s.length<=30 by decide) _ y2;obtain⟨c4,c5⟩:=At1 _ c1;have hyl:=hP _ y1;obtain⟨r,hr0,hr⟩:=AMR (N:=N) (st:=200) fH (ty:=y.2.1) (body:=y.1) (fs:=c.1) (z.1==0) fH fH fH fH fH;rw[show(200:Int)=((200:Nat):Int)from rfl,hr0,aa];have hW:WR N P r:=⟨fH,.inl ⟨_,_,_,_,y2,y1,c1,hr0⟩⟩;refine .ite (λ_=>?_) λhne=>absurd hk (by simpa using hne);rw[hx,aa,hu,aa];refine .bind (V8 z1 (n:=12) fJ) λw ⟨_,w1⟩=>?_;refine .ite (λ_=>.bind (AxS hC (P:=P) w1 hg hN) λf ⟨f1,f2⟩=>.ret ⟨⟨fI,λa ha=>by rw[aY.1 ha];exact f1⟩,f2⟩) λ_=>?_;refine .bind (Aqi fH (R:=WR N P) (λst fs r hst hfl hfs hr' hl=>?_) hg hW w1.1 w1.2) λt ⟨⟨t1,t2⟩,t3,t4⟩=>.ret ⟨⟨t1,t2⟩,t3,t4⟩;obtain⟨yy,h0,s1,s2,s3,s4,s5⟩:=hC.st st (by rcases hst with rfl|rfl|rfl<;>decide);exact⟨fH,.inr (AZa s1 s2 s3 s4 s5 fJ fJ fH fH hN hr' fH)⟩
def AUq (f:ApiField):Bool:=(match AMc (GQ f)with|some g=>g.name==f.name&&g.value==f.value|none=>false)&&(!(GQ f).isEmpty&&(GQ f).all (· !=13))
def XM{f:ApiField} (h:AUq f=true):TA f:=by
 unfold AUq at h;rw[aw,aw]at h;obtain⟨h1,h2,h3⟩:=h;refine⟨?_,?_,?_⟩
 ·split at h1;·rename_i g hg;rw[hg,aw]at *;obtain⟨e1,e2⟩:=h1;cases g;cases f;simp only[bf]at e1 e2;rw[e1,e2]
  ·cases h1
 ·intro e;rw[e]at h2;cases h2
 ·intro c hc;have:=aL.1 h3 c hc;simpa using this
def AzI: ∀ty,ty∈K8->∀f,f∈tyF ty->TA f:=by
 have:(K8.all λty=>(tyF ty).all AUq)=true:=by kernel_rfl
 intro ty h f hf;exact XM (aL.1 (aL.1 this ty h) f hf)
def Az8: ∀fs,fs∈AAD->∀f,f∈fs->TA f:=by
 have:(AAD.all λfs=>fs.all AUq)=true:=by kernel_rfl
 intro fs h f hf;exact XM (aL.1 (aL.1 this fs h) f hf)
def Azm:TA ⟨teN,chV⟩:=XM (by kernel_rfl)
def Atv: ∀ty,ty∈K8->∀fs,fs∈AAD->GR teN (tyF ty++fs)=[]/\GR clN (tyF ty++fs)=[]/\GR ctN fs=[]:=by
 have:(K8.all λty=>AAD.all λfs=>(GR teN (tyF ty++fs)).isEmpty&&((GR clN (tyF ty++fs)).isEmpty&&(GR ctN fs).isEmpty))=true:=by kernel_rfl
 intro ty h fs hf;have:=aL.1 (aL.1 this ty h) fs hf;rw[aw,aw]at this;exact⟨dZ.1 this.1,dZ.1 this.2.1,dZ.1 this.2.2⟩
def tyV: ∀ty,ty∈K8->GR ctN (tyF ty)=if(ty==[])=true then []else [ty]:=by
 have:(K8.all λty=>GR ctN (tyF ty)==if(ty==[])=true then []else [ty])=true:=by kernel_rfl
 intro ty h;simpa using aL.1 this ty h
def ACf (n:B8) (a b:List ApiField):GR n (a++b)=GR n a++GR n b:=by simp[GR]
def AtX (N m:Nat):Prop:= ∀n d,n<=m->EH N (n:Int)=some d->TA ⟨clN,d⟩/\AAY d=((n:Int),true)
def Ayy (N:Nat) (P:B8->Prop):Prop:= ∀b E,P b->Gh N b 50=some E->KZ N E 1048576=some (b,0)
def Atc:OB (Q6 [50,48,48])=some ⟨1,200,[]⟩/\ACx (Q6 [50,48,48]):=⟨by kernel_rfl,fJ,fJ⟩
def headD (ty:B8) (fs:List ApiField) (last:ApiField):ApiHead:=⟨1,200,tyF ty++fs++[last]⟩
def Atd (f:ApiField):Prop:=f.name=teN\/f.name=clN
theorem Ana (hN:1000011<=N) (h200:Bi N 200=some [50,48,48]){P:B8->Prop} (hP: ∀b,P b->b.length<=2000) (hL:AtX N 2000) (hE:Ayy N P){raw:B8} (hl:raw.length<=9000) (hr:AxX N P raw){h:ApiHead}{n:Nat}{b:B8} (h1:D6 N raw=some (h,(n:Int),0)) (h2:HY N h (raw.drop n) 1048576=some (b,0)):P b/\∃ty fs last,ty∈K8/\fs∈AAD/\Atd last/\h=headD ty fs last:=by
 obtain⟨ty,body,fs,c,hty,hb,hfs,hraw⟩:=hr;have hbl:=hP body hb;have htl:ty.length<=30:=(show∀s,s∈K8->s.length<=30 by decide) _ hty;obtain⟨c4,c5⟩:=At1 _ hfs;obtain⟨r',e1,F,tail,e2,e3⟩:=Ayd (N:=N) (st:=200) h200 fJ (ty:=ty) (body:=body) (fs:=fs) c fH fH fH fH fH;rw[hraw]at e1;cases e1;have hFl:(tyF ty).length<=1:=by unfold tyF;split<;>simp
 have hok: ∀f,f∈tyF ty++fs->TA f:=λf hf=>(aZ.1 hf).elim (AzI ty hty f) (Az8 fs hfs f);obtain⟨n1,n2,_⟩:=Atv ty hty fs hfs;have main: ∀last:ApiField,F=tyF ty++fs++[last]->TA last->h=headD ty fs last/\raw.drop n=tail:=by
  intro last hF hlast;have hb2:=AcP (N:=N) Atc.1 Atc.2 (F:=F) (λf hf=>by
   rw[hF]at hf;rcases aZ.1 hf with hf|hf;·exact hok f hf
   ·rw[aY.1 hf];exact hlast) (by rw[hF];simp only[ah,bh];omega) tail (by rw[<-e2];omega) fH;rw[<-e2,h1]at hb2;simp only[ag,aA]at hb2;obtain⟨q1,q2,_⟩:=hb2;refine⟨by rw[q1,hF];rfl,?_⟩;have hn:n=(N8 (Q6 [50,48,48]::F.map GQ)).length+2:=fH;rw[hn,e2,cu];simp[Bg]
 have hd:hdB h:=by obtain⟨_,r,q1,q2⟩:=ABn (N:=N) (l:=raw) fH fH;rw[h1]at q1;cases q1;exact Aap q2.1
 have gets: ∀last:ApiField,h=headD ty fs last->∀nm:B8,nm.length<=100->GR nm (tyF ty++fs)=[]->Nc N h nm=some (QF [44,32] (GR nm [last]),decide (((GR nm [last]).length:Int)>0)):=by
  intro last hh nm hnl hv;rw[Rl hd nm fH];unfold ADu;have e:GR nm h.fields=GR nm [last]:=by rw[hh];show GR nm (tyF ty++fs++[last])=_;rw[ACf,hv,bm]
  simp only[e]
 have z1:decide ((200:Int)>=100)=true:=fJ;have z2:decide ((200:Int)<=199)=false:=fJ;have z3:((200:Int)==204)=false:=fJ;have z4:((200:Int)==304)=false:=fJ;have z5:decide ((1048576:Int)<0)=false:=fJ;cases c
 ·rw[aj fJ]at e3;obtain⟨d,d1,d2,d3⟩:=e3;obtain⟨k1,k2⟩:=hL body.length d hbl d1;obtain⟨m1,m2⟩:=main ⟨clN,d⟩ d2 k1;refine⟨?_,ty,fs,⟨clN,d⟩,hty,hfs,.inr rfl,m1⟩;have g1:=gets _ m1 teN fJ n1;have g2:=gets _ m1 clN fJ n2;have v1:GR teN [(⟨clN,d⟩:ApiField)]=[]:=rfl;have v2:GR clN [(⟨clN,d⟩:ApiField)]=[d]:=rfl;rw[v1]at g1;rw[v2]at g2;have hst:h.status=200:=by rw[m1];rfl
  have hdl:d.length<=10:=by obtain⟨d',q1,q2⟩:=VI (N:=N) (n:=body.length) fH fH;rw[d1]at q1;cases q1;exact q2
  unfold teN at g1;unfold clN at g2;rw[m2,d3]at h2;unfold HY at h2;have hlen:Ma N d=some ((body.length:Int),true):=by rw[AZh fH fH,k2]
  have j1:QF [44,32] [d]=d:=by simp[QF,Nz]
  have j0:decide (((([]:List B8).length:Int))>0)=false:=fJ;have j2:decide (((([d]:List B8).length:Int))>0)=true:=fI;rw[j0]at g1;rw[j1,j2]at g2;have w1:wr .u64 (1048576:Int)=1048576:=fJ;have w2:wr .u64 (body.length:Int)=(body.length:Int):=FV fH;have y1:decide ((body.length:Int)>1048576)=false:=aJ fH;have y2:decide ((body.length:Int)<(body.length:Int))=false:=aJ fH;have y3:sub body 0 (body.length:Int)=some body:=by have:=A8 body 0 body.length fH fH;rwa[aO,bB,cY]at this
  simp only[AB,hst,z1,z2,z3,z4,z5,g1,g2,aa,aq,aB,az,hlen,w1,w2,y1,y2,y3]at h2;cases h2;exact hb
 ·rw[an rfl]at e3;obtain⟨d2,d3⟩:=e3;obtain⟨m1,m2⟩:=main ⟨teN,chV⟩ d2 Azm;refine⟨?_,ty,fs,⟨teN,chV⟩,hty,hfs,.inl rfl,m1⟩;have g1:=gets _ m1 teN fJ n1;have g2:=gets _ m1 clN fJ n2;have v1:GR teN [(⟨teN,chV⟩:ApiField)]=[chV]:=rfl;have v2:GR clN [(⟨teN,chV⟩:ApiField)]=[]:=rfl;rw[v1]at g1;rw[v2]at g2;have hst:h.status=200:=by rw[m1];rfl
  unfold teN at g1;unfold clN at g2;rw[m2]at h2;unfold HY at h2;have j1:QF [44,32] [chV]=chV:=by simp[QF,Nz]
  have j0:decide (((([]:List B8).length:Int))>0)=false:=fJ;have j2:decide (((([chV]:List B8).length:Int))>0)=true:=fJ;rw[j1,j2]at g1;rw[j0]at g2;have hlow:EY N chV=some chV:=by rw[QY _ fJ];rfl
  have hbq:(chV==([99,104,117,110,107,101,100]:B8))=true:=fJ;simp only[AB,hst,z1,z2,z3,z4,z5,g1,g2,aa,aq,aB,az,hlow,hbq,bE,hE body tail hb d3,(by decide:((0:Int) !=0)=false)]at h2;cases h2;exact hb
end
section
def Ap9:B8:=[97,99,99,116,58,98,111,98,64,98,46,101,120,97,109,112,108,101]
def Adk:ApiValue:=ApiValue.mk 0 [] [] []
def rdT (N:Nat) (b:B8) (d:ApiDID):Option (ApiValue×Int):=(Ja N b).bind λy11=>if(y11.2.2 !=0)=true then some ((ApiValue.mk 0 [] [] []),y11.2.2)else(Mg N y11.1).bind λy13=>if(y13.2 !=0)=true then some ((ApiValue.mk 0 [] [] []),y13.2)else(Cn N d).bind λy15=>(O7 N y13.1.iD y15).bind λy17=>if y17=true then some (y11.1,0)else some ((ApiValue.mk 0 [] [] []),280)
def ABW:B8->(B8->Bool)->Bool|[],k=>k []|x::t,k=>match x.toNat with|0=>ABW t λt'=>k (0::t')|n+1=>ABW t λt'=>k (UInt8.ofNat (n+1)::t')
def Yt: ∀(l:B8) (k:B8->Bool),ABW l k=k l
 |[],k=>rfl
 |x::t,k=>by
  rw[ABW];split;·rename_i h;rw[Yt t];have:x=0:=dH.1 h;rw[this]
  ·rename_i n h;rw[Yt t,show n+1=x.toNat from h.symm,bP]
def eqI (a b:ApiID):Bool:=a.kind==b.kind&&(a.text==b.text&&(a.host==b.host&&a.port==b.port))
def AXd (u:ApiURL):Bool:=decide (0<=u.port)&&(decide (u.port<=65535)&&(decide (u.host.length<=1000)&&(decide (u.path.length<=1000)&&(decide (u.query.length<=1000)&&(decide (u.fragment.length<=1000)&&(decide ((Im u).length<=4096)&&(u.fragment==[]&&u.hasFrag==false)))))))
def AfD:List B8:=Sc (Sc [[100,105,100,58,119,101,98,58]] ANv) [[],[58,117],[58,117,58,98,111,98],[58,97,37,55,101,98]]
end
section
def ATF{u:ApiURL} (h:AXd u=true):KU u/\Rv u=u:=by unfold AXd at h;simp only[aw,bf,au]at h;obtain⟨h1,h2,h3,h4,h5,h6,h7,h8,h9⟩:=h;refine⟨⟨⟨⟨h1,h2⟩,fH,fH,fH,fH⟩,h7⟩,?_⟩;unfold Rv;cases u;simp_all
def AvI{a b:ApiID} (h:eqI a b=true):a=b:=by unfold eqI at h;simp only[aw,bf]at h;obtain⟨h1,h2,h3,h4⟩:=h;cases a;cases b;simp_all
def stB (N:Nat) (st:Nat):Bool:=match Bi N (st:Int)with
 |some y=>decide (y.length<=100)&&(((Q6 y).all (· !=13))&&(match OB (Q6 y)with|some h=>h.status !=200|none=>false))
 |none=>false
def AuX{N st:Nat} (h:stB N st=true):StO N (st:Int):=by
 unfold stB at h;split at h
 ·rename_i y hy;rw[aw,aw,au]at h;obtain⟨h1,h2,h3⟩:=h;split at h3;·rename_i h0 hs;refine⟨y,h0,hy,h1,⟨by simp[Q6],λc hc=>?_⟩,hs,by simpa using h3⟩;have:=aL.1 h2 c hc;simpa using this
  ·cases h3
 ·cases h
def Aqa:Closed 1099511627776 where
  st:=by
    have:([301,302,307,404,410,500,403,204].all λst=>stB 1099511627776 st)=true:=by kernel_rfl
    intro st hst
    exact AuX (aL.1 this st hst)
  abc:=Akd (N:=1099511627776) (h0:=⟨1,200,[⟨clN,[57]⟩]⟩) (n0:=38) (e0:=0) (by kernel_rfl) (.inr ⟨[],191,by kernel_rfl,fJ⟩)
  non:=Akd (N:=1099511627776) (h0:=⟨0,0,[]⟩) (n0:=0) (e0:=191) (by kernel_rfl) (.inl fJ)
def Azc:AtX 1099511627776 2000:=by
 have:((List.range 2001).all λn=>match EH 1099511627776 (n:Int)with|some d=>AUq ⟨clN,d⟩&&((AAY d).1==(n:Int)&&(AAY d).2)|none=>false)=true:=by kernel_rfl
 intro n d hn hd;have:=aL.1 this n (eB.2 fH);rw[hd]at this;simp only[aw,bf]at this;obtain⟨h1,h2,h3⟩:=this;refine⟨XM h1,?_⟩;generalize AAY d=z at h2 h3;cases z;simp only at h2 h3;rw[h2,h3]
def Ayt:Bi 1099511627776 200=some [50,48,48]:=by kernel_rfl
end
section
def AXk (N:Nat) (v w:ApiValue):Bool:=match Ie N N v w with|some b=>b|none=>false
def Ait (N:Nat) (s:B8):Bool:=match LW N s,FH N s with|some i,some j=>eqI i.1 j.1&&i.2==j.2|_,_=>false
def Axd (N:Nat) (b:B8):Bool:=match Ja N b,Pp N b with
 |some y,some z=>y.2.2==z.2.2&&(if(y.2.2 !=0)=true then true else match Mg N y.1,Oe N z.1 with|some p,some q=>p.2==q.2&&(if(p.2 !=0)=true then true else p.1.iD==q.1.iD&&(Ait N p.1.iD&&AXk N y.1 z.1))|_,_=>false)
 |_,_=>false
def ACD (N:Nat) (b:B8):Bool:=
  decide (b.length<=2000)&&((match Gh N b 50 with|some E=>(match KZ N E 1048576 with|some r=>r.1==b&&r.2==0|none=>false)|none=>false)&&Axd N b)
def AsW (N:Nat) (ab:B8):Bool:=(WG ab).all λsv=>match ABF N ab [Ap9] sv with|some b=>ABW b λb=>ACD N b|none=>false
def idU (N:Nat) (t:B8):Bool:=match FH N t with
 |some y=>y.1.kind==4&&(decide (y.1.text.length<=1000)&&(match CZ N y.1.text with
 |some x=>decide (x.1.method.length<=1000)&&(decide (x.1.iD.length<=1000)&&(match Hy N x.1 with|some u=>AXd u.1|none=>false))
 |none=>false))
 |none=>false
def Ajz (N:Nat) (t:B8):Bool:=match FH N t with|some y=>AsW N y.1.text|none=>false
def Ox (i:Nat):Bool:=match AfD[i]? with|some t=>Ajz 1099511627776 t|none=>false
end
section
def Avf{f:ApiField} (h:Atd f):GR ccN [f]=[]/\GR agN [f]=[]/\GR ctN [f]=[]:=by obtain⟨nm,v⟩:=f;rcases h with h|h<;>(simp only at h;subst h;exact⟨rfl,rfl,rfl⟩)
def Apr{h:ApiHead}{nm:B8}{xs:List B8} (e:GR nm h.fields=xs):ADu h nm=(QF [44,32] xs,decide ((xs.length:Int)>0)):=by unfold ADu;simp only[e]
end
section
def P7 (b:B8):Prop:=ACD 1099511627776 b=true
def AE5{b:B8} (h:P7 b):b.length<=2000:=by unfold P7 ACD at h;rw[aw,au]at h;exact h.1
def AjQ:Ayy 1099511627776 P7:=by
 intro b E h hE;unfold P7 ACD at h;rw[aw,aw,hE]at h;obtain⟨_,h,_⟩:=h;simp only at h;split at h;·rename_i r hr;rw[aw,bf,bf]at h;rw[hr];obtain⟨e1,e2⟩:=h;cases r;simp only at e1 e2;rw[e1,e2]
 ·cases h
def AdG{v w:ApiValue} (h:AXk 1099511627776 v w=true):Ie 1099511627776 1099511627776 v w=some true:=by
 unfold AXk at h;split at h;·rename_i b hb;rw[hb,h]
 ·cases h
def Ul:Ie 1099511627776 1099511627776 Adk Adk=some true:=by kernel_rfl
def Ahp (d:ApiDID):Af 58 (HV d)=([100,105,100],(d.method++[58])++d.iD,true)/\(HV d).contains 58=true:=by
 have e:HV d=100::105::100::58::((d.method++[58])++d.iD):=by simp[HV]
 constructor;·rw[e];simp[Af]
 ·rw[e];simp
def Afb{d:ApiDID} (hm:d.method.length<=4096) (hi:d.iD.length<=16000): ∃z,LW 1099511627776 (HV d)=some z/\FH 1099511627776 (HV d)=some z:=by
 have hb:(HV d).length<=1000000:=by simp[HV];omega
 obtain⟨hc,hcon⟩:=Ahp d;unfold LW FH;by_cases h1:(HV d).length>4096;·rw[an fK,an fK];exact⟨_,rfl,rfl⟩
 rw[aj fK,aj fK,RJ 58 (HV d) fH,hc,Awo 58 (HV d) hb,aa,aa,ACq,hcon];unfold Po;have hl:FI 1099511627776 [100,105,100]=some [100,105,100]:=by kernel_rfl
 have hr:EY 1099511627776 [100,105,100]=some [100,105,100]:=by kernel_rfl
 have hs:=(ACk (l:=HV d) hcon hb).1;rw[hc]at hs;have e1:(([100,105,100]:B8)==[97,99,99,116])=false:=fJ;have e2:(([100,105,100]:B8)==[109,97,105,108,116,111])=false:=fJ;have e3:(([100,105,100]:B8)==[104,116,116,112,115])=false:=fJ;have e4:(([100,105,100]:B8)==[100,105,100])=true:=fJ;refine⟨ATM 1099511627776 (HV d),?_,?_⟩;·simp only[aa,hl,e1,e2,e3,e4,AB,aB,aq,az,Au0 (N:=1099511627776) (HV d) hb fH]
 ·simp only[hs,aa,hr,e1,e2,e3,e4,bE,aB,aq,az,AwR (N:=1099511627776) (HV d) hb fH]
def AOt{s:B8} (h:Ait 1099511627776 s=true){d:ApiDID} (hm:d.method.length<=4096) (hi:d.iD.length<=16000): ∃r,O7 1099511627776 s (HV d)=some r/\PL 1099511627776 s (HV d)=some r:=by
 unfold Ait at h;split at h
 ·rename_i i j hi' hj;rw[aw,bf]at h;have e:i=j:=Prod.ext (AvI h.1) h.2;subst e;obtain⟨z,z1,z2⟩:=Afb hm hi;unfold O7 PL;rw[hi',hj,z1,z2];simp only[aa];cases i.2==0;·exact⟨_,rfl,rfl⟩
  ·cases z.2==0<;>exact⟨_,rfl,rfl⟩
 ·cases h
def rdU (N:Nat) (b:B8) (d:ApiDID):Option (ApiValue×Int):=(Pp N b).bind λy13=>if(y13.2.2 !=0)=true then some ((ApiValue.mk 0 [] [] []),y13.2.2)else(Oe N y13.1).bind λy15=>if(y15.2 !=0)=true then some ((ApiValue.mk 0 [] [] []),y15.2)else(CV N d).bind λy17=>(PL N y15.1.iD y17).bind λy19=>if y19=true then some (y13.1,0)else some ((ApiValue.mk 0 [] [] []),280)
def AZk (w w':ApiValue×Int):Prop:=w.2=w'.2/\Ie 1099511627776 1099511627776 w.1 w'.1=some true
def Amf{b:B8} (h:P7 b){d:ApiDID} (hm:d.method.length<=4096) (hi:d.iD.length<=16000): ∃w w',rdT 1099511627776 b d=some w/\rdU 1099511627776 b d=some w'/\AZk w w':=by
 unfold P7 ACD Axd at h;rw[aw,aw]at h;obtain⟨_,_,h⟩:=h;split at h
 ·rename_i y z hy hz;rw[aw,bf]at h;obtain⟨e,h⟩:=h;unfold rdT rdU;rw[hy,hz,aa,aa,<-e];cases he:(y.2.2 !=0)
  ·rw[he,aj fJ]at h;split at h
   ·rename_i p q hp hq;rw[aw,bf]at h;obtain⟨f,h⟩:=h;simp only[aq,az];rw[hp,hq,aa,aa,<-f];cases hf:(p.2 !=0)
    ·rw[hf,aj fJ,aw,aw,bf]at h;obtain⟨g,k1,k2⟩:=h;simp only[aq,az];rw[YO d ⟨fH,fH⟩,XL d ⟨fH,fH⟩,aa,aa,<-g];obtain⟨r,r1,r2⟩:=AOt k1 hm hi;rw[r1,r2,aa,aa];cases r;·exact⟨_,_,rfl,rfl,rfl,Ul⟩
     ·exact⟨_,_,rfl,rfl,rfl,AdG k2⟩
    ·exact⟨_,_,rfl,rfl,rfl,Ul⟩
   ·cases h
  ·exact⟨_,_,rfl,rfl,rfl,Ul⟩
 ·cases h
def Aic: ∀ty,ty∈K8->∃m m' b b',P5 1099511627776 ty=some m/\PZ 1099511627776 m.1=some b/\Pv 1099511627776 ty=some m'/\Ph 1099511627776 m'.1=some b'/\(m.2 !=0||!b)=(m'.2 !=0||!b'):=by
 have:(K8.all λty=>match P5 1099511627776 ty,Pv 1099511627776 ty with
 |some m,some m'=>(match PZ 1099511627776 m.1,Ph 1099511627776 m'.1 with|some b,some b'=>(m.2 !=0||!b)==(m'.2 !=0||!b')|_,_=>false)
 |_,_=>false)=true:=by kernel_rfl
 intro ty h;have:=aL.1 this ty h;split at this
 ·rename_i m m' hm hm';split at this;·rename_i b b' hb hb';exact⟨m,m',b,b',hm,hb,hm',hb',by simpa using this⟩
  ·cases this
 ·cases this
def AWW{l:List ApiAnswer} (hW: ∀a,a∈l->WR 1099511627776 P7 a.raw){h:ApiHead}{b:B8} (hs:ArW 1099511627776 l h b) (hF:Fok 16384 h.fields) (u:ApiURL) (tr:List ApiExchange){d:ApiDID} (hdm:d.method.length<=4096) (hdi:d.iD.length<=16000):∃w w',IG 1099511627776 ⟨u,h,b,tr⟩ d=some w/\Oz 1099511627776 ⟨u,h,b,tr⟩ d=some w'/\AZk w w':=by
 obtain⟨a,n,ha,h1,hred,h2⟩:=hs;obtain⟨hl,hW⟩:=hW a ha;by_cases h200:h.status=200
 ·rcases hW with hD|hO
  ·obtain⟨hb,ty,fs,last,hty,hfs,hlast,hh⟩:=Ana fH Ayt (λb=>AE5) Azc AjQ hl hD h1 h2;have hd:=Aap hF;have hv:GR ctN h.fields=if(ty==[])=true then []else [ty]:=by rw[hh];show GR ctN (tyF ty++fs++[last])=_;rw[ACf,ACf,tyV ty hty,(Atv ty hty fs hfs).2.2,(Avf hlast).2.2,bo,bo]
   have hg:=AN1 hd ctN fJ (N:=1099511627776);have hg':=Rl hd ctN fJ (N:=1099511627776);rw[Apr hv]at hg hg';unfold ctN at hg hg';obtain⟨w,w',w1,w2,w3⟩:=Amf hb hdm hdi;have hst:(h.status==200)=true:=by rw[h200];rfl
   have hms:Mo 1099511627776 h.status=some 0:=by rw[h200];kernel_rfl
   have bad: ∀e,AZk (Adk,e) (Adk,e):=λe=>⟨rfl,Ul⟩;unfold IG Oz;unfold rdT at w1;unfold rdU at w2;simp only[hst,hms,aB,hg,hg',aa,AB,(by decide:((0:Int) !=0)=false),aq,az];cases hte:(ty==([]:B8))
   ·simp only[hte,aq,az];have j1:QF [44,32] [ty]=ty:=by simp[QF,Nz]
    have j2:decide ((([ty]:List B8).length:Int)>0)=true:=fI;rw[j1,j2];obtain⟨m,m',c,c',m1,m2,m3,m4,m5⟩:=Aic ty hty;rw[m1,m3,aa,aa,an rfl,an rfl];cases hm:(m.2 !=0)<;>cases hm':(m'.2 !=0)<;>rw[hm,hm']at m5<;>simp only[cN,be]at m5<;>simp only[aq,az,aB,m2,m4,aa]
    ·cases c<;>cases c'<;>simp only[bE,bA,aq,az,aB,reduceCtorEq]at m5⊢;·exact⟨_,_,rfl,rfl,bad _⟩
     ·exact⟨w,w',w1,w2,w3⟩
    ·cases c<;>simp only[bE,bA,aq,az,aB,reduceCtorEq]at m5⊢;exact⟨_,_,rfl,rfl,bad _⟩
    ·cases c'<;>simp only[bE,bA,aq,az,aB,reduceCtorEq]at m5⊢;exact⟨_,_,rfl,rfl,bad _⟩
    ·exact⟨_,_,rfl,rfl,bad _⟩
   ·simp only[hte,aB];have j2:decide ((([]:List B8).length:Int)>0)=false:=fJ;obtain⟨m,m',c,c',m1,m2,m3,m4,m5⟩:=Aic [] fJ;rw[j2,show QF [44,32] []=[]from rfl,m1,m3,aa,aa];simp only[aq,az,aB];exact⟨_,_,rfl,rfl,bad _⟩
  ·exact absurd h200 (hO h n b h1 (by simpa using h2))
 ·have hst:(h.status==200)=false:=by simpa using h200
  have hst':(h.status !=200)=true:=by simp[bne,hst]
  have bad: ∀e,AZk (Adk,e) (Adk,e):=λe=>⟨rfl,Ul⟩;unfold IG Oz Mo PV;simp only[hst,hst',aq,az,AB];cases (h.status==404)<;>cases (h.status==410)<;>simp only[aB,az,aq,aa,(by decide:((260:Int) !=0)=true),(by decide:((261:Int) !=0)=true)]<;>exact⟨_,_,rfl,rfl,bad _⟩
end
end Go.VM
