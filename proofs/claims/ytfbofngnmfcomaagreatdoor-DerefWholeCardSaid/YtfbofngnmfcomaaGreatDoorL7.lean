import Derived.Test.YtfbofngnmfcomaaGreatDoorL6
import Derived.Test.YtfbofngnmfcomaaGreatDoorVM3
set_option linter.defProp false
set_option linter.unusedVariables false
set_option linter.unusedSimpArgs false
set_option maxRecDepth 100000
namespace Go.VM
section
variable{N:Nat}
def NK (ls:List B8):B8:=ls.flatMap λx=>x++BV
def DW (x:B8) (ls:List B8):NK (x::ls)=x++(BV++NK ls):=by simp[NK]
def Pp{q t:B8}: ∀ {x:B8},(∀c,c∈x->c≠13)->Cy (13::q) (x++t)=(Cy (13::q) t).map (· +x.length)
 |[],_=>by simp
 | c::x,h=>by
  have hc:=h c fy;have hp:List.isPrefixOf (13::q) (c::(x++t))=false:=by
   have:((13:UInt8)==c)=false:=by simpa using λe=>hc e.symm
   simp[List.isPrefixOf,this]
  show(if List.isPrefixOf (13::q) (c::(x++t))=true then some 0 else(Cy (13::q) (x++t)).map (· +1))=_;rw[hp,an fA,Pp λd hd=>h d (by simp[hd]),fm];congr 1
def X6{x t:B8} (h: ∀c,c∈x->c≠13):I6 (x++(BV++t))=(x,t,true):=by
 unfold I6;have:Cy BV (x++(BV++t))=some x.length:=by
  show Cy (13::[10]) (x++(BV++t))=_;rw[Pp h];have:Cy (13::[10]) (BV++t)=some 0:=by show(if List.isPrefixOf [13,10] (13::10::t)=true then some 0 else _)=_;rw[aq (by simp[List.isPrefixOf])]
  rw[this];simp
 rw[this];simp[BV]
def Xv{x:B8} (h: ∀c,c∈x->c≠13):I6 x=(x,[],false):=by
 unfold I6;have:Cy BV x=none:=by have e:Cy (13::[10]) (x++[])=(Cy (13::[10]) []).map (· +x.length):=Pp h;rw[bz]at e;exact e
 rw[this]
def AP5: ∀ls:List B8,ls≠ []->2<=(NK ls).length|x::ls,_=>by rw[DW];simp only[BV,ah,ag,ap];omega
def AAT (x:B8):Prop:=x≠ []/\ ∀c,c∈x->c≠13
def Aq2: ∀(ls:List B8) (b:B8),ls≠ []->(∀x,x∈ls->AAT x)->Cy [13,10,13,10] (NK ls++(BV++b))=some ((NK ls).length-2)
 |[x],b,_,h=>by
  rw[DW,show NK []=[]from rfl,bz,aM,Pp (h x fy).2];have:Cy [13,10,13,10] (BV++(BV++b))=some 0:=by show(if List.isPrefixOf [13,10,13,10] (13::10::13::10::b)=true then some 0 else _)=_;rw[aq (by simp[List.isPrefixOf])]
  rw[this];simp[BV]
 | x::y::r,b,_,h=>by
  have ih:=Aq2 (y::r) b fy λz hz=>h z (by simp[hz]);have h2:=AP5 (y::r) fy;rw[DW,aM,aM,Pp (h x fy).2];obtain⟨hy,hy2⟩:=h y fy;obtain⟨c,y',rfl⟩: ∃c y',y=c::y':=by cases y with|nil=>exact absurd rfl hy|cons c y'=>exact⟨c,y',rfl⟩
  have hc:=hy2 c fy;have e1: ∀Z:B8,Cy [13,10,13,10] (BV++(c::Z))=(Cy [13,10,13,10] (c::Z)).map (· +2):=by
   intro Z;have hc':((13:UInt8)==c)=false:=by simpa using λe=>hc e.symm
   have p1:List.isPrefixOf [13,10,13,10] (13::10::c::Z)=false:=by simp[List.isPrefixOf,hc']
   have p2:List.isPrefixOf [13,10,13,10] (10::c::Z)=false:=by simp[List.isPrefixOf]
   show(if List.isPrefixOf [13,10,13,10] (13::10::c::Z)=true then some 0 else(if List.isPrefixOf [13,10,13,10] (10::c::Z)=true then some 0 else(Cy [13,10,13,10] (c::Z)).map (· +1)).map (· +1))=_;rw[p1,p2,an fA,an fA,fm];congr 1
  have e2:NK ((c::y')::r)++(BV++b)=c::(y'++(BV++NK r)++(BV++b)):=by rw[DW];simp
  rw[e2]at ih⊢;rw[e1,ih];simp only[aK,ae,ah,BV,ag,ap];omega
def Zh: ∀ls:List B8,ls≠ []->∃l,NK ls=l++BV|[x],_=>⟨x,by rw[DW];rfl⟩|x::y::r,_=>by obtain⟨l,hl⟩:=Zh (y::r) fy;exact⟨x++(BV++l),by rw[DW,hl];simp⟩
def Fg (f:ApiField):B8:=f.name++([58,32]++f.value)
def Sc (f:ApiField):Prop:=AKv (Fg f)=some f/\AAT (Fg f)
def Yb (k11:List ApiField->Option (ApiHead×Int×Int)) (hN:1000010<N): ∀(F fs:List ApiField) (k:Nat),F.length<k->fs.length+F.length<=64->(∀f,f∈F->Sc f)->(NK (F.map Fg)).length<=1000000->CE N k11 k (NK (F.map Fg)) fs=k11 (fs++F)
 |[],fs,k+1,_,_,_,_=>by
  have e2:CE N k11 (k+1) [] fs=k11 fs:=by unfold CE;rfl
  rw[bz];exact e2
 | f::F,fs,k+1,hk,hl,hF,hb=>by
  obtain⟨f1,f2⟩:=hF f fy;simp only[ag]at hk hl;have ih:=Yb k11 hN F (fs++[f]) k fx fB (λg hg=>hF g (by simp[hg])) (by rw[aF,DW]at hb;simp only[ah]at hb;omega);rw[aM]at ih;cases F with
  |nil=>
   have e:NK ([f].map Fg)=Fg f++BV:=by rw[aF,DW];rfl
   rw[e]at hb⊢;rw[AMB k11 k fs (by simp only[ah]at hb;omega) hN,an fx,Xv f2.2];simp only[f1];exact ih
  |cons g G=>
   obtain⟨l,hl'⟩:=Zh ((g::G).map Fg) fy;have e:NK ((f::g::G).map Fg)=(Fg f++(BV++l))++BV:=by rw[aF,DW,hl'];simp
   rw[e]at hb⊢;rw[AMB k11 k fs (by simp only[ah]at hb⊢;omega) hN,an fx,X6 f2.2];simp only[f1];have:AQT (Fg f,l,true)=NK ((g::G).map Fg):=by rw[hl'];rfl
   rw[this];exact ih
def Aae{sl:B8}{st:ApiHead} (hs:Nf sl=some st) (hg:AAT sl){F:List ApiField} (hF: ∀f,f∈F->Sc f) (hl:F.length<=64) (b:B8) (hb:(NK (sl::F.map Fg)++(BV++b)).length<=16384) (hN:1000010<N):Di N (NK (sl::F.map Fg)++(BV++b))=some (⟨st.minor,st.status,F⟩,(((NK (sl::F.map Fg)).length+2:Nat):Int),0):=by
 have hfind:=Aq2 (sl::F.map Fg) b fy λx hx=>by
  rcases aP.1 hx with rfl|h;·exact hg
  ·obtain⟨f,h1,rfl⟩:=bD.1 h;exact(hF f h1).2
 have h2:=AP5 (sl::F.map Fg) fy;obtain⟨l0,hl0⟩:=Zh (sl::F.map Fg) fy;have hcut:(I6 l0).1=sl/\AQT (I6 l0)=NK (F.map Fg):=by
  cases F with
  | nil=>
   have:l0=sl:=by
    have e:NK (sl::([]:List ApiField).map Fg)=sl++BV:=by rw[DW];rfl
    rw[e]at hl0;exact(eR hl0).symm
   rw[this,Xv hg.2];exact⟨rfl,rfl⟩
  | cons f F=>
   obtain⟨l,hl'⟩:=Zh ((f::F).map Fg) fy;have:l0=sl++(BV++l):=by
    have e:NK (sl::(f::F).map Fg)=(sl++(BV++l))++BV:=by rw[DW,hl'];simp
    rw[e]at hl0;exact(eR hl0).symm
   rw[this,X6 hg.2];exact⟨rfl,hl'.symm⟩
 generalize hT:NK (sl::F.map Fg)=T at *;generalize hL:T++(BV++b)=l at *;have hle:T.length+2+b.length=l.length:=by rw[<-hL];simp only[BV,ah,ag,ap];omega
 unfold Di;have s0:sub l 0 (if 16384<(l.length:Int)then 16384 else(l.length:Int))=some l:=by rw[an fx];have:=Av l 0 l.length fx fx;rwa[aL,bo,cT]at this
 have hr:Gm N l [13,10,13,10]=some (((T.length-2:Nat)):Int):=by rw[Tq fy (by simp only[ag,ap];omega) fx];unfold Qm;rw[hfind]
 have hneg:decide (((T.length-2:Nat):Int)<0)=false:=aO fx;have w2:wr .i64 (((T.length-2:Nat):Int)+2)=((T.length:Nat):Int):=by rw[Aq fx];omega
 have w4:wr .i64 (((T.length-2:Nat):Int)+4)=((T.length+2:Nat):Int):=by rw[Aq fx];omega
 have r4:sub l 0 ((T.length:Nat):Int)=some (l0++BV):=by have:=Av l 0 T.length fx fx;rw[aL,bo,show((0:Nat):Int)=0 from rfl]at this;rw[this,<-hL,eA,hl0]
 have hl0l:l0.length<=16384:=by have:=bu List.length hl0;simp only[ah]at this;omega
 obtain⟨n,hn1,hn2,hn3⟩:=AAp (l:=l0) fx;have hfn:Gm N (l0++BV) [13,10]=some (n:Int):=by rw[<-hn1];exact Tq fy (by simp[BV];omega) (by simp[BV];omega)
 obtain⟨X,hX,hX2⟩:=AQy (N:=N) (l:=(I6 l0).1) (by rw[hcut.1];have:=XG l0;rw[hcut.1]at this;omega);rw[hcut.1]at hX hX2;have hok:=AP0 hs;rw[s0,aa,hr,aa];simp only[AC,hneg,w2,w4,aj,aA,r4,aa,hfn,hn2,hn3,hcut.1,hcut.2,hX,hs,cb,bL];rw[hX2 st hs,hok.2.2.2];rw[Yb _ hN F [] N fx (by simpa using hl) hF (by have e:=DW sl (F.map Fg);rw[hT]at e;have:=bu List.length e;simp only[ah]at this;omega)];rfl
def AUz{sl:B8}{st:ApiHead} (hs:Nf sl=some st) (hg:AAT sl){t:B8} (hb:(sl++(BV++t)).length<=16384) (hN:1000010<N){h:ApiHead}{n:Int} (hp:Di N (sl++(BV++t))=some (h,n,0)):h.status=st.status:=by
 obtain⟨_,r,h2,_,h4⟩:=Yu (N:=N) (l:=sl++(BV++t)) fx hN;rw[hp]at h2;cases h2;obtain⟨k,h0,e1,e2,e3⟩:=h4 rfl;rw[aZ hb,Pp hg.2]at e1;obtain⟨j,j1,j2⟩:=bQ.1 e1;have hk:(I6 ((sl++(BV++t)).take k)).1=sl:=by
  rw[<-j2,eo,List.take_length_add_append];have hj:j=0\/2<=j:=by
   change (if List.isPrefixOf [13,10,13,10] (13::10::t)=true then some 0 else(Cy [13,10,13,10] (10::t)).map (· +1))=some j at j1;split at j1;·cases j1;exact .inl rfl
   ·have p2:List.isPrefixOf [13,10,13,10] (10::t)=false:=by simp[List.isPrefixOf]
    change Option.map (· +1) (if List.isPrefixOf [13,10,13,10] (10::t)=true then some 0 else(Cy [13,10,13,10] t).map (· +1))=some j at j1;rw[p2,an fA,fm]at j1;obtain⟨i,_,i2⟩:=bQ.1 j1;simp only[Function.comp]at i2;exact .inr fx
  rcases hj with rfl|hj;·rw[dM,bz,Xv hg.2]
  ·obtain⟨i,rfl⟩: ∃i,j=i+2:=⟨j-2,fx⟩;have:(BV++t).take (i+2)=BV++t.take i:=by simp[BV]
   rw[this,X6 hg.2]
 rw[hk,hs]at e2;cases e2;exact e3
end
end Go.VM
namespace Go.VM
section
variable{N:Nat}
def ctN:B8:=[99,111,110,116,101,110,116,45,116,121,112,101]
def clN:B8:=[99,111,110,116,101,110,116,45,108,101,110,103,116,104]
def teN:B8:=[116,114,97,110,115,102,101,114,45,101,110,99,111,100,105,110,103]
def chV:B8:=[99,104,117,110,107,101,100]
def QC (y:B8):B8:=[72,84,84,80,47,49,46,49,32]++(y++[32,45])
def AC3 (k8:B8->Option B8){M:Nat} (hM:M<=1000000): ∀(fs:List ApiField) (s:B8),s.length+Dr fs+4 * fs.length<=M->DF N k8 fs s=k8 (s++NK (fs.map Fg))
 |[],s,_=>by rw[DF];simp[NK]
 |f::fs,s,h=>by
  have e:Dr (f::fs)=f.name.length+f.value.length+Dr fs:=by simp[Dr]
  rw[e,ag]at h;rw[DF,BU (by simp only[ag,ap];omega),BU (by simp only[ah,ag,ap];omega),BU (by simp only[ah,ag,ap];omega),BU (by simp only[ah,ag,ap];omega),AC3 k8 hM fs _ (by simp only[ah,ag,ap];omega),aF,DW];simp[Fg,BV]
def Aij{st:Int}{y:B8} (hy:CK N st=some y) (hyl:y.length<=100){F:List ApiField} (hs:Dr F+4 * F.length<=800000):EM N ⟨1,st,F⟩=some (NK (QC y::F.map Fg)++BV):=by
 unfold EM;simp only[AC];rw[an fA,BU (by simp only[ag,ap];omega),BU (by simp only[ah,ag,ap];omega),hy,aa,BU (by simp only[ah,ag,ap];omega),BU (by simp only[ah,ag,ap];omega),BU fx,AC3 _ (M:=1000000) (au _) F _ (by simp only[ah,ag,ap];omega)];have hl:(NK (F.map Fg)).length=Dr F+4 * F.length:=by clear hs;induction F with|nil=>rfl|cons f F ih=>rw[aF,DW,show Dr (f::F)=f.name.length+f.value.length+Dr F by simp[Dr]];simp only[ah,ih,Fg,BV,ag,ap];omega
 rw[BU (by simp only[ah,ag,ap,hl];omega),DW];simp[QC,BV]
def tyF (ty:B8):List ApiField:=if(ty==[])=true then []else [⟨ctN,ty⟩]
def Awt (N:Nat) (y ty body:B8) (fs:List ApiField) (c:Bool) (r:B8):Prop:=∃F tail,r=NK (QC y::F.map Fg)++(BV++tail)/\if c=true then F=tyF ty++fs++[⟨teN,chV⟩]/\GH N body 50=some tail else∃d,D5 N (body.length:Int)=some d/\F=tyF ty++fs++[⟨clN,d⟩]/\tail=body
theorem Au4{st:Int}{y:B8} (hy:CK N st=some y) (hyl:y.length<=100){ty body:B8}{fs:List ApiField} (c:Bool) (hty:ty.length<=1000) (hb:body.length<=50000) (hf:fs.length<=100) (hs:Dr fs<=10000) (hN:1000000<=N):Ok (Fe N st ty body fs c) (Awt N y ty body fs c):=by
 have ht:(tyF ty).length<=1/\Dr (tyF ty)<=12+ty.length:=by
  unfold tyF;split;·exact⟨aJ _,by simp[Dr]⟩
  ·exact⟨au _,by simp[Dr,ctN]⟩
 have key:Fe N st ty body fs c=(if c=true then(EM N (ApiHead.mk 1 st ((tyF ty++fs)++[⟨teN,chV⟩]))).bind λy5=>(GH N body 50).bind λy7=>grd (AL (y5.length+y7.length)) (some (y5++y7))else(D5 N (body.length:Int)).bind λy13=>(EM N (ApiHead.mk 1 st ((tyF ty++fs)++[⟨clN,y13⟩]))).bind λy15=>grd (AL (y15.length+body.length)) (some (y15++body))):=by
  unfold Fe;simp only[AC];have f1: ∀j:List ApiField,j.length<=1->Ac (j.length+fs.length) 32:=λj hj=>F9 fx fx;have f2: ∀j:List ApiField,j.length<=1->Ac ((j++fs).length+1) 32:=λj hj=>F9 (by simp only[ah];omega) fx;unfold tyF;by_cases h0:(ty==[])=true;·rw[aq h0,aq h0,AU (f1 [] fy)];have g: ∀x:Option B8,grd (Ac ((([]:List ApiField)++fs).length+1) 32) x=x:=λx=>AU (f2 [] fy);simp only[g];rfl
  ·rw[an h0,an h0,AU (F9 fy fx),AU (f1 _ fy)];have g: ∀x:Option B8,grd (Ac (([⟨ctN,ty⟩]++fs:List ApiField).length+1) 32) x=x:=λx=>AU (f2 _ fy);unfold ctN at g;simp only[g];rfl
 rw[key];have hF: ∀f:ApiField,f.name.length+f.value.length<=1000->Dr ((tyF ty++fs)++[f])+4 * ((tyF ty++fs)++[f]).length<=800000:=by intro f hf';rw[Uf,AAl];simp only[ah,be];omega
 refine .ite (λhc=>?_) λhc=>?_
 ·obtain⟨E,e1,e2⟩:=AYY (N:=N) (a:=body) fx hN;rw[Aij hy hyl (hF _ fA),aa,e1,aa];have hl: ∀F:List ApiField,(NK (F.map Fg)).length=Dr F+4 * F.length:=by intro F;induction F with|nil=>rfl|cons f F ih=>rw[aF,DW,show Dr (f::F)=f.name.length+f.value.length+Dr F by simp[Dr]];simp only[ah,ih,Fg,BV,ag,ap];omega
  have:=hF ⟨teN,chV⟩ fA;rw[BU (by rw[DW];simp only[ah,hl,QC,BV,ag,ap]at this⊢;omega)];exact .ret ⟨_,E,by rw[aM],by rw[aq hc];exact⟨rfl,e1⟩⟩
 ·obtain⟨d,e1,e2⟩:=Ug (N:=N) (n:=body.length) fx fx;rw[e1,aa,Aij hy hyl (hF _ (by show clN.length+d.length<=1000;have:clN.length=14:=rfl;omega)),aa];have hl: ∀F:List ApiField,(NK (F.map Fg)).length=Dr F+4 * F.length:=by intro F;induction F with|nil=>rfl|cons f F ih=>rw[aF,DW,show Dr (f::F)=f.name.length+f.value.length+Dr F by simp[Dr]];simp only[ah,ih,Fg,BV,ag,ap];omega
  have:=hF ⟨clN,d⟩ (by show clN.length+d.length<=1000;have:clN.length=14:=rfl;omega);rw[BU (by rw[DW];simp only[ah,hl,QC,BV,ag,ap]at this⊢;omega)];exact .ret ⟨_,body,by rw[aM],by rw[hc,an fA];exact⟨d,e1,rfl,rfl⟩⟩
end
end Go.VM
namespace Go.VM
section
variable{N:Nat}
def AjK (N:Nat) (raw:B8):Prop:= ∀h n b,Di N raw=some (h,n,0)->Gh N h (raw.drop n.toNat) 1048576=some (b,0)->h.status≠200
def AYN{st:Int}{y:B8} (hy:CK N st=some y) (hyl:y.length<=100) (hg:AAT (QC y)){h0:ApiHead} (hs:Nf (QC y)=some h0) (h200:h0.status≠200){ty body:B8}{fs:List ApiField}{c:Bool} (hty:ty.length<=1000) (hb:body.length<=50000) (hf:fs.length<=100) (hs':Dr fs<=10000) (hN:1000011<=N){r:B8} (hr:Fe N st ty body fs c=some r) (hl:r.length<=16384):AjK N r:=by intro h n b hp _;obtain⟨r',e1,F,tail,e2,_⟩:=Au4 (N:=N) hy hyl c hty hb hf hs' fx;rw[hr]at e1;cases e1;rw[DW]at e2;rw[e2,aM,aM]at hp hl;rw[AUz hs hg hl fx hp];exact h200
def Ah2{raw:B8}{h0:ApiHead}{n0 e0:Int} (hp:Di N raw=some (h0,n0,e0)) (hr:e0≠0\/∃b0 e1,Gh N h0 (raw.drop n0.toNat) 1048576=some (b0,e1)/\e1≠0):AjK N raw:=by
 intro h n b h1 h2;rw[hp]at h1;cases h1;rcases hr with hr|⟨b0,e1,h3,h4⟩;·exact absurd rfl hr
 ·rw[h3]at h2;cases h2;exact absurd rfl h4
def ccN:B8:=[99,97,99,104,101,45,99,111,110,116,114,111,108]
def agN:B8:=[97,103,101]
def ccL:List B8:=[[109,97,120,45,97,103,101,61,49,48,48],[109,97,120,45,97,103,101,61,49,48,48,48,44,32,112,117,98,108,105,99],[109,97,120,45,97,103,101,61,53],[109,97,120,45,97,103,101,61,57,57,57,57,57,57,57,57,57],[110,111,45,115,116,111,114,101,44,32,109,97,120,45,97,103,101,61,57],[112,114,105,118,97,116,101],[109,97,120,45,97,103,101,61,120]]
def agL:List B8:=[[52,48],[51],[49,48,48,48],[121]]
def YU:List (List ApiField):=ccL.flatMap λv=>[⟨ccN,v⟩]::agL.map λw=>[⟨ccN,v⟩,⟨agN,w⟩]
def Au0{d:MadeDice} (hd:Gb d):Ok (Nn N d) λr=>r.1∈YU/\Gb r.2:=by
 unfold Nn;refine .letL (.bind (oneG hd fA) λy ⟨y1,y2⟩=>?_);simp only[AC];refine .bind (WJ y2 (n:=4) fA) λz ⟨_,z1⟩=>?_;refine .ite (λ_=>?_) λ_=>?_;·refine .letL (.bind (oneG z1 fA) λw ⟨w1,w2⟩=>?_);refine .grd (F9 fy fx) (.ret ⟨?_,w2⟩);exact List.mem_flatMap.2 ⟨y.1,y1,aR _ (bD.2 ⟨w.1,w1,rfl⟩)⟩
 ·exact .ret ⟨List.mem_flatMap.2 ⟨y.1,y1,dE⟩,z1⟩
def Arj: ∀fs,fs∈YU->fs.length<=2/\Dr fs<=100:=by decide+kernel
def Avt (N:Nat) (P:B8->Prop) (raw:B8):Prop:= ∃ty body fs c,ty∈Kq/\P body/\fs∈YU/\Fe N 200 ty body fs c=some raw
def WR (N:Nat) (P:B8->Prop) (raw:B8):Prop:=raw.length<=9000/\(Avt N P raw\/AjK N raw)
def StO (N:Nat) (st:Int):Prop:= ∃y h0,CK N st=some y/\y.length<=100/\AAT (QC y)/\Nf (QC y)=some h0/\h0.status≠200
def AvF:B8:=[72,84,84,80,47,49,46,49,32,50,48,48,32,79,75,13,10,99,111,110,116,101,110,116,45,108,101,110,103,116,104,58,32,57,13,10,13,10,97,98,99]
def Av3:B8:=[110,111,110,115,101,110,115,101]
structure Closed (N:Nat):Prop where
  st: ∀st:Nat,st∈[301,302,307,404,410,500,403,204]->StO N (st:Int)
  abc:AjK N AvF
  non:AjK N Av3
def Avu (hC:Closed N){P:B8->Prop}{d:MadeDice} (hd:Gb d){u:ApiURL} (hu:LP u) (hN:1000011<=N):Ok (Nw N d u) λr=>WR N P r.1.raw/\Gb r.2:=by
 unfold Nw;simp only[AC];refine .letL (.bind (WJ hd (n:=5) fx) λy ⟨⟨y0,y1⟩,d1⟩=>?_);have hi: ∃st:Nat,idx ([404,410,500,403,204]:List Int) y.1=some (st:Int)/\st∈[301,302,307,404,410,500,403,204]:=by
  obtain⟨n,hn⟩: ∃n:Nat,y.1=(n:Int):=⟨y.1.toNat,fx⟩;rw[hn]at y1⊢;rcases (by omega:n=0\/n=1\/n=2\/n=3\/n=4)with rfl|rfl|rfl|rfl|rfl;·exact⟨404,rfl,fA⟩
  ·exact⟨410,rfl,fA⟩
  ·exact⟨500,rfl,fA⟩
  ·exact⟨403,rfl,fA⟩
  ·exact⟨204,rfl,fA⟩
 obtain⟨st,i1,i2⟩:=hi;have i3:st<=1000:=(show∀x,x∈[301,302,307,404,410,500,403,204]->x<=1000 by decide) st i2;obtain⟨r,h1,h2⟩:=AEs (N:=N) (st:=st) fx (ty:=[]) (body:=[]) (fs:=[]) false fA fA fA fA fx;simp only[ap,show Dr []=0 from rfl]at h2;obtain⟨yy,h0,s1,s2,s3,s4,s5⟩:=hC.st st i2;have hO:=AYN s1 s2 s3 s4 s5 (ty:=[]) (body:=[]) (fs:=[]) (c:=false) fA fA fA fA hN h1 fx;rw[i1,aa,h1,aa];refine .bind (UU (N:=N) hu r) λa ha=>?_;refine .bind (WJ d1 (n:=8) fx) λz ⟨_,e1⟩=>?_;have hal:WR N P a.raw:=by rw[ha];exact⟨fx,.inr hO⟩
 refine .ite (λ_=>?_) λ_=>.ite (λ_=>?_) λ_=>.ite (λ_=>?_) λ_=>?_;·exact .ret ⟨⟨(by decide:AvF.length<=9000),.inr hC.abc⟩,e1⟩
 ·exact .bind (WJ e1 (n:=4) fx) λw ⟨_,g1⟩=>.ret ⟨hal,g1⟩
 ·exact .ret ⟨⟨(by decide:Av3.length<=9000),.inr hC.non⟩,e1⟩
 ·exact .ret ⟨hal,e1⟩
def As3 (hC:Closed N) (hN:1000011<=N){id:ApiID} (hk:id.kind=4){names:List B8}{P:B8->Prop} (H: ∀ab,ab∈[id.text,AAe]->∀sv,sv∈Zw ab->Ok (APG N ab names sv) P) (h1:P AtZ) (h2:P AuK) (hP: ∀b,P b->b.length<=2000) (hlen:id.text.length<=1000){x:ApiDID×Int}{u:ApiURL×Int} (hx:Er N id.text=some x) (hu:IW N x.1=some u) (hg:LP u.1) {d:MadeDice} (hd:Gb d):Ok (OL N d id names) λr=>(r.1.length<=200/\∀a,a∈r.1->WR N P a.raw)/\Gb r.2:=by unfold OL;refine .bind (AdY hk H h1 h2 hlen hd) λy ⟨y1,y2,y3⟩=>?_;refine .bind (Au0 y3) λc ⟨c1,c3⟩=>?_;refine .bind (WJ c3 (n:=3) fA) λz ⟨_,z1⟩=>?_;have hty:y.2.1.length<=30:=(show∀s,s∈Kq->s.length<=30 by decide) _ y2;obtain⟨c4,c5⟩:=Arj _ c1;have hyl:=hP _ y1;obtain⟨r,hr0,hr⟩:=AEs (N:=N) (st:=200) fx (ty:=y.2.1) (body:=y.1) (fs:=c.1) (z.1==0) fx fx fx fx fx;rw[show(200:Int)=((200:Nat):Int)from rfl,hr0,aa];have hW:WR N P r:=⟨fx,.inl ⟨_,_,_,_,y2,y1,c1,hr0⟩⟩;refine .ite (λ_=>?_) λhne=>absurd hk (by simpa using hne);rw[hx,aa,hu,aa];refine .bind (WJ z1 (n:=12) fA) λw ⟨_,w1⟩=>?_;refine .ite (λ_=>.bind (Avu hC (P:=P) w1 hg hN) λf ⟨f1,f2⟩=>.ret ⟨⟨fy,λa ha=>by rw[aV.1 ha];exact f1⟩,f2⟩) λ_=>?_;refine .bind (Anx fx (R:=WR N P) (λst fs r hst hfl hfs hr' hl=>?_) hg hW w1.1 w1.2) λt ⟨⟨t1,t2⟩,t3,t4⟩=>.ret ⟨⟨t1,t2⟩,t3,t4⟩;obtain⟨yy,h0,s1,s2,s3,s4,s5⟩:=hC.st st (by rcases hst with rfl|rfl|rfl<;>decide);exact⟨fx,.inr (AYN s1 s2 s3 s4 s5 fA fA fx fx hN hr' fx)⟩
end
end Go.VM
namespace Go.VM
section
variable{N:Nat}
def ASp (f:ApiField):Bool:=(match AKv (Fg f)with|some g=>g.name==f.name&&g.value==f.value|none=>false)&&(!(Fg f).isEmpty&&(Fg f).all (· !=13))
def XJ{f:ApiField} (h:ASp f=true):Sc f:=by
 unfold ASp at h;rw[av,av]at h;obtain⟨h1,h2,h3⟩:=h;refine⟨?_,?_,?_⟩
 ·split at h1;·rename_i g hg;rw[hg,av]at *;obtain⟨e1,e2⟩:=h1;cases g;cases f;simp only[bc]at e1 e2;rw[e1,e2]
  ·cases h1
 ·intro e;rw[e]at h2;cases h2
 ·intro c hc;have:=aU.1 h3 c hc;simpa using this
def Axd: ∀ty,ty∈Kq->∀f,f∈tyF ty->Sc f:=by
 have:(Kq.all λty=>(tyF ty).all ASp)=true:=by kernel_rfl
 intro ty h f hf;exact XJ (aU.1 (aU.1 this ty h) f hf)
def Aw8: ∀fs,fs∈YU->∀f,f∈fs->Sc f:=by
 have:(YU.all λfs=>fs.all ASp)=true:=by kernel_rfl
 intro fs h f hf;exact XJ (aU.1 (aU.1 this fs h) f hf)
def Awq:Sc ⟨teN,chV⟩:=XJ (by kernel_rfl)
def ArK: ∀ty,ty∈Kq->∀fs,fs∈YU->F4 teN (tyF ty++fs)=[]/\F4 clN (tyF ty++fs)=[]/\F4 ctN fs=[]:=by
 have:(Kq.all λty=>YU.all λfs=>(F4 teN (tyF ty++fs)).isEmpty&&((F4 clN (tyF ty++fs)).isEmpty&&(F4 ctN fs).isEmpty))=true:=by kernel_rfl
 intro ty h fs hf;have:=aU.1 (aU.1 this ty h) fs hf;rw[av,av]at this;exact⟨dR.1 this.1,dR.1 this.2.1,dR.1 this.2.2⟩
def tyV: ∀ty,ty∈Kq->F4 ctN (tyF ty)=if(ty==[])=true then []else [ty]:=by
 have:(Kq.all λty=>F4 ctN (tyF ty)==if(ty==[])=true then []else [ty])=true:=by kernel_rfl
 intro ty h;simpa using aU.1 this ty h
def AAd (n:B8) (a b:List ApiField):F4 n (a++b)=F4 n a++F4 n b:=by simp[F4]
def Arc (N m:Nat):Prop:= ∀n d,n<=m->D5 N (n:Int)=some d->Sc ⟨clN,d⟩/\ZJ d=((n:Int),true)
def AvD (N:Nat) (P:B8->Prop):Prop:= ∀b E,P b->GH N b 50=some E->KD N E 1048576=some (b,0)
def Ara:Nf (QC [50,48,48])=some ⟨1,200,[]⟩/\AAT (QC [50,48,48]):=⟨by kernel_rfl,fA,fA⟩
def headD (ty:B8) (fs:List ApiField) (last:ApiField):ApiHead:=⟨1,200,tyF ty++fs++[last]⟩
def Arb (f:ApiField):Prop:=f.name=teN\/f.name=clN
theorem AkD (hN:1000011<=N) (h200:CK N 200=some [50,48,48]){P:B8->Prop} (hP: ∀b,P b->b.length<=2000) (hL:Arc N 2000) (hE:AvD N P){raw:B8} (hl:raw.length<=9000) (hr:Avt N P raw){h:ApiHead}{n:Nat}{b:B8} (h1:Di N raw=some (h,(n:Int),0)) (h2:Gh N h (raw.drop n) 1048576=some (b,0)):P b/\∃ty fs last,ty∈Kq/\fs∈YU/\Arb last/\h=headD ty fs last:=by
 obtain⟨ty,body,fs,c,hty,hb,hfs,hraw⟩:=hr;have hbl:=hP body hb;have htl:ty.length<=30:=(show∀s,s∈Kq->s.length<=30 by decide) _ hty;obtain⟨c4,c5⟩:=Arj _ hfs;obtain⟨r',e1,F,tail,e2,e3⟩:=Au4 (N:=N) (st:=200) h200 fA (ty:=ty) (body:=body) (fs:=fs) c fx fx fx fx fx;rw[hraw]at e1;cases e1;have hFl:(tyF ty).length<=1:=by unfold tyF;split<;>simp
 have hok: ∀f,f∈tyF ty++fs->Sc f:=λf hf=>(aX.1 hf).elim (Axd ty hty f) (Aw8 fs hfs f);obtain⟨n1,n2,_⟩:=ArK ty hty fs hfs;have main: ∀last:ApiField,F=tyF ty++fs++[last]->Sc last->h=headD ty fs last/\raw.drop n=tail:=by
  intro last hF hlast;have hb2:=Aae (N:=N) Ara.1 Ara.2 (F:=F) (λf hf=>by
   rw[hF]at hf;rcases aX.1 hf with hf|hf;·exact hok f hf
   ·rw[aV.1 hf];exact hlast) (by rw[hF];simp only[ah,be];omega) tail (by rw[<-e2];omega) fx;rw[<-e2,h1]at hb2;simp only[ae,az]at hb2;obtain⟨q1,q2,_⟩:=hb2;refine⟨by rw[q1,hF];rfl,?_⟩;have hn:n=(NK (QC [50,48,48]::F.map Fg)).length+2:=fx;rw[hn,e2,co];simp[BV]
 have hd:hdB h:=by obtain⟨_,r,q1,q2⟩:=ABJ (N:=N) (l:=raw) fx fx;rw[h1]at q1;cases q1;exact AYC q2.1
 have gets: ∀last:ApiField,h=headD ty fs last->∀nm:B8,nm.length<=100->F4 nm (tyF ty++fs)=[]->M9 N h nm=some (PR [44,32] (F4 nm [last]),decide (((F4 nm [last]).length:Int)>0)):=by
  intro last hh nm hnl hv;rw[Qg hd nm fx];unfold ABq;have e:F4 nm h.fields=F4 nm [last]:=by rw[hh];show F4 nm (tyF ty++fs++[last])=_;rw[AAd,hv,bk]
  simp only[e]
 have z1:decide ((200:Int)>=100)=true:=fA;have z2:decide ((200:Int)<=199)=false:=fA;have z3:((200:Int)==204)=false:=fA;have z4:((200:Int)==304)=false:=fA;have z5:decide ((1048576:Int)<0)=false:=fA;cases c
 ·rw[an fA]at e3;obtain⟨d,d1,d2,d3⟩:=e3;obtain⟨k1,k2⟩:=hL body.length d hbl d1;obtain⟨m1,m2⟩:=main ⟨clN,d⟩ d2 k1;refine⟨?_,ty,fs,⟨clN,d⟩,hty,hfs,.inr rfl,m1⟩;have g1:=gets _ m1 teN fA n1;have g2:=gets _ m1 clN fA n2;have v1:F4 teN [(⟨clN,d⟩:ApiField)]=[]:=rfl;have v2:F4 clN [(⟨clN,d⟩:ApiField)]=[d]:=rfl;rw[v1]at g1;rw[v2]at g2;have hst:h.status=200:=by rw[m1];rfl
  have hdl:d.length<=10:=by obtain⟨d',q1,q2⟩:=Ug (N:=N) (n:=body.length) fx fx;rw[d1]at q1;cases q1;exact q2
  unfold teN at g1;unfold clN at g2;rw[m2,d3]at h2;unfold Gh at h2;have hlen:LX N d=some ((body.length:Int),true):=by rw[AYW fx fx,k2]
  have j1:PR [44,32] [d]=d:=by simp[PR,M5]
  have j0:decide (((([]:List B8).length:Int))>0)=false:=fA;have j2:decide (((([d]:List B8).length:Int))>0)=true:=fy;rw[j0]at g1;rw[j1,j2]at g2;have w1:wr .u64 (1048576:Int)=1048576:=fA;have w2:wr .u64 (body.length:Int)=(body.length:Int):=Fx fx;have y1:decide ((body.length:Int)>1048576)=false:=aO fx;have y2:decide ((body.length:Int)<(body.length:Int))=false:=aO fx;have y3:sub body 0 (body.length:Int)=some body:=by have:=Av body 0 body.length fx fx;rwa[aL,bo,cT]at this
  simp only[AC,hst,z1,z2,z3,z4,z5,g1,g2,aa,aj,aD,aA,hlen,w1,w2,y1,y2,y3]at h2;cases h2;exact hb
 ·rw[aq rfl]at e3;obtain⟨d2,d3⟩:=e3;obtain⟨m1,m2⟩:=main ⟨teN,chV⟩ d2 Awq;refine⟨?_,ty,fs,⟨teN,chV⟩,hty,hfs,.inl rfl,m1⟩;have g1:=gets _ m1 teN fA n1;have g2:=gets _ m1 clN fA n2;have v1:F4 teN [(⟨teN,chV⟩:ApiField)]=[chV]:=rfl;have v2:F4 clN [(⟨teN,chV⟩:ApiField)]=[]:=rfl;rw[v1]at g1;rw[v2]at g2;have hst:h.status=200:=by rw[m1];rfl
  unfold teN at g1;unfold clN at g2;rw[m2]at h2;unfold Gh at h2;have j1:PR [44,32] [chV]=chV:=by simp[PR,M5]
  have j0:decide (((([]:List B8).length:Int))>0)=false:=fA;have j2:decide (((([chV]:List B8).length:Int))>0)=true:=fA;rw[j1,j2]at g1;rw[j0]at g2;have hlow:Ee N chV=some chV:=by rw[Pt _ fA];rfl
  have hbq:(chV==([99,104,117,110,107,101,100]:B8))=true:=fA;simp only[AC,hst,z1,z2,z3,z4,z5,g1,g2,aa,aj,aD,aA,hlow,hbq,bL,hE body tail hb d3,(by decide:((0:Int) !=0)=false)]at h2;cases h2;exact hb
end
end Go.VM
namespace Go.VM
section
def AsD:B8:=[97,99,99,116,58,98,111,98,64,98,46,101,120,97,109,112,108,101]
def AtS:ApiValue:=ApiValue.mk 0 [] [] []
def rdT (N:Nat) (b:B8) (d:ApiDID):Option (ApiValue×Int):=(J7 N b).bind λy11=>if(y11.2.2 !=0)=true then some ((ApiValue.mk 0 [] [] []),y11.2.2)else(I1 N y11.1).bind λy13=>if(y13.2 !=0)=true then some ((ApiValue.mk 0 [] [] []),y13.2)else(Dp N d).bind λy15=>(SQ N y13.1.iD y15).bind λy17=>if y17=true then some (y11.1,0)else some ((ApiValue.mk 0 [] [] []),280)
def AA6:B8->(B8->Bool)->Bool|[],k=>k []|x::t,k=>match x.toNat with|0=>AA6 t λt'=>k (0::t')|n+1=>AA6 t λt'=>k (UInt8.ofNat (n+1)::t')
def Xt: ∀(l:B8) (k:B8->Bool),AA6 l k=k l
 |[],k=>rfl
 |x::t,k=>by
  rw[AA6];split;·rename_i h;rw[Xt t];have:x=0:=dC.1 h;rw[this]
  ·rename_i n h;rw[Xt t,show n+1=x.toNat from h.symm,ce]
def AuC (a b:ApiURL):Bool:=a.host==b.host&&(a.port==b.port&&(a.path==b.path&&(a.query==b.query&&(a.fragment==b.fragment&&(a.hasQuery==b.hasQuery&&a.hasFrag==b.hasFrag)))))
def AHV (u:ApiURL):Bool:=decide (0<=u.port)&&(decide (u.port<=65535)&&(decide (u.host.length<=1000)&&(decide (u.path.length<=1000)&&(decide (u.query.length<=1000)&&(decide (u.fragment.length<=1000)&&(decide ((KP u).length<=4096)&&(u.fragment==[]&&u.hasFrag==false)))))))
end
end Go.VM
namespace Go.VM
section
def Ap5{a b:ApiURL} (h:AuC a b=true):a=b:=by unfold AuC at h;simp only[av,bc]at h;obtain⟨h1,h2,h3,h4,h5,h6,h7⟩:=h;cases a;cases b;simp_all
def Y2{u:ApiURL} (h:AHV u=true):LP u/\Qu u=u:=by unfold AHV at h;simp only[av,bc,aw]at h;obtain⟨h1,h2,h3,h4,h5,h6,h7,h8,h9⟩:=h;refine⟨⟨⟨⟨h1,h2⟩,fx,fx,fx,fx⟩,h7⟩,?_⟩;unfold Qu;cases u;simp_all
def stB (N:Nat) (st:Nat):Bool:=match CK N (st:Int)with
 |some y=>decide (y.length<=100)&&(((QC y).all (· !=13))&&(match Nf (QC y)with|some h=>h.status !=200|none=>false))
 |none=>false
def As5{N st:Nat} (h:stB N st=true):StO N (st:Int):=by
 unfold stB at h;split at h
 ·rename_i y hy;rw[av,av,aw]at h;obtain⟨h1,h2,h3⟩:=h;split at h3;·rename_i h0 hs;refine⟨y,h0,hy,h1,⟨by simp[QC],λc hc=>?_⟩,hs,by simpa using h3⟩;have:=aU.1 h2 c hc;simpa using this
  ·cases h3
 ·cases h
def Aoh:Closed 1099511627776 where
  st:=by
    have:([301,302,307,404,410,500,403,204].all λst=>stB 1099511627776 st)=true:=by kernel_rfl
    intro st hst
    exact As5 (aU.1 this st hst)
  abc:=Ah2 (N:=1099511627776) (h0:=⟨1,200,[⟨clN,[57]⟩]⟩) (n0:=38) (e0:=0) (by kernel_rfl) (.inr ⟨[],191,by kernel_rfl,fA⟩)
  non:=Ah2 (N:=1099511627776) (h0:=⟨0,0,[]⟩) (n0:=0) (e0:=191) (by kernel_rfl) (.inl fA)
def Awf:Arc 1099511627776 2000:=by
 have:((List.range 2001).all λn=>match D5 1099511627776 (n:Int)with|some d=>ASp ⟨clN,d⟩&&((ZJ d).1==(n:Int)&&(ZJ d).2)|none=>false)=true:=by kernel_rfl
 intro n d hn hd;have:=aU.1 this n (dj.2 fx);rw[hd]at this;simp only[av,bc]at this;obtain⟨h1,h2,h3⟩:=this;refine⟨XJ h1,?_⟩;generalize ZJ d=z at h2 h3;cases z;simp only at h2 h3;rw[h2,h3]
def Avl:CK 1099511627776 200=some [50,48,48]:=by kernel_rfl
end
end Go.VM
namespace Go.VM
section
def aT:B8:=[100,105,100,58,119,101,98,58,97,46,101,120,97,109,112,108,101]
def auT:B8:=[100,105,100,58,119,101,98,58,97,46,101,120,97,109,112,108,101,58,117]
def PK:ApiDID:=ApiDID.mk ([119,101,98]:B8) ([97,46,101,120,97,109,112,108,101]:B8)
def rdR (N:Nat) (b:B8) (d:ApiDID):Option (ApiValue×Int):=(O0 N b).bind λy13=>if(y13.2.2 !=0)=true then some ((ApiValue.mk 0 [] [] []),y13.2.2)else(Pm N y13.1).bind λy15=>if(y15.2 !=0)=true then some ((ApiValue.mk 0 [] [] []),y15.2)else(Dl N d).bind λy17=>(Sj N y15.1.iD y17).bind λy19=>if y19=true then some (y13.1,0)else some ((ApiValue.mk 0 [] [] []),280)
def AQd (N:Nat) (v:ApiValue):Bool:=match I1 N v with|some y=>if(y.2 !=0)=true then true else decide (y.1.methods.length<=1000)&&(decide (y.1.services.length<=1000)&&((List.range y.1.methods.length).all λi=>(FH N [118,101,114,105,102,105,99,97,116,105,111,110,77,101,116,104,111,100] (i:Int) v).isSome)&&((List.range y.1.services.length).all λi=>(FH N [115,101,114,118,105,99,101] (i:Int) v).isSome))|none=>false
def Ajx (N:Nat) (v w:ApiValue):Bool:=match Iz N N v w with|some b=>b|none=>false
def AAo (N:Nat) (b:B8):Bool:=decide (b.length<=2000)&&((match GH N b 50 with
 |some E=>(match KD N E 1048576 with|some r=>r.1==b&&r.2==0|none=>false)
 |none=>false)&&(match rdT N b PK,rdR N b PK with|some w,some w'=>w.2==w'.2&&(Ajx N w.1 w'.1&&AQd N w.1)|_,_=>false))
def AZD (N:Nat) (ab:B8):Bool:=(Zw ab).all λsv=>match APG N ab [AsD] sv with|some b=>AA6 b λb=>AAo N b|none=>false
def idV (N:Nat) (t:B8):Bool:=match LM N t with
  |some y=>y.1.kind==4&&(y.1.text==t&&(match Er N t with|some x=>(match IW N x.1 with|some u=>AHV u.1|none=>false)|none=>false))
  |none=>false
end
end Go.VM
namespace Go.VM
def Ash:AZD 1099511627776 aT=true:=by kernel_rfl
def Ar9:AZD 1099511627776 auT=true:=by kernel_rfl
def AsF:AZD 1099511627776 AAe=true:=by kernel_rfl
def Awv:(AAo 1099511627776 AtZ&&AAo 1099511627776 AuK)=true:=by kernel_rfl
def AxJ:(idV 1099511627776 aT&&idV 1099511627776 auT)=true:=by kernel_rfl
end Go.VM
namespace Go.VM
section
def Ar2{f:ApiField} (h:Arb f):F4 ccN [f]=[]/\F4 agN [f]=[]/\F4 ctN [f]=[]:=by obtain⟨nm,v⟩:=f;rcases h with h|h<;>(simp only at h;subst h;exact⟨rfl,rfl,rfl⟩)
def Aqa{h:ApiHead}{nm:B8}{xs:List B8} (e:F4 nm h.fields=xs):ABq h nm=(PR [44,32] xs,decide ((xs.length:Int)>0)):=by unfold ABq;simp only[e]
end
end Go.VM
namespace Go.VM
section
def QT (b:B8):Prop:=AAo 1099511627776 b=true
def AC7{b:B8} (h:QT b):b.length<=2000:=by unfold QT AAo at h;rw[av,aw]at h;exact h.1
def AgI:AvD 1099511627776 QT:=by
 intro b E h hE;unfold QT AAo at h;rw[av,av,hE]at h;obtain⟨_,h,_⟩:=h;simp only at h;split at h;·rename_i r hr;rw[av,bc,bc]at h;rw[hr];obtain⟨e1,e2⟩:=h;cases r;simp only at e1 e2;rw[e1,e2]
 ·cases h
def AX1 (v w:ApiValue):Prop:=Iz 1099511627776 1099511627776 v w=some true/\AQd 1099511627776 v=true
def AhT{v w:ApiValue} (h:Ajx 1099511627776 v w=true):Iz 1099511627776 1099511627776 v w=some true:=by
 unfold Ajx at h;split at h;·rename_i b hb;rw[hb,h]
 ·cases h
def Agh{b:B8} (h:QT b): ∃w w',rdT 1099511627776 b PK=some w/\rdR 1099511627776 b PK=some w'/\w.2=w'.2/\AX1 w.1 w'.1:=by
 unfold QT AAo at h;rw[av,av]at h;obtain⟨_,_,h⟩:=h;split at h;·rename_i w w' hw hw';rw[av,av,bc]at h;exact⟨w,w',hw,hw',h.1,AhT h.2.1,h.2.2⟩
 ·cases h
def R8:AX1 AtS AtS:=⟨by kernel_rfl,by kernel_rfl⟩
def Agg: ∀ty,ty∈Kq->∃m m' b b',Ov 1099511627776 ty=some m/\Oh 1099511627776 m.1=some b/\Oo 1099511627776 ty=some m'/\Ol 1099511627776 m'.1=some b'/\(m.2 !=0||!b)=(m'.2 !=0||!b'):=by
 have:(Kq.all λty=>match Ov 1099511627776 ty,Oo 1099511627776 ty with
 |some m,some m'=>(match Oh 1099511627776 m.1,Ol 1099511627776 m'.1 with|some b,some b'=>(m.2 !=0||!b)==(m'.2 !=0||!b')|_,_=>false)
 |_,_=>false)=true:=by kernel_rfl
 intro ty h;have:=aU.1 this ty h;split at this
 ·rename_i m m' hm hm';split at this;·rename_i b b' hb hb';exact⟨m,m',b,b',hm,hb,hm',hb',by simpa using this⟩
  ·cases this
 ·cases this
def AVE{l:List ApiAnswer} (hW: ∀a,a∈l->WR 1099511627776 QT a.raw){h:ApiHead}{b:B8} (hs:AoJ 1099511627776 l h b) (hF:Fok 16384 h.fields) (u:ApiURL) (tr:List ApiExchange):∃w w',KN 1099511627776 ⟨u,h,b,tr⟩ PK=some w/\OO 1099511627776 ⟨u,h,b,tr⟩ PK=some w'/\w.2=w'.2/\AX1 w.1 w'.1:=by
 obtain⟨a,n,ha,h1,hred,h2⟩:=hs;obtain⟨hl,hW⟩:=hW a ha;by_cases h200:h.status=200
 ·rcases hW with hD|hO
  ·obtain⟨hb,ty,fs,last,hty,hfs,hlast,hh⟩:=AkD fx Avl (λb=>AC7) Awf AgI hl hD h1 h2;have hd:=AYC hF;have hv:F4 ctN h.fields=if(ty==[])=true then []else [ty]:=by rw[hh];show F4 ctN (tyF ty++fs++[last])=_;rw[AAd,AAd,tyV ty hty,(ArK ty hty fs hfs).2.2,(Ar2 hlast).2.2,bz,bz]
   have hg:=AEK hd ctN fA (N:=1099511627776);have hg':=Qg hd ctN fA (N:=1099511627776);rw[Aqa hv]at hg hg';unfold ctN at hg hg';obtain⟨w,w',w1,w2,w3⟩:=Agh hb;have hst:(h.status==200)=true:=by rw[h200];rfl
   have hms:Lx 1099511627776 h.status=some 0:=by rw[h200];kernel_rfl
   unfold KN OO;unfold rdT at w1;unfold rdR at w2;simp only[hst,hms,aD,hg,hg',aa,AC,(by decide:((0:Int) !=0)=false),aj,aA];cases hte:(ty==([]:B8))
   ·simp only[hte,aj,aA];have j1:PR [44,32] [ty]=ty:=by simp[PR,M5]
    have j2:decide ((([ty]:List B8).length:Int)>0)=true:=fy;rw[j1,j2];obtain⟨m,m',c,c',m1,m2,m3,m4,m5⟩:=Agg ty hty;rw[m1,m3,aa,aa,aq rfl,aq rfl];cases hm:(m.2 !=0)<;>cases hm':(m'.2 !=0)<;>rw[hm,hm']at m5<;>simp only[c7,bg]at m5<;>simp only[aj,aA,aD,m2,m4,aa]
    ·cases c<;>cases c'<;>simp only[bL,bE,aj,aA,aD,reduceCtorEq]at m5⊢;·exact⟨_,_,rfl,rfl,rfl,R8⟩
     ·exact⟨w,w',w1,w2,w3⟩
    ·cases c<;>simp only[bL,bE,aj,aA,aD,reduceCtorEq]at m5⊢;exact⟨_,_,rfl,rfl,rfl,R8⟩
    ·cases c'<;>simp only[bL,bE,aj,aA,aD,reduceCtorEq]at m5⊢;exact⟨_,_,rfl,rfl,rfl,R8⟩
    ·exact⟨_,_,rfl,rfl,rfl,R8⟩
   ·simp only[hte,aD];have j2:decide ((([]:List B8).length:Int)>0)=false:=fA;obtain⟨m,m',c,c',m1,m2,m3,m4,m5⟩:=Agg [] fA;rw[j2,show PR [44,32] []=[]from rfl,m1,m3,aa,aa];simp only[aj,aA,aD];exact⟨_,_,rfl,rfl,rfl,R8⟩
  ·exact absurd h200 (hO h n b h1 (by simpa using h2))
 ·have hst:(h.status==200)=false:=by simpa using h200
  have hst':(h.status !=200)=true:=by simp[bne,hst]
  unfold KN OO Lx Ob;simp only[hst,hst',aj,aA,AC];cases (h.status==404)<;>cases (h.status==410)<;>simp only[aD,aA,aj,aa,(by decide:((260:Int) !=0)=true),(by decide:((261:Int) !=0)=true)]<;>exact⟨_,_,rfl,rfl,rfl,R8⟩
end
end Go.VM
namespace Go.VM
section
def Aw1: ∃u,LY 1099511627776 PK=some (u,0)/\IW 1099511627776 PK=some (u,0)/\LP u/\PH 1099511627776 u=true:=by
 have:(match LY 1099511627776 PK,IW 1099511627776 PK with|some u,some w=>u.2==0&&(w.2==0&&(AuC u.1 w.1&&(AHV u.1&&PH 1099511627776 u.1)))|_,_=>false)=true:=by kernel_rfl
 split at this;·rename_i u w hu hw;rw[av,av,av,av,bc,bc]at this;obtain⟨h1,h2,h3,h4,h5⟩:=this;refine⟨u.1,by rw[hu,<-h1],?_,(Y2 h4).1,h5⟩;rw[hw,Ap5 h3,<-h2]
 ·cases this
def AeM{l:List ApiAnswer} (hl:l.length<=1000) (hW: ∀a,a∈l->WR 1099511627776 QT a.raw) (t:Int):∃v w r e,Iu 1099511627776 l t PK=some (v,r,e)/\Ky 1099511627776 l t PK=some (w,r,e)/\AX1 v w/\r.trace.length<=10/\(e≠0->w=AtS):=by
 obtain⟨u,u1,u2,u3,u4⟩:=Aw1;obtain⟨r,r1,r2,r3,r4⟩:=AVt (N:=1099511627776) (B:=9000) fx (l:=l) fx t (λa ha=>(hW a ha).1) fx u3;obtain⟨s1,_⟩:=r4 u4;have r5:=r3.2.2;unfold Iu Ky;simp only[u1,u2,aa,(by decide:((0:Int) !=0)=false),aj,aA,r1,r2];cases hr:(r.2 !=0)
 ·have hr0:r.2=0:=by simpa using hr
  obtain⟨w,w',w1,w2,w3,w4⟩:=AVE hW (s1 hr0) r3.1 r.1.uRL r.1.trace;simp only[aj,aA,w1,w2,w3,aa];cases hw:(w'.2 !=0);·exact⟨_,_,_,_,rfl,rfl,w4,r5,λh=>absurd rfl h⟩
  ·exact⟨_,_,_,_,rfl,rfl,R8,r5,λ_=>rfl⟩
 ·simp only[aD];exact⟨_,_,_,_,rfl,rfl,R8,r5,λ_=>rfl⟩
def ArL (v:ApiValue) (a:B8) (k:Unit->Option (ApiValue×Bool)) (hk: ∃r,k ()=some r) (n:Nat) (H: ∀i,i<n->(FH 1099511627776 [118,101,114,105,102,105,99,97,116,105,111,110,77,101,116,104,111,100] (i:Int) v).isSome=true): ∀(l:List ApiMethod) (i:Nat),i+l.length=n->∃r,Ef 1099511627776 v a k l (i:Int)=some r
 |[],i,_=>by rw[Ef];exact hk
 |x::l,i,h=>by
  rw[ag]at h;rw[Ef];split;·obtain⟨y,hy⟩:=cr.1 (H i fx);rw[hy];exact⟨_,rfl⟩
  ·have:=ArL v a k hk n H l (i+1) fx;rwa[show(i:Int)+1=((i+1:Nat):Int) by omega]
def Ari (v:ApiValue) (a:B8) (k:Unit->Option (ApiValue×Bool)) (hk: ∃r,k ()=some r) (n:Nat) (H: ∀i,i<n->(FH 1099511627776 [115,101,114,118,105,99,101] (i:Int) v).isSome=true): ∀(l:List ApiService) (i:Nat),i+l.length=n->∃r,Ec 1099511627776 v a k l (i:Int)=some r
 |[],i,_=>by rw[Ec];exact hk
 |x::l,i,h=>by
  rw[ag]at h;rw[Ec];split;·obtain⟨y,hy⟩:=cr.1 (H i fx);rw[hy];exact⟨_,rfl⟩
  ·have:=Ari v a k hk n H l (i+1) fx;rwa[show(i:Int)+1=((i+1:Nat):Int) by omega]
def AQo{v:ApiValue} (h:AQd 1099511627776 v=true) (a:B8): ∃r,ME 1099511627776 v a=some r:=by
 unfold AQd at h;split at h
 ·rename_i y hy;unfold ME;rw[hy,aa];split;·exact⟨_,rfl⟩
  ·rename_i he;rw[an he,av,av,av,aw,aw,aU,aU]at h;obtain⟨h1,⟨h2,h3⟩,h4⟩:=h;rw[AC,BU fx];refine ArL v a _ ?_ _ (λi hi=>h3 i (dj.2 hi)) y.1.methods 0 fx;rw[AC,BU fx];exact Ari v a _ ⟨_,rfl⟩ _ (λi hi=>h4 i (dj.2 hi)) y.1.services 0 fx
 ·cases h
theorem ADC{v:ApiValue} (h:AQd 1099511627776 v=true){f:B8} (hf:f.length<=100000):Mi 1099511627776 v ⟨PK,[],[],f,false,false⟩=some (⟨[],v,[]⟩,0)/\∃y,Mi 1099511627776 v ⟨PK,[],[],f,false,true⟩=some y:=by
 have hp: ∀b,Na 1099511627776 ⟨PK,[],[],f,false,b⟩=some []:=λb=>rfl;have hq: ∀a,Kc 1099511627776 [] a=some ([],false):=λa=>by unfold Kc;rw[AC,BU fy];rfl
 unfold Mi;simp only[hp,hq,aa,AC,aj,aA,dt,aD];refine⟨trivial,?_⟩;have hs: ∃s,OD 1099511627776 ⟨PK,[],[],f,false,true⟩=some s:=by
  have hfd:Dp 1099511627776 PK=some aT:=by kernel_rfl
  have hal:aT.length=17:=rfl;unfold OD;simp only[hfd,AC,aj,aA,aD,aa];rw[BU (by rw[hal];simp),BU (by simp only[ag,ap];omega),BU (by simp only[ah,ag,ap];omega)];exact⟨_,rfl⟩
 obtain⟨s,hs⟩:=hs;rw[hs,aa];obtain⟨r,hr⟩:=AQo h s;rw[hr,aa];split<;>exact⟨_,rfl⟩
def ASS:J6 1099511627776 aT=some (⟨PK,[],[],[],false,false⟩,0):=by kernel_rfl
def AtA:JQ 1099511627776 PK=some (PK,0):=by kernel_rfl
theorem Awd: ∀r:B8,BI 35 (aT++35::r)=(aT,r,true):=by
 intro r;unfold BI;have e:aT++35::r=aT++35::r:=rfl;have h1:(aT++35::r).contains 35=true:=fy;have h2:(aT++35::r).takeWhile (· !=35)=aT:=by rw[List.takeWhile_append];simp[aT]
 rw[aq h1,h2];simp[aT]
theorem AXD{r:B8} (h:r.length<=1000):(∃e,J6 1099511627776 (aT++35::r)=some (⟨⟨[],[]⟩,[],[],[],false,false⟩,e)/\e≠0)\/∃f,f.length<=1000/\J6 1099511627776 (aT++35::r)=some (⟨PK,[],[],f,false,true⟩,0):=by
 have hal:aT.length=17:=rfl;have hc:strings_Cut 1099511627776 (aT++35::r) [35]=some (aT,r,true):=by rw[SK _ _ (by simp only[ah,ag];omega),Awd]
 have hc2:strings_Cut 1099511627776 aT [63]=some (aT,[],false):=by kernel_rfl
 have hi:strings_IndexByte 1099511627776 aT 47=some (-1):=by kernel_rfl
 have hp:Ji 1099511627776 aT=some (PK,0):=by kernel_rfl
 have hn1:Bq 1099511627776 [] [33,36,38,39,40,41,42,43,44,59,61,58,64,47]=some ([],0):=by kernel_rfl
 have hn2:Bq 1099511627776 [] [33,36,38,39,40,41,42,43,44,59,61,58,64,47,63]=some ([],0):=by kernel_rfl
 have hlen:decide (((aT++35::r).length:Int)>4096)=false:=aO (by simp only[ah,ag];omega);unfold J6;simp only[hlen,aj,aA,hc,aa,hc2,AC,hi,(by decide:decide ((-1:Int)>=0)=false),hp,(by decide:((0:Int) !=0)=false),hn1,hn2,Og (N:=1099511627776) r _ fx];have hl:=MW (N:=1099511627776) r [33,36,38,39,40,41,42,43,44,59,61,58,64,47,63];generalize EA 1099511627776 r [33,36,38,39,40,41,42,43,44,59,61,58,64,47,63]=z at hl;cases hz:(z.2 !=0);·simp only[aj,aA];exact .inr ⟨z.1,fx,rfl⟩
 ·simp only[aD];exact .inl ⟨z.2,rfl,by simpa using hz⟩
end
end Go.VM
