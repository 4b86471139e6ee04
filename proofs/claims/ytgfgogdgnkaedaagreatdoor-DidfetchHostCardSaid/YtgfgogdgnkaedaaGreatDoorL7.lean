import Derived.Test.YtgfgogdgnkaedaaGreatDoorL6
import Derived.Test.YtgfgogdgnkaedaaGreatDoorVM3
set_option linter.unusedVariables false
set_option linter.unusedSimpArgs false
set_option maxRecDepth 100000
namespace Go.VM
section
variable{N:Nat}
def Md (ls:List (List UInt8)):List UInt8:=ls.flatMap fun x=>x++Ba
theorem Dc (x:List UInt8) (ls:List (List UInt8)):Md (x::ls)=x++(Ba++Md ls):=by simp[Md]
theorem Ov{q t:List UInt8}: ∀ {x:List UInt8},(∀c,c∈x→c≠13)→DC (13::q) (x++t)=(DC (13::q) t).map (· +x.length)
 |[],_=>by simp
 | c::x,h=>by
  have hc:=h c fg;have hp:List.isPrefixOf (13::q) (c::(x++t))=false:=by
   have:((13:UInt8)==c)=false:=by simpa using fun e=>hc e.symm
   simp[List.isPrefixOf,this]
  show(if List.isPrefixOf (13::q) (c::(x++t))=true then some 0 else(DC (13::q) (x++t)).map (· +1))=_;rw[hp,aj fh,Ov fun d hd=>h d (by simp[hd]),eZ];congr 1
theorem WX{x t:List UInt8} (h: ∀c,c∈x→c≠13):Ia (x++(Ba++t))=(x,t,true):=by
 unfold Ia;have:DC Ba (x++(Ba++t))=some x.length:=by
  show DC (13::[10]) (x++(Ba++t))=_;rw[Ov h];have:DC (13::[10]) (Ba++t)=some 0:=by show(if List.isPrefixOf [13,10] (13::10::t)=true then some 0 else _)=_;rw[ap (by simp[List.isPrefixOf])]
  rw[this];simp
 rw[this];simp[Ba]
theorem Wd{x:List UInt8} (h: ∀c,c∈x→c≠13):Ia x=(x,[],false):=by
 unfold Ia;have:DC Ba x=none:=by have e:DC (13::[10]) (x++[])=(DC (13::[10]) []).map (· +x.length):=Ov h;rw[bf]at e;exact e
 rw[this]
theorem AQM: ∀ls:List (List UInt8),ls≠ []→2≤(Md ls).length |x::ls,_=>by rw[Dc];simp only[Ba,ah,ag,an];omega
def AAX (x:List UInt8):Prop:=x≠ []∧ ∀c,c∈x→c≠13
theorem AoV: ∀(ls:List (List UInt8)) (b:List UInt8),ls≠ []→(∀x,x∈ls→AAX x)→DC [13,10,13,10] (Md ls++(Ba++b))=some ((Md ls).length-2)
 | [x],b,_,h=>by
  rw[Dc,show Md []=[]from rfl,bf,aL,Ov (h x fg).2];have:DC [13,10,13,10] (Ba++(Ba++b))=some 0:=by show(if List.isPrefixOf [13,10,13,10] (13::10::13::10::b)=true then some 0 else _)=_;rw[ap (by simp[List.isPrefixOf])]
  rw[this];simp[Ba]
 | x::y::r,b,_,h=>by
  have ih:=AoV (y::r) b fg fun z hz=>h z (by simp[hz]);have h2:=AQM (y::r) fg;rw[Dc,aL,aL,Ov (h x fg).2];obtain⟨hy,hy2⟩:=h y fg;obtain⟨c,y',rfl⟩: ∃c y',y=c::y':=by cases y with |nil=>exact absurd rfl hy|cons c y'=>exact⟨c,y',rfl⟩
  have hc:=hy2 c fg;have e1: ∀Z:List UInt8,DC [13,10,13,10] (Ba++(c::Z))=(DC [13,10,13,10] (c::Z)).map (· +2):=by
   intro Z;have hc':((13:UInt8)==c)=false:=by simpa using fun e=>hc e.symm
   have p1:List.isPrefixOf [13,10,13,10] (13::10::c::Z)=false:=by simp[List.isPrefixOf,hc']
   have p2:List.isPrefixOf [13,10,13,10] (10::c::Z)=false:=by simp[List.isPrefixOf]
   show(if List.isPrefixOf [13,10,13,10] (13::10::c::Z)=true then some 0 else(if List.isPrefixOf [13,10,13,10] (10::c::Z)=true then some 0 else(DC [13,10,13,10] (c::Z)).map (· +1)).map (· +1))=_;rw[p1,p2,aj fh,aj fh,eZ];congr 1
  have e2:Md ((c::y')::r)++(Ba++b)=c::(y'++(Ba++Md r)++(Ba++b)):=by rw[Dc];simp
  rw[e2]at ih⊢;rw[e1,ih];simp only[aI,ae,ah,Ba,ag,an];omega
theorem Yv: ∀ls:List (List UInt8),ls≠ []→∃l,Md ls=l++Ba |[x],_=>⟨x,by rw[Dc];rfl⟩| x::y::r,_=>by obtain⟨l,hl⟩:=Yv (y::r) fg;exact⟨x++(Ba++l),by rw[Dc,hl];simp⟩
def FY (f:ApiField):List UInt8:=f.name++([58,32]++f.value)
def Qq (f:ApiField):Prop:=AEt (FY f)=some f∧AAX (FY f)
theorem YA (k11:List ApiField→Option (ApiHead×Int×Int)) (hN:1000010<N): ∀(F fs:List ApiField) (k:Nat),F.length<k→fs.length+F.length≤64→(∀f,f∈F→Qq f)→(Md (F.map FY)).length≤1000000→DF N k11 k (Md (F.map FY)) fs=k11 (fs++F)
 | [],fs,k+1,_,_,_,_=>by
  have e2:DF N k11 (k+1) [] fs=k11 fs:=by unfold DF;rfl
  rw[bf];exact e2
 | f::F,fs,k+1,hk,hl,hF,hb=>by
  obtain⟨f1,f2⟩:=hF f fg;simp only[ag]at hk hl;have ih:=YA k11 hN F (fs++[f]) k ff fi (fun g hg=>hF g (by simp[hg])) (by rw[aE,Dc]at hb;simp only[ah]at hb;omega);rw[aL]at ih;cases F with
  | nil=>
   have e:Md ([f].map FY)=FY f++Ba:=by rw[aE,Dc];rfl
   rw[e]at hb⊢;rw[AD1 k11 k fs (by simp only[ah]at hb;omega) hN,aj ff,Wd f2.2];simp only[f1];exact ih
  | cons g G=>
   obtain⟨l,hl'⟩:=Yv ((g::G).map FY) fg;have e:Md ((f::g::G).map FY)=(FY f++(Ba++l))++Ba:=by rw[aE,Dc,hl'];simp
   rw[e]at hb⊢;rw[AD1 k11 k fs (by simp only[ah]at hb⊢;omega) hN,aj ff,WX f2.2];simp only[f1];have:ANk (FY f,l,true)=Md ((g::G).map FY):=by rw[hl'];rfl
   rw[this];exact ih
theorem AaB{sl:List UInt8}{st:ApiHead} (hs:M0 sl=some st) (hg:AAX sl){F:List ApiField} (hF: ∀f,f∈F→Qq f) (hl:F.length≤64) (b:List UInt8) (hb:(Md (sl::F.map FY)++(Ba++b)).length≤16384) (hN:1000010<N):EZ N (Md (sl::F.map FY)++(Ba++b))=some (⟨st.minor,st.status,F⟩,(((Md (sl::F.map FY)).length+2:Nat):Int),0):=by
 have hfind:=AoV (sl::F.map FY) b fg fun x hx=>by
  rcases aO.1 hx with rfl|h;·exact hg
  ·obtain⟨f,h1,rfl⟩:=bo.1 h;exact(hF f h1).2
 have h2:=AQM (sl::F.map FY) fg;obtain⟨l0,hl0⟩:=Yv (sl::F.map FY) fg;have hcut:(Ia l0).1=sl∧ANk (Ia l0)=Md (F.map FY):=by
  cases F with
  | nil=>
   have:l0=sl:=by
    have e:Md (sl::([]:List ApiField).map FY)=sl++Ba:=by rw[Dc];rfl
    rw[e]at hl0;exact(eB hl0).symm
   rw[this,Wd hg.2];exact⟨rfl,rfl⟩
  | cons f F=>
   obtain⟨l,hl'⟩:=Yv ((f::F).map FY) fg;have:l0=sl++(Ba++l):=by
    have e:Md (sl::(f::F).map FY)=(sl++(Ba++l))++Ba:=by rw[Dc,hl'];simp
    rw[e]at hl0;exact(eB hl0).symm
   rw[this,WX hg.2];exact⟨rfl,hl'.symm⟩
 generalize hT:Md (sl::F.map FY)=T at *;generalize hL:T++(Ba++b)=l at *;have hle:T.length+2+b.length=l.length:=by rw[←hL];simp only[Ba,ah,ag,an];omega
 unfold EZ;have s0:sub l 0 (if 16384<(l.length:Int)then 16384 else(l.length:Int))=some l:=by rw[aj ff];have:=A8 l 0 l.length ff ff;rwa[aJ,be,cL]at this
 have hr:Ie N l [13,10,13,10]=some (((T.length-2:Nat)):Int):=by rw[Sg fg (by simp only[ag,an];omega) ff];unfold Pq;rw[hfind]
 have hneg:decide (((T.length-2:Nat):Int)<0)=false:=aN ff;have w2:wr .i64 (((T.length-2:Nat):Int)+2)=((T.length:Nat):Int):=by rw[Aq ff];omega
 have w4:wr .i64 (((T.length-2:Nat):Int)+4)=((T.length+2:Nat):Int):=by rw[Aq ff];omega
 have r4:sub l 0 ((T.length:Nat):Int)=some (l0++Ba):=by have:=A8 l 0 T.length ff ff;rw[aJ,be,show((0:Nat):Int)=0 from rfl]at this;rw[this,←hL,d5,hl0]
 have hl0l:l0.length≤16384:=by have:=bl List.length hl0;simp only[ah]at this;omega
 obtain⟨n,hn1,hn2,hn3⟩:=AAH (l:=l0) ff;have hfn:Ie N (l0++Ba) [13,10]=some (n:Int):=by rw[←hn1];exact Sg fg (by simp[Ba];omega) (by simp[Ba];omega)
 obtain⟨X,hX,hX2⟩:=AOQ (N:=N) (l:=(Ia l0).1) (by rw[hcut.1];have:=WA l0;rw[hcut.1]at this;omega);rw[hcut.1]at hX hX2;have hok:=ARF hs;rw[s0,aa,hr,aa];simp only[AB,hneg,w2,w4,al,aC,r4,aa,hfn,hn2,hn3,hcut.1,hcut.2,hX,hs,bV,bL];rw[hX2 st hs,hok.2.2.2];rw[YA _ hN F [] N ff (by simpa using hl) hF (by have e:=Dc sl (F.map FY);rw[hT]at e;have:=bl List.length e;simp only[ah]at this;omega)];rfl
theorem ATb{sl:List UInt8}{st:ApiHead} (hs:M0 sl=some st) (hg:AAX sl){t:List UInt8} (hb:(sl++(Ba++t)).length≤16384) (hN:1000010<N){h:ApiHead}{n:Int} (hp:EZ N (sl++(Ba++t))=some (h,n,0)):h.status=st.status:=by
 obtain⟨_,r,h2,_,h4⟩:=Xl (N:=N) (l:=sl++(Ba++t)) ff hN;rw[hp]at h2;cases h2;obtain⟨k,h0,e1,e2,e3⟩:=h4 rfl;rw[aU hb,Ov hg.2]at e1;obtain⟨j,j1,j2⟩:=bJ.1 e1;have hk:(Ia ((sl++(Ba++t)).take k)).1=sl:=by
  rw[←j2,dU,List.take_length_add_append];have hj:j=0∨2≤j:=by
   change (if List.isPrefixOf [13,10,13,10] (13::10::t)=true then some 0 else(DC [13,10,13,10] (10::t)).map (· +1))=some j at j1;split at j1;·cases j1;exact .inl rfl
   ·have p2:List.isPrefixOf [13,10,13,10] (10::t)=false:=by simp[List.isPrefixOf]
    change Option.map (· +1) (if List.isPrefixOf [13,10,13,10] (10::t)=true then some 0 else(DC [13,10,13,10] t).map (· +1))=some j at j1;rw[p2,aj fh,eZ]at j1;obtain⟨i,_,i2⟩:=bJ.1 j1;simp only[Function.comp]at i2;exact .inr ff
  rcases hj with rfl|hj;·rw[dC,bf,Wd hg.2]
  ·obtain⟨i,rfl⟩: ∃i,j=i+2:=⟨j-2,ff⟩;have:(Ba++t).take (i+2)=Ba++t.take i:=by simp[Ba]
   rw[this,WX hg.2]
 rw[hk,hs]at e2;cases e2;exact e3
end
end Go.VM
namespace Go.VM
section
variable{N:Nat}
def ctN:List UInt8:=[99,111,110,116,101,110,116,45,116,121,112,101]
def clN:List UInt8:=[99,111,110,116,101,110,116,45,108,101,110,103,116,104]
def teN:List UInt8:=[116,114,97,110,115,102,101,114,45,101,110,99,111,100,105,110,103]
def chV:List UInt8:=[99,104,117,110,107,101,100]
def Ox (y:List UInt8):List UInt8:=[72,84,84,80,47,49,46,49,32]++(y++[32,45])
theorem ACF (k8:List UInt8→Option (List UInt8)){M:Nat} (hM:M≤1000000): ∀(fs:List ApiField) (s:List UInt8),s.length+Dq fs+4 * fs.length≤M→Co N k8 fs s=k8 (s++Md (fs.map FY))
 |[],s,_=>by rw[Co];simp[Md]
 | f::fs,s,h=>by
  have e:Dq (f::fs)=f.name.length+f.value.length+Dq fs:=by simp[Dq]
  rw[e,ag]at h;rw[Co,Bt (by simp only[ag,an];omega),Bt (by simp only[ah,ag,an];omega),Bt (by simp only[ah,ag,an];omega),Bt (by simp only[ah,ag,an];omega),ACF k8 hM fs _ (by simp only[ah,ag,an];omega),aE,Dc];simp[FY,Ba]
theorem AfJ{st:Int}{y:List UInt8} (hy:CE N st=some y) (hyl:y.length≤100){F:List ApiField} (hs:Dq F+4 * F.length≤800000):EL N ⟨1,st,F⟩=some (Md (Ox y::F.map FY)++Ba):=by
 unfold EL;simp only[AB];rw[aj fh,Bt (by simp only[ag,an];omega),Bt (by simp only[ah,ag,an];omega),hy,aa,Bt (by simp only[ah,ag,an];omega),Bt (by simp only[ah,ag,an];omega),Bt ff,ACF _ (M:=1000000) (aq _) F _ (by simp only[ah,ag,an];omega)];have hl:(Md (F.map FY)).length=Dq F+4 * F.length:=by clear hs;induction F with |nil=>rfl| cons f F ih=>rw[aE,Dc,show Dq (f::F)=f.name.length+f.value.length+Dq F by simp[Dq]];simp only[ah,ih,FY,Ba,ag,an];omega
 rw[Bt (by simp only[ah,ag,an,hl];omega),Dc];simp[Ox,Ba]
def tyF (ty:List UInt8):List ApiField:=if(ty==[])=true then []else [⟨ctN,ty⟩]
def Auo (N:Nat) (y ty body:List UInt8) (fs:List ApiField) (c:Bool) (r:List UInt8):Prop:=∃F tail,r=Md (Ox y::F.map FY)++(Ba++tail)∧if c=true then F=tyF ty++fs++[⟨teN,chV⟩]∧F6 N body 50=some tail else∃d,Dv N (body.length:Int)=some d∧F=tyF ty++fs++[⟨clN,d⟩]∧tail=body
theorem Asa{st:Int}{y:List UInt8} (hy:CE N st=some y) (hyl:y.length≤100){ty body:List UInt8}{fs:List ApiField} (c:Bool) (hty:ty.length≤1000) (hb:body.length≤50000) (hf:fs.length≤100) (hs:Dq fs≤10000) (hN:1000000≤N):Ok (FX N st ty body fs c) (Auo N y ty body fs c):=by
 have ht:(tyF ty).length≤1∧Dq (tyF ty)≤12+ty.length:=by
  unfold tyF;split;·exact⟨aH _,by simp[Dq]⟩
  ·exact⟨aq _,by simp[Dq,ctN]⟩
 have key:FX N st ty body fs c=(if c=true then Option.bind (EL N (ApiHead.mk 1 st ((tyF ty++fs)++[⟨teN,chV⟩]))) fun y5=>Option.bind (F6 N body 50) fun y7=>grd (AC (y5.length+y7.length)) (some (y5++y7)) else Option.bind (Dv N (body.length:Int)) fun y13=>Option.bind (EL N (ApiHead.mk 1 st ((tyF ty++fs)++[⟨clN,y13⟩]))) fun y15=>grd (AC (y15.length+body.length)) (some (y15++body))):=by
  unfold FX;simp only[AB];have f1: ∀j:List ApiField,j.length≤1→Ac (j.length+fs.length) 32:=fun j hj=>Gh ff ff;have f2: ∀j:List ApiField,j.length≤1→Ac ((j++fs).length+1) 32:=fun j hj=>Gh (by simp only[ah];omega) ff;unfold tyF;by_cases h0:(ty==[])=true;·rw[ap h0,ap h0,AR (f1 [] fg)];have g: ∀x:Option (List UInt8),grd (Ac ((([]:List ApiField)++fs).length+1) 32) x=x:=fun x=>AR (f2 [] fg);simp only[g];rfl
  ·rw[aj h0,aj h0,AR (Gh fg ff),AR (f1 _ fg)];have g: ∀x:Option (List UInt8),grd (Ac (([⟨ctN,ty⟩]++fs:List ApiField).length+1) 32) x=x:=fun x=>AR (f2 _ fg);unfold ctN at g;simp only[g];rfl
 rw[key];have hF: ∀f:ApiField,f.name.length+f.value.length≤1000→Dq ((tyF ty++fs)++[f])+4 * ((tyF ty++fs)++[f]).length≤800000:=by intro f hf';rw[Su,AAB];simp only[ah,ba];omega
 refine .ite (fun hc=>?_) fun hc=>?_
 ·obtain⟨E,e1,e2⟩:=AVR (N:=N) (a:=body) ff hN;rw[AfJ hy hyl (hF _ fh),aa,e1,aa];have hl: ∀F:List ApiField,(Md (F.map FY)).length=Dq F+4 * F.length:=by intro F;induction F with |nil=>rfl| cons f F ih=>rw[aE,Dc,show Dq (f::F)=f.name.length+f.value.length+Dq F by simp[Dq]];simp only[ah,ih,FY,Ba,ag,an];omega
  have:=hF ⟨teN,chV⟩ fh;rw[Bt (by rw[Dc];simp only[ah,hl,Ox,Ba,ag,an]at this⊢;omega)];exact .ret ⟨_,E,by rw[aL],by rw[ap hc];exact⟨rfl,e1⟩⟩
 ·obtain⟨d,e1,e2⟩:=TP (N:=N) (n:=body.length) ff ff;rw[e1,aa,AfJ hy hyl (hF _ (by show clN.length+d.length≤1000;have:clN.length=14:=rfl;omega)),aa];have hl: ∀F:List ApiField,(Md (F.map FY)).length=Dq F+4 * F.length:=by intro F;induction F with |nil=>rfl| cons f F ih=>rw[aE,Dc,show Dq (f::F)=f.name.length+f.value.length+Dq F by simp[Dq]];simp only[ah,ih,FY,Ba,ag,an];omega
  have:=hF ⟨clN,d⟩ (by show clN.length+d.length≤1000;have:clN.length=14:=rfl;omega);rw[Bt (by rw[Dc];simp only[ah,hl,Ox,Ba,ag,an]at this⊢;omega)];exact .ret ⟨_,body,by rw[aL],by rw[hc,aj fh];exact⟨d,e1,rfl,rfl⟩⟩
end
end Go.VM
namespace Go.VM
section
variable{N:Nat}
def AdZ (N:Nat) (raw:List UInt8):Prop:= ∀h n b,EZ N raw=some (h,n,0)→Ig N h (raw.drop n.toNat) 1048576=some (b,0)→h.status≠200
theorem AWI{st:Int}{y:List UInt8} (hy:CE N st=some y) (hyl:y.length≤100) (hg:AAX (Ox y)){h0:ApiHead} (hs:M0 (Ox y)=some h0) (h200:h0.status≠200){ty body:List UInt8}{fs:List ApiField}{c:Bool} (hty:ty.length≤1000) (hb:body.length≤50000) (hf:fs.length≤100) (hs':Dq fs≤10000) (hN:1000011≤N){r:List UInt8} (hr:FX N st ty body fs c=some r) (hl:r.length≤16384):AdZ N r:=by intro h n b hp _;obtain⟨r',e1,F,tail,e2,_⟩:=Asa (N:=N) hy hyl c hty hb hf hs' ff;rw[hr]at e1;cases e1;rw[Dc]at e2;rw[e2,aL,aL]at hp hl;rw[ATb hs hg hl ff hp];exact h200
theorem Adb{raw:List UInt8}{h0:ApiHead}{n0 e0:Int} (hp:EZ N raw=some (h0,n0,e0)) (hr:e0≠0∨∃b0 e1,Ig N h0 (raw.drop n0.toNat) 1048576=some (b0,e1)∧e1≠0):AdZ N raw:=by
 intro h n b h1 h2;rw[hp]at h1;cases h1;rcases hr with hr|⟨b0,e1,h3,h4⟩;·exact absurd rfl hr
 ·rw[h3]at h2;cases h2;exact absurd rfl h4
def ccN:List UInt8:=[99,97,99,104,101,45,99,111,110,116,114,111,108]
def agN:List UInt8:=[97,103,101]
def ccL:List (List UInt8):=[[109,97,120,45,97,103,101,61,49,48,48],[109,97,120,45,97,103,101,61,49,48,48,48,44,32,112,117,98,108,105,99],[109,97,120,45,97,103,101,61,53],[109,97,120,45,97,103,101,61,57,57,57,57,57,57,57,57,57],[110,111,45,115,116,111,114,101,44,32,109,97,120,45,97,103,101,61,57],[112,114,105,118,97,116,101],[109,97,120,45,97,103,101,61,120]]
def agL:List (List UInt8):=[[52,48],[51],[49,48,48,48],[121]]
def Rp:List (List ApiField):=ccL.flatMap fun v=>[⟨ccN,v⟩]::agL.map fun w=>[⟨ccN,v⟩,⟨agN,w⟩]
theorem Asv{d:MadeDice} (hd:FU d):Ok (Mj N d) fun r=>r.1∈Rp∧FU r.2:=by
 unfold Mj;refine .letL (.bind (oneG hd fh) fun y ⟨y1,y2⟩=>?_);simp only[AB];refine .bind (Tx y2 (n:=4) fh) fun z ⟨_,z1⟩=>?_;refine .ite (fun _=>?_) fun _=>?_;·refine .letL (.bind (oneG z1 fh) fun w ⟨w1,w2⟩=>?_);refine .grd (Gh fg ff) (.ret ⟨?_,w2⟩);exact eC.2 ⟨y.1,y1,aQ _ (bo.2 ⟨w.1,w1,rfl⟩)⟩
 ·exact .ret ⟨eC.2 ⟨y.1,y1,dv⟩,z1⟩
theorem Aeb: ∀fs,fs∈Rp→fs.length≤2∧Dq fs≤100:=by decide+kernel
def Ath (N:Nat) (P:List UInt8→Prop) (raw:List UInt8):Prop:= ∃ty body fs c,ty∈JJ∧P body∧fs∈Rp∧FX N 200 ty body fs c=some raw
def WR (N:Nat) (P:List UInt8→Prop) (raw:List UInt8):Prop:=raw.length≤9000∧(Ath N P raw∨AdZ N raw)
def StO (N:Nat) (st:Int):Prop:= ∃y h0,CE N st=some y∧y.length≤100∧AAX (Ox y)∧M0 (Ox y)=some h0∧h0.status≠200
def AtE:List UInt8:=[72,84,84,80,47,49,46,49,32,50,48,48,32,79,75,13,10,99,111,110,116,101,110,116,45,108,101,110,103,116,104,58,32,57,13,10,13,10,97,98,99]
def AtW:List UInt8:=[110,111,110,115,101,110,115,101]
structure Closed (N:Nat):Prop where
  st: ∀st:Nat,st∈[301,302,307,404,410,500,403,204]→StO N (st:Int)
  abc:AdZ N AtE
  non:AdZ N AtW
theorem Asp (hC:Closed N){P:List UInt8→Prop}{d:MadeDice} (hd:FU d){u:ApiURL} (hu:KT u) (hN:1000011≤N):Ok (Mw N d u) fun r=>WR N P r.1.raw∧FU r.2:=by
 unfold Mw;simp only[AB];refine .letL (.bind (Tx hd (n:=5) ff) fun y ⟨⟨y0,y1⟩,d1⟩=>?_);have hi: ∃st:Nat,idx ([404,410,500,403,204]:List Int) y.1=some (st:Int)∧st∈[301,302,307,404,410,500,403,204]:=by
  obtain⟨n,hn⟩: ∃n:Nat,y.1=(n:Int):=⟨y.1.toNat,ff⟩;rw[hn]at y1⊢;rcases (by omega:n=0∨n=1∨n=2∨n=3∨n=4)with rfl|rfl|rfl|rfl|rfl;·exact⟨404,rfl,fh⟩
  ·exact⟨410,rfl,fh⟩
  ·exact⟨500,rfl,fh⟩
  ·exact⟨403,rfl,fh⟩
  ·exact⟨204,rfl,fh⟩
 obtain⟨st,i1,i2⟩:=hi;have i3:st≤1000:=(show∀x,x∈[301,302,307,404,410,500,403,204]→x≤1000 by decide) st i2;obtain⟨r,h1,h2⟩:=ADY (N:=N) (st:=st) ff (ty:=[]) (body:=[]) (fs:=[]) false fh fh fh fh ff;simp only[an,show Dq []=0 from rfl]at h2;obtain⟨yy,h0,s1,s2,s3,s4,s5⟩:=hC.st st i2;have hO:=AWI s1 s2 s3 s4 s5 (ty:=[]) (body:=[]) (fs:=[]) (c:=false) fh fh fh fh hN h1 ff;rw[i1,aa,h1,aa];refine .bind (Sr (N:=N) hu r) fun a ha=>?_;refine .bind (Tx d1 (n:=8) ff) fun z ⟨_,e1⟩=>?_;have hal:WR N P a.raw:=by rw[ha];exact⟨ff,.inr hO⟩
 refine .ite (fun _=>?_) fun _=>.ite (fun _=>?_) fun _=>.ite (fun _=>?_) fun _=>?_;·exact .ret ⟨⟨(by decide:AtE.length≤9000),.inr hC.abc⟩,e1⟩
 ·exact .bind (Tx e1 (n:=4) ff) fun w ⟨_,g1⟩=>.ret ⟨hal,g1⟩
 ·exact .ret ⟨⟨(by decide:AtW.length≤9000),.inr hC.non⟩,e1⟩
 ·exact .ret ⟨hal,e1⟩
theorem Ar4 (hC:Closed N) (hN:1000011≤N){id:ApiID} (hk:id.kind=4){names:List (List UInt8)}{P:List UInt8→Prop} (H: ∀ab,ab∈[id.text,XB]→∀sv,sv∈Ui ab→Ok (Y7 N ab names sv) P) (h1:P AkY) (h2:P Anc) (hP: ∀b,P b→b.length≤2000) (hlen:id.text.length≤1000){x:ApiDID×Int}{u:ApiURL×Int} (hx:DK N id.text=some x) (hu:GG N x.1=some u) (hg:KT u.1) {d:MadeDice} (hd:FU d):Ok (NW N d id names) fun r=>(r.1.length≤200∧∀a,a∈r.1→WR N P a.raw)∧FU r.2:=by unfold NW;refine .bind (Aar hk H h1 h2 hlen hd) fun y ⟨y1,y2,y3⟩=>?_;refine .bind (Asv y3) fun c ⟨c1,c3⟩=>?_;refine .bind (Tx c3 (n:=3) fh) fun z ⟨_,z1⟩=>?_;have hty:y.2.1.length≤30:=(show∀s,s∈JJ→s.length≤30 by decide) _ y2;obtain⟨c4,c5⟩:=Aeb _ c1;have hyl:=hP _ y1;obtain⟨r,hr0,hr⟩:=ADY (N:=N) (st:=200) ff (ty:=y.2.1) (body:=y.1) (fs:=c.1) (z.1==0) ff ff ff ff ff;rw[show(200:Int)=((200:Nat):Int)from rfl,hr0,aa];have hW:WR N P r:=⟨ff,.inl ⟨_,_,_,_,y2,y1,c1,hr0⟩⟩;refine .ite (fun _=>?_) fun hne=>absurd hk (by simpa using hne);rw[hx,aa,hu,aa];refine .bind (Tx z1 (n:=12) fh) fun w ⟨_,w1⟩=>?_;refine .ite (fun _=>.bind (Asp hC (P:=P) w1 hg hN) fun f ⟨f1,f2⟩=>.ret ⟨⟨fg,fun a ha=>by rw[aX.1 ha];exact f1⟩,f2⟩) fun _=>?_;refine .bind (AmR ff (R:=WR N P) (fun st fs r hst hfl hfs hr' hl=>?_) hg hW w1.1 w1.2) fun t ⟨⟨t1,t2⟩,t3,t4⟩=>.ret ⟨⟨t1,t2⟩,t3,t4⟩;obtain⟨yy,h0,s1,s2,s3,s4,s5⟩:=hC.st st (by rcases hst with rfl|rfl|rfl<;>decide);exact⟨ff,.inr (AWI s1 s2 s3 s4 s5 fh fh ff ff hN hr' ff)⟩
end
end Go.VM
namespace Go.VM
section
variable{N:Nat}
def APG (f:ApiField):Bool:=(match AEt (FY f)with|some g=>g.name==f.name&&g.value==f.value|none=>false)&&(!(FY f).isEmpty&&(FY f).all (· !=13))
theorem Vb{f:ApiField} (h:APG f=true):Qq f:=by
 unfold APG at h;rw[av,av]at h;obtain⟨h1,h2,h3⟩:=h;refine⟨?_,?_,?_⟩
 ·split at h1;·rename_i g hg;rw[hg,av]at *;obtain⟨e1,e2⟩:=h1;cases g;cases f;simp only[a8]at e1 e2;rw[e1,e2]
  ·cases h1
 ·intro e;rw[e]at h2;cases h2
 ·intro c hc;have:=aR.1 h3 c hc;simpa using this
theorem AuV: ∀ty,ty∈JJ→∀f,f∈tyF ty→Qq f:=by
 have:(JJ.all fun ty=>(tyF ty).all APG)=true:=by kernel_rfl
 intro ty h f hf;exact Vb (aR.1 (aR.1 this ty h) f hf)
theorem AuC: ∀fs,fs∈Rp→∀f,f∈fs→Qq f:=by
 have:(Rp.all fun fs=>fs.all APG)=true:=by kernel_rfl
 intro fs h f hf;exact Vb (aR.1 (aR.1 this fs h) f hf)
theorem AuQ:Qq ⟨teN,chV⟩:=Vb (by kernel_rfl)
theorem Aoo: ∀ty,ty∈JJ→∀fs,fs∈Rp→EN teN (tyF ty++fs)=[]∧EN clN (tyF ty++fs)=[]∧EN ctN fs=[]:=by
 have:(JJ.all fun ty=>Rp.all fun fs=>(EN teN (tyF ty++fs)).isEmpty&&((EN clN (tyF ty++fs)).isEmpty&&(EN ctN fs).isEmpty))=true:=by kernel_rfl
 intro ty h fs hf;have:=aR.1 (aR.1 this ty h) fs hf;rw[av,av]at this;exact⟨cN.1 this.1,cN.1 this.2.1,cN.1 this.2.2⟩
theorem tyV: ∀ty,ty∈JJ→EN ctN (tyF ty)=if(ty==[])=true then []else [ty]:=by
 have:(JJ.all fun ty=>EN ctN (tyF ty)==if(ty==[])=true then []else [ty])=true:=by kernel_rfl
 intro ty h;simpa using aR.1 this ty h
theorem Ro (n:List UInt8) (a b:List ApiField):EN n (a++b)=EN n a++EN n b:=by simp[EN]
def Aor (N m:Nat):Prop:= ∀n d,n≤m→Dv N (n:Int)=some d→Qq ⟨clN,d⟩∧YY d=((n:Int),true)
def Atb (N:Nat) (P:List UInt8→Prop):Prop:= ∀b E,P b→F6 N b 50=some E→Nl N E 1048576=some (b,0)
theorem AoM:M0 (Ox [50,48,48])=some ⟨1,200,[]⟩∧AAX (Ox [50,48,48]):=⟨by kernel_rfl,fh,fh⟩
def headD (ty:List UInt8) (fs:List ApiField) (last:ApiField):ApiHead:=⟨1,200,tyF ty++fs++[last]⟩
def Aid (f:ApiField):Prop:=f.name=teN∨f.name=clN
theorem Ad3 (hN:1000011≤N) (h200:CE N 200=some [50,48,48]){P:List UInt8→Prop} (hP: ∀b,P b→b.length≤2000) (hL:Aor N 2000) (hE:Atb N P){raw:List UInt8} (hl:raw.length≤9000) (hr:Ath N P raw){h:ApiHead}{n:Nat}{b:List UInt8} (h1:EZ N raw=some (h,(n:Int),0)) (h2:Ig N h (raw.drop n) 1048576=some (b,0)):P b∧∃ty fs last,ty∈JJ∧fs∈Rp∧Aid last∧h=headD ty fs last:=by
 obtain⟨ty,body,fs,c,hty,hb,hfs,hraw⟩:=hr;have hbl:=hP body hb;have htl:ty.length≤30:=(show∀s,s∈JJ→s.length≤30 by decide) _ hty;obtain⟨c4,c5⟩:=Aeb _ hfs;obtain⟨r',e1,F,tail,e2,e3⟩:=Asa (N:=N) (st:=200) h200 fh (ty:=ty) (body:=body) (fs:=fs) c ff ff ff ff ff;rw[hraw]at e1;cases e1;have hFl:(tyF ty).length≤1:=by unfold tyF;split<;>simp
 have hok: ∀f,f∈tyF ty++fs→Qq f:=fun f hf=>(aV.1 hf).elim (AuV ty hty f) (AuC fs hfs f);obtain⟨n1,n2,_⟩:=Aoo ty hty fs hfs;have main: ∀last:ApiField,F=tyF ty++fs++[last]→Qq last→h=headD ty fs last∧raw.drop n=tail:=by
  intro last hF hlast;have hb2:=AaB (N:=N) AoM.1 AoM.2 (F:=F) (fun f hf=>by
   rw[hF]at hf;rcases aV.1 hf with hf|hf;·exact hok f hf
   ·rw[aX.1 hf];exact hlast) (by rw[hF];simp only[ah,ba];omega) tail (by rw[←e2];omega) ff;rw[←e2,h1]at hb2;simp only[ae,aw]at hb2;obtain⟨q1,q2,_⟩:=hb2;refine⟨by rw[q1,hF];rfl,?_⟩;have hn:n=(Md (Ox [50,48,48]::F.map FY)).length+2:=ff;rw[hn,e2,cb];simp[Ba]
 have hd:hdB h:=by obtain⟨_,r,q1,q2⟩:=Zm (N:=N) (l:=raw) ff ff;rw[h1]at q1;cases q1;exact ACi q2.1
 have gets: ∀last:ApiField,h=headD ty fs last→∀nm:List UInt8,nm.length≤100→EN nm (tyF ty++fs)=[]→NY N h nm=some (OW [44,32] (EN nm [last]),decide (((EN nm [last]).length:Int)>0)):=by
  intro last hh nm hnl hv;rw[Ri hd nm ff];unfold ABP;have e:EN nm h.fields=EN nm [last]:=by rw[hh];show EN nm (tyF ty++fs++[last])=_;rw[Ro,hv,bv]
  simp only[e]
 have z1:decide ((200:Int)≥100)=true:=fh;have z2:decide ((200:Int)≤199)=false:=fh;have z3:((200:Int)==204)=false:=fh;have z4:((200:Int)==304)=false:=fh;have z5:decide ((1048576:Int)<0)=false:=fh;cases c
 ·rw[aj fh]at e3;obtain⟨d,d1,d2,d3⟩:=e3;obtain⟨k1,k2⟩:=hL body.length d hbl d1;obtain⟨m1,m2⟩:=main ⟨clN,d⟩ d2 k1;refine⟨?_,ty,fs,⟨clN,d⟩,hty,hfs,.inr rfl,m1⟩;have g1:=gets _ m1 teN fh n1;have g2:=gets _ m1 clN fh n2;have v1:EN teN [(⟨clN,d⟩:ApiField)]=[]:=rfl;have v2:EN clN [(⟨clN,d⟩:ApiField)]=[d]:=rfl;rw[v1]at g1;rw[v2]at g2;have hst:h.status=200:=by rw[m1];rfl
  have hdl:d.length≤10:=by obtain⟨d',q1,q2⟩:=TP (N:=N) (n:=body.length) ff ff;rw[d1]at q1;cases q1;exact q2
  unfold teN at g1;unfold clN at g2;rw[m2,d3]at h2;unfold Ig at h2;have hlen:Ol N d=some ((body.length:Int),true):=by rw[AVZ ff ff,k2]
  have j1:OW [44,32] [d]=d:=by simp[OW,MZ]
  have j0:decide (((([]:List (List UInt8)).length:Int))>0)=false:=fh;have j2:decide (((([d]:List (List UInt8)).length:Int))>0)=true:=fg;rw[j0]at g1;rw[j1,j2]at g2;have w1:wr .u64 (1048576:Int)=1048576:=fh;have w2:wr .u64 (body.length:Int)=(body.length:Int):=Ff ff;have y1:decide ((body.length:Int)>1048576)=false:=aN ff;have y2:decide ((body.length:Int)<(body.length:Int))=false:=aN ff;have y3:sub body 0 (body.length:Int)=some body:=by have:=A8 body 0 body.length ff ff;rwa[aJ,be,cL]at this
  simp only[AB,hst,z1,z2,z3,z4,z5,g1,g2,aa,al,aB,aC,hlen,w1,w2,y1,y2,y3]at h2;cases h2;exact hb
 ·rw[ap rfl]at e3;obtain⟨d2,d3⟩:=e3;obtain⟨m1,m2⟩:=main ⟨teN,chV⟩ d2 AuQ;refine⟨?_,ty,fs,⟨teN,chV⟩,hty,hfs,.inl rfl,m1⟩;have g1:=gets _ m1 teN fh n1;have g2:=gets _ m1 clN fh n2;have v1:EN teN [(⟨teN,chV⟩:ApiField)]=[chV]:=rfl;have v2:EN clN [(⟨teN,chV⟩:ApiField)]=[]:=rfl;rw[v1]at g1;rw[v2]at g2;have hst:h.status=200:=by rw[m1];rfl
  unfold teN at g1;unfold clN at g2;rw[m2]at h2;unfold Ig at h2;have j1:OW [44,32] [chV]=chV:=by simp[OW,MZ]
  have j0:decide (((([]:List (List UInt8)).length:Int))>0)=false:=fh;have j2:decide (((([chV]:List (List UInt8)).length:Int))>0)=true:=fh;rw[j1,j2]at g1;rw[j0]at g2;have hlow:GL N chV=some chV:=by rw[Om _ fh];rfl
  have hbq:(chV==([99,104,117,110,107,101,100]:List UInt8))=true:=fh;simp only[AB,hst,z1,z2,z3,z4,z5,g1,g2,aa,al,aB,aC,hlow,hbq,bL,hE body tail hb d3,(by decide:((0:Int) !=0)=false)]at h2;cases h2;exact hb
end
end Go.VM
namespace Go.VM
section
def Asd:List UInt8:=[97,99,99,116,58,98,111,98,64,98,46,101,120,97,109,112,108,101]
def ASA:ApiID:=ApiID.mk 1 Asd [98,46,101,120,97,109,112,108,101] 0
def AuL:ApiValue:=ApiValue.mk 0 [] [] []
def rdT (N:Nat) (b:List UInt8) (d:ApiDID):Option (ApiValue×Int):=Option.bind (Jn N b) fun y11=>if(y11.2.2 !=0)=true then some ((ApiValue.mk 0 [] [] []),y11.2.2) else Option.bind (Ep N y11.1) fun y13=>if(y13.2 !=0)=true then some ((ApiValue.mk 0 [] [] []),y13.2) else Option.bind (Eo N d) fun y15=>Option.bind (Q8 N y13.1.iD y15) fun y17=>if y17=true then some (y11.1,0) else some ((ApiValue.mk 0 [] [] []),280)
def AAY:List UInt8→(List UInt8→Bool)→Bool |[],k=>k []| x::t,k=>match x.toNat with |0=>AAY t fun t'=>k (0::t')|n+1=>AAY t fun t'=>k (UInt8.ofNat (n+1)::t')
theorem XR: ∀(l:List UInt8) (k:List UInt8→Bool),AAY l k=k l
 |[],k=>rfl
 | x::t,k=>by
  rw[AAY];split;·rename_i h;rw[XR t];have:x=0:=dt.1 h;rw[this]
  ·rename_i n h;rw[XR t,show n+1=x.toNat from h.symm,bY]
def eqI (a b:ApiID):Bool:=a.kind==b.kind&&(a.text==b.text&&(a.host==b.host&&a.port==b.port))
def Zx (N:Nat) (id:ApiID) (d:ApiDID) (b:List UInt8):Bool:=decide (b.length≤2000)&&((match F6 N b 50 with
 |some E=>(match Nl N E 1048576 with|some r=>r.1==b&&r.2==0|none=>false)
 |none=>false)&& (match rdT N b d with
 |some w=>if(w.2 !=0)=true then true else(match Ep N w.1 with
 |some doc=>(match GN N doc.1 id with|some [x]=>eqI x ASA|_=>false)
 |none=>false)
 |none=>false))
def nmD (id:ApiID):List (List UInt8):=[Asd,id.text]
def AmP (a b:ApiURL):Bool:=a.host==b.host&&(a.port==b.port&&(a.path==b.path&&(a.query==b.query&&(a.fragment==b.fragment&&(a.hasQuery==b.hasQuery&&a.hasFrag==b.hasFrag)))))
def AVC (u:ApiURL):Bool:=decide (0≤u.port)&&(decide (u.port≤65535)&&(decide (u.host.length≤1000)&&(decide (u.path.length≤1000)&&(decide (u.query.length≤1000)&&(decide (u.fragment.length≤1000)&&(decide ((KA u).length≤4096)&&(u.fragment==[]&&u.hasFrag==false)))))))
def Ank (N:Nat) (id:ApiID) (ab:List UInt8):Bool:=match EQ N id.text with
 |some x'=>(Ui ab).all fun sv=>match Y7 N ab (nmD id) sv with|some b=>AAY b fun b=>Zx N id x'.1 b|none=>false
 |none=>false
def Ap3 (N:Nat) (p:Nat) (id:ApiID) (d:ApiDID):Bool:=match p with
 | 0=>id.kind==4&&(decide (id.text.length≤1000)&& (match DK N id.text,EQ N id.text,Nq N id with
 | some x,some x',some true=>(match GG N x.1,GG N d,K7 N x'.1 with |some u,some ud,some u'=>AmP u.1 ud.1&&(AmP u.1 u'.1&&(u'.2==0&&(AVC u.1&&(OJ N u.1&&(u.1.host==id.host&&u.1.port==id.port)))))|_,_,_=>false)&&(Zx N id x'.1 AkY&&Zx N id x'.1 Anc)
 |_,_,_=>false))
 |1=>Ank N id id.text
 |_=>Ank N id XB
def Ai4:List (List UInt8):=QP (QP [[100,105,100,58,119,101,98,58]] AK9) [[],[58,117],[58,117,58,98,111,98],[58,97,37,55,101,98]]
def AkV (p:Nat) (t:List UInt8):Bool:=match Ke 1099511627776 t with|some y=>(match DK 1099511627776 y.1.text with|some x=>Ap3 1099511627776 p y.1 x.1|none=>false)|none=>false
def F9 (p i:Nat):Bool:=match Ai4[i]? with|some t=>AkV p t|none=>false
end
end Go.VM
namespace Go.VM
section
theorem AV6{a b:ApiURL} (h:AmP a b=true):a=b:=by unfold AmP at h;simp only[av,a8]at h;obtain⟨h1,h2,h3,h4,h5,h6,h7⟩:=h;cases a;cases b;simp_all
theorem AQ5{u:ApiURL} (h:AVC u=true):KT u∧O5 u=u:=by unfold AVC at h;simp only[av,a8,au]at h;obtain⟨h1,h2,h3,h4,h5,h6,h7,h8,h9⟩:=h;refine⟨⟨⟨⟨h1,h2⟩,ff,ff,ff,ff⟩,h7⟩,?_⟩;unfold O5;cases u;simp_all
def RY (N:Nat) (id:ApiID) (d:ApiDID) (b:List UInt8):Prop:=Zx N id d b=true
theorem ACa{N:Nat}{id:ApiID}{d:ApiDID}{b:List UInt8} (h:RY N id d b):b.length≤2000:=by unfold RY Zx at h;rw[av,au]at h;exact h.1
theorem Ag5{N:Nat}{id:ApiID}{d:ApiDID}:Atb N (RY N id d):=by
 intro b E h hE;unfold RY Zx at h;rw[av,av,hE]at h;obtain⟨_,h,_⟩:=h;simp only at h;split at h;·rename_i r hr;rw[av,a8,a8]at h;rw[hr];obtain⟨e1,e2⟩:=h;cases r;simp only at e1 e2;rw[e1,e2]
 ·cases h
theorem Aqb{a b:ApiID} (h:eqI a b=true):a=b:=by unfold eqI at h;simp only[av,a8]at h;obtain⟨h1,h2,h3,h4⟩:=h;cases a;cases b;simp_all
theorem Agp{N:Nat}{id:ApiID}{d:ApiDID}{b:List UInt8} (h:RY N id d b): ∃w,rdT N b d=some w∧(w.2=0→∃doc,Ep N w.1=some doc∧GN N doc.1 id=some [ASA]):=by
 unfold RY Zx at h;rw[av,av]at h;obtain⟨_,_,h⟩:=h;split at h
 ·rename_i w hw;refine⟨w,hw,fun h0=>?_⟩;rw[h0,aj fh]at h;split at h
  ·rename_i doc hd;refine⟨doc,hd,?_⟩;split at h;·rename_i x hx;rw[hx,Aqb h]
   ·cases h
  ·cases h
 ·cases h
structure IdOk (N:Nat) (id:ApiID) (d:ApiDID):Prop where
  kind:id.kind=4
  len:id.text.length≤1000
  val:Nq N id=some true
  ex: ∃(x x':ApiDID×Int) (u ud:ApiURL×Int),DK N id.text=some x∧EQ N id.text=some x'∧GG N x.1=some u∧GG N d=some ud∧ud.1=u.1∧K7 N x'.1=some (u.1,0)∧KT u.1∧O5 u.1=u.1∧OJ N u.1=true∧(u.1.host=id.host∧u.1.port=id.port)∧
    (∀ab,ab∈[id.text,XB]→ ∀sv,sv∈Ui ab→Ok (Y7 N ab (nmD id) sv) (RY N id x'.1))∧RY N id x'.1 AkY∧RY N id x'.1 Anc
theorem AV3{N:Nat}{id:ApiID}{ab:List UInt8}{x':ApiDID×Int} (hx:EQ N id.text=some x') (h:Ank N id ab=true): ∀sv,sv∈Ui ab→Ok (Y7 N ab (nmD id) sv) (RY N id x'.1):=by
 unfold Ank at h;rw[hx]at h;intro sv hsv;have:=aR.1 h sv hsv;split at this;·rename_i b hbb;rw[XR]at this;exact⟨b,hbb,this⟩
 ·cases this
theorem Amq{N:Nat}{id:ApiID}{d:ApiDID} (h: ∀p,p<3→Ap3 N p id d=true):IdOk N id d:=by
 have hI:=h 1 ff;have hO:=h 2 ff;have h:=h 0 ff;unfold Ap3 at h;simp only at h;rw[av,av,a8,au]at h;obtain⟨h1,h2,h⟩:=h;split at h
 ·rename_i x x' hx hx' hv;rw[av,av]at h;obtain⟨h,hA,hB⟩:=h;refine⟨h1,h2,hv,?_⟩;split at h
  ·rename_i u ud u' hu hud hu';simp only[av,a8]at h;obtain⟨g1,g2,g3,g4,g5,g6,g7⟩:=h;obtain⟨q1,q2⟩:=AQ5 g4;refine⟨x,x',u,ud,hx,hx',hu,hud,(AV6 g1).symm,?_,q1,q2,g5,⟨g6,g7⟩,?_,hA,hB⟩;·rw[hu',AV6 g2,←g3]
   ·intro ab hab;rcases aO.1 hab with e|e;·rw[e];exact AV3 hx' hI
    ·rw[aX.1 e];exact AV3 hx' hO
  ·cases h
 ·cases h
def stB (N:Nat) (st:Nat):Bool:=match CE N (st:Int)with
 |some y=>decide (y.length≤100)&&(((Ox y).all (· !=13))&&(match M0 (Ox y)with|some h=>h.status !=200|none=>false))
 |none=>false
theorem AqC{N st:Nat} (h:stB N st=true):StO N (st:Int):=by
 unfold stB at h;split at h
 ·rename_i y hy;rw[av,av,au]at h;obtain⟨h1,h2,h3⟩:=h;split at h3;·rename_i h0 hs;refine⟨y,h0,hy,h1,⟨by simp[Ox],fun c hc=>?_⟩,hs,by simpa using h3⟩;have:=aR.1 h2 c hc;simpa using this
  ·cases h3
 ·cases h
theorem AnK:Closed 1099511627776 where
  st:=by
    have:([301,302,307,404,410,500,403,204].all fun st=>stB 1099511627776 st)=true:=by kernel_rfl
    intro st hst
    exact AqC (aR.1 this st hst)
  abc:=Adb (N:=1099511627776) (h0:=⟨1,200,[⟨clN,[57]⟩]⟩) (n0:=38) (e0:=0) (by kernel_rfl) (.inr ⟨[],191,by kernel_rfl,fh⟩)
  non:=Adb (N:=1099511627776) (h0:=⟨0,0,[]⟩) (n0:=0) (e0:=191) (by kernel_rfl) (.inl fh)
theorem Auc:Aor 1099511627776 2000:=by
 have:((List.range 2001).all fun n=>match Dv 1099511627776 (n:Int)with|some d=>APG ⟨clN,d⟩&&((YY d).1==(n:Int)&&(YY d).2)|none=>false)=true:=by kernel_rfl
 intro n d hn hd;have:=aR.1 this n (dW.2 ff);rw[hd]at this;simp only[av,a8]at this;obtain⟨h1,h2,h3⟩:=this;refine⟨Vb h1,?_⟩;generalize YY d=z at h2 h3;cases z;simp only at h2 h3;rw[h2,h3]
theorem Asi:CE 1099511627776 200=some [50,48,48]:=by kernel_rfl
theorem Aik: ∀ty,ty∈JJ→∃m b,Nw 1099511627776 ty=some m∧OA 1099511627776 m.1=some b:=by
 have:(JJ.all fun ty=>match Nw 1099511627776 ty with|some m=>(OA 1099511627776 m.1).isSome|none=>false)=true:=by kernel_rfl
 intro ty h;have:=aR.1 this ty h;split at this;·rename_i m hm;obtain⟨b,hb⟩:=cf.1 this;exact⟨m,b,hm,hb⟩
 ·cases this
theorem AqK: ∀fs,fs∈Rp→∃f,KY 1099511627776 ⟨1,200,fs⟩=some f:=by
 have:(Rp.all fun fs=>(KY 1099511627776 ⟨1,200,fs⟩).isSome)=true:=by kernel_rfl
 intro fs h;exact cf.1 (aR.1 this fs h)
end
end Go.VM
namespace Go.VM
section
theorem AuG: ∀ty,ty∈JJ→EN ccN (tyF ty)=[]∧EN agN (tyF ty)=[]:=by
 have:(JJ.all fun ty=>(EN ccN (tyF ty)).isEmpty&&(EN agN (tyF ty)).isEmpty)=true:=by kernel_rfl
 intro ty h;have:=aR.1 this ty h;rw[av]at this;exact⟨cN.1 this.1,cN.1 this.2⟩
theorem Ags{f:ApiField} (h:Aid f):EN ccN [f]=[]∧EN agN [f]=[]∧EN ctN [f]=[]:=by obtain⟨nm,v⟩:=f;rcases h with h|h<;>(simp only at h;subst h;exact⟨rfl,rfl,rfl⟩)
theorem AJg{h:ApiHead}{nm:List UInt8}{xs:List (List UInt8)} (e:EN nm h.fields=xs):ABP h nm=(OW [44,32] xs,decide ((xs.length:Int)>0)):=by unfold ABP;simp only[e]
theorem AUk{ty:List UInt8}{fs:List ApiField}{last:ApiField} (hty:ty∈JJ) (hfs:fs∈Rp) (hl:Aid last) (hF:Fok 16384 (headD ty fs last).fields): ∃f,KY 1099511627776 (headD ty fs last)=some f:=by
 obtain⟨f,hf⟩:=AqK fs hfs;obtain⟨t1,t2⟩:=AuG ty hty;obtain⟨l1,l2,_⟩:=Ags hl;have hd:=ACi hF;obtain⟨c4,c5⟩:=Aeb _ hfs;have hd2:hdB ⟨1,200,fs⟩:=ACi (h:=⟨1,200,fs⟩) ⟨by simp only;omega,by simp only;omega⟩;have g: ∀nm:List UInt8,nm.length≤100→EN nm (tyF ty)=[]→EN nm [last]=[]→KX 1099511627776 (headD ty fs last) nm=KX 1099511627776 ⟨1,200,fs⟩ nm:=by intro nm hn e1 e2;rw[VP hd nm ff,VP hd2 nm ff,AJg (xs:=EN nm fs),AJg (h:=⟨1,200,fs⟩) rfl];show EN nm (tyF ty++fs++[last])=EN nm fs;rw[Ro,Ro,e1,e2,bv,bf]
 refine⟨f,?_⟩;rw[←hf];have g1:=g ccN fh t1 l1;have g2:=g agN fh t2 l2;unfold ccN at g1;unfold agN at g2;unfold KY;rw[g1,g2]
theorem AZy{l:List ApiAnswer}{id:ApiID}{d:ApiDID} (hW: ∀a,a∈l→WR 1099511627776 (RY 1099511627776 id d) a.raw){h:ApiHead}{b:List UInt8} (hs:AnL 1099511627776 l h b) (hF:Fok 16384 h.fields) (u:ApiURL) (tr:List ApiExchange):∃w,Gs 1099511627776 ⟨u,h,b,tr⟩ d=some w∧(w.2=0→(∃doc,Ep 1099511627776 w.1=some doc∧GN 1099511627776 doc.1 id=some [ASA])∧∃f,KY 1099511627776 h=some f):=by
 obtain⟨a,n,ha,h1,hred,h2⟩:=hs;obtain⟨hl,hW⟩:=hW a ha;by_cases h200:h.status=200
 ·rcases hW with hD|hO
  ·obtain⟨hb,ty,fs,last,hty,hfs,hlast,hh⟩:=Ad3 ff Asi (fun b=>ACa) Auc Ag5 hl hD h1 h2;have hd:=ACi hF;have hfr: ∃f,KY 1099511627776 h=some f:=by rw[hh]at hF⊢;exact AUk hty hfs hlast hF
   have hv:EN ctN h.fields=if(ty==[])=true then []else [ty]:=by rw[hh];show EN ctN (tyF ty++fs++[last])=_;rw[Ro,Ro,tyV ty hty,(Aoo ty hty fs hfs).2.2,(Ags hlast).2.2,bf,bf]
   have hg:=VP hd ctN fh (N:=1099511627776);rw[AJg hv]at hg;unfold ctN at hg;obtain⟨w,w1,w2⟩:=Agp hb;have bad: ∃w,some (AuL,(200:Int))=some w∧(w.2=0→(∃doc,Ep 1099511627776 w.1=some doc∧GN 1099511627776 doc.1 id=some [ASA])∧∃f,KY 1099511627776 h=some f):=⟨_,rfl,fun h=>absurd h fh⟩;have good: ∃w,rdT 1099511627776 b d=some w∧(w.2=0→(∃doc,Ep 1099511627776 w.1=some doc∧GN 1099511627776 doc.1 id=some [ASA])∧∃f,KY 1099511627776 h=some f):=⟨w,w1,fun h=>⟨w2 h,hfr⟩⟩;have hst:(h.status==200)=true:=by rw[h200];rfl
   unfold Gs;simp only[hst,aB,hg,aa,AB];cases hte:(ty==([]:List UInt8))
   ·simp only[hte,al,aC];have j1:OW [44,32] [ty]=ty:=by simp[OW,MZ]
    have j2:decide ((([ty]:List (List UInt8)).length:Int)>0)=true:=fg;rw[j1,j2];obtain⟨m,c,m1,m2⟩:=Aik ty hty;rw[m1,aa,ap rfl];cases hm:(m.2 !=0)
    ·rw[aj fh,m2,aa];cases c;·simp only[bI,aB];exact bad
     ·simp only[bL,al,aC];exact good
    ·simp only[aB];exact bad
   ·simp only[hte,aB];have j2:decide ((([]:List (List UInt8)).length:Int)>0)=false:=fh;obtain⟨m,c,m1,m2⟩:=Aik [] fh;rw[j2,show OW [44,32] []=[]from rfl,m1,aa];simp only[al,aC,aB];exact bad
  ·exact absurd h200 (hO h n b h1 (by simpa using h2))
 ·have hst:(h.status==200)=false:=by simpa using h200
  unfold Gs;simp only[hst,al,aC,AB];cases (h.status==404)<;>cases (h.status==410)<;>simp only[aB,aC,al]<;>exact⟨_,rfl,fun h=>absurd h fh⟩
theorem AZM{id:ApiID}{d:ApiDID} (hI:IdOk 1099511627776 id d){l:List ApiAnswer} (hl:l.length≤200) (hW: ∀x',EQ 1099511627776 id.text=some x'→∀a,a∈l→WR 1099511627776 (RY 1099511627776 id x'.1) a.raw) (t:Int):∃f e u,Jl 1099511627776 l t id=some (f,e)∧GG 1099511627776 d=some u∧f.trace≠ []∧f.trace.length≤6∧trU u.1 f.trace∧(u.1.host=id.host∧u.1.port=id.port)∧((e≠0∧f.names=[])∨(e=0∧f.subject=id∧f.names=[ASA])):=by
 obtain⟨hk,hlen,hval,x,x',u,ud,q1,q2,q3,q4,q5,q6,q7,q8,q9,q10,_,_,_⟩:=hI;have hWx:=hW x' q2;obtain⟨r,r1,r2,r3,r4⟩:=AUH (N:=1099511627776) (B:=9000) ff (l:=l) ff t (fun a ha=>(hWx a ha).1) ff q7;obtain⟨s1,s2,s3,s4⟩:=r4 q9;rw[q8]at s4;unfold Jl;have hk4:(id.kind !=4)=false:=by rw[hk];rfl
 simp only[AB,hval,aa,aB,hk4,al,aC,q2];unfold KG;simp only[q6,aa,(by decide:((0:Int) !=0)=false),al,aC,r1];cases hr:(r.2 !=0)
 ·have hr0:r.2=0:=by simpa using hr
  obtain⟨w,w1,w2⟩:=AZy hWx (s1 hr0) r3.1 r.1.uRL r.1.trace;simp only[al,aC,w1,aa];cases hw:(w.2 !=0)
  ·have hw0:w.2=0:=by simpa using hw
   obtain⟨⟨doc,d1,d2⟩,f,hf⟩:=w2 hw0;simp only[al,aC,aa,(by decide:((0:Int) !=0)=false),d1,d2,hf];exact⟨_,_,ud,rfl,q4,s2,s3,by rw[q5];exact s4,by rw[q5];exact q10,.inr ⟨rfl,rfl,rfl⟩⟩
  ·simp only[aB,aa,hw];exact⟨_,_,ud,rfl,q4,s2,s3,by rw[q5];exact s4,by rw[q5];exact q10,.inl ⟨by simpa using hw,rfl⟩⟩
 ·simp only[aB,aa,hr];exact⟨_,_,ud,rfl,q4,s2,s3,by rw[q5];exact s4,by rw[q5];exact q10,.inl ⟨by simpa using hr,rfl⟩⟩
end
end Go.VM
