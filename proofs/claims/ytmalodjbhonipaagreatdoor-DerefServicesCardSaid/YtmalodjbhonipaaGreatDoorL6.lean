import Derived.Test.YtmalodjbhonipaaGreatDoorL5
import Derived.Test.YtmalodjbhonipaaGreatDoorRd
import Derived.KernelRfl
set_option linter.unusedVariables false
set_option linter.unusedSimpArgs false
namespace Go.VM
section
variable{N:Nat}
def Iu (e x:Int):Int:=if(e==0)=true then x else e
theorem NQ{e x:Int} (h:x≠0):Iu e x≠0:=by
 unfold Iu;split;·exact h
 ·rename_i k;intro h';rw[h']at k;exact k rfl
theorem K6{e x:Int} (h:e≠0):Iu e x=e:=by unfold Iu;rw[ag (by simpa using h)]
theorem QN (d:ApiDID) (e x:Int):Cg N ⟨d,e⟩ x=some ⟨d,Iu e x⟩:=by unfold Cg Iu;dsimp only;split<;>rfl
theorem IL (d:ApiDID) (e x:Int):Ak N ⟨d,e⟩ x=some ⟨d,Iu e x⟩:=by unfold Ak Iu;dsimp only;split<;>rfl
def Jk (e:Int) (v:ApiValue):Int:=if(v.kind !=5)=true then Iu e 160 else e
def R9 (e:Int) (l:List ApiValue):Int:=l.foldl Jk e
def Mi (e:Int) (m:ApiValue):List ApiValue×Int:=if(m.kind !=6)=true then([],Iu e 160)else if m.items.length>64 then([],Iu e 161)else(m.items,e)
def CL (e:Int) (g:ApiValue×Bool):List ApiValue×Int:=if g.2=true then Mi e g.1 else([],e)
def Kk (e:Int) (m:ApiValue):List (List UInt8)×Int:=if(m.kind==5)=true then([m.text],e)else((Mi e m).1.map (·.text),R9 (Mi e m).2 (Mi e m).1)
def idS (N:Nat) (d:ApiDID) (e:Int) (v:ApiValue):List UInt8×Int:=if((Q7 N d (Ao v [105,100]).1.text).2 !=0)=true then([],Iu (Jk e (Ao v [105,100]).1) 160)else(ABk (Q7 N d (Ao v [105,100]).1.text).1,Jk e (Ao v [105,100]).1)
theorem AIA (e:Int) (m:ApiValue):(Mi e m).1.length≤64:=by
 unfold Mi;split;·simp
 split;·simp
 ·dsimp only;omega
theorem AMN{e:Int}{m:ApiValue} (h:okT m): ∀x,x∈(Mi e m).1→okT x:=by
 unfold Mi;split;·simp
 split;·simp
 ·exact h.sub
theorem Nz (e:Int) (g:ApiValue×Bool):(CL e g).1.length≤64:=by
 unfold CL;split;·exact AIA _ _
 ·simp
theorem Sm{e:Int}{g:ApiValue×Bool} (h:okT g.1): ∀x,x∈(CL e g).1→okT x:=by
 unfold CL;split;·exact AMN h
 ·simp
theorem Rj{d:ApiDID} (k:List (List UInt8)×DiddocDecoder→Option (List (List UInt8)×DiddocDecoder)): ∀(l:List ApiValue) (acc:List (List UInt8)) (e:Int),acc.length+l.length≤1000000→BG N k l acc ⟨d,e⟩=k (acc++l.map (·.text),⟨d,R9 e l⟩)
 |[],acc,e,_=>by rw[BG,cy,aI];rfl
 | v::l,acc,e,h=>by
  simp only[ae]at h;rw[BG];refine(Bo (a:=(⟨d,Jk e v⟩:DiddocDecoder)) fun k=>?_).trans ?_
  ·unfold Jk;split;·rw[QN,aa]
   ·rfl
  ·rw[AU (Lg eT eT),Rj k l _ _ eW];simp[R9]
theorem OG (d:ApiDID) (e:Int) (l:List ApiValue) (h:l.length≤1000):Bz N ⟨d,e⟩ l=some (l.map (·.text),⟨d,R9 e l⟩):=by unfold Bz;rw[AB,BR eT,Rj _ _ _ _ eW];rfl
theorem SL (d:ApiDID) (e:Int) (v:ApiValue) (key:List UInt8) (h:v.keys.length≤900000):Bq N ⟨d,e⟩ v key=some ((Ao v key).1.text,⟨d,Jk e (Ao v key).1⟩):=by unfold Bq;rw[Sb v key h,aa,OG _ _ _ eU,aa];rfl
theorem AII (d:ApiDID) (e:Int) (m:ApiValue):D5 N ⟨d,e⟩ m=some ((Mi e m).1,⟨d,(Mi e m).2⟩):=by
 unfold D5 Mi;split;·rw[QN];rfl
 ·split;·rename_i h;rw[QN,ah (by simp only[al]at h;omega)];rfl
  ·rename_i h;rw[ag (by simp only[al]at h;omega)]
theorem UH (d:ApiDID) (e:Int) (v:ApiValue) (key:List UInt8) (h:v.keys.length≤900000):Da N ⟨d,e⟩ v key=some ((CL e (Ao v key)).1,⟨d,(CL e (Ao v key)).2⟩):=by
 unfold Da CL;rw[Sb v key h,aa];split;·rw[AII];rfl
 ·rfl
theorem XK (d:ApiDID) (e:Int) (m:ApiValue):BQ N ⟨d,e⟩ m=some ((Kk e m).1,⟨d,(Kk e m).2⟩):=by
 unfold BQ Kk;split;·rename_i h;rw[OG _ _ _ eU,aa];simp only[R9,bJ,List.foldl_nil,aK,cy,Jk];rw[ag (by simp only[bw]at h;simp[h])]
 ·rw[AII,aa,OG _ _ _ (by have:=AIA e m;dsimp only;omega)];rfl
theorem AMS (d:ApiDID) (e:Int) (v:ApiValue) (hd:d.method.length≤100000∧d.iD.length≤100000) (h:okT v) (hN:20000≤N):Ey N ⟨d,e⟩ v=some ((idS N d e v).1,⟨d,(idS N d e v).2⟩):=by
 unfold Ey idS;have l:=VF (N:=N) d (Ao v [105,100]).1.text;obtain⟨l1,l2,l3,l4,l5⟩:=l;rw[SL _ _ _ _ h.keys,aa];dsimp only;rw[AM7 d _ hd (J5 h _).text hN,aa];split;·rw[QN];rfl
 ·rw[AUW _ ⟨eT,eT,eT,eT,eT⟩];rfl
def kTy:List UInt8:=[116,121,112,101]
def kEp:List UInt8:=[115,101,114,118,105,99,101,69,110,100,112,111,105,110,116]
def kCo:List UInt8:=[99,111,110,116,114,111,108,108,101,114]
def kSe:List UInt8:=[115,101,114,118,105,99,101]
def kVm:List UInt8:=[118,101,114,105,102,105,99,97,116,105,111,110,77,101,116,104,111,100]
def kAk:List UInt8:=[97,108,115,111,75,110,111,119,110,65,115]
def Hy (N:Nat) (d:ApiDID) (e:Int) (v:ApiValue):ApiService×Int:=if((Ao v kEp).1.kind !=7)=true then (⟨(idS N d e v).1,(Kk (idS N d e v).2 (Ao v kTy).1).1,(Kk (Kk (idS N d e v).2 (Ao v kTy).1).2 (Ao v kEp).1).1⟩,(Kk (Kk (idS N d e v).2 (Ao v kTy).1).2 (Ao v kEp).1).2) else(⟨(idS N d e v).1,(Kk (idS N d e v).2 (Ao v kTy).1).1,[]⟩,(Kk (idS N d e v).2 (Ao v kTy).1).2)
def KR (N:Nat) (d:ApiDID) (e:Int) (v:ApiValue):ApiMethod×Int:=(⟨(idS N d e v).1,(Ao v kTy).1.text,(Ao v kCo).1.text⟩,Jk (Jk (idS N d e v).2 (Ao v kTy).1) (Ao v kCo).1)
theorem ANP (d:ApiDID) (e:Int) (v:ApiValue) (hd:d.method.length≤100000∧d.iD.length≤100000) (h:okT v) (hN:20000≤N):ED N ⟨d,e⟩ v=some ((Hy N d e v).1,⟨d,(Hy N d e v).2⟩):=by
 unfold ED Hy;rw[AMS d e v hd h hN,aa,Sb v _ h.keys,aa];dsimp only;rw[XK,aa,AB,Sb v _ h.keys,aa];dsimp only;change (if((Ao v kEp).1.kind !=7)=true then _ else _)=_;split;·change Option.bind (BQ N ⟨d,_⟩ (Ao v kEp).1) _=_;rw[XK];rfl
 ·rfl
theorem Kb (d:ApiDID) (e:Int) (v:ApiValue) (key:List UInt8) (h:v.keys.length≤900000):Db N ⟨d,e⟩ v key=some ((Ao v key).1.text,⟨d,Jk e (Ao v key).1⟩):=by
 unfold Db Jk;rw[N7 v key eT,aa,AB];split;·rw[IL];rfl
 ·rfl
def O3 (e:Int) (g:ApiValue×Bool) (b:Bool):List (List UInt8)×Int:=if g.2=true then(if(b&&(g.1.kind==5))=true then([g.1.text],e)else((Mi e g.1).1.map (·.text),R9 (Mi e g.1).2 (Mi e g.1).1))else([],e)
theorem U3{d:ApiDID} (k:List (List UInt8)×Ref17Reader→Option (List (List UInt8)×Ref17Reader)): ∀(l:List ApiValue) (acc:List (List UInt8)) (e:Int),acc.length+l.length≤1000000→BD N k l acc ⟨d,e⟩=k (acc++l.map (·.text),⟨d,R9 e l⟩)
 |[],acc,e,_=>by rw[BD,cy,aI];rfl
 | v::l,acc,e,h=>by
  simp only[ae]at h;rw[BD];refine(Bo (a:=(⟨d,Jk e v⟩:Ref17Reader)) fun k=>?_).trans ?_
  ·unfold Jk;split;·rw[IL,aa]
   ·rfl
  ·rw[AU (Lg eT eT),U3 k l _ _ eW];simp[R9]
theorem SG (d:ApiDID) (e:Int) (v:ApiValue) (key:List UInt8) (b:Bool) (h:v.keys.length≤900000):BB N ⟨d,e⟩ v key b=some ((O3 e (Ao v key) b).1,⟨d,(O3 e (Ao v key) b).2⟩):=by
 unfold BB O3;rw[N7 v key eT,aa];split
 ·refine(Bo (a:=b&&((Ao v key).1.kind==5)) fun k=>by cases b<;>rfl).trans ?_;split;·rfl
  ·unfold Mi;split;·rw[IL];rfl
   ·split;·rename_i h;rw[IL,ah (by simp only[al]at h;omega)];rfl
    ·rename_i h;rw[ag (by simp only[al]at h;omega),AB,BR (by simp only[al]at h;omega),U3 _ _ _ _ (by simp only[al]at h;simp;omega)];rfl
 ·rfl
theorem AHR (d:ApiDID) (e:Int) (v:ApiValue) (key:List UInt8) (h:v.keys.length≤900000):CE N ⟨d,e⟩ v key=some ((CL e (Ao v key)).1,⟨d,(CL e (Ao v key)).2⟩):=by
 unfold CE CL Mi;rw[N7 v key eT,aa];split
 ·split;·rw[IL];rfl
  ·split;·rename_i h;rw[IL,ah (by simp only[al]at h;omega)];rfl
   ·rename_i h;rw[ag (by simp only[al]at h;omega)]
 ·rfl
theorem AEa (d:ApiDID) (e:Int) (v:ApiValue) (hd:d.method.length≤100000∧d.iD.length≤100000) (h:okT v) (hN:20000≤N):Fb N ⟨d,e⟩ v=some ((idS N d e v).1,⟨d,(idS N d e v).2⟩):=by
 unfold Fb idS;have l:=VF (N:=N) d (Ao v [105,100]).1.text;obtain⟨l1,l2,l3,l4,l5⟩:=l;rw[Kb _ _ _ _ h.keys,aa];dsimp only;rw[APq d _ hd (J5 h _).text hN,aa];split;·rw[IL];rfl
 ·rw[ATy _ ⟨eT,eT,eT,eT,eT⟩];rfl
theorem RY: ∀(ks:List (List UInt8)) (xs:List ApiValue) (key:List UInt8),(MJ ks xs key).2=false→(MJ ks xs key).1=zeroV
 |[],_,_,_=>by unfold MJ;rfl
 |_::_,[],_,_=>by unfold MJ;rfl
 | k::ks,x::xs,key,h=>by
  unfold MJ at h⊢;split;·rename_i hk;rw[ah hk]at h;cases h
  ·rename_i hk;rw[ag hk]at h;exact RY ks xs key h
theorem RB{v:ApiValue}{key:List UInt8} (h:(Ao v key).2=false):(Ao v key).1=zeroV:=by
 unfold Ao at h⊢;split;·rename_i k;rw[ah k]at h;exact RY _ _ _ h
 ·rfl
theorem ANJ (e:Int):Kk e zeroV=([],Iu e 160):=by unfold Kk Mi zeroV;rfl
theorem Ka{e:Int} (h:e≠0) (v:ApiValue):Jk e v=e:=by unfold Jk;split;exact K6 h;rfl
theorem WA{e:Int} (h:e≠0): ∀l:List ApiValue,R9 e l=e |[]=>rfl|v::l=>by unfold R9;rw[bJ,Ka h];exact WA h l
theorem AG4{e:Int} (h:e≠0) (m:ApiValue):(Mi e m).2=e:=by
 unfold Mi;split;·exact K6 h
 split;·exact K6 h
 ·rfl
theorem AFd{e:Int} (h:e≠0) (g:ApiValue×Bool):(CL e g).2=e:=by
 unfold CL;split;·exact AG4 h _
 ·rfl
theorem Ma{e:Int} (h:e≠0) (m:ApiValue):(Kk e m).2=e:=by
 unfold Kk;split;·rfl
 ·dsimp only;rw[AG4 h,WA h]
theorem ADB{e:Int} (h:e≠0) (d:ApiDID) (v:ApiValue):(idS N d e v).2=e:=by
 unfold idS;split;·dsimp only;rw[Ka h,K6 h]
 ·dsimp only;rw[Ka h]
theorem WL{e:Int} (h:e≠0) (d:ApiDID) (v:ApiValue):(Hy N d e v).2=e:=by
 have h1:(idS N d e v).2≠0:=by rw[ADB h];exact h
 have h2:(Kk (idS N d e v).2 (Ao v kTy).1).2≠0:=by rw[Ma h1];exact h1
 unfold Hy;split;·dsimp only;rw[Ma h2,Ma h1,ADB h]
 ·dsimp only;rw[Ma h1,ADB h]
theorem AHu{e:Int} (h:e≠0) (d:ApiDID) (v:ApiValue):(KR N d e v).2=e:=by
 have h1:(idS N d e v).2≠0:=by rw[ADB h];exact h
 unfold KR;dsimp only;rw[Ka (by rw[Ka h1];exact h1),Ka h1,ADB h]
theorem APv{v:ApiValue} (h:(v.kind !=7)=true) (key:List UInt8):Ao v key=(zeroV,false):=by unfold Ao;rw[ag (by simp only[dO,dp]at h;simp[h])]
theorem Sc{v:ApiValue} (h:(v.kind !=7)=true) (d:ApiDID) (e:Int):(idS N d e v).2=Iu e 160:=by
 have k:Jk e zeroV=Iu e 160:=rfl;unfold idS;rw[APv h];dsimp only;rw[k];split;·exact K6 (NQ eV)
 ·rfl
def KO (N:Nat) (d:ApiDID) (e:Int) (v:ApiValue):ApiService×Int:=if(v.kind !=7)=true then(⟨[],[],[]⟩,Iu e 160)else Hy N d e v
def Jb (N:Nat) (d:ApiDID) (e:Int) (v:ApiValue):ApiMethod×Int:=if(v.kind !=7)=true then(⟨[],[],[]⟩,Iu e 160)else KR N d e v
theorem AH3 (e:Int) (g:ApiValue×Bool) (h:g.2=true):O3 e g true=Kk e g.1:=by unfold O3 Kk;rw[ah h];rfl
theorem AQI (d:ApiDID) (e:Int) (v:ApiValue) (hd:d.method.length≤100000∧d.iD.length≤100000) (h:okT v) (hN:20000≤N):Eu N ⟨d,e⟩ v=some ((KO N d e v).1,⟨d,(KO N d e v).2⟩):=by
 unfold Eu KO;split;·rw[IL];rfl
 rw[AEa d e v hd h hN,aa];unfold Hy;dsimp only;generalize idS N d e v=I;have key: ∀(e:Int) (key:List UInt8) (k:Ref17Reader→Option (ApiService×Ref17Reader)) (R:List (List UInt8)×Int→Option (ApiService×Ref17Reader)),(∀e',k ⟨d,e'⟩=R (O3 e' (Ao v key) true))→(if(Ao v key).2=true then k ⟨d,e⟩else Option.bind (Ak N ⟨d,e⟩ 160) fun y=>k y)=R (Kk e (Ao v key).1):=by
  intro e key k R hk;cases hg:(Ao v key).2;·rw[ag eV,IL,aa,hk,RB hg,ANJ];unfold O3;rw[hg];rfl
  ·rw[ah rfl,hk,AH3 _ _ hg]
 rw[AB,N7 v _ (by have:=h.keys;omega),aa];refine(key I.2 kTy _ (fun r=>Option.bind (F4 N v kEp) fun y15=>AA (fun j17:Ref17Reader=>AA (fun j23:List (List UInt8)×Ref17Reader=>some (ApiService.mk I.1 r.1 j23.1,j23.2)) fun k24=>if(y15.1.kind !=7)=true then Option.bind (BB N j17 v kEp true) fun y27=>k24 (y27.1,y27.2)else k24 ([],j17)) fun k18=>if y15.2=true then k18 ⟨d,r.2⟩else Option.bind (Ak N ⟨d,r.2⟩ 160) fun y21=>k18 y21) fun e'=>?_).trans ?_;·rw[show([116,121,112,101]:List UInt8)=kTy from rfl,SG d e' v kTy true h.keys,aa];rfl
 ·rw[N7 v kEp (by have:=h.keys;omega),aa];simp only[AB];generalize Kk I.2 (Ao v kTy).1=S;by_cases hk:((Ao v kEp).1.kind !=7)=true;·simp only[ah hk];refine(key S.2 kEp _ (fun r=>some (ApiService.mk I.1 S.1 r.1,⟨d,r.2⟩)) fun e'=>?_).trans rfl;rw[SG d e' v kEp true h.keys,aa]
  ·simp only[ag hk];cases hg:(Ao v kEp).2;·rw[RB hg]at hk;exact absurd rfl hk
   ·rw[ah rfl]
theorem AUn (d:ApiDID) (e:Int) (v:ApiValue) (hd:d.method.length≤100000∧d.iD.length≤100000) (h:okT v) (hN:20000≤N):Ez N ⟨d,e⟩ v=some ((Jb N d e v).1,⟨d,(Jb N d e v).2⟩):=by
 unfold Ez Jb;split;·rw[IL];rfl
 rw[AEa d e v hd h hN,aa,Kb _ _ _ _ h.keys,aa,Kb _ _ _ _ h.keys];rfl
def eqE{α:Type} (a b:α×Int):Prop:=a.2=b.2∧(a.2=0→a.1=b.1)
theorem AMn (d:ApiDID){e:Int} (v:ApiValue):eqE (Hy N d e v) (KO N d e v):=by
 unfold KO;split
 ·rename_i h;have h1:(Hy N d e v).2=Iu e 160:=by
   have k1:(idS N d e v).2≠0:=by rw[Sc h];exact NQ eV
   have k2:(Kk (idS N d e v).2 (Ao v kTy).1).2≠0:=by rw[Ma k1];exact k1
   unfold Hy;split;·dsimp only;rw[Ma k2,Ma k1,Sc h]
   ·dsimp only;rw[Ma k1,Sc h]
  exact⟨h1,fun k=>absurd (h1.symm.trans k) (NQ eV)⟩
 ·exact⟨rfl,fun _=>rfl⟩
theorem AOY (d:ApiDID){e:Int} (v:ApiValue):eqE (KR N d e v) (Jb N d e v):=by
 unfold Jb;split
 ·rename_i h;have h1:(KR N d e v).2=Iu e 160:=by
   have k1:(idS N d e v).2≠0:=by rw[Sc h];exact NQ eV
   unfold KR;dsimp only;rw[Ka (by rw[Ka k1];exact k1),Ka k1,Sc h]
  exact⟨h1,fun k=>absurd (h1.symm.trans k) (NQ eV)⟩
 ·exact⟨rfl,fun _=>rfl⟩
def Ht{α:Type} (f:Int→ApiValue→α×Int) (l:List ApiValue) (e:Int) (acc:List α):List α×Int:=l.foldl (fun s v=>(s.1++[(f s.2 v).1],(f s.2 v).2)) (acc,e)
theorem XM{α:Type}{f g:Int→ApiValue→α×Int} (h: ∀e v,eqE (f e v) (g e v)) (hf: ∀e v,e≠0→(f e v).2=e): ∀(l:List ApiValue) (a b:List α) (e:Int),(e=0→a=b)→eqE (Ht f l e a) (Ht g l e b)
 |[],a,b,e,k=>⟨rfl,k⟩
 | v::l,a,b,e,k=>by
  unfold Ht;rw[bJ,bJ];obtain⟨h1,h2⟩:=h e v;rw[←h1];refine XM h hf l _ _ _ fun k2=>?_;have e0:e=0:=by
   rcases di (e=0)with h0|h0;·exact h0
   ·rw[hf e v h0]at k2;exact absurd k2 h0
  rw[k e0,h2 k2]
theorem AFi{α:Type}{f:Int→ApiValue→α×Int} (hf: ∀e v,e≠0→(f e v).2=e){e:Int} (h:e≠0): ∀(l:List ApiValue) (acc:List α),(Ht f l e acc).2=e |[],_=>rfl| v::l,acc=>by unfold Ht;rw[bJ,hf e v h];exact AFi hf h l _
theorem AQ8{e:Int}{g:ApiValue×Bool} (h:(CL e g).2=0):e=0:=by
 rcases di (e=0)with k|k;·exact k
 ·rw[AFd k]at h;exact absurd h k
theorem APa{α:Type}{f:Int→ApiValue→α×Int} (hf: ∀e v,e≠0→(f e v).2=e){M:Int}{g:ApiValue×Bool}{l:List ApiValue}{acc:List α} (h:(Ht f l (CL M g).2 acc).2=0):M=0:=by
 rcases di ((CL M g).2=0)with k|k;·exact AQ8 k
 ·rw[AFi hf k]at h;exact absurd h k
theorem AMO{e:Int} (h:e≠0) (d:ApiDID) (v:ApiValue):(KO N d e v).2=e:=by
 unfold KO;split;·exact K6 h
 ·exact WL h d v
theorem AQS{e:Int} (h:e≠0) (d:ApiDID) (v:ApiValue):(Jb N d e v).2=e:=by
 unfold Jb;split;·exact K6 h
 ·exact AHu h d v
theorem AQf{d:ApiDID} (hd:d.method.length≤100000∧d.iD.length≤100000) (hN:20000≤N) (k:List ApiMethod×DiddocDecoder→Option (ApiDoc×Int)): ∀(l:List ApiValue) (acc:List ApiMethod) (e:Int),(∀x,x∈l→okT x)→acc.length+l.length≤1000→DI N k l acc ⟨d,e⟩=k ((Ht (KR N d) l e acc).1,⟨d,(Ht (KR N d) l e acc).2⟩) |[],acc,e,_,_=>by rw[DI];rfl| v::l,acc,e,h,hl=>by have hv:=h v eU;simp only[ae]at hl;rw[DI,AMS d e v hd hv hN,aa,SL _ _ _ _ hv.keys,aa,SL _ _ _ _ hv.keys,aa,AU (Lg eT eT)];exact AQf hd hN k l (acc++[(KR N d e v).1]) (KR N d e v).2 (fun x AO=>h x (by simp[AO])) eW
theorem AMK{d:ApiDID} (hd:d.method.length≤100000∧d.iD.length≤100000) (hN:20000≤N) (k:List ApiService×DiddocDecoder→Option (ApiDoc×Int)): ∀(l:List ApiValue) (acc:List ApiService) (e:Int),(∀x,x∈l→okT x)→acc.length+l.length≤1000→DC N k l acc ⟨d,e⟩=k ((Ht (Hy N d) l e acc).1,⟨d,(Ht (Hy N d) l e acc).2⟩) |[],acc,e,_,_=>by rw[DC];rfl| v::l,acc,e,h,hl=>by have hv:=h v eU;simp only[ae]at hl;rw[DC,AB,ANP d e v hd hv hN,aa,AU (Lg eT eT)];exact AMK hd hN k l (acc++[(Hy N d e v).1]) (Hy N d e v).2 (fun x AO=>h x (by simp[AO])) eW
theorem AQH{d:ApiDID} (hd:d.method.length≤100000∧d.iD.length≤100000) (hN:20000≤N) (k:List ApiMethod×Ref17Reader→Option (ApiDoc×Int)): ∀(l:List ApiValue) (acc:List ApiMethod) (e:Int),(∀x,x∈l→okT x)→acc.length+l.length≤1000→Cv N k l acc ⟨d,e⟩=k ((Ht (Jb N d) l e acc).1,⟨d,(Ht (Jb N d) l e acc).2⟩) |[],acc,e,_,_=>by rw[Cv];rfl| v::l,acc,e,h,hl=>by have hv:=h v eU;simp only[ae]at hl;rw[Cv,AB,AUn d e v hd hv hN,aa,AU (Lg eT eT)];exact AQH hd hN k l (acc++[(Jb N d e v).1]) (Jb N d e v).2 (fun x AO=>h x (by simp[AO])) eW
theorem AP4{d:ApiDID} (hd:d.method.length≤100000∧d.iD.length≤100000) (hN:20000≤N) (k:List ApiService×Ref17Reader→Option (ApiDoc×Int)): ∀(l:List ApiValue) (acc:List ApiService) (e:Int),(∀x,x∈l→okT x)→acc.length+l.length≤1000→Cy N k l acc ⟨d,e⟩=k ((Ht (KO N d) l e acc).1,⟨d,(Ht (KO N d) l e acc).2⟩) |[],acc,e,_,_=>by rw[Cy];rfl| v::l,acc,e,h,hl=>by have hv:=h v eU;simp only[ae]at hl;rw[Cy,AB,AQI d e v hd hv hN,aa,AU (Lg eT eT)];exact AP4 hd hN k l (acc++[(KO N d e v).1]) (KO N d e v).2 (fun x AO=>h x (by simp[AO])) eW
def ACj:ApiDoc:=⟨[],[],[],[],[]⟩
def QV (v:ApiValue):List (List UInt8)×Int:=((CL 0 (Ao v kAk)).1.map (·.text),R9 (CL 0 (Ao v kAk)).2 (CL 0 (Ao v kAk)).1)
def MH (e:Int) (g:ApiValue×Bool):List (List UInt8)×Int:=if g.2=true then Kk e g.1 else([],e)
def R4 (N:Nat) (v:ApiValue):ApiDoc×Int:=
  if(v.kind !=7)=true then(ACj,160)
  else if(Jk 0 (Ao v [105,100]).1 !=0)=true∨((Lu (Ao v [105,100]).1.text).2 !=0)=true then(ACj,160)
  else
    let d:=(Lu (Ao v [105,100]).1.text).1
    let a:=QV v
    let c:=MH a.2 (Ao v kCo)
    let lm:=CL c.2 (Ao v kVm)
    let m:=Ht (KR N d) lm.1 lm.2 []
    let ls:=CL m.2 (Ao v kSe)
    let s:=Ht (Hy N d) ls.1 ls.2 []
    if(s.2 !=0)=true then(ACj,s.2)else(⟨Ii d,a.1,c.1,m.1,s.1⟩,0)
theorem ARq (v:ApiValue) (h:okT v) (hN:20000≤N):IE N v=some (R4 N v):=by
 unfold IE R4;split;·rfl
 have hl:=Sg (Ao v [105,100]).1.text;have hk:=h.keys;rw[SL _ _ _ _ hk,aa];dsimp only;rw[AIF _ (by have:=(J5 h [105,100]).text;omega) hN,aa];refine(Bo (a:=(Jk 0 (Ao v [105,100]).1 !=0)||((Lu (Ao v [105,100]).1.text).2 !=0)) fun k=>by cases (Jk 0 (Ao v [105,100]).1 !=0)<;>rfl).trans ?_;split;·rename_i hc;rw[ah (by simpa using hc)];rfl
 rename_i hc;rw[ag (by simpa using hc)];have e0:Jk 0 (Ao v [105,100]).1=0:=by
  rcases di (Jk 0 (Ao v [105,100]).1=0)with k|k;·exact k
  ·exact absurd (by simp[k]) hc
 generalize hd:(Lu (Ao v [105,100]).1.text).1=d at *;have hd':d.method.length≤100000∧d.iD.length≤100000:=⟨eT,eT⟩;rw[QS _ ⟨eT,eT⟩,aa,e0,show([97,108,115,111,75,110,111,119,110,65,115]:List UInt8)=kAk from rfl,UH _ _ _ _ hk,aa];dsimp only;rw[OG _ _ _ (by have:=Nz 0 (Ao v kAk);omega),aa];refine(Bo (a:=((MH (QV v).2 (Ao v kCo)).1,(⟨d,(MH (QV v).2 (Ao v kCo)).2⟩:DiddocDecoder))) fun k=>?_).trans ?_
 ·rw[show([99,111,110,116,114,111,108,108,101,114]:List UInt8)=kCo from rfl,Sb v _ hk,aa];unfold MH;split;·rw[show R9 (CL 0 (Ao v kAk)).2 (CL 0 (Ao v kAk)).1=(QV v).2 from rfl,XK,aa]
  ·rfl
 dsimp only;generalize MH (QV v).2 (Ao v kCo)=C;have ok1:=Sm (e:=C.2) (J5 h kVm);have l1:=Nz C.2 (Ao v kVm);refine(Bo (a:=((Ht (KR N d) (CL C.2 (Ao v kVm)).1 (CL C.2 (Ao v kVm)).2 []).1,(⟨d,(Ht (KR N d) (CL C.2 (Ao v kVm)).1 (CL C.2 (Ao v kVm)).2 []).2⟩:DiddocDecoder))) fun k=>?_).trans ?_;·rw[show([118,101,114,105,102,105,99,97,116,105,111,110,77,101,116,104,111,100]:List UInt8)=kVm from rfl,UH _ _ _ _ hk,aa,BR (by dsimp only;omega),AQf hd' hN k _ _ _ ok1 eW]
 dsimp only;generalize Ht (KR N d) (CL C.2 (Ao v kVm)).1 (CL C.2 (Ao v kVm)).2 []=M;have ok2:=Sm (e:=M.2) (J5 h kSe);have l2:=Nz M.2 (Ao v kSe);refine(Bo (a:=((Ht (Hy N d) (CL M.2 (Ao v kSe)).1 (CL M.2 (Ao v kSe)).2 []).1,(⟨d,(Ht (Hy N d) (CL M.2 (Ao v kSe)).1 (CL M.2 (Ao v kSe)).2 []).2⟩:DiddocDecoder))) fun k=>?_).trans ?_;·rw[show([115,101,114,118,105,99,101]:List UInt8)=kSe from rfl,UH _ _ _ _ hk,aa,BR (by dsimp only;omega),AMK hd' hN k _ _ _ ok2 eW]
 dsimp only;split<;>rfl
theorem APG (e:Int) (g:ApiValue×Bool):O3 e g true=MH e g:=by
 unfold MH;split;·rename_i h;exact AH3 e g h
 ·rename_i h;unfold O3;rw[ag h]
theorem ANT (v:ApiValue):O3 0 (Ao v kAk) false=QV v:=by unfold O3 QV CL;cases (Ao v kAk).2<;>rfl
theorem ASc (v:ApiValue) (h:okT v) (hN:20000≤N):JW N v=some (R4 N v):=by
  unfold JW R4
  split
  · rfl
  have hl:=Sg (Ao v [105,100]).1.text
  have hk:=h.keys
  rw[Kb _ _ _ _ hk,aa]
  dsimp only
  rw[AIK _ (by have:=(J5 h [105,100]).text;omega) hN,aa]
  by_cases AO:((Lu (Ao v [105,100]).1.text).2 !=0)=true
  · rw[ah AO,ah (.inr AO)];rfl
  rw[ag AO]
  generalize hd:(Lu (Ao v [105,100]).1.text).1=d at *
  have hd':d.method.length≤100000∧d.iD.length≤100000:=⟨eT,eT⟩
  have fin: ∀e0:Int,(Option.bind (BB N (Ref17Reader.mk d e0) v kAk false) fun y12=>
      Option.bind (BB N y12.2 v kCo true) fun y14=>
      Option.bind (CE N y14.2 v kVm) fun y20=>
      grd (AL y20.1.length) (Cv N (fun j16=>
        Option.bind (CE N j16.2 v kSe) fun y33=>
        grd (AL y33.1.length) (Cy N (fun j29=>if(j29.2.fail !=0)=true then some (ACj,j29.2.fail)else some (ApiDoc.mk (Ii d) y12.1 y14.1 j16.1 j29.1,(0:Int))) y33.1 [] y33.2)) y20.1 [] y20.2))=
      (let a:=O3 e0 (Ao v kAk) false
       let c:=MH a.2 (Ao v kCo)
       let lm:=CL c.2 (Ao v kVm)
       let m:=Ht (Jb N d) lm.1 lm.2 []
       let ls:=CL m.2 (Ao v kSe)
       let s:=Ht (KO N d) ls.1 ls.2 []
       if(s.2 !=0)=true then some (ACj,s.2)else some (⟨Ii d,a.1,c.1,m.1,s.1⟩,0)):=by
    intro e0
    dsimp only
    rw[SG d e0 v kAk false hk,aa]
    dsimp only
    rw[SG d _ v kCo true hk,aa,APG]
    dsimp only
    generalize MH (O3 e0 (Ao v kAk) false).2 (Ao v kCo)=C
    have ok1:=Sm (e:=C.2) (J5 h kVm)
    have l1:=Nz C.2 (Ao v kVm)
    rw[AHR d _ v kVm hk,aa,BR (by dsimp only;omega),AQH hd' hN _ _ _ _ ok1 eW]
    dsimp only
    generalize Ht (Jb N d) (CL C.2 (Ao v kVm)).1 (CL C.2 (Ao v kVm)).2 []=M
    have ok2:=Sm (e:=M.2) (J5 h kSe)
    have l2:=Nz M.2 (Ao v kSe)
    rw[AHR d _ v kSe hk,aa,BR (by dsimp only;omega),AP4 hd' hN _ _ _ _ ok2 eW]
  simp only[AB]
  rw[QF _ ⟨eT,eT⟩,aa]
  refine(fin (Jk 0 (Ao v [105,100]).1)).trans ?_
  dsimp only
  by_cases he:Jk 0 (Ao v [105,100]).1=0
  · rw[ag (show¬((Jk 0 (Ao v [105,100]).1 !=0)=true∨((Lu (Ao v [105,100]).1.text).2 !=0)=true)from fun k=>k.elim (fun k=>by rw[he]at k;exact absurd k eV) AO),he,ANT]
    have L1:=CL (MH (QV v).2 (Ao v kCo)).2 (Ao v kVm)
    generalize QV v=A
    generalize MH A.2 (Ao v kCo)=C
    obtain⟨m1,m2⟩:=XM (fun e v=>AOY (N:=N) d (e:=e) v) (fun e v he=>AHu he d v) (CL C.2 (Ao v kVm)).1 [] [] (CL C.2 (Ao v kVm)).2 (fun _=>rfl)
    generalize Ht (KR N d) (CL C.2 (Ao v kVm)).1 (CL C.2 (Ao v kVm)).2 []=M at *
    generalize Ht (Jb N d) (CL C.2 (Ao v kVm)).1 (CL C.2 (Ao v kVm)).2 []=R at *
    rw[←m1]
    obtain⟨s1,s2⟩:=XM (fun e v=>AMn (N:=N) d (e:=e) v) (fun e v he=>WL he d v) (CL M.2 (Ao v kSe)).1 [] [] (CL M.2 (Ao v kSe)).2 (fun _=>rfl)
    rw[←s1]
    by_cases hz:((Ht (Hy N d) (CL M.2 (Ao v kSe)).1 (CL M.2 (Ao v kSe)).2 []).2 !=0)=true
    · rw[ah hz,ah hz]
    · have hz':(Ht (Hy N d) (CL M.2 (Ao v kSe)).1 (CL M.2 (Ao v kSe)).2 []).2=0:=by simpa using hz
      rw[ag hz,ag hz,s2 hz',m2 (APa (fun e v he=>WL he d v) hz')]
  · have hne:(Jk 0 (Ao v [105,100]).1 !=0)=true:=by simpa using he
    rw[ah (show(Jk 0 (Ao v [105,100]).1 !=0)=true∨((Lu (Ao v [105,100]).1.text).2 !=0)=true from .inl hne)]
    have h160:Jk 0 (Ao v [105,100]).1=160:=by
      unfold Jk Iu at he⊢;split
      · rfl
      · rename_i k;rw[ag k]at he;exact absurd rfl he
    rw[h160]
    have a1:(O3 160 (Ao v kAk) false).2=160:=by
      unfold O3;split
      · rw[dk,ag eV];dsimp only;rw[AG4 eV,WA eV]
      · rfl
    have c1: ∀g,(MH 160 g).2=160:=fun g=>by unfold MH;split;exact Ma eV _;rfl
    have sq: ∀ {α:Type}{f:Int→ApiValue→α×Int} (hf: ∀e v,e≠0→(f e v).2=e) (l:List ApiValue) (acc:List α),(Ht f l 160 acc).2=160:=fun hf l acc=>AFi hf eV l acc
    rw[a1,c1,AFd eV,sq (fun e v he=>AQS he d v),AFd eV,sq (fun e v he=>AMO he d v),ah eV]
end
end Go.VM
namespace Go.VM
section
variable{N:Nat}
end
end Go.VM
namespace Go.VM
section
variable{N:Nat}
end
end Go.VM
namespace Go.VM
section
variable{N:Nat}
def TP:List UInt8:=[104,116,116,112,115]
theorem ACb:L6 TP:=by unfold L6;decide
def AT0 (u:ApiURL):List UInt8:=[47,47]++(hpF u.host u.port++(Pq u++if u.hasFrag=true then [35]++u.fragment else []))
theorem Y1 (u:ApiURL):Jj u=TP++58::AT0 u:=by unfold Jj AT0 TP;split<;>simp
def eqU (u v:ApiURL):Bool:=u.host==v.host&&(u.port==v.port&&(u.path==v.path&&(u.query==v.query&&(u.fragment==v.fragment&&(u.hasQuery==v.hasQuery&&u.hasFrag==v.hasFrag)))))
def O5 (N:Nat) (u:ApiURL):Bool:=if((ALn N TP (AT0 u)).2==0)=true then eqU u (ALn N TP (AT0 u)).1 else false
theorem Ut (u:ApiURL) (h:OO u) (hb:(Jj u).length≤1000000) (hN:20000≤N):JR N u=some (O5 N u):=by rw[Y1]at hb;unfold JR O5;rw[Py u h eT,aa,Y1,ATA ACb hb hN,aa];split<;>rfl
theorem UU (u:ApiURL) (h:OO u) (hb:(Jj u).length≤1000000) (hN:20000≤N):KI N u=some (O5 N u):=by rw[Y1]at hb;unfold KI O5;rw[QG u h eT,aa,Y1,AUZ ACb hb hN,aa];split<;>rfl
end
end Go.VM
namespace Go.VM
section
variable{N:Nat}
def ADF (b r:List UInt8):List UInt8:=match KP b b.length with|some i=>b.take (i+1)++r|none=>r
def PR (a b:ApiURI):List UInt8:=if(a.hasAuthority&&(a.path==[]))=true then 47::b.path else ADF a.path b.path
theorem AOx (b r:List UInt8):(ADF b r).length≤b.length+r.length:=by
 unfold ADF;split;·rw[aj,bm];omega
 ·omega
theorem Tv (a b:ApiURI):(PR a b).length≤a.path.length+b.path.length+1:=by
 unfold PR;split;·simp
 ·have:=AOx a.path b.path;omega
theorem AI3 (a b:ApiURI) (ha:a.path.length≤100000) (hb:b.path.length≤100000) (hN:1000000≤N):MO N a b=some (if preB [47] b.path=true then b.path else PR a b):=by
 unfold MO PR;rw[Nr,aa];by_cases h:preB [47] b.path=true;·rw[ah h,ah h]
 rw[ag h,ag h];refine(Bo (a:=a.hasAuthority&&(a.path==[])) fun k=>by cases a.hasAuthority<;>rfl).trans ?_;by_cases h2:(a.hasAuthority&&(a.path==[]))=true;·rw[ah h2,ah h2,BR eW];rfl
 rw[ag h2,ag h2,VP _ eT eT,aa];unfold ADF;cases h3:KP a.path a.path.length with | none=>dsimp only;rw[show sub a.path 0 (wr .i64 ((-1:Int)+1))=some []from by rw[show wr .i64 ((-1:Int)+1)=((0:Nat):Int)from rfl,show(0:Int)=((0:Nat):Int)from rfl,Cm _ 0 0 (ao _) (bk _)];simp,aa,BR eW];rfl| some i=>have:=QO h3;dsimp only;rw[show wr .i64 ((i:Int)+1)=((i+1:Nat):Int) by rw[AQ eT];omega,show(0:Int)=((0:Nat):Int)from rfl,Cm _ 0 _ (bk _) eT,aa,aT,bA,BR (by rw[bm];omega)]
theorem Rk{a b:ApiURI} (ha:a.path.length≤100000) (hb:b.path.length≤100000): ∀(n k:Nat),n≤a.path.length→n<k→Dm N a b (fun _=>some b.path) k ((n:Int)-1)=some (match KP a.path n with|some i=>a.path.take (i+1)++b.path|none=>b.path)
 |n,0,_,h=>by omega
 |0,k+1,_,_=>by rw[Dm,ag eV];rfl
 | n+1,k+1,hn,hk=>by
  rw[Dm,ah eU,show((n+1:Nat):Int)-1=(n:Int) by omega,HV,aN eT,aa,b47,KP,aN eT];by_cases h:a.path[n]=47;·rw[aF h,ah rfl,ah (by rw[h]),show wr .i64 ((n:Int)+1)=((n+1:Nat):Int) by rw[AQ eT];omega,show(0:Int)=((0:Nat):Int)from rfl,Cm _ 0 _ (bk _) eT,aa,aT,bA,BR (by rw[bm];omega)]
  ·rw[aO h,ag eV,ag (by simpa using h),AQ eT];exact Rk ha hb n k eT eT
theorem AFo (a b:ApiURI) (ha:a.path.length≤100000) (hb:b.path.length≤100000) (hN:1000000≤N):JF N a b=some (PR a b):=by
 unfold JF PR ADF;refine(Bo (a:=a.hasAuthority&&(a.path==[])) fun k=>by cases a.hasAuthority<;>rfl).trans ?_;by_cases h2:(a.hasAuthority&&(a.path==[]))=true;·rw[ah h2,ah h2,BR eW];rfl
 rw[ag h2,ag h2,AB,AQ eT,Rk ha hb a.path.length N (ao _) eT]
def Um (N:Nat) (a b:ApiURI):ApiURI:=if b.hasScheme=true then⟨b.scheme,b.authority,G7 N b.path [],b.query,b.fragment,b.hasScheme,b.hasAuthority,b.hasQuery,b.hasFrag⟩ else if b.hasAuthority=true then⟨a.scheme,b.authority,G7 N b.path [],b.query,b.fragment,a.hasScheme,b.hasAuthority,b.hasQuery,b.hasFrag⟩ else if(b.path==[])=true then if b.hasQuery=true then⟨a.scheme,a.authority,a.path,b.query,b.fragment,a.hasScheme,a.hasAuthority,b.hasQuery,b.hasFrag⟩ else⟨a.scheme,a.authority,a.path,a.query,b.fragment,a.hasScheme,a.hasAuthority,a.hasQuery,b.hasFrag⟩ else⟨a.scheme,a.authority,G7 N (if preB [47] b.path=true then b.path else PR a b) [],b.query,b.fragment,a.hasScheme,a.hasAuthority,b.hasQuery,b.hasFrag⟩
theorem AUd (a b:ApiURI) (h:a.path.length+b.path.length≤16000) (hN:1000000≤N):J7 N a b=some (Um N a b):=by
 unfold J7 Um;have ml:=Tv a b;dsimp only[AB];cases h1:b.hasScheme;rotate_left;·rw[ah rfl,ah rfl,SE _ eT eT,aa]
 simp only[av,aR];cases h2:b.hasAuthority;rotate_left;·simp only[aE];rw[SE _ eT eT,aa]
 simp only[av,aR];by_cases h3:(b.path==[])=true;·simp only[h3,aE];cases b.hasQuery<;>rfl
 simp only[ag h3];rw[AI3 a b eT eT hN,aa,SE _ eT (by split<;>omega),aa]
theorem AX6{c:UInt8}{t:List UInt8}:preB [47] (c::t)=(c==47):=by unfold preB;simp
theorem AS3 (a b:ApiURI) (h:a.path.length+b.path.length≤16000) (hN:1000000≤N):IJ N a b=some (Um N a b):=by
 unfold IJ Um;have ml:=Tv a b;dsimp only[AB];cases h1:b.hasScheme;rotate_left;·rw[ah rfl,ah rfl,QM _ eT eT,aa]
 simp only[av,aR];cases h2:b.hasAuthority;rotate_left;·simp only[aE];rw[QM _ eT eT,aa]
 simp only[av,aR];by_cases h3:(b.path==[])=true;·simp only[h3,aE];cases b.hasQuery<;>rfl
 simp only[ag h3];rw[AFo a b eT eT hN,aa,QM _ eT eT,aa];cases hp:b.path with
 |nil=>rw[hp]at h3;exact absurd rfl h3
 | cons c t=>
  rw[show idx (c::t) 0=some c from rfl,aa,b47,AX6];by_cases h4:c=47;·rw[aF h4,ah rfl,ah (by simpa using h4),QM _ eT (by rw[←hp];omega),aa]
  ·rw[aO h4,ag eV,ag (by simpa using h4)]
def AE8 (u:ApiURI):List UInt8:=(((((if u.hasScheme=true then u.scheme++[58]else [])++(if u.hasAuthority=true then [47,47]++u.authority else []))++u.path)++(if u.hasQuery=true then [63]++u.query else []))++(if u.hasFrag=true then [35]++u.fragment else []))
def uB (u:ApiURI) (n:Nat):Prop:=u.scheme.length≤n∧u.authority.length≤n∧u.path.length≤n∧u.query.length≤n∧u.fragment.length≤n
theorem P6 (f:Bool) (x y:List UInt8) (d:Bool) (b:List UInt8) (h:b.length+x.length+y.length≤1000000000): ∃d',FU N f [x,y] ⟨d,b⟩=some ⟨d',b++(if f=true then x++y else [])⟩:=by
 unfold FU;rw[BR eU];cases f;·refine⟨d,?_⟩;simp only[Em,AB,av,aR,aI]
 ·refine⟨true,?_⟩;simp only[Em,AB,aE];rw[Qz _ _ _ eT,aa,Qz _ _ _ (by rw[aj];omega),aa,bb]
theorem AJ3 (x:List UInt8) (d:Bool) (b:List UInt8) (h:b.length+x.length≤1000000000):FU N true [x] ⟨d,b⟩=some ⟨true,b++x⟩:=by unfold FU;rw[BR eU];simp only[Em,AB,aE];rw[Qz _ _ _ eT,aa]
theorem WC (u:ApiURI) (h:uB u 1000000):Na N u=some (AE8 u):=by
 obtain⟨h1,h2,h3,h4,h5⟩:=h;unfold Na letL AE8;dsimp only;obtain⟨d1,e1⟩:=P6 (N:=N) u.hasScheme u.scheme [58] false [] eW;rw[e1,aa,ba];generalize hA:(if u.hasScheme=true then u.scheme++[58]else [])=A;have lA:A.length≤1000001:=by rw[←hA];split<;>simp;omega
 obtain⟨d2,e2⟩:=P6 (N:=N) u.hasAuthority [47,47] u.authority d1 A eW;rw[e2,aa];generalize hB:(if u.hasAuthority=true then [47,47]++u.authority else [])=B;have lB:B.length≤1000002:=by rw[←hB];split<;>simp;omega
 rw[AJ3 _ _ _ (by simp only[aj];omega),aa];obtain⟨d3,e3⟩:=P6 (N:=N) u.hasQuery [63] u.query true ((A++B)++u.path) (by simp only[aj,ae,an];omega);rw[e3,aa];generalize hC:(if u.hasQuery=true then [63]++u.query else [])=C;have lC:C.length≤1000001:=by rw[←hC];split<;>simp;omega
 obtain⟨d4,e4⟩:=P6 (N:=N) u.hasFrag [35] u.fragment d3 (((A++B)++u.path)++C) (by simp only[aj,ae,an];omega);rw[e4,aa];rfl
theorem AQh (u:ApiURI) (h:uB u 1000000):LH N u=some (AE8 u):=by
 obtain⟨h1,h2,h3,h4,h5⟩:=h;unfold LH AE8;generalize hA:(if u.hasScheme=true then u.scheme++[58]else [])=A;have lA:A.length≤1000001:=by rw[←hA];split<;>simp;omega
 refine(Bo (a:=A) fun k=>?_).trans ?_
 ·rw[←hA];split;·rw[BR eW,BR eW];rfl
  ·rfl
 generalize hB:(if u.hasAuthority=true then [47,47]++u.authority else [])=B;have lB:B.length≤1000002:=by rw[←hB];split<;>simp;omega
 refine(Bo (a:=A++B) fun k=>?_).trans ?_
 ·rw[←hB];split;·rw[BR eW,BR eW]
  ·rw[aI]
 rw[BR (by simp only[aj];omega)];generalize hC:(if u.hasQuery=true then [63]++u.query else [])=C;have lC:C.length≤1000001:=by rw[←hC];split<;>simp;omega
 refine(Bo (a:=((A++B)++u.path)++C) fun k=>?_).trans ?_
 ·rw[←hC];split;·rw[BR eW,BR (by simp only[aj,ae,an];omega)]
  ·rw[aI]
 refine(Bo (a:=(((A++B)++u.path)++C)++(if u.hasFrag=true then [35]++u.fragment else [])) fun k=>?_).trans rfl;split;·rw[BR eW,BR (by simp only[aj,ae,an];omega)]
 ·rw[aI]
theorem AHc{u:ApiURI}{n:Nat} (h:uB u n):(AE8 u).length≤5 * n+6:=by
 obtain⟨h1,h2,h3,h4,h5⟩:=h;unfold AE8;simp only[aj];have a1:(if u.hasScheme=true then u.scheme++[58]else []).length≤n+1:=by split<;>simp;omega
 have a2:(if u.hasAuthority=true then [47,47]++u.authority else []).length≤n+2:=by split<;>simp;omega
 have a3:(if u.hasQuery=true then [63]++u.query else []).length≤n+1:=by split<;>simp;omega
 have a4:(if u.hasFrag=true then [35]++u.fragment else []).length≤n+1:=by split<;>simp;omega
 omega
theorem AHL{a b:ApiURI}{n:Nat} (ha:uB a n) (hb:uB b n):uB (Um N a b) (2 * n+1):=by
 obtain⟨a1,a2,a3,a4,a5⟩:=ha;obtain⟨b1,b2,b3,b4,b5⟩:=hb;have ml:=Tv a b;have d1:=JZ N b.path [];have d2:=JZ N (if preB [47] b.path=true then b.path else PR a b) [];have d3:(if preB [47] b.path=true then b.path else PR a b).length≤2 * n+1:=by split<;>omega
 simp only[an]at d1 d2;unfold Um uB;split;·dsimp only;omega
 split;·dsimp only;omega
 split;·split<;>(dsimp only;omega)
 ·dsimp only;omega
def V5 (N:Nat) (a:ApiURL) (r:List UInt8):ApiURL×Int:=if O5 N a=true then if((Ij r).2 !=0)=true then(LK,(Ij r).2) else if((Um N (Ij (Jj a)).1 (Ij r).1).scheme.map E5==List.map E5 [104,116,116,112,115])=true then MR N (AE8 (Um N (Ij (Jj a)).1 (Ij r).1)) else(LK,253) else(LK,8)
theorem Wl{s:List UInt8}{n:Nat} (h:s.length≤n):uB (Ij s).1 n:=by obtain⟨l1,l2,l3,l4,l5⟩:=Ld s;exact⟨eT,eT,eT,eT,eT⟩
theorem ASX (a:ApiURL) (r:List UInt8) (h:OO a) (hw:(Jj a).length≤5000) (hr:r.length≤10000) (hN:1000000≤N):GY N a r=some (V5 N a r):=by
 unfold GY V5;rw[Ut a h eT eT,aa];cases O5 N a;·rfl
 simp only[aE];rw[Py a h eT,aa,Mq _ eT eT,aa,Mq _ eT eT,aa];by_cases h2:((Ij r).2 !=0)=true;·rw[ah h2,ah h2];rfl
 rw[ag h2,ag h2];have u1:=Wl (s:=Jj a) (n:=10000) eT;have u2:=Wl (s:=r) (n:=10000) hr;have p1:=(Ld (Jj a)).2.1;have p2:=(Ld r).2.1;rw[AUd _ _ eT hN,aa];have u3:=AHL (N:=N) u1 u2;generalize Um N (Ij (Jj a)).1 (Ij r).1=U at *;rw[Vb _ _ (by have:=u3.1;omega) eV,aa];cases (U.scheme.map E5==List.map E5 [104,116,116,112,115]);·rfl
 simp only[aE];have j:=AHc u3;rw[WC U ⟨by have:=u3.1;omega,by have:=u3.2.1;omega,by have:=u3.2.2.1;omega,by have:=u3.2.2.2.1;omega,by have:=u3.2.2.2.2;omega⟩,aa,TB _ eT eT,aa]
theorem ASa (a:ApiURL) (r:List UInt8) (h:OO a) (hw:(Jj a).length≤5000) (hr:r.length≤10000) (hN:1000000≤N):Gy N a r=some (V5 N a r):=by
 unfold Gy V5;rw[UU a h eT eT,aa];cases O5 N a;·rfl
 simp only[aE];rw[QG a h eT,aa,Oi _ eT,aa,Oi _ eT,aa];by_cases h2:((Ij r).2 !=0)=true;·rw[ah h2,ah h2];rfl
 rw[ag h2,ag h2];have u1:=Wl (s:=Jj a) (n:=10000) eT;have u2:=Wl (s:=r) (n:=10000) hr;have p1:=(Ld (Jj a)).2.1;have p2:=(Ld r).2.1;rw[AS3 _ _ eT hN,aa];have u3:=AHL (N:=N) u1 u2;generalize Um N (Ij (Jj a)).1 (Ij r).1=U at *;rw[VJ _ _ (by have:=u3.1;omega) eV,aa];cases (U.scheme.map E5==List.map E5 [104,116,116,112,115]);·rfl
 simp only[aE];have j:=AHc u3;rw[AQh U ⟨by have:=u3.1;omega,by have:=u3.2.1;omega,by have:=u3.2.2.1;omega,by have:=u3.2.2.2.1;omega,by have:=u3.2.2.2.2;omega⟩,aa,S9 _ eT eT,aa]
end
end Go.VM
namespace Go.VM
theorem AVc:Kr 1099511627776=some true:=by kernel_rfl
section
variable{N:Nat}
def H9 (N:Nat) (out:List ApiField) (s:List UInt8):List ApiField:=if(s==[])=true then out else if((ES N (AP 61 s).2.1).2==0)=true then out++[⟨(AP 61 s).1,(ES N (AP 61 s).2.1).1⟩]else out
theorem Ot (out:List ApiField) (s:List UInt8):(H9 N out s).length≤out.length+1:=by
 unfold H9;split;·omega
 split;·simp
 ·omega
def Tq (N:Nat) (q:List UInt8):List ApiField:=(Al 38 q).foldl (H9 N) []
theorem AOL (s:List UInt8) (out:List ApiField) (hs:s.length≤100000) (ho:out.length≤100000) (hN:20000≤N) (h0:(s==[])=false):Fq N s out=some (H9 N out s):=by unfold Fq H9;rw[Kv 61 s eT,aa,TH _ hN,aa,h0,ag (show¬(false=true) by decide),AU (Lg eT eT)];split<;>rfl
theorem Vm (hN:20000≤N): ∀(k:Nat) (q:List UInt8) (out:List ApiField),q.length<k→q.length≤100000→out.length+q.length≤90000→Dn N k q out=some ((Al 38 q).foldl (H9 N) out)
 |0,q,out,h,_,_=>by omega
 | k+1,q,out,h,hb,ho=>by
  have hle:=FE 38 q;rw[Dn,Kv 38 q eT,aa,Ju];have e:(if((AP 38 q).1==[])=true then some out else Fq N (AP 38 q).1 out)=some (H9 N out (AP 38 q).1):=by
   cases h0:((AP 38 q).1==[]);·rw[ag eV,AOL _ _ eT eT hN h0]
   ·rw[ah rfl];unfold H9;rw[ah h0]
  rw[e,aa];have hl:=Ot (N:=N) out (AP 38 q).1;cases hc:(AP 38 q).2.2;·rfl
  ·have hless:=AC1 hc;rw[ah rfl,ah rfl,bJ];exact Vm hN k _ _ eT eT eT
theorem ATv (q:List UInt8) (hb:q.length≤20000) (hN:100000≤N):Ji N q=some (Tq N q):=Vm eT N q [] eT eT eW
theorem AT8 (x:List UInt8) (hb:x.length≤1000000):Km N x (wr .i64 ((((x.takeWhile (· !=(61:UInt8))).length:Nat):Int)+1))=some (AP 61 x).2.1:=by
 have hw:=Kq (· !=(61:UInt8)) x;have e:wr .i64 ((((x.takeWhile (· !=(61:UInt8))).length:Nat):Int)+1)=(((x.takeWhile (· !=(61:UInt8))).length+1:Nat):Int):=by rw[AQ eT];omega
 unfold Km;cases hc:x.contains 61;·rw[e,LD x hc,ah (by simp only[al];omega),Lf hc]
 ·have hlt:=Je hc;obtain⟨_,s2⟩:=Sd hc hb;have s2':=s2;rw[s2'];rw[e]at s2⊢;by_cases hge:x.length≤(x.takeWhile (· !=(61:UInt8))).length+1;·rw[ah (by simp only[al];omega)];have:(x.takeWhile (· !=(61:UInt8))).length+1=x.length:=eT;rw[this]at s2;rw[Cm x x.length x.length (ao _) (ao _)]at s2;rw[←aQ s2];simp
  ·rw[ag (by simp only[al];omega),aa]
theorem AP7 (x:List UInt8) (hb:x.length≤1000000):sub x 0 (((x.takeWhile (· !=(61:UInt8))).length:Nat):Int)=some (AP 61 x).1:=by
 cases hc:x.contains 61;·rw[LD x hc,Lf hc,show(0:Int)=((0:Nat):Int)from rfl,Cm x 0 x.length (bk _) (ao _)];simp
 ·exact(Sd hc hb).1
theorem U9 (hN:20000≤N) (k:List ApiField→Option (List ApiField)): ∀(xs:List (List UInt8)) (out:List ApiField),(∀x,x∈xs→x.length≤100000)→out.length+xs.length≤90000→Dr N k xs out=k (xs.foldl (H9 N) out) |[],out,_,_=>by rw[Dr];rfl| x::xs,out,h,hb=>by have AO:=h x eU;have hl:=Ot (N:=N) out x;rw[ae]at hb;have ih:=U9 hN k xs (H9 N out x) (fun y hy=>h y (by simp[hy])) eT;rw[Dr,bJ,←ih];dsimp only[AB];rw[AYQ 61 x eT,aa,AT8 x eT,aa,O6 _ hN,aa,AP7 x eT,aa,AU (Lg eT eT)];unfold H9;cases (x==[])<;>cases ((ES N (AP 61 x).2.1).2==0)<;>rfl
theorem ATP (q:List UInt8) (hb:q.length≤20000) (hN:100000≤N):JH N q=some (Tq N q):=by have hl:=Ih 38 q;unfold JH;dsimp only[AB];rw[show(38:Int)=AC 38 from rfl,Nq q 38 eT,aa,BR eT,U9 eT _ _ _ (fun x AO=>by have:=Fp 38 q x AO;omega) eW];rfl
theorem U8: ∀(xs:List (List UInt8)) (out:List ApiField),(xs.foldl (H9 N) out).length≤out.length+xs.length |[],_=>ao _| x::xs,out=>by have h1:=Ot (N:=N) out x;have h2:=U8 xs (H9 N out x);rw[bJ,ae];omega
end
end Go.VM
