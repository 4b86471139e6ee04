import Derived.Test.YtjgdhjpafjpjgaaGreatDoorL5
import Derived.Test.YtjgdhjpafjpjgaaGreatDoorRd
import Derived.KernelRfl
set_option linter.unusedVariables false
set_option linter.unusedSimpArgs false
namespace Go.VM
section
variable{N:Nat}
def JK (e x:Int):Int:=if(e==0)=true then x else e
theorem OL{e x:Int} (h:x≠0):JK e x≠0:=by
  unfold JK;split
  · exact h
  · rename_i k;intro h';rw[h']at k;exact k rfl
theorem Ld{e x:Int} (h:e≠0):JK e x=e:=by
  unfold JK;rw[if_neg (by simpa using h)]
theorem QX (d:ApiDID) (e x:Int):Cx N ⟨d,e⟩ x=some ⟨d,JK e x⟩:=by
  unfold Cx JK;dsimp only;split<;>rfl
theorem Ip (d:ApiDID) (e x:Int):Aj N ⟨d,e⟩ x=some ⟨d,JK e x⟩:=by
  unfold Aj JK;dsimp only;split<;>rfl
def J6 (e:Int) (v:ApiValue):Int:=if(v.kind !=5)=true then JK e 160 else e
def TD (e:Int) (l:List ApiValue):Int:=l.foldl J6 e
def NR (e:Int) (m:ApiValue):List ApiValue×Int:=
  if(m.kind !=6)=true then([],JK e 160)else if m.items.length>64 then([],JK e 161)else(m.items,e)
def Cb (e:Int) (g:ApiValue×Bool):List ApiValue×Int:=if g.2=true then NR e g.1 else([],e)
def LA (e:Int) (m:ApiValue):List (List UInt8)×Int:=
  if(m.kind==5)=true then([m.text],e)else((NR e m).1.map (·.text),TD (NR e m).2 (NR e m).1)
def idS (N:Nat) (d:ApiDID) (e:Int) (v:ApiValue):List UInt8×Int:=
  if((SS N d (Au v [105,100]).1.text).2 !=0)=true then([],JK (J6 e (Au v [105,100]).1) 160)else(AEq (SS N d (Au v [105,100]).1.text).1,J6 e (Au v [105,100]).1)
theorem AKg (e:Int) (m:ApiValue):(NR e m).1.length≤64:=by
  unfold NR;split
  · simp
  split
  · simp
  · dsimp only;omega
theorem ASg{e:Int}{m:ApiValue} (h:okT m): ∀x,x∈(NR e m).1→okT x:=by
  unfold NR;split
  · simp
  split
  · simp
  · exact h.sub
theorem Oi (e:Int) (g:ApiValue×Bool):(Cb e g).1.length≤64:=by
  unfold Cb;split
  · exact AKg _ _
  · simp
theorem Ud{e:Int}{g:ApiValue×Bool} (h:okT g.1): ∀x,x∈(Cb e g).1→okT x:=by
  unfold Cb;split
  · exact ASg h
  · simp
theorem SI{d:ApiDID} (k:List (List UInt8)×DiddocDecoder→Option (List (List UInt8)×DiddocDecoder)): ∀(l:List ApiValue) (acc:List (List UInt8)) (e:Int),acc.length+l.length≤1000000→BP N k l acc ⟨d,e⟩=k (acc++l.map (·.text),⟨d,TD e l⟩)
  |[],acc,e,_=>by rw[BP,List.map_nil,List.append_nil];rfl
  | v::l,acc,e,h=>by
    simp only[List.length_cons]at h
    rw[BP]
    refine(Bo (a:=(⟨d,J6 e v⟩:DiddocDecoder)) fun k=>?_).trans ?_
    · unfold J6;split
      · rw[QX,Option.bind_some]
      · rfl
    · rw[AV (MF (by omega) (by omega)),SI k l _ _ (by simp;omega)]
      simp[TD]
theorem Og (d:ApiDID) (e:Int) (l:List ApiValue) (h:l.length≤1000):Br N ⟨d,e⟩ l=some (l.map (·.text),⟨d,TD e l⟩):=by
  unfold Br
  rw[AB,Be (by omega),SI _ _ _ _ (by simp;omega)];rfl
theorem TL (d:ApiDID) (e:Int) (v:ApiValue) (key:List UInt8) (h:v.keys.length≤900000):Bh N ⟨d,e⟩ v key=some ((Au v key).1.text,⟨d,J6 e (Au v key).1⟩):=by
  unfold Bh
  rw[UT v key h,Option.bind_some,Og _ _ _ (by simp),Option.bind_some];rfl
theorem AKH (d:ApiDID) (e:Int) (m:ApiValue):EK N ⟨d,e⟩ m=some ((NR e m).1,⟨d,(NR e m).2⟩):=by
  unfold EK NR
  split
  · rw[QX];rfl
  · split
    · rename_i h;rw[QX,if_pos (by simp only[decide_eq_true_eq]at h;omega)];rfl
    · rename_i h;rw[if_neg (by simp only[decide_eq_true_eq]at h;omega)]
theorem TW (d:ApiDID) (e:Int) (v:ApiValue) (key:List UInt8) (h:v.keys.length≤900000):Cw N ⟨d,e⟩ v key=some ((Cb e (Au v key)).1,⟨d,(Cb e (Au v key)).2⟩):=by
  unfold Cw Cb
  rw[UT v key h,Option.bind_some]
  split
  · rw[AKH];rfl
  · rfl
theorem YU (d:ApiDID) (e:Int) (m:ApiValue):BJ N ⟨d,e⟩ m=some ((LA e m).1,⟨d,(LA e m).2⟩):=by
  unfold BJ LA
  split
  · rename_i h
    rw[Og _ _ _ (by simp),Option.bind_some]
    simp only[TD,List.foldl_cons,List.foldl_nil,List.map_cons,List.map_nil,J6]
    rw[if_neg (by simp only[beq_iff_eq]at h;simp[h])]
  · rw[AKH,Option.bind_some,Og _ _ _ (by have:=AKg e m;dsimp only;omega)];rfl
theorem APp (d:ApiDID) (e:Int) (v:ApiValue) (hd:d.method.length≤100000∧d.iD.length≤100000) (h:okT v) (hN:20000≤N):EW N ⟨d,e⟩ v=some ((idS N d e v).1,⟨d,(idS N d e v).2⟩):=by
  unfold EW idS
  have l:=Wi (N:=N) d (Au v [105,100]).1.text
  obtain⟨l1,l2,l3,l4,l5⟩:=l
  rw[TL _ _ _ _ h.keys,Option.bind_some]
  dsimp only
  rw[APo d _ hd (KS h _).text hN,Option.bind_some]
  split
  · rw[QX];rfl
  · rw[AWz _ ⟨by omega,by omega,by omega,by omega,by omega⟩];rfl
def kTy:List UInt8:=[116,121,112,101]
def kEp:List UInt8:=[115,101,114,118,105,99,101,69,110,100,112,111,105,110,116]
def kCo:List UInt8:=[99,111,110,116,114,111,108,108,101,114]
def kSe:List UInt8:=[115,101,114,118,105,99,101]
def kVm:List UInt8:=[118,101,114,105,102,105,99,97,116,105,111,110,77,101,116,104,111,100]
def kAk:List UInt8:=[97,108,115,111,75,110,111,119,110,65,115]
def IQ (N:Nat) (d:ApiDID) (e:Int) (v:ApiValue):ApiService×Int:=
  if((Au v kEp).1.kind !=7)=true then
    (⟨(idS N d e v).1,(LA (idS N d e v).2 (Au v kTy).1).1,(LA (LA (idS N d e v).2 (Au v kTy).1).2 (Au v kEp).1).1⟩,(LA (LA (idS N d e v).2 (Au v kTy).1).2 (Au v kEp).1).2)
  else(⟨(idS N d e v).1,(LA (idS N d e v).2 (Au v kTy).1).1,[]⟩,(LA (idS N d e v).2 (Au v kTy).1).2)
def Ko (N:Nat) (d:ApiDID) (e:Int) (v:ApiValue):ApiMethod×Int:=
  (⟨(idS N d e v).1,(Au v kTy).1.text,(Au v kCo).1.text⟩,J6 (J6 (idS N d e v).2 (Au v kTy).1) (Au v kCo).1)
theorem ASO (d:ApiDID) (e:Int) (v:ApiValue) (hd:d.method.length≤100000∧d.iD.length≤100000) (h:okT v) (hN:20000≤N):De N ⟨d,e⟩ v=some ((IQ N d e v).1,⟨d,(IQ N d e v).2⟩):=by
  unfold De IQ
  rw[APp d e v hd h hN,Option.bind_some,UT v _ h.keys,Option.bind_some]
  dsimp only
  rw[YU,Option.bind_some,AB,UT v _ h.keys,Option.bind_some]
  dsimp only
  change (if((Au v kEp).1.kind !=7)=true then _ else _)=_
  split
  · change Option.bind (BJ N ⟨d,_⟩ (Au v kEp).1) _=_
    rw[YU];rfl
  · rfl
theorem Q4 (d:ApiDID) (e:Int) (v:ApiValue) (key:List UInt8) (h:v.keys.length≤900000):DF N ⟨d,e⟩ v key=some ((Au v key).1.text,⟨d,J6 e (Au v key).1⟩):=by
  unfold DF J6
  rw[Ob v key (by omega),Option.bind_some,AB]
  split
  · rw[Ip];rfl
  · rfl
def Pf (e:Int) (g:ApiValue×Bool) (b:Bool):List (List UInt8)×Int:=
  if g.2=true then(if(b&&(g.1.kind==5))=true then([g.1.text],e)else((NR e g.1).1.map (·.text),TD (NR e g.1).2 (NR e g.1).1))else([],e)
theorem WA{d:ApiDID} (k:List (List UInt8)×Ref17Reader→Option (List (List UInt8)×Ref17Reader)): ∀(l:List ApiValue) (acc:List (List UInt8)) (e:Int),acc.length+l.length≤1000000→BO N k l acc ⟨d,e⟩=k (acc++l.map (·.text),⟨d,TD e l⟩)
  |[],acc,e,_=>by rw[BO,List.map_nil,List.append_nil];rfl
  | v::l,acc,e,h=>by
    simp only[List.length_cons]at h
    rw[BO]
    refine(Bo (a:=(⟨d,J6 e v⟩:Ref17Reader)) fun k=>?_).trans ?_
    · unfold J6;split
      · rw[Ip,Option.bind_some]
      · rfl
    · rw[AV (MF (by omega) (by omega)),WA k l _ _ (by simp;omega)]
      simp[TD]
theorem TI (d:ApiDID) (e:Int) (v:ApiValue) (key:List UInt8) (b:Bool) (h:v.keys.length≤900000):BB N ⟨d,e⟩ v key b=some ((Pf e (Au v key) b).1,⟨d,(Pf e (Au v key) b).2⟩):=by
  unfold BB Pf
  rw[Ob v key (by omega),Option.bind_some]
  split
  · refine(Bo (a:=b&&((Au v key).1.kind==5)) fun k=>by cases b<;>rfl).trans ?_
    split
    · rfl
    · unfold NR
      split
      · rw[Ip];rfl
      · split
        · rename_i h;rw[Ip,if_pos (by simp only[decide_eq_true_eq]at h;omega)];rfl
        · rename_i h
          rw[if_neg (by simp only[decide_eq_true_eq]at h;omega),AB,Be (by simp only[decide_eq_true_eq]at h;omega),WA _ _ _ _ (by simp only[decide_eq_true_eq]at h;simp;omega)];rfl
  · rfl
theorem AJz (d:ApiDID) (e:Int) (v:ApiValue) (key:List UInt8) (h:v.keys.length≤900000):Bp N ⟨d,e⟩ v key=some ((Cb e (Au v key)).1,⟨d,(Cb e (Au v key)).2⟩):=by
  unfold Bp Cb NR
  rw[Ob v key (by omega),Option.bind_some]
  split
  · split
    · rw[Ip];rfl
    · split
      · rename_i h;rw[Ip,if_pos (by simp only[decide_eq_true_eq]at h;omega)];rfl
      · rename_i h;rw[if_neg (by simp only[decide_eq_true_eq]at h;omega)]
  · rfl
theorem AE8 (d:ApiDID) (e:Int) (v:ApiValue) (hd:d.method.length≤100000∧d.iD.length≤100000) (h:okT v) (hN:20000≤N):FE N ⟨d,e⟩ v=some ((idS N d e v).1,⟨d,(idS N d e v).2⟩):=by
  unfold FE idS
  have l:=Wi (N:=N) d (Au v [105,100]).1.text
  obtain⟨l1,l2,l3,l4,l5⟩:=l
  rw[Q4 _ _ _ _ h.keys,Option.bind_some]
  dsimp only
  rw[ARg d _ hd (KS h _).text hN,Option.bind_some]
  split
  · rw[Ip];rfl
  · rw[AW9 _ ⟨by omega,by omega,by omega,by omega,by omega⟩];rfl
theorem AKJ: ∀(ks:List (List UInt8)) (xs:List ApiValue) (key:List UInt8),(Me ks xs key).2=false→(Me ks xs key).1=zeroV
  |[],_,_,_=>by unfold Me;rfl
  |_::_,[],_,_=>by unfold Me;rfl
  | k::ks,x::xs,key,h=>by
    unfold Me at h⊢
    split
    · rename_i hk;rw[if_pos hk]at h;cases h
    · rename_i hk;rw[if_neg hk]at h;exact AKJ ks xs key h
theorem AKV{v:ApiValue}{key:List UInt8} (h:(Au v key).2=false):(Au v key).1=zeroV:=by
  unfold Au at h⊢
  split
  · rename_i k;rw[if_pos k]at h;exact AKJ _ _ _ h
  · rfl
theorem ARx (e:Int):LA e zeroV=([],JK e 160):=by
  unfold LA NR zeroV;rfl
theorem Ku{e:Int} (h:e≠0) (v:ApiValue):J6 e v=e:=by unfold J6;split;exact Ld h;rfl
theorem AAT{e:Int} (h:e≠0): ∀l:List ApiValue,TD e l=e
  |[]=>rfl
  |v::l=>by unfold TD;rw[List.foldl_cons,Ku h];exact AAT h l
theorem AIi{e:Int} (h:e≠0) (m:ApiValue):(NR e m).2=e:=by
  unfold NR;split
  · exact Ld h
  split
  · exact Ld h
  · rfl
theorem AJS{e:Int} (h:e≠0) (g:ApiValue×Bool):(Cb e g).2=e:=by
  unfold Cb;split
  · exact AIi h _
  · rfl
theorem M4{e:Int} (h:e≠0) (m:ApiValue):(LA e m).2=e:=by
  unfold LA;split
  · rfl
  · dsimp only;rw[AIi h,AAT h]
theorem AGX{e:Int} (h:e≠0) (d:ApiDID) (v:ApiValue):(idS N d e v).2=e:=by
  unfold idS;split
  · dsimp only;rw[Ku h,Ld h]
  · dsimp only;rw[Ku h]
theorem ACI{e:Int} (h:e≠0) (d:ApiDID) (v:ApiValue):(IQ N d e v).2=e:=by
  have h1:(idS N d e v).2≠0:=by rw[AGX h];exact h
  have h2:(LA (idS N d e v).2 (Au v kTy).1).2≠0:=by rw[M4 h1];exact h1
  unfold IQ;split
  · dsimp only;rw[M4 h2,M4 h1,AGX h]
  · dsimp only;rw[M4 h1,AGX h]
theorem AKR{e:Int} (h:e≠0) (d:ApiDID) (v:ApiValue):(Ko N d e v).2=e:=by
  have h1:(idS N d e v).2≠0:=by rw[AGX h];exact h
  unfold Ko;dsimp only;rw[Ku (by rw[Ku h1];exact h1),Ku h1,AGX h]
theorem APH{v:ApiValue} (h:(v.kind !=7)=true) (key:List UInt8):Au v key=(zeroV,false):=by
  unfold Au;rw[if_neg (by simp only[bne_iff_ne,ne_eq]at h;simp[h])]
theorem Tt{v:ApiValue} (h:(v.kind !=7)=true) (d:ApiDID) (e:Int):(idS N d e v).2=JK e 160:=by
  have k:J6 e zeroV=JK e 160:=rfl
  unfold idS
  rw[APH h]
  dsimp only
  rw[k]
  split
  · exact Ld (OL (by decide))
  · rfl
def Kh (N:Nat) (d:ApiDID) (e:Int) (v:ApiValue):ApiService×Int:=
  if(v.kind !=7)=true then(⟨[],[],[]⟩,JK e 160)else IQ N d e v
def Js (N:Nat) (d:ApiDID) (e:Int) (v:ApiValue):ApiMethod×Int:=
  if(v.kind !=7)=true then(⟨[],[],[]⟩,JK e 160)else Ko N d e v
theorem AKi (e:Int) (g:ApiValue×Bool) (h:g.2=true):Pf e g true=LA e g.1:=by
  unfold Pf LA;rw[if_pos h];rfl
theorem ATX (d:ApiDID) (e:Int) (v:ApiValue) (hd:d.method.length≤100000∧d.iD.length≤100000) (h:okT v) (hN:20000≤N):EH N ⟨d,e⟩ v=some ((Kh N d e v).1,⟨d,(Kh N d e v).2⟩):=by
  unfold EH Kh
  split
  · rw[Ip];rfl
  rw[AE8 d e v hd h hN,Option.bind_some]
  unfold IQ
  dsimp only
  generalize idS N d e v=I
  have key: ∀(e:Int) (key:List UInt8) (k:Ref17Reader→Option (ApiService×Ref17Reader)) (R:List (List UInt8)×Int→Option (ApiService×Ref17Reader)),
      (∀e',k ⟨d,e'⟩=R (Pf e' (Au v key) true))→
      (if(Au v key).2=true then k ⟨d,e⟩else Option.bind (Aj N ⟨d,e⟩ 160) fun y=>k y)=R (LA e (Au v key).1):=by
    intro e key k R hk
    cases hg:(Au v key).2
    · rw[if_neg (by decide),Ip,Option.bind_some,hk,AKV hg,ARx]
      unfold Pf;rw[hg];rfl
    · rw[if_pos rfl,hk,AKi _ _ hg]
  rw[AB,Ob v _ (by have:=h.keys;omega),Option.bind_some]
  refine(key I.2 kTy _ (fun r=>Option.bind (Fq N v kEp) fun y15=>
    AA (fun j17:Ref17Reader=>AA (fun j23:List (List UInt8)×Ref17Reader=>some (ApiService.mk I.1 r.1 j23.1,j23.2)) fun k24=>
      if(y15.1.kind !=7)=true then Option.bind (BB N j17 v kEp true) fun y27=>k24 (y27.1,y27.2)else k24 ([],j17)) fun k18=>
    if y15.2=true then k18 ⟨d,r.2⟩else Option.bind (Aj N ⟨d,r.2⟩ 160) fun y21=>k18 y21) fun e'=>?_).trans ?_
  · rw[show([116,121,112,101]:List UInt8)=kTy from rfl,TI d e' v kTy true h.keys,Option.bind_some];rfl
  · rw[Ob v kEp (by have:=h.keys;omega),Option.bind_some]
    simp only[AB]
    generalize LA I.2 (Au v kTy).1=S
    by_cases hk:((Au v kEp).1.kind !=7)=true
    · simp only[if_pos hk]
      refine(key S.2 kEp _ (fun r=>some (ApiService.mk I.1 S.1 r.1,⟨d,r.2⟩)) fun e'=>?_).trans rfl
      rw[TI d e' v kEp true h.keys,Option.bind_some]
    · simp only[if_neg hk]
      cases hg:(Au v kEp).2
      · rw[AKV hg]at hk;exact absurd rfl hk
      · rw[if_pos rfl]
theorem AVo (d:ApiDID) (e:Int) (v:ApiValue) (hd:d.method.length≤100000∧d.iD.length≤100000) (h:okT v) (hN:20000≤N):Ea N ⟨d,e⟩ v=some ((Js N d e v).1,⟨d,(Js N d e v).2⟩):=by
  unfold Ea Js
  split
  · rw[Ip];rfl
  rw[AE8 d e v hd h hN,Option.bind_some,Q4 _ _ _ _ h.keys,Option.bind_some,Q4 _ _ _ _ h.keys];rfl
def eqE{α:Type} (a b:α×Int):Prop:=a.2=b.2∧(a.2=0→a.1=b.1)
theorem ATK (d:ApiDID){e:Int} (v:ApiValue):eqE (IQ N d e v) (Kh N d e v):=by
  unfold Kh
  split
  · rename_i h
    have h1:(IQ N d e v).2=JK e 160:=by
      have k1:(idS N d e v).2≠0:=by rw[Tt h];exact OL (by decide)
      have k2:(LA (idS N d e v).2 (Au v kTy).1).2≠0:=by rw[M4 k1];exact k1
      unfold IQ;split
      · dsimp only;rw[M4 k2,M4 k1,Tt h]
      · dsimp only;rw[M4 k1,Tt h]
    exact⟨h1,fun k=>absurd (h1.symm.trans k) (OL (by decide))⟩
  · exact⟨rfl,fun _=>rfl⟩
theorem AQm (d:ApiDID){e:Int} (v:ApiValue):eqE (Ko N d e v) (Js N d e v):=by
  unfold Js
  split
  · rename_i h
    have h1:(Ko N d e v).2=JK e 160:=by
      have k1:(idS N d e v).2≠0:=by rw[Tt h];exact OL (by decide)
      unfold Ko;dsimp only;rw[Ku (by rw[Ku k1];exact k1),Ku k1,Tt h]
    exact⟨h1,fun k=>absurd (h1.symm.trans k) (OL (by decide))⟩
  · exact⟨rfl,fun _=>rfl⟩
def H9{α:Type} (f:Int→ApiValue→α×Int) (l:List ApiValue) (e:Int) (acc:List α):List α×Int:=
  l.foldl (fun s v=>(s.1++[(f s.2 v).1],(f s.2 v).2)) (acc,e)
theorem ACa{α:Type}{f g:Int→ApiValue→α×Int} (h: ∀e v,eqE (f e v) (g e v)) (hf: ∀e v,e≠0→(f e v).2=e): ∀(l:List ApiValue) (a b:List α) (e:Int),(e=0→a=b)→eqE (H9 f l e a) (H9 g l e b)
  |[],a,b,e,k=>⟨rfl,k⟩
  | v::l,a,b,e,k=>by
    unfold H9
    rw[List.foldl_cons,List.foldl_cons]
    obtain⟨h1,h2⟩:=h e v
    rw[←h1]
    refine ACa h hf l _ _ _ fun k2=>?_
    have e0:e=0:=by
      rcases Classical.em (e=0)with h0|h0
      · exact h0
      · rw[hf e v h0]at k2;exact absurd k2 h0
    rw[k e0,h2 k2]
theorem AJV{α:Type}{f:Int→ApiValue→α×Int} (hf: ∀e v,e≠0→(f e v).2=e){e:Int} (h:e≠0): ∀(l:List ApiValue) (acc:List α),(H9 f l e acc).2=e
  |[],_=>rfl
  | v::l,acc=>by
    unfold H9
    rw[List.foldl_cons,hf e v h]
    exact AJV hf h l _
theorem APb{e:Int}{g:ApiValue×Bool} (h:(Cb e g).2=0):e=0:=by
  rcases Classical.em (e=0)with k|k
  · exact k
  · rw[AJS k]at h;exact absurd h k
theorem AS5{α:Type}{f:Int→ApiValue→α×Int} (hf: ∀e v,e≠0→(f e v).2=e){M:Int}{g:ApiValue×Bool}{l:List ApiValue}{acc:List α} (h:(H9 f l (Cb M g).2 acc).2=0):M=0:=by
  rcases Classical.em ((Cb M g).2=0)with k|k
  · exact APb k
  · rw[AJV hf k]at h;exact absurd h k
theorem ATZ{e:Int} (h:e≠0) (d:ApiDID) (v:ApiValue):(Kh N d e v).2=e:=by
  unfold Kh;split
  · exact Ld h
  · exact ACI h d v
theorem ATq{e:Int} (h:e≠0) (d:ApiDID) (v:ApiValue):(Js N d e v).2=e:=by
  unfold Js;split
  · exact Ld h
  · exact AKR h d v
theorem AQG{d:ApiDID} (hd:d.method.length≤100000∧d.iD.length≤100000) (hN:20000≤N) (k:List ApiMethod×DiddocDecoder→Option (ApiDoc×Int)): ∀(l:List ApiValue) (acc:List ApiMethod) (e:Int),(∀x,x∈l→okT x)→acc.length+l.length≤1000→Ct N k l acc ⟨d,e⟩=k ((H9 (Ko N d) l e acc).1,⟨d,(H9 (Ko N d) l e acc).2⟩)
  |[],acc,e,_,_=>by rw[Ct];rfl
  | v::l,acc,e,h,hl=>by
    have hv:=h v (by simp)
    simp only[List.length_cons]at hl
    rw[Ct,APp d e v hd hv hN,Option.bind_some,TL _ _ _ _ hv.keys,Option.bind_some,TL _ _ _ _ hv.keys,Option.bind_some,AV (MF (by omega) (by omega))]
    exact AQG hd hN k l (acc++[(Ko N d e v).1]) (Ko N d e v).2 (fun x hx=>h x (by simp[hx])) (by simp;omega)
theorem ARN{d:ApiDID} (hd:d.method.length≤100000∧d.iD.length≤100000) (hN:20000≤N) (y9:List UInt8) (y13 j15:List (List UInt8)×DiddocDecoder) (j23:List ApiMethod×DiddocDecoder) (k:List ApiService×DiddocDecoder→Option (ApiDoc×Int)): ∀(l:List ApiValue) (acc:List ApiService) (e:Int),(∀x,x∈l→okT x)→acc.length+l.length≤1000→Cr N y9 y13 j15 j23 k l acc ⟨d,e⟩=k ((H9 (IQ N d) l e acc).1,⟨d,(H9 (IQ N d) l e acc).2⟩)
  |[],acc,e,_,_=>by rw[Cr];rfl
  | v::l,acc,e,h,hl=>by
    have hv:=h v (by simp)
    simp only[List.length_cons]at hl
    rw[Cr,AB,ASO d e v hd hv hN,Option.bind_some,AV (MF (by omega) (by omega))]
    exact ARN hd hN y9 y13 j15 j23 k l (acc++[(IQ N d e v).1]) (IQ N d e v).2 (fun x hx=>h x (by simp[hx])) (by simp;omega)
theorem ATt{d:ApiDID} (hd:d.method.length≤100000∧d.iD.length≤100000) (hN:20000≤N) (j6:List UInt8×List (List UInt8)×Ref17Reader) (y14:List (List UInt8)×Ref17Reader) (k:List ApiMethod×Ref17Reader→Option (ApiDoc×Int)): ∀(l:List ApiValue) (acc:List ApiMethod) (e:Int),(∀x,x∈l→okT x)→acc.length+l.length≤1000→Ck N j6 y14 k l acc ⟨d,e⟩=k ((H9 (Js N d) l e acc).1,⟨d,(H9 (Js N d) l e acc).2⟩)
  |[],acc,e,_,_=>by rw[Ck];rfl
  | v::l,acc,e,h,hl=>by
    have hv:=h v (by simp)
    simp only[List.length_cons]at hl
    rw[Ck,AB,AVo d e v hd hv hN,Option.bind_some,AV (MF (by omega) (by omega))]
    exact ATt hd hN j6 y14 k l (acc++[(Js N d e v).1]) (Js N d e v).2 (fun x hx=>h x (by simp[hx])) (by simp;omega)
theorem ARa{d:ApiDID} (hd:d.method.length≤100000∧d.iD.length≤100000) (hN:20000≤N) (j6:List UInt8×List (List UInt8)×Ref17Reader) (y14:List (List UInt8)×Ref17Reader) (j16:List ApiMethod×Ref17Reader) (k:List ApiService×Ref17Reader→Option (ApiDoc×Int)): ∀(l:List ApiValue) (acc:List ApiService) (e:Int),(∀x,x∈l→okT x)→acc.length+l.length≤1000→Co N j6 y14 j16 k l acc ⟨d,e⟩=k ((H9 (Kh N d) l e acc).1,⟨d,(H9 (Kh N d) l e acc).2⟩)
  |[],acc,e,_,_=>by rw[Co];rfl
  | v::l,acc,e,h,hl=>by
    have hv:=h v (by simp)
    simp only[List.length_cons]at hl
    rw[Co,AB,ATX d e v hd hv hN,Option.bind_some,AV (MF (by omega) (by omega))]
    exact ARa hd hN j6 y14 j16 k l (acc++[(Kh N d e v).1]) (Kh N d e v).2 (fun x hx=>h x (by simp[hx])) (by simp;omega)
def AGr:ApiDoc:=⟨[],[],[],[],[]⟩
def Q3 (v:ApiValue):List (List UInt8)×Int:=((Cb 0 (Au v kAk)).1.map (·.text),TD (Cb 0 (Au v kAk)).2 (Cb 0 (Au v kAk)).1)
def Mi (e:Int) (g:ApiValue×Bool):List (List UInt8)×Int:=if g.2=true then LA e g.1 else([],e)
def Sq (N:Nat) (v:ApiValue):ApiDoc×Int:=
  if(v.kind !=7)=true then(AGr,160)
  else if(J6 0 (Au v [105,100]).1 !=0)=true∨((MJ (Au v [105,100]).1.text).2 !=0)=true then(AGr,160)
  else
    let d:=(MJ (Au v [105,100]).1.text).1
    let a:=Q3 v
    let c:=Mi a.2 (Au v kCo)
    let lm:=Cb c.2 (Au v kVm)
    let m:=H9 (Ko N d) lm.1 lm.2 []
    let ls:=Cb m.2 (Au v kSe)
    let s:=H9 (IQ N d) ls.1 ls.2 []
    if(s.2 !=0)=true then(AGr,s.2)else(⟨I4 d,a.1,c.1,m.1,s.1⟩,0)
theorem AWh (v:ApiValue) (h:okT v) (hN:20000≤N):Gp N v=some (Sq N v):=by
  unfold Gp Sq
  split
  · rfl
  have hl:=TY (Au v [105,100]).1.text
  have hk:=h.keys
  rw[TL _ _ _ _ hk,Option.bind_some]
  dsimp only
  rw[AJu _ (by have:=(KS h [105,100]).text;omega) hN,Option.bind_some]
  refine(Bo (a:=(J6 0 (Au v [105,100]).1 !=0)||((MJ (Au v [105,100]).1.text).2 !=0)) fun k=>by cases (J6 0 (Au v [105,100]).1 !=0)<;>rfl).trans ?_
  split
  · rename_i hc
    rw[if_pos (by simpa using hc)];rfl
  rename_i hc
  rw[if_neg (by simpa using hc)]
  have e0:J6 0 (Au v [105,100]).1=0:=by
    rcases Classical.em (J6 0 (Au v [105,100]).1=0)with k|k
    · exact k
    · exact absurd (by simp[k]) hc
  generalize hd:(MJ (Au v [105,100]).1.text).1=d at *
  have hd':d.method.length≤100000∧d.iD.length≤100000:=⟨by omega,by omega⟩
  rw[Q8 _ ⟨by omega,by omega⟩,Option.bind_some,e0,show([97,108,115,111,75,110,111,119,110,65,115]:List UInt8)=kAk from rfl,TW _ _ _ _ hk,Option.bind_some]
  dsimp only
  rw[Og _ _ _ (by have:=Oi 0 (Au v kAk);omega),Option.bind_some]
  refine(Bo (a:=((Mi (Q3 v).2 (Au v kCo)).1,(⟨d,(Mi (Q3 v).2 (Au v kCo)).2⟩:DiddocDecoder))) fun k=>?_).trans ?_
  · rw[show([99,111,110,116,114,111,108,108,101,114]:List UInt8)=kCo from rfl,UT v _ hk,Option.bind_some]
    unfold Mi
    split
    · rw[show TD (Cb 0 (Au v kAk)).2 (Cb 0 (Au v kAk)).1=(Q3 v).2 from rfl,YU,Option.bind_some]
    · rfl
  dsimp only
  generalize Mi (Q3 v).2 (Au v kCo)=C
  have ok1:=Ud (e:=C.2) (KS h kVm)
  have l1:=Oi C.2 (Au v kVm)
  refine(Bo (a:=((H9 (Ko N d) (Cb C.2 (Au v kVm)).1 (Cb C.2 (Au v kVm)).2 []).1,(⟨d,(H9 (Ko N d) (Cb C.2 (Au v kVm)).1 (Cb C.2 (Au v kVm)).2 []).2⟩:DiddocDecoder))) fun k=>?_).trans ?_
  · rw[show([118,101,114,105,102,105,99,97,116,105,111,110,77,101,116,104,111,100]:List UInt8)=kVm from rfl,TW _ _ _ _ hk,Option.bind_some,Be (by dsimp only;omega),AQG hd' hN k _ _ _ ok1 (by simp;omega)]
  dsimp only
  generalize H9 (Ko N d) (Cb C.2 (Au v kVm)).1 (Cb C.2 (Au v kVm)).2 []=M
  have ok2:=Ud (e:=M.2) (KS h kSe)
  have l2:=Oi M.2 (Au v kSe)
  refine(Bo (a:=((H9 (IQ N d) (Cb M.2 (Au v kSe)).1 (Cb M.2 (Au v kSe)).2 []).1,(⟨d,(H9 (IQ N d) (Cb M.2 (Au v kSe)).1 (Cb M.2 (Au v kSe)).2 []).2⟩:DiddocDecoder))) fun k=>?_).trans ?_
  · rw[show([115,101,114,118,105,99,101]:List UInt8)=kSe from rfl,TW _ _ _ _ hk,Option.bind_some,Be (by dsimp only;omega),ARN hd' hN _ _ _ _ k _ _ _ ok2 (by simp;omega)]
  dsimp only
  split<;>rfl
theorem APJ (e:Int) (g:ApiValue×Bool):Pf e g true=Mi e g:=by
  unfold Mi;split
  · rename_i h;exact AKi e g h
  · rename_i h;unfold Pf;rw[if_neg h]
theorem ASB (v:ApiValue):Pf 0 (Au v kAk) false=Q3 v:=by
  unfold Pf Q3 Cb
  cases (Au v kAk).2<;>rfl
theorem AU2 (v:ApiValue) (h:okT v) (hN:20000≤N):IG N v=some (Sq N v):=by
  unfold IG Sq
  split
  · rfl
  have hl:=TY (Au v [105,100]).1.text
  have hk:=h.keys
  rw[Q4 _ _ _ _ hk,Option.bind_some]
  dsimp only
  rw[AJy _ (by have:=(KS h [105,100]).text;omega) hN,Option.bind_some]
  by_cases hx:((MJ (Au v [105,100]).1.text).2 !=0)=true
  · rw[if_pos hx,if_pos (.inr hx)];rfl
  rw[if_neg hx]
  generalize hd:(MJ (Au v [105,100]).1.text).1=d at *
  have hd':d.method.length≤100000∧d.iD.length≤100000:=⟨by omega,by omega⟩
  have fin: ∀e0:Int,(Option.bind (BB N (Ref17Reader.mk d e0) v kAk false) fun y12=>
      Option.bind (BB N y12.2 v kCo true) fun y14=>
      Option.bind (Bp N y14.2 v kVm) fun y20=>
      grd (AO y20.1.length) (Ck N (I4 d,y12.1,y12.2) y14 (fun j16=>
        Option.bind (Bp N j16.2 v kSe) fun y33=>
        grd (AO y33.1.length) (Co N (I4 d,y12.1,y12.2) y14 j16 (fun j29=>if(j29.2.fail !=0)=true then some (AGr,j29.2.fail)else some (ApiDoc.mk (I4 d) y12.1 y14.1 j16.1 j29.1,(0:Int))) y33.1 [] y33.2)) y20.1 [] y20.2))=
      (let a:=Pf e0 (Au v kAk) false
       let c:=Mi a.2 (Au v kCo)
       let lm:=Cb c.2 (Au v kVm)
       let m:=H9 (Js N d) lm.1 lm.2 []
       let ls:=Cb m.2 (Au v kSe)
       let s:=H9 (Kh N d) ls.1 ls.2 []
       if(s.2 !=0)=true then some (AGr,s.2)else some (⟨I4 d,a.1,c.1,m.1,s.1⟩,0)):=by
    intro e0
    dsimp only
    rw[TI d e0 v kAk false hk,Option.bind_some]
    dsimp only
    rw[TI d _ v kCo true hk,Option.bind_some,APJ]
    dsimp only
    generalize Mi (Pf e0 (Au v kAk) false).2 (Au v kCo)=C
    have ok1:=Ud (e:=C.2) (KS h kVm)
    have l1:=Oi C.2 (Au v kVm)
    rw[AJz d _ v kVm hk,Option.bind_some,Be (by dsimp only;omega),ATt hd' hN _ _ _ _ _ _ ok1 (by simp;omega)]
    dsimp only
    generalize H9 (Js N d) (Cb C.2 (Au v kVm)).1 (Cb C.2 (Au v kVm)).2 []=M
    have ok2:=Ud (e:=M.2) (KS h kSe)
    have l2:=Oi M.2 (Au v kSe)
    rw[AJz d _ v kSe hk,Option.bind_some,Be (by dsimp only;omega),ARa hd' hN _ _ _ _ _ _ _ ok2 (by simp;omega)]
  simp only[AB]
  rw[Ql _ ⟨by omega,by omega⟩,Option.bind_some]
  refine(fin (J6 0 (Au v [105,100]).1)).trans ?_
  dsimp only
  by_cases he:J6 0 (Au v [105,100]).1=0
  · rw[if_neg (show¬((J6 0 (Au v [105,100]).1 !=0)=true∨((MJ (Au v [105,100]).1.text).2 !=0)=true)from fun k=>k.elim (fun k=>by rw[he]at k;exact absurd k (by decide)) hx),he,ASB]
    have L1:=Cb (Mi (Q3 v).2 (Au v kCo)).2 (Au v kVm)
    generalize Q3 v=A
    generalize Mi A.2 (Au v kCo)=C
    obtain⟨m1,m2⟩:=ACa (fun e v=>AQm (N:=N) d (e:=e) v) (fun e v he=>AKR he d v) (Cb C.2 (Au v kVm)).1 [] [] (Cb C.2 (Au v kVm)).2 (fun _=>rfl)
    generalize H9 (Ko N d) (Cb C.2 (Au v kVm)).1 (Cb C.2 (Au v kVm)).2 []=M at *
    generalize H9 (Js N d) (Cb C.2 (Au v kVm)).1 (Cb C.2 (Au v kVm)).2 []=R at *
    rw[←m1]
    obtain⟨s1,s2⟩:=ACa (fun e v=>ATK (N:=N) d (e:=e) v) (fun e v he=>ACI he d v) (Cb M.2 (Au v kSe)).1 [] [] (Cb M.2 (Au v kSe)).2 (fun _=>rfl)
    rw[←s1]
    by_cases hz:((H9 (IQ N d) (Cb M.2 (Au v kSe)).1 (Cb M.2 (Au v kSe)).2 []).2 !=0)=true
    · rw[if_pos hz,if_pos hz]
    · have hz':(H9 (IQ N d) (Cb M.2 (Au v kSe)).1 (Cb M.2 (Au v kSe)).2 []).2=0:=by simpa using hz
      rw[if_neg hz,if_neg hz,s2 hz',m2 (AS5 (fun e v he=>ACI he d v) hz')]
  · have hne:(J6 0 (Au v [105,100]).1 !=0)=true:=by simpa using he
    rw[if_pos (show(J6 0 (Au v [105,100]).1 !=0)=true∨((MJ (Au v [105,100]).1.text).2 !=0)=true from .inl hne)]
    have h160:J6 0 (Au v [105,100]).1=160:=by
      unfold J6 JK at he⊢;split
      · rfl
      · rename_i k;rw[if_neg k]at he;exact absurd rfl he
    rw[h160]
    have a1:(Pf 160 (Au v kAk) false).2=160:=by
      unfold Pf;split
      · rw[Bool.false_and,if_neg (by decide)];dsimp only;rw[AIi (by decide),AAT (by decide)]
      · rfl
    have c1: ∀g,(Mi 160 g).2=160:=fun g=>by unfold Mi;split;exact M4 (by decide) _;rfl
    have sq: ∀ {α:Type}{f:Int→ApiValue→α×Int} (hf: ∀e v,e≠0→(f e v).2=e) (l:List ApiValue) (acc:List α),(H9 f l 160 acc).2=160:=fun hf l acc=>AJV hf (by decide) l acc
    rw[a1,c1,AJS (by decide),sq (fun e v he=>ATq he d v),AJS (by decide),sq (fun e v he=>ATZ he d v),if_pos (by decide)]
end
end Go.VM
namespace Go.VM
section
variable{N:Nat}
end
end Go.VM
namespace Go.VM
section
variable{N:Nat}
end
end Go.VM
namespace Go.VM
section
variable{N:Nat}
def Ty:List UInt8:=[104,116,116,112,115]
theorem AGZ:MU Ty:=by unfold MU;decide
def AUa (u:ApiURL):List UInt8:=[47,47]++(hpF u.host u.port++(QC u++if u.hasFrag=true then [35]++u.fragment else []))
theorem AAz (u:ApiURL):JX u=Ty++58::AUa u:=by
  unfold JX AUa Ty
  split<;>simp
def eqU (u v:ApiURL):Bool:=u.host==v.host&&(u.port==v.port&&(u.path==v.path&&(u.query==v.query&&(u.fragment==v.fragment&&(u.hasQuery==v.hasQuery&&u.hasFrag==v.hasFrag)))))
def Pv (N:Nat) (u:ApiURL):Bool:=if((AM7 N Ty (AUa u)).2==0)=true then eqU u (AM7 N Ty (AUa u)).1 else false
theorem AMR (u:ApiURL) (h:Ox u) (hb:(JX u).length≤1000000) (hN:20000≤N):JY N u=some (Pv N u):=by
  rw[AAz]at hb
  unfold JY Pv
  rw[Qm u h (by omega),Option.bind_some,AAz,AWt AGZ hb hN,Option.bind_some]
  split<;>rfl
theorem ALW (u:ApiURL) (h:Ox u) (hb:(JX u).length≤1000000) (hN:20000≤N):KV N u=some (Pv N u):=by
  rw[AAz]at hb
  unfold KV Pv
  rw[Q9 u h (by omega),Option.bind_some,AAz,AWV AGZ hb hN,Option.bind_some]
  split<;>rfl
end
end Go.VM
namespace Go.VM
section
variable{N:Nat}
def ADU (b r:List UInt8):List UInt8:=match Kt b b.length with|some i=>b.take (i+1)++r|none=>r
def Qq (a b:ApiURI):List UInt8:=if(a.hasAuthority&&(a.path==[]))=true then 47::b.path else ADU a.path b.path
theorem AQe (b r:List UInt8):(ADU b r).length≤b.length+r.length:=by
  unfold ADU
  split
  · rw[List.length_append,List.length_take];omega
  · omega
theorem TZ (a b:ApiURI):(Qq a b).length≤a.path.length+b.path.length+1:=by
  unfold Qq
  split
  · simp
  · have:=AQe a.path b.path;omega
theorem AL8 (a b:ApiURI) (ha:a.path.length≤100000) (hb:b.path.length≤100000) (hN:1000000≤N):Mc N a b=some (if preB [47] b.path=true then b.path else Qq a b):=by
  unfold Mc Qq
  rw[Od,Option.bind_some]
  by_cases h:preB [47] b.path=true
  · rw[if_pos h,if_pos h]
  rw[if_neg h,if_neg h]
  refine(Bo (a:=a.hasAuthority&&(a.path==[])) fun k=>by cases a.hasAuthority<;>rfl).trans ?_
  by_cases h2:(a.hasAuthority&&(a.path==[]))=true
  · rw[if_pos h2,if_pos h2,Be (by simp;omega)];rfl
  rw[if_neg h2,if_neg h2,WR _ (by omega) (by omega),Option.bind_some]
  unfold ADU
  cases h3:Kt a.path a.path.length with
  | none=>
    dsimp only
    rw[show sub a.path 0 (wr .i64 ((-1:Int)+1))=some []from by
      rw[show wr .i64 ((-1:Int)+1)=((0:Nat):Int)from rfl,show(0:Int)=((0:Nat):Int)from rfl,DI _ 0 0 (Nat.le_refl _) (Nat.zero_le _)];simp,Option.bind_some,Be (by simp;omega)];rfl
  | some i=>
    have:=Qj h3
    dsimp only
    rw[show wr .i64 ((i:Int)+1)=((i+1:Nat):Int) by rw[AR (by omega)];omega,show(0:Int)=((0:Nat):Int)from rfl,DI _ 0 _ (Nat.zero_le _) (by omega),Option.bind_some,List.drop_zero,Nat.sub_zero,Be (by rw[List.length_take];omega)]
theorem R5{a b:ApiURI} (ha:a.path.length≤100000) (hb:b.path.length≤100000): ∀(n k:Nat),n≤a.path.length→n<k→
    Du N a b (fun _=>some b.path) k ((n:Int)-1)=some (match Kt a.path n with|some i=>a.path.take (i+1)++b.path|none=>b.path)
  |n,0,_,h=>by omega
  |0,k+1,_,_=>by rw[Du,if_neg (by decide)];rfl
  | n+1,k+1,hn,hk=>by
    rw[Du,if_pos (by simp),show((n+1:Nat):Int)-1=(n:Int) by omega,IC,List.getElem?_eq_getElem (by omega),Option.bind_some,b47,Kt,List.getElem?_eq_getElem (by omega)]
    by_cases h:a.path[n]=47
    · rw[decide_eq_true h,if_pos rfl,if_pos (by rw[h]),show wr .i64 ((n:Int)+1)=((n+1:Nat):Int) by rw[AR (by omega)];omega,show(0:Int)=((0:Nat):Int)from rfl,DI _ 0 _ (Nat.zero_le _) (by omega),Option.bind_some,List.drop_zero,Nat.sub_zero,Be (by rw[List.length_take];omega)]
    · rw[decide_eq_false h,if_neg (by decide),if_neg (by simpa using h),AR (by omega)]
      exact R5 ha hb n k (by omega) (by omega)
theorem AHt (a b:ApiURI) (ha:a.path.length≤100000) (hb:b.path.length≤100000) (hN:1000000≤N):Jp N a b=some (Qq a b):=by
  unfold Jp Qq ADU
  refine(Bo (a:=a.hasAuthority&&(a.path==[])) fun k=>by cases a.hasAuthority<;>rfl).trans ?_
  by_cases h2:(a.hasAuthority&&(a.path==[]))=true
  · rw[if_pos h2,if_pos h2,Be (by simp;omega)];rfl
  rw[if_neg h2,if_neg h2,AB,AR (by omega),R5 ha hb a.path.length N (Nat.le_refl _) (by omega)]
def Vh (N:Nat) (a b:ApiURI):ApiURI:=
  if b.hasScheme=true then⟨b.scheme,b.authority,Hf N b.path [],b.query,b.fragment,b.hasScheme,b.hasAuthority,b.hasQuery,b.hasFrag⟩
  else if b.hasAuthority=true then⟨a.scheme,b.authority,Hf N b.path [],b.query,b.fragment,a.hasScheme,b.hasAuthority,b.hasQuery,b.hasFrag⟩
  else if(b.path==[])=true then
    if b.hasQuery=true then⟨a.scheme,a.authority,a.path,b.query,b.fragment,a.hasScheme,a.hasAuthority,b.hasQuery,b.hasFrag⟩
    else⟨a.scheme,a.authority,a.path,a.query,b.fragment,a.hasScheme,a.hasAuthority,a.hasQuery,b.hasFrag⟩
  else⟨a.scheme,a.authority,Hf N (if preB [47] b.path=true then b.path else Qq a b) [],b.query,b.fragment,a.hasScheme,a.hasAuthority,b.hasQuery,b.hasFrag⟩
theorem AWd (a b:ApiURI) (h:a.path.length+b.path.length≤16000) (hN:1000000≤N):KT N a b=some (Vh N a b):=by
  unfold KT Vh
  have ml:=TZ a b
  dsimp only[AB]
  cases h1:b.hasScheme
  rotate_left
  · rw[if_pos rfl,if_pos rfl,TK _ (by omega) (by omega),Option.bind_some]
  simp only[Bool.false_eq_true,if_false]
  cases h2:b.hasAuthority
  rotate_left
  · simp only[if_true]
    rw[TK _ (by omega) (by omega),Option.bind_some]
  simp only[Bool.false_eq_true,if_false]
  by_cases h3:(b.path==[])=true
  · simp only[h3,if_true]
    cases b.hasQuery<;>rfl
  simp only[if_neg h3]
  rw[AL8 a b (by omega) (by omega) hN,Option.bind_some,TK _ (by omega) (by split<;>omega),Option.bind_some]
theorem AaT{c:UInt8}{t:List UInt8}:preB [47] (c::t)=(c==47):=by
  unfold preB;simp
theorem AVl (a b:ApiURI) (h:a.path.length+b.path.length≤16000) (hN:1000000≤N):Ih N a b=some (Vh N a b):=by
  unfold Ih Vh
  have ml:=TZ a b
  dsimp only[AB]
  cases h1:b.hasScheme
  rotate_left
  · rw[if_pos rfl,if_pos rfl,Qw _ (by omega) (by omega),Option.bind_some]
  simp only[Bool.false_eq_true,if_false]
  cases h2:b.hasAuthority
  rotate_left
  · simp only[if_true]
    rw[Qw _ (by omega) (by omega),Option.bind_some]
  simp only[Bool.false_eq_true,if_false]
  by_cases h3:(b.path==[])=true
  · simp only[h3,if_true]
    cases b.hasQuery<;>rfl
  simp only[if_neg h3]
  rw[AHt a b (by omega) (by omega) hN,Option.bind_some,Qw _ (by omega) (by omega),Option.bind_some]
  cases hp:b.path with
  |nil=>rw[hp]at h3;exact absurd rfl h3
  | cons c t=>
    rw[show idx (c::t) 0=some c from rfl,Option.bind_some,b47,AaT]
    by_cases h4:c=47
    · rw[decide_eq_true h4,if_pos rfl,if_pos (by simpa using h4),Qw _ (by omega) (by rw[←hp];omega),Option.bind_some]
    · rw[decide_eq_false h4,if_neg (by decide),if_neg (by simpa using h4)]
def AIy (u:ApiURI):List UInt8:=
  (((((if u.hasScheme=true then u.scheme++[58]else [])++(if u.hasAuthority=true then [47,47]++u.authority else []))++u.path)++(if u.hasQuery=true then [63]++u.query else []))++(if u.hasFrag=true then [35]++u.fragment else []))
def uB (u:ApiURI) (n:Nat):Prop:=u.scheme.length≤n∧u.authority.length≤n∧u.path.length≤n∧u.query.length≤n∧u.fragment.length≤n
theorem Qb (f:Bool) (x y:List UInt8) (d:Bool) (b:List UInt8) (h:b.length+x.length+y.length≤1000000000): ∃d',FD N f [x,y] ⟨d,b⟩=some ⟨d',b++(if f=true then x++y else [])⟩:=by
  unfold FD
  rw[Be (by simp)]
  cases f
  · refine⟨d,?_⟩
    simp only[EN,AB,Bool.false_eq_true,if_false,List.append_nil]
  · refine⟨true,?_⟩
    simp only[EN,AB,if_true]
    rw[Re _ _ _ (by omega),Option.bind_some,Re _ _ _ (by rw[List.length_append];omega),Option.bind_some,List.append_assoc]
theorem ANc (x:List UInt8) (d:Bool) (b:List UInt8) (h:b.length+x.length≤1000000000):FD N true [x] ⟨d,b⟩=some ⟨true,b++x⟩:=by
  unfold FD
  rw[Be (by simp)]
  simp only[EN,AB,if_true]
  rw[Re _ _ _ (by omega),Option.bind_some]
theorem ARv (u:ApiURI) (h:uB u 1000000):N8 N u=some (AIy u):=by
  obtain⟨h1,h2,h3,h4,h5⟩:=h
  unfold N8 letL AIy
  dsimp only
  obtain⟨d1,e1⟩:=Qb (N:=N) u.hasScheme u.scheme [58] false [] (by simp;omega)
  rw[e1,Option.bind_some,List.nil_append]
  generalize hA:(if u.hasScheme=true then u.scheme++[58]else [])=A
  have lA:A.length≤1000001:=by rw[←hA];split<;>simp;omega
  obtain⟨d2,e2⟩:=Qb (N:=N) u.hasAuthority [47,47] u.authority d1 A (by simp;omega)
  rw[e2,Option.bind_some]
  generalize hB:(if u.hasAuthority=true then [47,47]++u.authority else [])=B
  have lB:B.length≤1000002:=by rw[←hB];split<;>simp;omega
  rw[ANc _ _ _ (by simp only[List.length_append];omega),Option.bind_some]
  obtain⟨d3,e3⟩:=Qb (N:=N) u.hasQuery [63] u.query true ((A++B)++u.path) (by simp only[List.length_append,List.length_cons,List.length_nil];omega)
  rw[e3,Option.bind_some]
  generalize hC:(if u.hasQuery=true then [63]++u.query else [])=C
  have lC:C.length≤1000001:=by rw[←hC];split<;>simp;omega
  obtain⟨d4,e4⟩:=Qb (N:=N) u.hasFrag [35] u.fragment d3 (((A++B)++u.path)++C) (by simp only[List.length_append,List.length_cons,List.length_nil];omega)
  rw[e4,Option.bind_some]
  rfl
theorem AQt (u:ApiURI) (h:uB u 1000000):Le N u=some (AIy u):=by
  obtain⟨h1,h2,h3,h4,h5⟩:=h
  unfold Le AIy
  generalize hA:(if u.hasScheme=true then u.scheme++[58]else [])=A
  have lA:A.length≤1000001:=by rw[←hA];split<;>simp;omega
  refine(Bo (a:=A) fun k=>?_).trans ?_
  · rw[←hA]
    split
    · rw[Be (by simp;omega),Be (by simp;omega)];rfl
    · rfl
  generalize hB:(if u.hasAuthority=true then [47,47]++u.authority else [])=B
  have lB:B.length≤1000002:=by rw[←hB];split<;>simp;omega
  refine(Bo (a:=A++B) fun k=>?_).trans ?_
  · rw[←hB]
    split
    · rw[Be (by simp;omega),Be (by simp;omega)]
    · rw[List.append_nil]
  rw[Be (by simp only[List.length_append];omega)]
  generalize hC:(if u.hasQuery=true then [63]++u.query else [])=C
  have lC:C.length≤1000001:=by rw[←hC];split<;>simp;omega
  refine(Bo (a:=((A++B)++u.path)++C) fun k=>?_).trans ?_
  · rw[←hC]
    split
    · rw[Be (by simp;omega),Be (by simp only[List.length_append,List.length_cons,List.length_nil];omega)]
    · rw[List.append_nil]
  refine(Bo (a:=(((A++B)++u.path)++C)++(if u.hasFrag=true then [35]++u.fragment else [])) fun k=>?_).trans rfl
  split
  · rw[Be (by simp;omega),Be (by simp only[List.length_append,List.length_cons,List.length_nil];omega)]
  · rw[List.append_nil]
theorem AJo{u:ApiURI}{n:Nat} (h:uB u n):(AIy u).length≤5 * n+6:=by
  obtain⟨h1,h2,h3,h4,h5⟩:=h
  unfold AIy
  simp only[List.length_append]
  have a1:(if u.hasScheme=true then u.scheme++[58]else []).length≤n+1:=by split<;>simp;omega
  have a2:(if u.hasAuthority=true then [47,47]++u.authority else []).length≤n+2:=by split<;>simp;omega
  have a3:(if u.hasQuery=true then [63]++u.query else []).length≤n+1:=by split<;>simp;omega
  have a4:(if u.hasFrag=true then [35]++u.fragment else []).length≤n+1:=by split<;>simp;omega
  omega
theorem AJ1{a b:ApiURI}{n:Nat} (ha:uB a n) (hb:uB b n):uB (Vh N a b) (2 * n+1):=by
  obtain⟨a1,a2,a3,a4,a5⟩:=ha
  obtain⟨b1,b2,b3,b4,b5⟩:=hb
  have ml:=TZ a b
  have d1:=Jm N b.path []
  have d2:=Jm N (if preB [47] b.path=true then b.path else Qq a b) []
  have d3:(if preB [47] b.path=true then b.path else Qq a b).length≤2 * n+1:=by split<;>omega
  simp only[List.length_nil]at d1 d2
  unfold Vh uB
  split
  · dsimp only;omega
  split
  · dsimp only;omega
  split
  · split<;>(dsimp only;omega)
  · dsimp only;omega
def Xy (N:Nat) (a:ApiURL) (r:List UInt8):ApiURL×Int:=
  if Pv N a=true then
    if((Iw r).2 !=0)=true then(Lj,(Iw r).2)
    else if((Vh N (Iw (JX a)).1 (Iw r).1).scheme.map FK==List.map FK [104,116,116,112,115])=true then Mm N (AIy (Vh N (Iw (JX a)).1 (Iw r).1))
    else(Lj,253)
  else(Lj,8)
theorem AAq{s:List UInt8}{n:Nat} (h:s.length≤n):uB (Iw s).1 n:=by
  obtain⟨l1,l2,l3,l4,l5⟩:=Lt s
  exact⟨by omega,by omega,by omega,by omega,by omega⟩
theorem AVa (a:ApiURL) (r:List UInt8) (h:Ox a) (hw:(JX a).length≤5000) (hr:r.length≤10000) (hN:1000000≤N):Gi N a r=some (Xy N a r):=by
  unfold Gi Xy
  rw[AMR a h (by omega) (by omega),Option.bind_some]
  cases Pv N a
  · rfl
  simp only[if_true]
  rw[Qm a h (by omega),Option.bind_some,NH _ (by omega) (by omega),Option.bind_some,NH _ (by omega) (by omega),Option.bind_some]
  by_cases h2:((Iw r).2 !=0)=true
  · rw[if_pos h2,if_pos h2];rfl
  rw[if_neg h2,if_neg h2]
  have u1:=AAq (s:=JX a) (n:=10000) (by omega)
  have u2:=AAq (s:=r) (n:=10000) hr
  have p1:=(Lt (JX a)).2.1
  have p2:=(Lt r).2.1
  rw[AWd _ _ (by omega) hN,Option.bind_some]
  have u3:=AJ1 (N:=N) u1 u2
  generalize Vh N (Iw (JX a)).1 (Iw r).1=U at *
  rw[Wm _ _ (by have:=u3.1;omega) (by decide),Option.bind_some]
  cases (U.scheme.map FK==List.map FK [104,116,116,112,115])
  · rfl
  simp only[if_true]
  have j:=AJo u3
  rw[ARv U ⟨by have:=u3.1;omega,by have:=u3.2.1;omega,by have:=u3.2.2.1;omega,by have:=u3.2.2.2.1;omega,by have:=u3.2.2.2.2;omega⟩,Option.bind_some,Uz _ (by omega) (by omega),Option.bind_some]
theorem AWD (a:ApiURL) (r:List UInt8) (h:Ox a) (hw:(JX a).length≤5000) (hr:r.length≤10000) (hN:1000000≤N):Hq N a r=some (Xy N a r):=by
  unfold Hq Xy
  rw[ALW a h (by omega) (by omega),Option.bind_some]
  cases Pv N a
  · rfl
  simp only[if_true]
  rw[Q9 a h (by omega),Option.bind_some,Pk _ (by omega),Option.bind_some,Pk _ (by omega),Option.bind_some]
  by_cases h2:((Iw r).2 !=0)=true
  · rw[if_pos h2,if_pos h2];rfl
  rw[if_neg h2,if_neg h2]
  have u1:=AAq (s:=JX a) (n:=10000) (by omega)
  have u2:=AAq (s:=r) (n:=10000) hr
  have p1:=(Lt (JX a)).2.1
  have p2:=(Lt r).2.1
  rw[AVl _ _ (by omega) hN,Option.bind_some]
  have u3:=AJ1 (N:=N) u1 u2
  generalize Vh N (Iw (JX a)).1 (Iw r).1=U at *
  rw[Vj _ _ (by have:=u3.1;omega) (by decide),Option.bind_some]
  cases (U.scheme.map FK==List.map FK [104,116,116,112,115])
  · rfl
  simp only[if_true]
  have j:=AJo u3
  rw[AQt U ⟨by have:=u3.1;omega,by have:=u3.2.1;omega,by have:=u3.2.2.1;omega,by have:=u3.2.2.2.1;omega,by have:=u3.2.2.2.2;omega⟩,Option.bind_some,Tp _ (by omega) (by omega),Option.bind_some]
end
end Go.VM
namespace Go.VM
theorem AYZ:NS 1099511627776=some true:=by kernel_rfl
section
variable{N:Nat}
def IW (N:Nat) (out:List ApiField) (s:List UInt8):List ApiField:=
  if(s==[])=true then out else if((Nl N (AQ 61 s).2.1).2==0)=true then out++[⟨(AQ 61 s).1,(Nl N (AQ 61 s).2.1).1⟩]else out
theorem PU (out:List ApiField) (s:List UInt8):(IW N out s).length≤out.length+1:=by
  unfold IW
  split
  · omega
  split
  · simp
  · omega
def Uf (N:Nat) (q:List UInt8):List ApiField:=(Ar 38 q).foldl (IW N) []
theorem AQf (s:List UInt8) (out:List ApiField) (hs:s.length≤100000) (ho:out.length≤100000) (hN:20000≤N) (h0:(s==[])=false):Fz N s out=some (IW N out s):=by
  unfold Fz IW
  rw[LZ 61 s (by omega),Option.bind_some,Tu _ hN,Option.bind_some,h0,if_neg (show¬(false=true) by decide),AV (MF (by omega) (by omega))]
  split<;>rfl
theorem Wu (hN:20000≤N): ∀(k:Nat) (q:List UInt8) (out:List ApiField),q.length<k→q.length≤100000→out.length+q.length≤90000→D5 N k q out=some ((Ar 38 q).foldl (IW N) out)
  |0,q,out,h,_,_=>by omega
  | k+1,q,out,h,hb,ho=>by
    have hle:=FP 38 q
    rw[D5,LZ 38 q (by omega),Option.bind_some,KF]
    have e:(if((AQ 38 q).1==[])=true then some out else Fz N (AQ 38 q).1 out)=some (IW N out (AQ 38 q).1):=by
      cases h0:((AQ 38 q).1==[])
      · rw[if_neg (by decide),AQf _ _ (by omega) (by omega) hN h0]
      · rw[if_pos rfl];unfold IW;rw[if_pos h0]
    rw[e,Option.bind_some]
    have hl:=PU (N:=N) out (AQ 38 q).1
    cases hc:(AQ 38 q).2.2
    · rfl
    · have hless:=ADi hc
      rw[if_pos rfl,if_pos rfl,List.foldl_cons]
      exact Wu hN k _ _ (by omega) (by omega) (by omega)
theorem AW7 (q:List UInt8) (hb:q.length≤20000) (hN:100000≤N):J2 N q=some (Uf N q):=Wu (by omega) N q [] (by omega) (by omega) (by simp;omega)
theorem AU6 (x:List UInt8) (hb:x.length≤1000000):Lf N x (wr .i64 ((((x.takeWhile (· !=(61:UInt8))).length:Nat):Int)+1))=some (AQ 61 x).2.1:=by
  have hw:=LB (· !=(61:UInt8)) x
  have e:wr .i64 ((((x.takeWhile (· !=(61:UInt8))).length:Nat):Int)+1)=(((x.takeWhile (· !=(61:UInt8))).length+1:Nat):Int):=by rw[AR (by omega)];omega
  unfold Lf
  cases hc:x.contains 61
  · rw[e,LK x hc,if_pos (by simp only[decide_eq_true_eq];omega),MH hc]
  · have hlt:=JV hc
    obtain⟨_,s2⟩:=Tw hc hb
    have s2':=s2
    rw[s2']
    rw[e]at s2⊢
    by_cases hge:x.length≤(x.takeWhile (· !=(61:UInt8))).length+1
    · rw[if_pos (by simp only[decide_eq_true_eq];omega)]
      have:(x.takeWhile (· !=(61:UInt8))).length+1=x.length:=by omega
      rw[this]at s2
      rw[DI x x.length x.length (Nat.le_refl _) (Nat.le_refl _)]at s2
      rw[←Option.some.inj s2];simp
    · rw[if_neg (by simp only[decide_eq_true_eq];omega),Option.bind_some]
theorem AP5 (x:List UInt8) (hb:x.length≤1000000):sub x 0 (((x.takeWhile (· !=(61:UInt8))).length:Nat):Int)=some (AQ 61 x).1:=by
  cases hc:x.contains 61
  · rw[LK x hc,MH hc,show(0:Int)=((0:Nat):Int)from rfl,DI x 0 x.length (Nat.zero_le _) (Nat.le_refl _)];simp
  · exact(Tw hc hb).1
theorem WC (hN:20000≤N) (k:List ApiField→Option (List ApiField)): ∀(xs:List (List UInt8)) (out:List ApiField),(∀x,x∈xs→x.length≤100000)→out.length+xs.length≤90000→D6 N k xs out=k (xs.foldl (IW N) out)
  |[],out,_,_=>by rw[D6];rfl
  | x::xs,out,h,hb=>by
    have hx:=h x (by simp)
    have hl:=PU (N:=N) out x
    rw[List.length_cons]at hb
    have ih:=WC hN k xs (IW N out x) (fun y hy=>h y (by simp[hy])) (by omega)
    rw[D6,List.foldl_cons,←ih]
    dsimp only[AB]
    rw[Aav 61 x (by omega),Option.bind_some,AU6 x (by omega),Option.bind_some,Ph _ hN,Option.bind_some,AP5 x (by omega),Option.bind_some,AV (MF (by omega) (by omega))]
    unfold IW
    cases (x==[])<;>cases ((Nl N (AQ 61 x).2.1).2==0)<;>rfl
theorem AXL (q:List UInt8) (hb:q.length≤20000) (hN:100000≤N):Jz N q=some (Uf N q):=by
  have hl:=I6 38 q
  unfold Jz
  dsimp only[AB]
  rw[show(38:Int)=AJ 38 from rfl,Oo q 38 (by omega),Option.bind_some,Be (by omega),WC (by omega) _ _ _ (fun x hx=>by have:=F4 38 q x hx;omega) (by simp;omega)]
  rfl
theorem WK: ∀(xs:List (List UInt8)) (out:List ApiField),(xs.foldl (IW N) out).length≤out.length+xs.length
  |[],_=>Nat.le_refl _
  | x::xs,out=>by
    have h1:=PU (N:=N) out x
    have h2:=WK xs (IW N out x)
    rw[List.foldl_cons,List.length_cons];omega
end
end Go.VM
