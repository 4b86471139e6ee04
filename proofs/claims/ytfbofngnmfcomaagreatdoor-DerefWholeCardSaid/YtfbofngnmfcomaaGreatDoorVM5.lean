import Derived.Test.YtfbofngnmfcomaaGreatDoorVM3
set_option linter.defProp false
set_option linter.unusedSimpArgs false
set_option linter.unusedVariables false
namespace Go.VM
def RepL.split{Γ:Ghost}: ∀ {xs ys:List AVal}{vs:List Value},RepL Γ (xs++ys) vs->∃us ws,vs=us++ws/\RepL Γ xs us/\RepL Γ ys ws|[],ys,vs,h=>⟨[],vs,rfl,.nil,h⟩|x::xs,ys,vs,h=>by cases h with|cons h t=>obtain⟨us,ws,rfl,h1,h2⟩:=RepL.split t;exact⟨_::us,ws,rfl,.cons h h1,h2⟩
def elA (w:Nat):AVal->Bool|.agg cs=>cs.length==w|.bool _=>w==1|.int _ _=>w==1|.str _=>w==1|_=>false
def YE{Γ:Ghost}{w:Nat}: ∀(xs:List AVal) (vs rest:List Value),(∀x,x∈xs->elA w x=true)->RepL Γ (xs.flatMap AX) vs->(∀v,v∈vs->v.oneCell'=true)->RepS Γ w xs (vs++rest)
 |[],vs,rest,_,_,_=>.nil _ _
 |x::xs,vs,rest,hx,h,ho=>by
  rw[cf]at h;obtain⟨us,ws,rfl,h1,h2⟩:=RepL.split h;have ih:=YE xs ws rest (λy hy=>hx y (by grind)) h2 (λv hv=>ho v (by grind));have he:=hx x fy;rw[aM];cases x with
  |agg cs=>simp only[elA,bc]at he;have hl:=RepL.length h1;have:=RepS.cons (v:=.agg us.toArray) (w:=w) (.agg (by simpa[AX]using h1) (λv hv=>ho v (by grind))) ⟨by grind[Value.cells,AX],λc hc=>ho c (by grind[Value.cells])⟩ ih;grind[Value.cells]
  |bool b=>simp only[elA,bc]at he;subst he;simp only[AX]at h1;cases h1 with|cons h1 t=>cases t;cases h1;exact RepS.cons (v:=.bool b) (.bool b) ⟨rfl,λc hc=>ho c (by grind[Value.cells])⟩ ih
  |int k n=>simp only[elA,bc]at he;subst he;simp only[AX]at h1;cases h1 with|cons h1 t=>cases t;cases h1;exact RepS.cons (v:=.int k n) (.int k n) ⟨rfl,λc hc=>ho c (by grind[Value.cells])⟩ ih
  |str s=>simp only[elA,bc]at he;subst he;simp only[AX]at h1;cases h1 with|cons h1 t=>cases t;cases h1;rename_i b hn;exact RepS.cons (v:=.string b) (.str b hn) ⟨rfl,λc hc=>ho c (by grind[Value.cells])⟩ ih
  |_=>simp[elA]at he
inductive Lent1 (m:List (Nat×List AVal)):AVal->AVal->Prop|same (x:AVal):Lent1 m x x|box{w i len:Nat}{xs junk:List AVal} (hm:(i,xs.flatMap AX++junk)∈m) (hl:xs.length=len) (hx: ∀x,x∈xs->elA w x=true):Lent1 m (.gsl w i len) (.slice w xs false)|stripped (x:AVal):Lent1 m x x.strip|ptr{i off:Nat}{cs:List AVal} (hm:(i,cs)∈m) (ho:off<=cs.length):Lent1 m (.ptr i off) (.cptr (cs.drop off))|row{i len:Nat}{xs junk:List AVal} (hm:(i,xs.flatMap AX++junk)∈m) (hl:xs.length=len) (hx: ∀x,x∈xs->elA 1 x=true):Lent1 m (.bsl 1 i 0 len) (.slice 1 xs false)
inductive Lent1L (m:List (Nat×List AVal)):List AVal->List AVal->Prop|nil:Lent1L m [] []|cons{x y:AVal}{xs ys:List AVal} (h:Lent1 m x y) (t:Lent1L m xs ys):Lent1L m (x::xs) (y::ys)
inductive Lent (m:List (Nat×List AVal)):AVal->AVal->Prop|one{x y:AVal} (h:Lent1 m x y):Lent m x y|agg{xs ys:List AVal} (h:Lent1L m xs ys):Lent m (.agg xs) (.agg ys)
inductive LentL (m:List (Nat×List AVal)):List AVal->List AVal->Prop|nil:LentL m [] []|cons{x y:AVal}{xs ys:List AVal} (h:Lent m x y) (t:LentL m xs ys):LentL m (x::xs) (y::ys)
section
variable{m:List (Nat×List AVal)}{Γ Γ':Ghost}
def Seen (m:List (Nat×List AVal)) (Γ Γ':Ghost):Prop:= ∀i cs b,(i,cs)∈m->Γ.bx i=some b-> ∃us ws,Γ'.com b=some (us++ws)/\RepL Γ' cs us/\ ∀v,v∈us->v.oneCell'=true
def Lent1.rep (le:Γ.le Γ') (hs:Seen m Γ Γ'){x y:AVal}{v:Value} (h:Lent1 m x y) (k:Rep Γ x v):Rep Γ' y v:=by
 cases h with
 |same=>exact k.mono le
 |box hm hl hx=>cases k with|gsl hb ht hc hz=>obtain⟨us,ws,h1,h2,h3⟩:=hs _ _ _ hm hb;obtain⟨u1,u2,rfl,h4,h5⟩:=RepL.split h2;exact .slice false h1 hl hc (by rw[aL,aM];exact YE _ _ _ hx h4 λv hv=>h3 v (by simp[hv])) (λh=>by cases h)
 |stripped=>exact(k.mono le).strip
 |ptr hm ho=>cases k with|ptr hb=>obtain⟨us,ws,h1,h2,h3⟩:=hs _ _ _ hm hb;have hl:=h2.length;refine .cptr (vs:=us.drop _) (rest:=ws) h1 ?_ (h2.drop _) λv hv=>h3 v (cL hv);grind
 | @row i len xs junk hm hl hx=>
  cases k with
  |bsl hb ho hc=>
   obtain⟨us,ws,h1,h2,h3⟩:=hs _ _ _ hm hb;obtain⟨u1,u2,rfl,h4,h5⟩:=RepL.split h2;rcases ho with ho|ho;·subst ho;have:xs=[]:=dJ.1 hl;subst this;exact .slice false h1 hl hc (.nil _ _) (λh=>by cases h)
   ·subst ho;exact .slice false h1 hl hc (by rw[aL,aM];exact YE _ _ _ hx h4 λv hv=>h3 v (by simp[hv])) (λh=>by cases h)
def Lent1L.rep (le:Γ.le Γ') (hs:Seen m Γ Γ'){xs ys:List AVal}{vs:List Value} (h:Lent1L m xs ys) (k:RepL Γ xs vs):RepL Γ' ys vs:=by induction h generalizing vs with|nil=>cases k;exact .nil|cons h t ih=>cases k with|cons k1 k2=>exact .cons (h.rep le hs k1) (ih k2)
def Lent.rep (le:Γ.le Γ') (hs:Seen m Γ Γ'){x y:AVal}{v:Value} (h:Lent m x y) (k:Rep Γ x v):Rep Γ' y v:=by cases h with|one h=>exact h.rep le hs k|agg h=>cases k with|agg k one=>exact .agg (h.rep le hs k) one
def LentL.rep (le:Γ.le Γ') (hs:Seen m Γ Γ'){xs ys:List AVal}{vs:List Value} (h:LentL m xs ys) (k:RepL Γ xs vs):RepL Γ' ys vs:=by induction h generalizing vs with|nil=>cases k;exact .nil|cons h t ih=>cases k with|cons k1 k2=>exact .cons (h.rep le hs k1) (ih k2)
end
def ARS:AVal->Bool|.bool _=>true|.int _ _=>true|.str _=>true|_=>false
def ArN:AVal->Bool|.tuple vs=>vs.all ARS|x=>ARS x
def ADy{Γ Γ':Ghost}{w:World}{x:AVal}{v:Value} (hx:ARS x=true) (h:Rep Γ x v):Rep Γ' x v/\own Γ' w x v/\∀b,cnt b x v=0:=by cases x<;>first|(simp[ARS]at hx;done)|(cases h;exact⟨by constructor<;>assumption,by simp[own],λb=>by simp[cnt]⟩)
def ADO{Γ Γ':Ghost}{w:World}: ∀ {xs:List AVal}{vs:List Value},xs.all ARS=true->RepL Γ xs vs->RepL Γ' xs vs/\ownL Γ' w xs vs/\∀b,AO b xs vs=0|[],vs,_,h=>by cases h;exact⟨.nil,by simp[ownL],λb=>by simp[AO]⟩|x::xs,vs,hx,h=>by rw[bl,av]at hx;cases h with|cons h t=>obtain⟨a1,a2,a3⟩:=ADy (Γ':=Γ') (w:=w) hx.1 h;obtain⟨b1,b2,b3⟩:=ADO (Γ':=Γ') (w:=w) hx.2 t;exact⟨.cons a1 b1,by grind[ownL],λb=>by grind[AO]⟩
def Ag3{Γ Γ':Ghost}{w:World}{x:AVal}{v:Value} (hx:ArN x=true) (h:Rep Γ x v):Rep Γ' x v/\own Γ' w x v/\∀b,cnt b x v=0:=by
 cases x with
 |tuple vs=>cases h with|tuple h=>obtain⟨a1,a2,a3⟩:=ADO (Γ':=Γ') (w:=w) hx h;exact⟨.tuple a1,by grind[own],λb=>by grind[cnt]⟩
 |_=>exact ADy hx h
def Bi (Γ:Ghost) (m:List (Nat×List AVal)) (b:Nat):Bool:=m.any λp=>decide (Γ.bx p.1=some b)
def Lm{Γ:Ghost}{m:List (Nat×List AVal)}{b:Nat}:Bi Γ m b=true<->∃p,p∈m/\Γ.bx p.1=some b:=by simp_all[Bi]
def Ghost.lend (Γ:Ghost) (w:World) (m:List (Nat×List AVal)):Ghost:= {Γ with com:=λb=>if Bi Γ m b=true then some (hcells w b)else Γ.com b}
def Ghost.back (Γ Γ':Ghost) (m:List (Nat×List AVal)):Ghost:={com:=λb=>if Bi Γ m b=true then none else Γ'.com b,bx:=Γ'.bx,bt:=λi=>if(m.map (·.1)).contains i=true then Γ.bt i else Γ'.bt i,ct:=λb=>if Bi Γ m b=true then none else Γ'.ct b,sx:=Γ'.sx}
def ACall.lend{E:Env}{f:FuncId}{args args':List AVal}{m:List (Nat×List AVal)}{n:Nat}{Q:AVal->St->Prop} (hl:LentL m args args') (hst:stripL args'=args')
    (h:ACall E f args' ⟨[],n⟩ λr st'=>ArN r=true/\ ∀n',n<=n'->Q r ⟨m,n'⟩):ACall E f args ⟨m,n⟩ Q:=by
  constructor
  intro F Γ w cargs hs
  have box: ∀p,p∈m-> ∀b,Γ.bx p.1=some b-> ∃arr e,BoxOK Γ w p b arr e:=λp hp b hb=>by
    rcases hs.box_ok p hp with⟨b',arr,e,h⟩|⟨v,h⟩
    . have:b'=b:=by have:=h.bx;grind
      grind
    . rw[h.bx]at hb;grind
  have nocom: ∀b,Bi Γ m b=true->Γ.com b=none/\b<w.heap.size/\F b=0/\Γ.ct b=none:=λb hb=>by
    obtain⟨p,hp,h1⟩:=Lm.1 hb
    obtain⟨arr,e,k⟩:=box p hp b h1
    refine⟨k.com,hs.bx_lt _ _ h1,hs.bx_F p b hp h1,?_⟩
    cases hc:Γ.ct b with
    |none=>rfl
    |some e'=>obtain⟨cs,h2⟩:=hs.tyd.2 b e' hc;rw[k.com]at h2;grind
  have le1:Γ.le (Γ.lend w m):=⟨λb cs hb=>by
      have:Bi Γ m b=false:=by
        grind
      exact⟨[],by rw[bz];show(if Bi Γ m b=true then _ else _)=_;grind⟩,λ_ _ h=>h,λ_ _ h=>h,λ_ _ h=>h,λ_ _ h=>h⟩
  have seen:Seen m Γ (Γ.lend w m):=λi cs b hm hb=>by
    obtain⟨arr,e,k⟩:=box _ hm b hb
    obtain⟨lo,hi,hh,_⟩:=k.heap
    have hx:Bi Γ m b=true:=Lm.2 ⟨_,hm,hb⟩
    have hc:hcells w b=arr.toList:=by grind[hcells]
    refine⟨arr.toList.take cs.length,arr.toList.drop cs.length,?_,k.rep.mono le1,k.one⟩
    show(if Bi Γ m b=true then _ else _)=_
    simp_all
  let F1:Nat->Nat:=λb=>if Bi Γ m b=true then 1 else F b+Ah Γ w b m
  have big: ∀b,w.heap.size<=b->Ah Γ w b m=0:=λb hb=>by
    rcases dI (Ah Γ w b m)with h0|h0
    . omega
    . have:=ZY (a:= {tmps:=cargs,defers:=[]}) hs h0
      omega
  have cz: ∀b,AO b args' cargs.toList=0:=λb=>by grind[Hz]
  have hsim:Sim E F1 (Γ.lend w m) ⟨[],n⟩ w args' cargs.toList:=
    { com_ok:=λb cs hb=>by
        cases hx:Bi Γ m b
        . have hb':Γ.com b=some cs:=by have:(if Bi Γ m b=true then some (hcells w b)else Γ.com b)=some cs:=hb;grind
          exact hs.com_ok b cs hb'
        . have hb':hcells w b=cs:=by have:(if Bi Γ m b=true then some (hcells w b)else Γ.com b)=some cs:=hb;grind
          obtain⟨p,hp,h1⟩:=Lm.1 hx
          obtain⟨arr,e,k⟩:=box p hp b h1
          obtain⟨lo,hi,hh,_⟩:=k.heap
          refine⟨arr,e,(lo,hi),hh,⟨[],by grind[hcells]⟩,λT hT=>?_⟩
          have:Γ.ct b=some T:=hT
          grind
      box_ok:=λp hp=>by grind
      sx_next:=hs.sx_next
      keys:=fy
      inj:=hs.inj
      bx_lt:=hs.bx_lt
      bx_next:=hs.bx_next
      tyd:=⟨hs.tyd.1,λb e hb=>by
        obtain⟨cs,h2⟩:=hs.tyd.2 b e hb
        obtain⟨ds,h3⟩:=le1.1 b cs h2
        grind⟩
      bx_F:=λp b hp=>by grind
      F_lt:=λb hb=>by
        show(if Bi Γ m b=true then 1 else F b+Ah Γ w b m)=0
        cases hx:Bi Γ m b
        . rw[an fA,hs.F_lt b hb,big b hb]
        grind
      glob:=λg cs hg=>(hs.glob g cs hg).mono le1
      rep:=hl.rep le1 seen hs.rep
      own:=by grind[Jf]
      tok:=λb=>by
        rw[cz b]
        show(if Bi Γ m b=true then 1 else F b+Ah Γ w b m)+0+0<=1
        have:=hs.tok b
        grind}
  refine(h.go F1 (Γ.lend w m) w cargs hsim).mono ?_
  rintro e w' ⟨v,he,Γ',r,st',hx,hn,hs',hfl,hq⟩
  refine⟨v,he,Γ.back Γ' m,r,⟨m,st'.next⟩,?_,hn,?_,hq _ hn⟩
  all_goals
    have le2:Γ.le (Γ.back Γ' m):=⟨λb cs hb=>by
        have hnb:Bi Γ m b=false:=by
          grind
        obtain⟨ds,h1⟩:=le1.1 b cs hb
        obtain⟨ds',h2⟩:=hx.le.1 b _ h1
        refine⟨ds++ds',?_⟩
        show(if Bi Γ m b=true then none else Γ'.com b)=_
        simp_all,
      λi b h=>hx.le.2.1 i b h,λi x h=>by
        show(if(m.map (·.1)).contains i=true then Γ.bt i else Γ'.bt i)=some x
        split
        . exact h
        . exact hx.le.2.2.1 i x h,
      λb e h=>by
        have hnb:Bi Γ m b=false:=by
          grind
        show(if Bi Γ m b=true then none else Γ'.ct b)=_
        rw[hnb,an fA]
        exact hx.le.2.2.2.1 b e h,λi v h=>hx.le.2.2.2.2 i v h⟩
  . refine⟨le2,λb hb=>?_,hx.size,hx.os,hx.output,hx.tape⟩
    have hnb:Bi Γ m b=false:=by
      grind
    have hF:1<=F1 b:=by show 1<=(if Bi Γ m b=true then 1 else F b+Ah Γ w b m);rw[hnb,an fA];omega
    obtain⟨k1,k2⟩:=hx.keep b hF
    refine⟨k1,?_⟩
    show(if Bi Γ m b=true then none else Γ'.com b)=_
    rw[hnb,an fA,k2]
    show(if Bi Γ m b=true then some (hcells w b)else Γ.com b)=_
    simp_all
  . have keepB: ∀p,p∈m-> ∀b,Γ.bx p.1=some b->w'.heap[b]?=w.heap[b]?:=λp hp b hb=>by
      have hxb:Bi Γ m b=true:=Lm.2 ⟨p,hp,hb⟩
      exact(hx.keep b (by show 1<=(if Bi Γ m b=true then 1 else F b+Ah Γ w b m);grind)).1
    have keepT: ∀b,1<=Ah Γ w b m->w'.heap[b]?=w.heap[b]?/\(Γ.back Γ' m).com b=Γ.com b:=λb hb=>by
      cases hxb:Bi Γ m b
      . have hF:1<=F1 b:=by show 1<=(if Bi Γ m b=true then 1 else F b+Ah Γ w b m);rw[hxb,an fA];omega
        obtain⟨k1,k2⟩:=hx.keep b hF
        refine⟨k1,?_⟩
        show(if Bi Γ m b=true then none else Γ'.com b)=_
        rw[hxb,an fA,k2]
        show(if Bi Γ m b=true then some (hcells w b)else Γ.com b)=_
        simp_all
      . obtain⟨p,hp,h1⟩:=Lm.1 hxb
        refine⟨keepB p hp b h1,?_⟩
        show(if Bi Γ m b=true then none else Γ'.com b)=_
        simp_all
    have bxm: ∀p,p∈m->Γ'.bx p.1=Γ.bx p.1:=λp hp=>by
      rcases hs.box_ok p hp with⟨b',arr,e,h⟩|⟨v,h⟩
      . rw[h.bx];exact hx.le.2.1 _ _ h.bx
      . rw[h.bx];exact(hs'.sx_next _ _ (hx.le.2.2.2.2 _ _ h.sx)).2
    have sxm: ∀p,p∈m->Γ'.sx p.1=Γ.sx p.1:=λp hp=>by
      rcases hs.box_ok p hp with⟨b',arr,e,h⟩|⟨v,h⟩
      . cases h1:Γ.sx p.1 with
        |some v=>exact hx.le.2.2.2.2 _ _ h1
        | none=>
          cases h2:Γ'.sx p.1 with
          |none=>rfl
          |some v=>have:=(hs'.sx_next _ _ h2).2;rw[bxm p hp,h.bx]at this;grind
      . rw[h.sx];exact hx.le.2.2.2.2 _ _ h.sx
    have hr:=hs'.rep
    cases hr with
    |cons hr _=>
    obtain⟨f1,f2,f3⟩:=Ag3 (Γ':=Γ.back Γ' m) (w:=w') hfl hr
    refine
    { com_ok:=λb cs hb=>by
        cases hxb:Bi Γ m b
        . have e1:(if Bi Γ m b=true then none else Γ'.com b)=some cs:=hb
          rw[hxb,an fA]at e1
          obtain⟨arr,e,fz,h1,h2,h3⟩:=hs'.com_ok b cs e1
          refine⟨arr,e,fz,h1,h2,λT hT=>?_⟩
          have e2:(if Bi Γ m b=true then none else Γ'.ct b)=some T:=hT
          simp_all
        . have e1:(if Bi Γ m b=true then none else Γ'.com b)=some cs:=hb
          simp_all
      box_ok:=λp hp=>by
        rcases hs.box_ok p hp with⟨b,arr,e,k⟩|⟨v,k⟩
        . left
          obtain⟨lo,hi,hh,hz⟩:=k.heap
          have hxb:Bi Γ m b=true:=Lm.2 ⟨p,hp,k.bx⟩
          refine⟨b,arr,e,⟨hx.le.2.1 _ _ k.bx,⟨lo,hi,(keepB p hp b k.bx).trans hh,hz⟩,k.rep.mono le2,?_,?_,k.one,λT n hT=>?_⟩⟩
          . refine Be le2 _ _ k.own λb' hb'=>keepT b' (bG ?_ (V5 hp))
            unfold Ct
            rw[k.bx]
            grind[hcells]
          . show(if Bi Γ m b=true then none else Γ'.com b)=none
            grind
          . have hc:(m.map (·.1)).contains p.1=true:=by rw[List.contains_iff_mem];exact bD.2 ⟨p,hp,rfl⟩
            have e2:(if(m.map (·.1)).contains p.1=true then Γ.bt p.1 else Γ'.bt p.1)=some (T,n):=hT
            rw[aq hc]at e2
            exact k.ty T n e2
        . right
          refine⟨v,hx.le.2.2.2.2 _ _ k.sx,?_,k.rep.mono le2,?_⟩
          . show Γ'.bx p.1=none
            rw[bxm p hp];exact k.bx
          . refine Be le2 _ _ k.own λb' hb'=>keepT b' (bG ?_ (V5 hp))
            unfold Ct
            rw[k.bx,k.sx]
            omega
      sx_next:=hs'.sx_next
      keys:=hs.keys
      inj:=hs'.inj
      bx_lt:=hs'.bx_lt
      bx_next:=hs'.bx_next
      tyd:=⟨λi x hi=>by
          have e1:(if(m.map (·.1)).contains i=true then Γ.bt i else Γ'.bt i)=some x:=hi
          split at e1
          . obtain⟨b,hb⟩:=hs.tyd.1 i x e1
            exact⟨b,hx.le.2.1 _ _ hb⟩
          . exact hs'.tyd.1 i x e1,
        λb e hb=>by
          have e1:(if Bi Γ m b=true then none else Γ'.ct b)=some e:=hb
          cases hxb:Bi Γ m b
          . rw[hxb,an fA]at e1
            obtain⟨cs,h2⟩:=hs'.tyd.2 b e e1
            refine⟨cs,?_⟩
            show(if Bi Γ m b=true then none else Γ'.com b)=_
            simp_all
          simp_all⟩
      bx_F:=λp b hp hb=>by
        have e1:Γ'.bx p.1=some b:=hb
        rw[bxm p hp]at e1
        exact hs.bx_F p b hp e1
      F_lt:=λb hb=>hs.F_lt b (bG hx.size hb)
      glob:=λg cs hg=>(hs.glob g cs hg).mono le2
      rep:=.cons f1 .nil
      own:=by grind[ownL]
      tok:=λb=>?_}
    have ec:Ah (Γ.back Γ' m) w' b m=Ah Γ w b m:=EZ (λp hp=>⟨bxm p hp,λk hk=>keepB p hp k hk⟩) (λp hp=>sxm p hp)
    have:=hs.tok b
    grind[AO]
def Sim.give{E:Env}{F:Nat->Nat}{Γ:Ghost}{m1 m2:List (Nat×List AVal)}{n:Nat}{w:World}{af af':List AVal}{tm:List Value} (hs:Sim E F Γ ⟨m1++m2,n⟩ w af tm) (hl:LentL m1 af af') (hst:stripL af'=af'):
    Sim E F (Γ.lend w m1) ⟨m2,n⟩ w af' tm/\Ext F Γ w (Γ.lend w m1) w:=by
  have box: ∀p,p∈m1-> ∀b,Γ.bx p.1=some b-> ∃arr e,BoxOK Γ w p b arr e:=λp hp b hb=>by
    rcases hs.box_ok p (dl _ hp)with⟨b',arr,e,h⟩|⟨v,h⟩
    . have:b'=b:=by have:=h.bx;grind
      grind
    . rw[h.bx]at hb;grind
  have nocom: ∀b,Bi Γ m1 b=true->Γ.com b=none/\F b=0/\Γ.ct b=none/\ ∃arr e fz,w.heap[b]?=some (.cells arr e fz):=λb hb=>by
    obtain⟨p,hp,h1⟩:=Lm.1 hb
    obtain⟨arr,e,k⟩:=box p hp b h1
    obtain⟨lo,hi,hh,_⟩:=k.heap
    refine⟨k.com,hs.bx_F p b (dl _ hp) h1,?_,arr,e,(lo,hi),hh⟩
    cases hc:Γ.ct b with
    |none=>rfl
    |some e'=>obtain⟨cs,h2⟩:=hs.tyd.2 b e' hc;rw[k.com]at h2;grind
  have le1:Γ.le (Γ.lend w m1):=⟨λb cs hb=>by
      have:Bi Γ m1 b=false:=by
        grind
      exact⟨[],by rw[bz];show(if Bi Γ m1 b=true then _ else _)=_;grind⟩,λ_ _ h=>h,λ_ _ h=>h,λ_ _ h=>h,λ_ _ h=>h⟩
  have seen:Seen m1 Γ (Γ.lend w m1):=λi cs b hm hb=>by
    obtain⟨arr,e,k⟩:=box _ hm b hb
    obtain⟨lo,hi,hh,_⟩:=k.heap
    have hx:Bi Γ m1 b=true:=Lm.2 ⟨_,hm,hb⟩
    have hc:hcells w b=arr.toList:=by grind[hcells]
    refine⟨arr.toList.take cs.length,arr.toList.drop cs.length,?_,k.rep.mono le1,k.one⟩
    show(if Bi Γ m1 b=true then _ else _)=_
    simp_all
  have noheld: ∀b,Bi Γ m1 b=true-> ¬Held Γ w b:=λb hb hh=>by
    obtain⟨h1,_,_,arr,e,fz,h4⟩:=nocom b hb
    rcases hh with⟨cs,h⟩|⟨s,p,h⟩|⟨es,c,h⟩<;>grind
  have same: ∀b,Bi Γ m1 b=false->(Γ.lend w m1).com b=Γ.com b:=λb hb=>by
    show(if Bi Γ m1 b=true then _ else _)=_
    simp_all
  have cz: ∀b,AO b af' tm=0:=λb=>by grind[Hz]
  have hkeys:=hs.keys
  simp only[cB,List.nodup_append]at hkeys
  refine⟨
    { com_ok:=λb cs hb=>?_
      box_ok:=λp hp=>?_
      sx_next:=hs.sx_next
      keys:=hkeys.2.1
      inj:=hs.inj
      bx_lt:=hs.bx_lt
      bx_next:=hs.bx_next
      tyd:=⟨hs.tyd.1,λb e hb=>?_⟩
      bx_F:=λp b hp=>hs.bx_F p b (df _ hp)
      F_lt:=hs.F_lt
      glob:=λg cs hg=>(hs.glob g cs hg).mono le1
      rep:=hl.rep le1 seen hs.rep
      own:=(by grind[Jf])
      tok:=λb=>?_},?_⟩
  . cases hx:Bi Γ m1 b
    . rw[same b hx]at hb
      exact hs.com_ok b cs hb
    . have hb':hcells w b=cs:=by have:(if Bi Γ m1 b=true then some (hcells w b)else Γ.com b)=some cs:=hb;grind
      obtain⟨h1,_,h3,arr,e,fz,h4⟩:=nocom b hx
      refine⟨arr,e,fz,h4,⟨[],by grind[hcells]⟩,λT hT=>?_⟩
      have:Γ.ct b=some T:=hT
      grind
  . have hown: ∀(xs:List AVal) (vs:List Value),ownL Γ w xs vs->ownL (Γ.lend w m1) w xs vs:=λxs vs h=>Be le1 xs vs h λb hb=>by
      refine⟨rfl,same b ?_⟩
      grind[Bi,absurd,Bl]
    rcases hs.box_ok p (df _ hp)with⟨b,arr,e,k⟩|⟨v,k⟩
    . left
      refine⟨b,arr,e,⟨k.bx,k.heap,k.rep.mono le1,hown _ _ k.own,?_,k.one,k.ty⟩⟩
      rw[same b ?_]
      . exact k.com
      . cases hx:Bi Γ m1 b
        . rfl
        . obtain⟨q,hq,h1⟩:=Lm.1 hx
          have:=hs.inj _ _ _ h1 k.bx
          exact absurd this (hkeys.2.2 q.1 (bD.2 ⟨q,hq,rfl⟩) p.1 (bD.2 ⟨p,hp,rfl⟩))
    . right
      exact⟨v,k.sx,k.bx,k.rep.mono le1,hown _ _ k.own⟩
  . obtain⟨cs,h2⟩:=hs.tyd.2 b e hb
    grind
  . have h1:=hs.tok b
    have h2:Ah Γ w b m2<=Ah Γ w b (m1++m2):=AOl (cJ _ _) b
    have h3:Ah (Γ.lend w m1) w b m2=Ah Γ w b m2:=EZ (λp hp=>⟨rfl,λk hk=>rfl⟩) (λp hp=>rfl)
    grind
  . refine⟨le1,λb hb=>⟨rfl,same b ?_⟩,au _,rfl,rfl,rfl⟩
    grind
def ARN: ∀l:List B8,(l.map AVal.str).flatMap AX=l.map AVal.str|[]=>rfl|x::l=>by rw[aF,cf,ARN l];rfl
def AdT{i len:Nat}{l:List B8} (hl:len<=l.length):Lent [(i,l.map AVal.str)] (.bsl 1 i 0 len) (.slice 1 ((l.take len).map AVal.str) false):=.one (.row (xs:=(l.take len).map AVal.str) (junk:=(l.drop len).map AVal.str) (by rw[ARN,<-cB,bH];simp) (by grind) (λx hx=>by simp only[bD]at hx;obtain⟨_,_,rfl⟩:=hx;rfl))
def ACall.give{E:Env}{f:FuncId}{args:List AVal}{st:St}{Q:AVal->St->Prop} (h:ACall E f args st λr st'=>∃m1 m2 r',st'.m=m1++m2/\Lent m1 r r'/\r'.strip=r'/\Q r' ⟨m2,st'.next⟩):ACall E f args st Q:=by constructor;intro F Γ w cargs hs;refine(h.go F Γ w cargs hs).mono ?_;rintro e w' ⟨v,he,Γ',r,⟨m',n'⟩,k1,k2,k3,m1,m2,r',hm,hl,hst,hq⟩;simp only at hm k2;subst hm;obtain⟨h1,h2⟩:=k3.give (af':=[r']) (.cons hl .nil) (by grind[stripL]);exact⟨v,he,_,r',⟨m2,n'⟩,k1.trans h2,k2,h1,hq⟩
def ADs{i j:Nat} (h:i≠j): ∀m:List (Nat×List AVal),DR (DR m i) j=DR (DR m j) i
 |[]=>rfl
 | (k,d)::m=>by
  by_cases e:i=k;·subst e;simp only[DR,aD,an (λe:j=i=>h e.symm)]
  ·by_cases e2:j=k;·simp_all[DR]
   ·simp only[DR,an e,an e2];rw[ADs h m]
def ACall.front2{E:Env}{f:FuncId}{args:List AVal}{m:List (Nat×List AVal)}{n i j:Nat}{c d:List AVal}{Q:AVal->St->Prop} (hi:Af m i=some c) (hj:Af m j=some d) (hne:i≠j) (h:i<n->j<n->ACall E f args ⟨(i,c)::(j,d)::DR (DR m i) j,n⟩ λr st'=>∃c' d',st'.m=(i,c')::(j,d')::DR (DR m i) j/\Q r ⟨Ar (Ar m i c') j d',st'.next⟩):ACall E f args ⟨m,n⟩ Q:=by
 refine ACall.known λ_ hk=>?_;have lt: ∀ {k:Nat}{x:List AVal},Af m k=some x->k<n:=λ{k x} hx=>by
  rcases aS k n with h'|h';·omega
  ·have:=hk k h';grind
 have hj2:Af (DR m i) j=some d:=by grind[Xy]
 constructor;intro F Γ w cargs hs;refine((h (lt hi) (lt hj)).go F Γ w cargs (hs.perm ((J5 hi).trans ((J5 hj2).cons _)))).mono ?_;rintro e w' ⟨v,he,Γ',r,⟨m',n'⟩,h1,h2,h3,c',d',hm,hq⟩;simp only at hm;subst hm;have hj3:Af (Ar m i c') j=some d:=by grind[Ph]
 have p1:=Rk (x:=d') hj3;have hmd:Af (DR m j) i=some c:=by grind[Xy]
 have p2:=Rk (x:=c') hmd;rw[ADM (λe=>hne e.symm)]at p2;rw[ADs hne]at h3;exact⟨v,he,Γ',r,⟨Ar (Ar m i c') j d',n'⟩,h1,h2,h3.perm (((cv _ _ _).trans (p2.cons _)).trans p1),hq⟩
def AhV{E:Env}{c:Code}{f:FuncId}{fn:Func}{nt:Nat}{rs:List ResultVar}{args:List AVal}{m:MS}{n:Nat}{Q:PQ} (hf:E.P.funcs[f]?=some fn) (hb:fn.body=some c) (hn:fn.ntmps=nt) (hr:fn.results=rs.toArray) (a:An) (h: ∀R:APost,(∀af st xs m0 m1 n',Qe E rs af st=some (xs,⟨m1,n'⟩)->m0.Sublist m1->n<=n'->Q (Sv xs) ⟨m0,n'⟩->R .ret af st/\R .normal af st)->Gl (wpc E c a R (args++List.replicate (nt-args.length) .any) ⟨m,n⟩)):ACall E f args ⟨m,n⟩ Q:=by
 refine MJ hf hb ?_;have hw:=Pv a (h (Jh E fn Q) ?_).go;·grind
 ·intro af st xs m0 m1 n' h1 h2 h3 h4;have e:fn.results.toList=rs:=by rw[hr]
  exact⟨KA (by rw[e];omega) h2 h4,KH (by rw[e];omega) h2 h4⟩
theorem AbT{E:Env}{F:Nat->Nat}{Γ:Ghost}{st:St}{w:World}{af:List AVal}{tm:List Value} (hs:Sim E F Γ st w af tm){b:Nat} (h:0<Ah Γ w b st.m):Held Γ w b:=by
 have: ∀m,(∀p,p∈m->p∈st.m)->0<Ah Γ w b m->Held Γ w b:=by
  intro m;induction m with
  |nil=>grind[Ah]
  | cons p m ih=>
   intro hm h;rw[Ah]at h;rcases hs.box_ok p (hm p fy)with⟨k,arr,e',hb⟩|⟨v,hv⟩;rotate_left
   ·have hc':Ct Γ w b p=AO b p.2 [v]:=by simp[Ct,hv.bx,hv.sx]
    rcases aS 0 (AO b p.2 [v])with h'|h';·exact(Bl _ _ hv.own h').2
    grind
   obtain⟨lo,hi,h3,h4⟩:=hb.heap;have hc':Ct Γ w b p=AO b p.2 arr.toList:=by simp[Ct,hb.bx,hcells,h3]
   rcases aS 0 (AO b p.2 arr.toList)with h'|h';·exact(Bl _ _ hb.own h').2
   grind
 grind
theorem Sim.fuse{E:Env}{F:Nat->Nat}{Γ:Ghost}{m:List (Nat×List AVal)}{n i j:Nat}{e:TypeId}{s0:AVal}{w:World}{af:List AVal}{tm:List Value} (hs:Sim E F Γ ⟨(j,[.any])::(i,[s0,.trow e j 0])::m,n⟩ w af tm):
    ∃Γ',Ext F Γ w Γ' w/\Sim E F Γ' ⟨(i,[s0,.buf e [] true])::m,n⟩ w af tm:=by
  rcases hs.box_ok (i,[s0,.trow e j 0]) (by simp)with⟨bi,arri,ei,hi⟩|⟨v,hv⟩
  rotate_left
  . have:=hv.rep.length;grind
  have hri:=hi.rep
  simp only[ag,ap,bJ]at hri
  obtain⟨v0,v1,hta,hr0,hr1⟩: ∃v0 v1,arri.toList.take (1+1)=[v0,v1]/\Rep Γ s0 v0/\Rep Γ (.trow e j 0) v1:=by
    generalize arri.toList.take (1+1)=q at hri
    cases hri with
    | cons q1 t=>cases t with
      |cons q2 t=>cases t;exact⟨_,_,rfl,q1,q2⟩
  cases hr1 with
  |trow hbx hbt hcap hcz=>
  rename_i b cap nn
  rcases hs.box_ok (j,[.any]) (by simp)with⟨b',arr,e',hj⟩|⟨v,hv⟩
  rotate_left
  . have:=hv.bx;grind
  have hbb:b'=b:=by have:=hj.bx;grind
  subst hbb
  obtain⟨he,hsz⟩:=hj.ty _ _ hbt
  subst he
  have hnn:1<=nn:=by
    have:=hj.rep.length
    grind
  obtain⟨lo,hi',hh,hf⟩:=hj.heap
  have hcom:Γ.com b'=none:=hj.com
  have hct:Γ.ct b'=none:=by
    cases hc:Γ.ct b' with
    |none=>rfl
    |some e2=>obtain⟨cs,h2⟩:=hs.tyd.2 b' e2 hc;grind
  have nheld: ¬Held Γ w b':=by
    rintro(⟨cs,h⟩|⟨s,p,h⟩|⟨es,c,h⟩)<;>grind
  let Γ':Ghost:= {Γ with com:=λx=>if x=b' then some []else Γ.com x,ct:=λx=>if x=b' then some e' else Γ.ct x}
  have same: ∀x,x≠b'->Γ'.com x=Γ.com x:=λx hx=>by show(if x=b' then _ else _)=_;grind
  have le1:Γ.le Γ':=⟨λx cs hx=>by
      have hne:x≠b':=λq=>by grind
      simp_all,λ_ _ h=>h,λ_ _ h=>h,λx e2 hx=>by
      have hne:x≠b':=λq=>by grind
      show(if x=b' then _ else _)=_
      simp_all,λ_ _ h=>h⟩
  have hown: ∀(xs:List AVal) (vs:List Value),ownL Γ w xs vs->ownL Γ' w xs vs:=λxs vs h=>Be le1 xs vs h λx hx=>⟨rfl,same x λq=>by grind[Bl]⟩
  have hF:F b'=0:=hs.bx_F (j,[.any]) b' fy hbx
  have hkeys:=hs.keys
  simp only[aF,bW,aP,not_or]at hkeys
  have hbi:bi≠b':=λq=>by
    subst q
    have:=hs.inj _ _ _ hbx hi.bx
    omega
  have hai:arri.toList=[v0,.slice (some ⟨b',0,none⟩) 0 cap]++arri.toList.drop 2:=by grind[List.take_append_drop]
  have hbuf:Rep Γ' (.buf e' [] true) (.slice (some ⟨b',0,none⟩) 0 cap):=by
    refine .buf true (.slice (cells:=[]) true (by show(if b'=b' then _ else _)=_;simp) rfl ⟨aJ _,aJ _⟩ (.nil _ _) (λ_ _=>.inr rfl)) ⟨rfl,rfl,fx,?_⟩
    show(if b'=b' then _ else _)=_
    simp
  have hbown:VM.own Γ' w (.buf e' [] true) (.slice (some ⟨b',0,none⟩) 0 cap):=by
    simp only[VM.own]
    refine⟨λ_=>⟨arr,e',lo,hi',[],hh,hf,rfl,by show(if b'=b' then _ else _)=_;simp,fy,by grind⟩,λx hx=>?_⟩
    simp only[CG]at hx
    split at hx
    . rename_i q;subst q;exact⟨⟨[],by show(if b'=b' then _ else _)=_;simp⟩,_,hh⟩
    omega
  have hoi:VM.own Γ w s0 v0:=by have:=hi.own;grind[ownL]
  have hlen2:(2:Nat)<=arri.toList.length:=by have:=bu List.length hta;grind
  refine⟨Γ',⟨le1,λx hx=>⟨rfl,same x λq=>by grind⟩,au _,rfl,rfl,rfl⟩,
    { com_ok:=λx cs hx=>?_
      box_ok:=λp hp=>?_
      sx_next:=hs.sx_next
      keys:=by grind
      inj:=hs.inj
      bx_lt:=hs.bx_lt
      bx_next:=hs.bx_next
      tyd:=⟨hs.tyd.1,λx e2 hx=>?_⟩
      bx_F:=λp x hp hx=>?_
      F_lt:=hs.F_lt
      glob:=λg cs hg=>(hs.glob g cs hg).mono le1
      rep:=hs.rep.mono le1
      own:=hown _ _ hs.own
      tok:=λx=>?_}⟩
  . by_cases q:x=b'
    . subst q
      have:(if x=x then some []else Γ.com x)=some cs:=hx
      rw[aq rfl]at this;cases this
      refine⟨arr,e',(lo,hi'),hh,⟨arr.toList,rfl⟩,λT hT=>?_⟩
      have:(if x=x then some e' else Γ.ct x)=some T:=hT
      rw[aq rfl]at this;grind
    . rw[same x q]at hx
      obtain⟨ar,e2,fz,k1,k2,k3⟩:=hs.com_ok x cs hx
      refine⟨ar,e2,fz,k1,k2,λT hT=>k3 T ?_⟩
      have:(if x=b' then some e' else Γ.ct x)=some T:=hT
      rw[an q]at this;omega
  . rcases aP.1 hp with rfl|hp
    . left
      refine⟨bi,arri,ei,⟨hi.bx,hi.heap,?_,?_,by rw[same bi hbi];exact hi.com,?_,hi.ty⟩⟩
      . simp only[ag,ap,bJ]
        rw[hta]
        exact .cons (hr0.mono le1) (.cons hbuf .nil)
      . rw[hai]
        simp only[bm,ownL,bk,cC]
        refine⟨?_,hbown⟩
        have:=hown [s0] [v0] (by simp only[ownL,cC];omega)
        simpa only[ownL,cC]using this
      . have:=hi.one
        omega
    . rcases hs.box_ok p (by grind)with⟨k,ar,e2,hk⟩|⟨v,hk⟩
      . left
        refine⟨k,ar,e2,⟨hk.bx,hk.heap,hk.rep.mono le1,hown _ _ hk.own,?_,hk.one,hk.ty⟩⟩
        rw[same k λq=>?_]
        . exact hk.com
        . subst q
          have:=hs.inj _ _ _ hbx hk.bx
          grind
      . right
        exact⟨v,hk.sx,hk.bx,hk.rep.mono le1,hown _ _ hk.own⟩
  . by_cases q:x=b'
    . subst q;exact⟨[],by show(if x=x then _ else _)=_;simp⟩
    . have:(if x=b' then some e' else Γ.ct x)=some e2:=hx
      rw[an q]at this
      obtain⟨cs,h2⟩:=hs.tyd.2 x e2 this
      grind
  . rcases aP.1 hp with rfl|hp
    . exact hs.bx_F (i,[s0,.trow e' j 0]) x fy hx
    . exact hs.bx_F p x (by grind) hx
  . have ht:=hs.tok x
    have hcm:Ah Γ w x ((j,[.any])::(i,[s0,.trow e' j 0])::m)=Ct Γ w x (j,[.any])+(Ct Γ w x (i,[s0,.trow e' j 0])+Ah Γ w x m):=rfl
    simp only at ht
    rw[hcm]at ht
    obtain⟨lo2,hi2,hhi,_⟩:=hi.heap
    have hci:Ct Γ w x (i,[s0,.trow e' j 0])=cnt x s0 v0:=by
      have:Ct Γ w x (i,[s0,.trow e' j 0])=AO x [s0,.trow e' j 0] arri.toList:=by simp only[Ct,hi.bx,hcells,hhi]
      grind[AO,cnt]
    have hcn:Ct Γ' w x (i,[s0,.buf e' [] true])=cnt x s0 v0+CG x (.slice (some ⟨b',0,none⟩) 0 cap):=by
      have hbx':Γ'.bx i=some bi:=hi.bx
      have:Ct Γ' w x (i,[s0,.buf e' [] true])=AO x [s0,.buf e' [] true] arri.toList:=by grind[Ct,hcells]
      grind[AO,cnt]
    have hmm:Ah Γ' w x m=Ah Γ w x m:=EZ (λp hp=>⟨rfl,λk hk=>rfl⟩) (λp hp=>rfl)
    show F x+AO x af tm+(Ct Γ' w x (i,[s0,.buf e' [] true])+Ah Γ' w x m)<=1
    rw[hcn,hmm]
    by_cases q:x=b'
    . subst q
      have z1:AO x af tm=0:=by
        rcases aS 0 (AO x af tm)with h|h
        . exact absurd (Bl _ _ hs.own h).2 nheld
        omega
      grind[Ah,Nat.lt_or_ge,absurd,AbT,CG]
    . have:CG x (.slice (some ⟨b',0,none⟩) 0 cap)=0:=by simp only[CG];rw[an (λh=>q h.symm)]
      omega
def ACall.fuse{E:Env}{f:FuncId}{args:List AVal}{st:St}{Q:AVal->St->Prop} (h:ACall E f args st λr st'=>∃i j e s0 m,st'.m=(j,[.any])::(i,[s0,.trow e j 0])::m/\Q r ⟨(i,[s0,.buf e [] true])::m,st'.next⟩):ACall E f args st Q:=by constructor;intro F Γ w cargs hs;refine(h.go F Γ w cargs hs).mono ?_;rintro e w' ⟨v,he,Γ',r,⟨m',n'⟩,k1,k2,k3,i,j,el,s0,m,hm,hq⟩;simp only at hm k2;subst hm;obtain⟨Γ2,x2,s2⟩:=k3.fuse;exact⟨v,he,Γ2,r,_,k1.trans x2,k2,s2,hq⟩
end Go.VM
