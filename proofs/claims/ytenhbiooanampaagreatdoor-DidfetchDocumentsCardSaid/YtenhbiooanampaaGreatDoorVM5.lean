import Derived.Test.YtenhbiooanampaaGreatDoorVM3
set_option linter.defProp false
set_option linter.unusedSimpArgs false
set_option linter.unusedVariables false
namespace Go.VM
def RepL.split{O:Ghost}: ∀ {xs ys:List AVal}{vs:List Value},RepL O (xs++ys) vs->∃us ws,vs=us++ws/\RepL O xs us/\RepL O ys ws|[],ys,vs,h=>⟨[],vs,rfl,.nil,h⟩|x::xs,ys,vs,h=>by cases h with|cons h t=>obtain⟨us,ws,rfl,h1,h2⟩:=RepL.split t;exact⟨_::us,ws,rfl,.cons h h1,h2⟩
def elA (w:Nat):AVal->Bool|.agg cs=>cs.length==w|.bool _=>w==1|.int _ _=>w==1|.str _=>w==1|_=>false
def ZX{O:Ghost}{w:Nat}: ∀(xs:List AVal) (vs rest:List Value),(∀x,x∈xs->elA w x=true)->RepL O (xs.flatMap AZ) vs->(∀v,v∈vs->v.oneCell'=true)->RepS O w xs (vs++rest)
 |[],vs,rest,_,_,_=>.nil _ _
 |x::xs,vs,rest,hx,h,ho=>by
  rw[aR]at h;obtain⟨us,ws,rfl,h1,h2⟩:=RepL.split h;have ih:=ZX xs ws rest (λy hy=>hx y (by grind)) h2 (λv hv=>ho v (by grind));have he:=hx x fI;rw[aH];cases x with
  |agg cs=>simp only[elA,bf]at he;have hl:=RepL.length h1;have:=RepS.cons (v:=.agg us.toArray) (w:=w) (.agg (by simpa[AZ]using h1) (λv hv=>ho v (by grind))) ⟨by grind[Value.cells,AZ],λc hc=>ho c (by grind[Value.cells])⟩ ih;grind[Value.cells]
  |bool b=>simp only[elA,bf]at he;subst he;simp only[AZ]at h1;cases h1 with|cons h1 t=>cases t;cases h1;exact RepS.cons (v:=.bool b) (.bool b) ⟨rfl,λc hc=>ho c (by grind[Value.cells])⟩ ih
  |int k n=>simp only[elA,bf]at he;subst he;simp only[AZ]at h1;cases h1 with|cons h1 t=>cases t;cases h1;exact RepS.cons (v:=.int k n) (.int k n) ⟨rfl,λc hc=>ho c (by grind[Value.cells])⟩ ih
  |str s=>simp only[elA,bf]at he;subst he;simp only[AZ]at h1;cases h1 with|cons h1 t=>cases t;cases h1;rename_i b hn;exact RepS.cons (v:=.string b) (.str b hn) ⟨rfl,λc hc=>ho c (by grind[Value.cells])⟩ ih
  |_=>simp[elA]at he
inductive Lent1 (m:List (Nat×List AVal)):AVal->AVal->Prop|same (x:AVal):Lent1 m x x|box{w i len:Nat}{xs junk:List AVal} (hm:(i,xs.flatMap AZ++junk)∈m) (hl:xs.length=len) (hx: ∀x,x∈xs->elA w x=true):Lent1 m (.gsl w i len) (.slice w xs false)|stripped (x:AVal):Lent1 m x x.strip|ptr{i off:Nat}{cs:List AVal} (hm:(i,cs)∈m) (ho:off<=cs.length):Lent1 m (.ptr i off) (.cptr (cs.drop off))|row{i len:Nat}{xs junk:List AVal} (hm:(i,xs.flatMap AZ++junk)∈m) (hl:xs.length=len) (hx: ∀x,x∈xs->elA 1 x=true):Lent1 m (.bsl 1 i 0 len) (.slice 1 xs false)
inductive Lent1L (m:List (Nat×List AVal)):List AVal->List AVal->Prop|nil:Lent1L m [] []|cons{x y:AVal}{xs ys:List AVal} (h:Lent1 m x y) (t:Lent1L m xs ys):Lent1L m (x::xs) (y::ys)
inductive Lent (m:List (Nat×List AVal)):AVal->AVal->Prop|one{x y:AVal} (h:Lent1 m x y):Lent m x y|agg{xs ys:List AVal} (h:Lent1L m xs ys):Lent m (.agg xs) (.agg ys)
inductive LentL (m:List (Nat×List AVal)):List AVal->List AVal->Prop|nil:LentL m [] []|cons{x y:AVal}{xs ys:List AVal} (h:Lent m x y) (t:LentL m xs ys):LentL m (x::xs) (y::ys)
section
variable{m:List (Nat×List AVal)}{O O':Ghost}
def Seen (m:List (Nat×List AVal)) (O O':Ghost):Prop:= ∀i cs b,(i,cs)∈m->O.bx i=some b-> ∃us ws,O'.com b=some (us++ws)/\RepL O' cs us/\ ∀v,v∈us->v.oneCell'=true
def Lent1.rep (le:O.le O') (hs:Seen m O O'){x y:AVal}{v:Value} (h:Lent1 m x y) (k:Rep O x v):Rep O' y v:=by
 cases h with
 |same=>exact k.mono le
 |box hm hl hx=>cases k with|gsl hb ht hc hz=>obtain⟨us,ws,h1,h2,h3⟩:=hs _ _ _ hm hb;obtain⟨u1,u2,rfl,h4,h5⟩:=RepL.split h2;exact .slice false h1 hl hc (by rw[aO,aH];exact ZX _ _ _ hx h4 λv hv=>h3 v (by simp[hv])) (λh=>by cases h)
 |stripped=>exact(k.mono le).strip
 |ptr hm ho=>cases k with|ptr hb=>obtain⟨us,ws,h1,h2,h3⟩:=hs _ _ _ hm hb;have hl:=h2.length;refine .cptr (vs:=us.drop _) (rest:=ws) h1 ?_ (h2.drop _) λv hv=>h3 v (cx hv);grind
 | @row i len xs junk hm hl hx=>
  cases k with
  |bsl hb ho hc=>
   obtain⟨us,ws,h1,h2,h3⟩:=hs _ _ _ hm hb;obtain⟨u1,u2,rfl,h4,h5⟩:=RepL.split h2;rcases ho with ho|ho;·subst ho;have:xs=[]:=dP.1 hl;subst this;exact .slice false h1 hl hc (.nil _ _) (λh=>by cases h)
   ·subst ho;exact .slice false h1 hl hc (by rw[aO,aH];exact ZX _ _ _ hx h4 λv hv=>h3 v (by simp[hv])) (λh=>by cases h)
def Lent1L.rep (le:O.le O') (hs:Seen m O O'){xs ys:List AVal}{vs:List Value} (h:Lent1L m xs ys) (k:RepL O xs vs):RepL O' ys vs:=by induction h generalizing vs with|nil=>cases k;exact .nil|cons h t ih=>cases k with|cons k1 k2=>exact .cons (h.rep le hs k1) (ih k2)
def Lent.rep (le:O.le O') (hs:Seen m O O'){x y:AVal}{v:Value} (h:Lent m x y) (k:Rep O x v):Rep O' y v:=by cases h with|one h=>exact h.rep le hs k|agg h=>cases k with|agg k one=>exact .agg (h.rep le hs k) one
def LentL.rep (le:O.le O') (hs:Seen m O O'){xs ys:List AVal}{vs:List Value} (h:LentL m xs ys) (k:RepL O xs vs):RepL O' ys vs:=by induction h generalizing vs with|nil=>cases k;exact .nil|cons h t ih=>cases k with|cons k1 k2=>exact .cons (h.rep le hs k1) (ih k2)
end
def AT2:AVal->Bool|.bool _=>true|.int _ _=>true|.str _=>true|_=>false
def AtW:AVal->Bool|.tuple vs=>vs.all AT2|x=>AT2 x
def AEn{O O':Ghost}{w:World}{x:AVal}{v:Value} (hx:AT2 x=true) (h:Rep O x v):Rep O' x v/\own O' w x v/\∀b,cnt b x v=0:=by cases x<;>first|(simp[AT2]at hx;done)|(cases h;exact⟨by constructor<;>assumption,by simp[own],λb=>by simp[cnt]⟩)
def AEi{O O':Ghost}{w:World}: ∀ {xs:List AVal}{vs:List Value},xs.all AT2=true->RepL O xs vs->RepL O' xs vs/\ownL O' w xs vs/\∀b,AP b xs vs=0|[],vs,_,h=>by cases h;exact⟨.nil,by simp[ownL],λb=>by simp[AP]⟩|x::xs,vs,hx,h=>by rw[aQ,aw]at hx;cases h with|cons h t=>obtain⟨a1,a2,a3⟩:=AEn (O':=O') (w:=w) hx.1 h;obtain⟨b1,b2,b3⟩:=AEi (O':=O') (w:=w) hx.2 t;exact⟨.cons a1 b1,by grind[ownL],λb=>by grind[AP]⟩
def Akp{O O':Ghost}{w:World}{x:AVal}{v:Value} (hx:AtW x=true) (h:Rep O x v):Rep O' x v/\own O' w x v/\∀b,cnt b x v=0:=by
 cases x with
 |tuple vs=>cases h with|tuple h=>obtain⟨a1,a2,a3⟩:=AEi (O':=O') (w:=w) hx h;exact⟨.tuple a1,by grind[own],λb=>by grind[cnt]⟩
 |_=>exact AEn hx h
def Bq (O:Ghost) (m:List (Nat×List AVal)) (b:Nat):Bool:=m.any λp=>decide (O.bx p.1=some b)
def MB{O:Ghost}{m:List (Nat×List AVal)}{b:Nat}:Bq O m b=true<->∃p,p∈m/\O.bx p.1=some b:=by simp_all[Bq]
def Ghost.lend (O:Ghost) (w:World) (m:List (Nat×List AVal)):Ghost:= {O with com:=λb=>if Bq O m b=true then some (hcells w b)else O.com b}
def Ghost.back (O O':Ghost) (m:List (Nat×List AVal)):Ghost:={com:=λb=>if Bq O m b=true then none else O'.com b,bx:=O'.bx,bt:=λi=>if(m.map (·.1)).contains i=true then O.bt i else O'.bt i,ct:=λb=>if Bq O m b=true then none else O'.ct b,sx:=O'.sx}
def ACall.lend{E:Env}{f:FuncId}{args args':List AVal}{m:List (Nat×List AVal)}{n:Nat}{Q:AVal->St->Prop} (hl:LentL m args args') (hst:stripL args'=args')
    (h:ACall E f args' ⟨[],n⟩ λr st'=>AtW r=true/\ ∀n',n<=n'->Q r ⟨m,n'⟩):ACall E f args ⟨m,n⟩ Q:=by
  constructor
  intro F O w cargs hs
  have box: ∀p,p∈m-> ∀b,O.bx p.1=some b-> ∃arr e,BoxOK O w p b arr e:=λp hp b hb=>by
    rcases hs.box_ok p hp with⟨b',arr,e,h⟩|⟨v,h⟩
    . have:b'=b:=by have:=h.bx;grind
      grind
    . rw[h.bx]at hb;grind
  have nocom: ∀b,Bq O m b=true->O.com b=none/\b<w.heap.size/\F b=0/\O.ct b=none:=λb hb=>by
    obtain⟨p,hp,h1⟩:=MB.1 hb
    obtain⟨arr,e,k⟩:=box p hp b h1
    refine⟨k.com,hs.bx_lt _ _ h1,hs.bx_F p b hp h1,?_⟩
    cases hc:O.ct b with
    |none=>rfl
    |some e'=>obtain⟨cs,h2⟩:=hs.tyd.2 b e' hc;rw[k.com]at h2;grind
  have le1:O.le (O.lend w m):=⟨λb cs hb=>by
      have:Bq O m b=false:=by
        grind
      exact⟨[],by rw[bo];show(if Bq O m b=true then _ else _)=_;grind⟩,λ_ _ h=>h,λ_ _ h=>h,λ_ _ h=>h,λ_ _ h=>h⟩
  have seen:Seen m O (O.lend w m):=λi cs b hm hb=>by
    obtain⟨arr,e,k⟩:=box _ hm b hb
    obtain⟨lo,hi,hh,_⟩:=k.heap
    have hx:Bq O m b=true:=MB.2 ⟨_,hm,hb⟩
    have hc:hcells w b=arr.toList:=by grind[hcells]
    refine⟨arr.toList.take cs.length,arr.toList.drop cs.length,?_,k.rep.mono le1,k.one⟩
    show(if Bq O m b=true then _ else _)=_
    simp_all
  let F1:Nat->Nat:=λb=>if Bq O m b=true then 1 else F b+Ap O w b m
  have big: ∀b,w.heap.size<=b->Ap O w b m=0:=λb hb=>by
    rcases eM (Ap O w b m)with h0|h0
    . omega
    . have:=AA2 (a:= {tmps:=cargs,defers:=[]}) hs h0
      omega
  have cz: ∀b,AP b args' cargs.toList=0:=λb=>by grind[Ig]
  have hsim:Sim E F1 (O.lend w m) ⟨[],n⟩ w args' cargs.toList:=
    { com_ok:=λb cs hb=>by
        cases hx:Bq O m b
        . have hb':O.com b=some cs:=by have:(if Bq O m b=true then some (hcells w b)else O.com b)=some cs:=hb;grind
          exact hs.com_ok b cs hb'
        . have hb':hcells w b=cs:=by have:(if Bq O m b=true then some (hcells w b)else O.com b)=some cs:=hb;grind
          obtain⟨p,hp,h1⟩:=MB.1 hx
          obtain⟨arr,e,k⟩:=box p hp b h1
          obtain⟨lo,hi,hh,_⟩:=k.heap
          refine⟨arr,e,(lo,hi),hh,⟨[],by grind[hcells]⟩,λT hT=>?_⟩
          have:O.ct b=some T:=hT
          grind
      box_ok:=λp hp=>by grind
      sx_next:=hs.sx_next
      keys:=fI
      inj:=hs.inj
      bx_lt:=hs.bx_lt
      bx_next:=hs.bx_next
      tyd:=⟨hs.tyd.1,λb e hb=>by
        obtain⟨cs,h2⟩:=hs.tyd.2 b e hb
        obtain⟨ds,h3⟩:=le1.1 b cs h2
        grind⟩
      bx_F:=λp b hp=>by grind
      F_lt:=λb hb=>by
        show(if Bq O m b=true then 1 else F b+Ap O w b m)=0
        cases hx:Bq O m b
        . rw[aj fJ,hs.F_lt b hb,big b hb]
        grind
      glob:=λg cs hg=>(hs.glob g cs hg).mono le1
      rep:=hl.rep le1 seen hs.rep
      own:=by grind[J8]
      tok:=λb=>by
        rw[cz b]
        show(if Bq O m b=true then 1 else F b+Ap O w b m)+0+0<=1
        have:=hs.tok b
        grind}
  refine(h.go F1 (O.lend w m) w cargs hsim).mono ?_
  rintro e w' ⟨v,he,O',r,st',hx,hn,hs',hfl,hq⟩
  refine⟨v,he,O.back O' m,r,⟨m,st'.next⟩,?_,hn,?_,hq _ hn⟩
  all_goals
    have le2:O.le (O.back O' m):=⟨λb cs hb=>by
        have hnb:Bq O m b=false:=by
          grind
        obtain⟨ds,h1⟩:=le1.1 b cs hb
        obtain⟨ds',h2⟩:=hx.le.1 b _ h1
        refine⟨ds++ds',?_⟩
        show(if Bq O m b=true then none else O'.com b)=_
        simp_all,
      λi b h=>hx.le.2.1 i b h,λi x h=>by
        show(if(m.map (·.1)).contains i=true then O.bt i else O'.bt i)=some x
        split
        . exact h
        . exact hx.le.2.2.1 i x h,
      λb e h=>by
        have hnb:Bq O m b=false:=by
          grind
        show(if Bq O m b=true then none else O'.ct b)=_
        rw[hnb,aj fJ]
        exact hx.le.2.2.2.1 b e h,λi v h=>hx.le.2.2.2.2 i v h⟩
  . refine⟨le2,λb hb=>?_,hx.size,hx.os,hx.output,hx.tape⟩
    have hnb:Bq O m b=false:=by
      grind
    have hF:1<=F1 b:=by show 1<=(if Bq O m b=true then 1 else F b+Ap O w b m);rw[hnb,aj fJ];omega
    obtain⟨k1,k2⟩:=hx.keep b hF
    refine⟨k1,?_⟩
    show(if Bq O m b=true then none else O'.com b)=_
    rw[hnb,aj fJ,k2]
    show(if Bq O m b=true then some (hcells w b)else O.com b)=_
    simp_all
  . have keepB: ∀p,p∈m-> ∀b,O.bx p.1=some b->w'.heap[b]?=w.heap[b]?:=λp hp b hb=>by
      have hxb:Bq O m b=true:=MB.2 ⟨p,hp,hb⟩
      exact(hx.keep b (by show 1<=(if Bq O m b=true then 1 else F b+Ap O w b m);grind)).1
    have keepT: ∀b,1<=Ap O w b m->w'.heap[b]?=w.heap[b]?/\(O.back O' m).com b=O.com b:=λb hb=>by
      cases hxb:Bq O m b
      . have hF:1<=F1 b:=by show 1<=(if Bq O m b=true then 1 else F b+Ap O w b m);rw[hxb,aj fJ];omega
        obtain⟨k1,k2⟩:=hx.keep b hF
        refine⟨k1,?_⟩
        show(if Bq O m b=true then none else O'.com b)=_
        rw[hxb,aj fJ,k2]
        show(if Bq O m b=true then some (hcells w b)else O.com b)=_
        simp_all
      . obtain⟨p,hp,h1⟩:=MB.1 hxb
        refine⟨keepB p hp b h1,?_⟩
        show(if Bq O m b=true then none else O'.com b)=_
        simp_all
    have bxm: ∀p,p∈m->O'.bx p.1=O.bx p.1:=λp hp=>by
      rcases hs.box_ok p hp with⟨b',arr,e,h⟩|⟨v,h⟩
      . rw[h.bx];exact hx.le.2.1 _ _ h.bx
      . rw[h.bx];exact(hs'.sx_next _ _ (hx.le.2.2.2.2 _ _ h.sx)).2
    have sxm: ∀p,p∈m->O'.sx p.1=O.sx p.1:=λp hp=>by
      rcases hs.box_ok p hp with⟨b',arr,e,h⟩|⟨v,h⟩
      . cases h1:O.sx p.1 with
        |some v=>exact hx.le.2.2.2.2 _ _ h1
        | none=>
          cases h2:O'.sx p.1 with
          |none=>rfl
          |some v=>have:=(hs'.sx_next _ _ h2).2;rw[bxm p hp,h.bx]at this;grind
      . rw[h.sx];exact hx.le.2.2.2.2 _ _ h.sx
    have hr:=hs'.rep
    cases hr with
    |cons hr _=>
    obtain⟨f1,f2,f3⟩:=Akp (O':=O.back O' m) (w:=w') hfl hr
    refine
    { com_ok:=λb cs hb=>by
        cases hxb:Bq O m b
        . have e1:(if Bq O m b=true then none else O'.com b)=some cs:=hb
          rw[hxb,aj fJ]at e1
          obtain⟨arr,e,fz,h1,h2,h3⟩:=hs'.com_ok b cs e1
          refine⟨arr,e,fz,h1,h2,λT hT=>?_⟩
          have e2:(if Bq O m b=true then none else O'.ct b)=some T:=hT
          simp_all
        . have e1:(if Bq O m b=true then none else O'.com b)=some cs:=hb
          simp_all
      box_ok:=λp hp=>by
        rcases hs.box_ok p hp with⟨b,arr,e,k⟩|⟨v,k⟩
        . left
          obtain⟨lo,hi,hh,hz⟩:=k.heap
          have hxb:Bq O m b=true:=MB.2 ⟨p,hp,k.bx⟩
          refine⟨b,arr,e,⟨hx.le.2.1 _ _ k.bx,⟨lo,hi,(keepB p hp b k.bx).trans hh,hz⟩,k.rep.mono le2,?_,?_,k.one,λT n hT=>?_⟩⟩
          . refine Bv le2 _ _ k.own λb' hb'=>keepT b' (bJ ?_ (X5 hp))
            unfold DK
            rw[k.bx]
            grind[hcells]
          . show(if Bq O m b=true then none else O'.com b)=none
            grind
          . have hc:(m.map (·.1)).contains p.1=true:=by rw[fm];exact bk.2 ⟨p,hp,rfl⟩
            have e2:(if(m.map (·.1)).contains p.1=true then O.bt p.1 else O'.bt p.1)=some (T,n):=hT
            rw[an hc]at e2
            exact k.ty T n e2
        . right
          refine⟨v,hx.le.2.2.2.2 _ _ k.sx,?_,k.rep.mono le2,?_⟩
          . show O'.bx p.1=none
            rw[bxm p hp];exact k.bx
          . refine Bv le2 _ _ k.own λb' hb'=>keepT b' (bJ ?_ (X5 hp))
            unfold DK
            rw[k.bx,k.sx]
            omega
      sx_next:=hs'.sx_next
      keys:=hs.keys
      inj:=hs'.inj
      bx_lt:=hs'.bx_lt
      bx_next:=hs'.bx_next
      tyd:=⟨λi x hi=>by
          have e1:(if(m.map (·.1)).contains i=true then O.bt i else O'.bt i)=some x:=hi
          split at e1
          . obtain⟨b,hb⟩:=hs.tyd.1 i x e1
            exact⟨b,hx.le.2.1 _ _ hb⟩
          . exact hs'.tyd.1 i x e1,
        λb e hb=>by
          have e1:(if Bq O m b=true then none else O'.ct b)=some e:=hb
          cases hxb:Bq O m b
          . rw[hxb,aj fJ]at e1
            obtain⟨cs,h2⟩:=hs'.tyd.2 b e e1
            refine⟨cs,?_⟩
            show(if Bq O m b=true then none else O'.com b)=_
            simp_all
          simp_all⟩
      bx_F:=λp b hp hb=>by
        have e1:O'.bx p.1=some b:=hb
        rw[bxm p hp]at e1
        exact hs.bx_F p b hp e1
      F_lt:=λb hb=>hs.F_lt b (bJ hx.size hb)
      glob:=λg cs hg=>(hs.glob g cs hg).mono le2
      rep:=.cons f1 .nil
      own:=by grind[ownL]
      tok:=λb=>?_}
    have ec:Ap (O.back O' m) w' b m=Ap O w b m:=Ff (λp hp=>⟨bxm p hp,λk hk=>keepB p hp k hk⟩) (λp hp=>sxm p hp)
    have:=hs.tok b
    grind[AP]
def Sim.give{E:Env}{F:Nat->Nat}{O:Ghost}{m1 m2:List (Nat×List AVal)}{n:Nat}{w:World}{af af':List AVal}{tm:List Value} (hs:Sim E F O ⟨m1++m2,n⟩ w af tm) (hl:LentL m1 af af') (hst:stripL af'=af'):
    Sim E F (O.lend w m1) ⟨m2,n⟩ w af' tm/\Ext F O w (O.lend w m1) w:=by
  have box: ∀p,p∈m1-> ∀b,O.bx p.1=some b-> ∃arr e,BoxOK O w p b arr e:=λp hp b hb=>by
    rcases hs.box_ok p (cQ _ hp)with⟨b',arr,e,h⟩|⟨v,h⟩
    . have:b'=b:=by have:=h.bx;grind
      grind
    . rw[h.bx]at hb;grind
  have nocom: ∀b,Bq O m1 b=true->O.com b=none/\F b=0/\O.ct b=none/\ ∃arr e fz,w.heap[b]?=some (.cells arr e fz):=λb hb=>by
    obtain⟨p,hp,h1⟩:=MB.1 hb
    obtain⟨arr,e,k⟩:=box p hp b h1
    obtain⟨lo,hi,hh,_⟩:=k.heap
    refine⟨k.com,hs.bx_F p b (cQ _ hp) h1,?_,arr,e,(lo,hi),hh⟩
    cases hc:O.ct b with
    |none=>rfl
    |some e'=>obtain⟨cs,h2⟩:=hs.tyd.2 b e' hc;rw[k.com]at h2;grind
  have le1:O.le (O.lend w m1):=⟨λb cs hb=>by
      have:Bq O m1 b=false:=by
        grind
      exact⟨[],by rw[bo];show(if Bq O m1 b=true then _ else _)=_;grind⟩,λ_ _ h=>h,λ_ _ h=>h,λ_ _ h=>h,λ_ _ h=>h⟩
  have seen:Seen m1 O (O.lend w m1):=λi cs b hm hb=>by
    obtain⟨arr,e,k⟩:=box _ hm b hb
    obtain⟨lo,hi,hh,_⟩:=k.heap
    have hx:Bq O m1 b=true:=MB.2 ⟨_,hm,hb⟩
    have hc:hcells w b=arr.toList:=by grind[hcells]
    refine⟨arr.toList.take cs.length,arr.toList.drop cs.length,?_,k.rep.mono le1,k.one⟩
    show(if Bq O m1 b=true then _ else _)=_
    simp_all
  have noheld: ∀b,Bq O m1 b=true-> ¬Held O w b:=λb hb hh=>by
    obtain⟨h1,_,_,arr,e,fz,h4⟩:=nocom b hb
    rcases hh with⟨cs,h⟩|⟨s,p,h⟩|⟨es,c,h⟩<;>grind
  have same: ∀b,Bq O m1 b=false->(O.lend w m1).com b=O.com b:=λb hb=>by
    show(if Bq O m1 b=true then _ else _)=_
    simp_all
  have cz: ∀b,AP b af' tm=0:=λb=>by grind[Ig]
  have hkeys:=hs.keys
  simp only[cE,List.nodup_append]at hkeys
  refine⟨
    { com_ok:=λb cs hb=>?_
      box_ok:=λp hp=>?_
      sx_next:=hs.sx_next
      keys:=hkeys.2.1
      inj:=hs.inj
      bx_lt:=hs.bx_lt
      bx_next:=hs.bx_next
      tyd:=⟨hs.tyd.1,λb e hb=>?_⟩
      bx_F:=λp b hp=>hs.bx_F p b (cJ _ hp)
      F_lt:=hs.F_lt
      glob:=λg cs hg=>(hs.glob g cs hg).mono le1
      rep:=hl.rep le1 seen hs.rep
      own:=(by grind[J8])
      tok:=λb=>?_},?_⟩
  . cases hx:Bq O m1 b
    . rw[same b hx]at hb
      exact hs.com_ok b cs hb
    . have hb':hcells w b=cs:=by have:(if Bq O m1 b=true then some (hcells w b)else O.com b)=some cs:=hb;grind
      obtain⟨h1,_,h3,arr,e,fz,h4⟩:=nocom b hx
      refine⟨arr,e,fz,h4,⟨[],by grind[hcells]⟩,λT hT=>?_⟩
      have:O.ct b=some T:=hT
      grind
  . have hown: ∀(xs:List AVal) (vs:List Value),ownL O w xs vs->ownL (O.lend w m1) w xs vs:=λxs vs h=>Bv le1 xs vs h λb hb=>by
      refine⟨rfl,same b ?_⟩
      grind[Bq,absurd,Bw]
    rcases hs.box_ok p (cJ _ hp)with⟨b,arr,e,k⟩|⟨v,k⟩
    . left
      refine⟨b,arr,e,⟨k.bx,k.heap,k.rep.mono le1,hown _ _ k.own,?_,k.one,k.ty⟩⟩
      rw[same b ?_]
      . exact k.com
      . cases hx:Bq O m1 b
        . rfl
        . obtain⟨q,hq,h1⟩:=MB.1 hx
          have:=hs.inj _ _ _ h1 k.bx
          exact absurd this (hkeys.2.2 q.1 (bk.2 ⟨q,hq,rfl⟩) p.1 (bk.2 ⟨p,hp,rfl⟩))
    . right
      exact⟨v,k.sx,k.bx,k.rep.mono le1,hown _ _ k.own⟩
  . obtain⟨cs,h2⟩:=hs.tyd.2 b e hb
    grind
  . have h1:=hs.tok b
    have h2:Ap O w b m2<=Ap O w b (m1++m2):=AUU (cM _ _) b
    have h3:Ap (O.lend w m1) w b m2=Ap O w b m2:=Ff (λp hp=>⟨rfl,λk hk=>rfl⟩) (λp hp=>rfl)
    grind
  . refine⟨le1,λb hb=>⟨rfl,same b ?_⟩,av _,rfl,rfl,rfl⟩
    grind
def AU5: ∀l:List B8,(l.map AVal.str).flatMap AZ=l.map AVal.str|[]=>rfl|x::l=>by rw[aF,aR,AU5 l];rfl
def Aea{i len:Nat}{l:List B8} (hl:len<=l.length):Lent [(i,l.map AVal.str)] (.bsl 1 i 0 len) (.slice 1 ((l.take len).map AVal.str) false):=.one (.row (xs:=(l.take len).map AVal.str) (junk:=(l.drop len).map AVal.str) (by rw[AU5,<-cE,bM];simp) (by grind) (λx hx=>by simp only[bk]at hx;obtain⟨_,_,rfl⟩:=hx;rfl))
def ACall.give{E:Env}{f:FuncId}{args:List AVal}{st:St}{Q:AVal->St->Prop} (h:ACall E f args st λr st'=>∃m1 m2 r',st'.m=m1++m2/\Lent m1 r r'/\r'.strip=r'/\Q r' ⟨m2,st'.next⟩):ACall E f args st Q:=by constructor;intro F O w cargs hs;refine(h.go F O w cargs hs).mono ?_;rintro e w' ⟨v,he,O',r,⟨m',n'⟩,k1,k2,k3,m1,m2,r',hm,hl,hst,hq⟩;simp only at hm k2;subst hm;obtain⟨h1,h2⟩:=k3.give (af':=[r']) (.cons hl .nil) (by grind[stripL]);exact⟨v,he,_,r',⟨m2,n'⟩,k1.trans h2,k2,h1,hq⟩
def AFF{i j:Nat} (h:i≠j): ∀m:List (Nat×List AVal),Dm (Dm m i) j=Dm (Dm m j) i
 |[]=>rfl
 | (k,d)::m=>by
  by_cases e:i=k;·subst e;simp only[Dm,aB,aj (λe:j=i=>h e.symm)]
  ·by_cases e2:j=k;·simp_all[Dm]
   ·simp only[Dm,aj e,aj e2];rw[AFF h m]
def ACall.front2{E:Env}{f:FuncId}{args:List AVal}{m:List (Nat×List AVal)}{n i j:Nat}{c d:List AVal}{Q:AVal->St->Prop} (hi:Ag m i=some c) (hj:Ag m j=some d) (hne:i≠j) (h:i<n->j<n->ACall E f args ⟨(i,c)::(j,d)::Dm (Dm m i) j,n⟩ λr st'=>∃c' d',st'.m=(i,c')::(j,d')::Dm (Dm m i) j/\Q r ⟨A7 (A7 m i c') j d',st'.next⟩):ACall E f args ⟨m,n⟩ Q:=by
 refine ACall.known λ_ hk=>?_;have lt: ∀ {k:Nat}{x:List AVal},Ag m k=some x->k<n:=λ{k x} hx=>by
  rcases bb k n with h'|h';·omega
  ·have:=hk k h';grind
 have hj2:Ag (Dm m i) j=some d:=by grind[Y6]
 constructor;intro F O w cargs hs;refine((h (lt hi) (lt hj)).go F O w cargs (hs.perm ((Kg hi).trans ((Kg hj2).cons _)))).mono ?_;rintro e w' ⟨v,he,O',r,⟨m',n'⟩,h1,h2,h3,c',d',hm,hq⟩;simp only at hm;subst hm;have hj3:Ag (A7 m i c') j=some d:=by grind[QL]
 have p1:=SK (x:=d') hj3;have hmd:Ag (Dm m j) i=some c:=by grind[Y6]
 have p2:=SK (x:=c') hmd;rw[AEt (λe=>hne e.symm)]at p2;rw[AFF hne]at h3;exact⟨v,he,O',r,⟨A7 (A7 m i c') j d',n'⟩,h1,h2,h3.perm (((cB _ _ _).trans (p2.cons _)).trans p1),hq⟩
def Aji{E:Env}{c:Code}{f:FuncId}{fn:Func}{nt:Nat}{rs:List ResultVar}{args:List AVal}{m:MS}{n:Nat}{Q:PQ} (hf:E.P.funcs[f]?=some fn) (hb:fn.body=some c) (hn:fn.ntmps=nt) (hr:fn.results=rs.toArray) (a:An) (h: ∀R:APost,(∀af st xs m0 m1 n',RX E rs af st=some (xs,⟨m1,n'⟩)->m0.Sublist m1->n<=n'->Q (Tf xs) ⟨m0,n'⟩->R .ret af st/\R .normal af st)->Gl (wpc E c a R (args++List.replicate (nt-args.length) .any) ⟨m,n⟩)):ACall E f args ⟨m,n⟩ Q:=by
 refine NG hf hb ?_;have hw:=Qb a (h (KH E fn Q) ?_).go;·grind
 ·intro af st xs m0 m1 n' h1 h2 h3 h4;have e:fn.results.toList=rs:=by rw[hr]
  exact⟨KW (by rw[e];omega) h2 h4,KY (by rw[e];omega) h2 h4⟩
theorem Af8{E:Env}{F:Nat->Nat}{O:Ghost}{st:St}{w:World}{af:List AVal}{tm:List Value} (hs:Sim E F O st w af tm){b:Nat} (h:0<Ap O w b st.m):Held O w b:=by
 have: ∀m,(∀p,p∈m->p∈st.m)->0<Ap O w b m->Held O w b:=by
  intro m;induction m with
  |nil=>grind[Ap]
  | cons p m ih=>
   intro hm h;rw[Ap]at h;rcases hs.box_ok p (hm p fI)with⟨k,arr,e',hb⟩|⟨v,hv⟩;rotate_left
   ·have hc':DK O w b p=AP b p.2 [v]:=by simp[DK,hv.bx,hv.sx]
    rcases bb 0 (AP b p.2 [v])with h'|h';·exact(Bw _ _ hv.own h').2
    grind
   obtain⟨lo,hi,h3,h4⟩:=hb.heap;have hc':DK O w b p=AP b p.2 arr.toList:=by simp[DK,hb.bx,hcells,h3]
   rcases bb 0 (AP b p.2 arr.toList)with h'|h';·exact(Bw _ _ hb.own h').2
   grind
 grind
theorem Sim.fuse{E:Env}{F:Nat->Nat}{O:Ghost}{m:List (Nat×List AVal)}{n i j:Nat}{e:TypeId}{s0:AVal}{w:World}{af:List AVal}{tm:List Value} (hs:Sim E F O ⟨(j,[.any])::(i,[s0,.trow e j 0])::m,n⟩ w af tm):
    ∃O',Ext F O w O' w/\Sim E F O' ⟨(i,[s0,.buf e [] true])::m,n⟩ w af tm:=by
  rcases hs.box_ok (i,[s0,.trow e j 0]) (by simp)with⟨bi,arri,ei,hi⟩|⟨v,hv⟩
  rotate_left
  . have:=hv.rep.length;grind
  have hri:=hi.rep
  simp only[ae,ap,bI]at hri
  obtain⟨v0,v1,hta,hr0,hr1⟩: ∃v0 v1,arri.toList.take (1+1)=[v0,v1]/\Rep O s0 v0/\Rep O (.trow e j 0) v1:=by
    generalize arri.toList.take (1+1)=q at hri
    cases hri with
    | cons q1 t=>cases t with
      |cons q2 t=>cases t;exact⟨_,_,rfl,q1,q2⟩
  cases hr1 with
  |trow hbx hbt hcap hcz=>
  rename_i b cap nn
  rcases hs.box_ok (j,[.any]) (by simp)with⟨b',arr,e',hj⟩|⟨v,hv⟩
  rotate_left
  . have:=hv.bx;grind
  have hbb:b'=b:=by have:=hj.bx;grind
  subst hbb
  obtain⟨he,hsz⟩:=hj.ty _ _ hbt
  subst he
  have hnn:1<=nn:=by
    have:=hj.rep.length
    grind
  obtain⟨lo,hi',hh,hf⟩:=hj.heap
  have hcom:O.com b'=none:=hj.com
  have hct:O.ct b'=none:=by
    cases hc:O.ct b' with
    |none=>rfl
    |some e2=>obtain⟨cs,h2⟩:=hs.tyd.2 b' e2 hc;grind
  have nheld: ¬Held O w b':=by
    rintro(⟨cs,h⟩|⟨s,p,h⟩|⟨es,c,h⟩)<;>grind
  let O':Ghost:= {O with com:=λx=>if x=b' then some []else O.com x,ct:=λx=>if x=b' then some e' else O.ct x}
  have same: ∀x,x≠b'->O'.com x=O.com x:=λx hx=>by show(if x=b' then _ else _)=_;grind
  have le1:O.le O':=⟨λx cs hx=>by
      have hne:x≠b':=λq=>by grind
      simp_all,λ_ _ h=>h,λ_ _ h=>h,λx e2 hx=>by
      have hne:x≠b':=λq=>by grind
      show(if x=b' then _ else _)=_
      simp_all,λ_ _ h=>h⟩
  have hown: ∀(xs:List AVal) (vs:List Value),ownL O w xs vs->ownL O' w xs vs:=λxs vs h=>Bv le1 xs vs h λx hx=>⟨rfl,same x λq=>by grind[Bw]⟩
  have hF:F b'=0:=hs.bx_F (j,[.any]) b' fI hbx
  have hkeys:=hs.keys
  simp only[aF,bY,aM,fG]at hkeys
  have hbi:bi≠b':=λq=>by
    subst q
    have:=hs.inj _ _ _ hbx hi.bx
    omega
  have hai:arri.toList=[v0,.slice (some ⟨b',0,none⟩) 0 cap]++arri.toList.drop 2:=by grind[List.take_append_drop]
  have hbuf:Rep O' (.buf e' [] true) (.slice (some ⟨b',0,none⟩) 0 cap):=by
    refine .buf true (.slice (cells:=[]) true (by show(if b'=b' then _ else _)=_;simp) rfl ⟨aK _,aK _⟩ (.nil _ _) (λ_ _=>.inr rfl)) ⟨rfl,rfl,fH,?_⟩
    show(if b'=b' then _ else _)=_
    simp
  have hbown:VM.own O' w (.buf e' [] true) (.slice (some ⟨b',0,none⟩) 0 cap):=by
    simp only[VM.own]
    refine⟨λ_=>⟨arr,e',lo,hi',[],hh,hf,rfl,by show(if b'=b' then _ else _)=_;simp,fI,by grind⟩,λx hx=>?_⟩
    simp only[CO]at hx
    split at hx
    . rename_i q;subst q;exact⟨⟨[],by show(if b'=b' then _ else _)=_;simp⟩,_,hh⟩
    omega
  have hoi:VM.own O w s0 v0:=by have:=hi.own;grind[ownL]
  have hlen2:(2:Nat)<=arri.toList.length:=by have:=br List.length hta;grind
  refine⟨O',⟨le1,λx hx=>⟨rfl,same x λq=>by grind⟩,av _,rfl,rfl,rfl⟩,
    { com_ok:=λx cs hx=>?_
      box_ok:=λp hp=>?_
      sx_next:=hs.sx_next
      keys:=by grind
      inj:=hs.inj
      bx_lt:=hs.bx_lt
      bx_next:=hs.bx_next
      tyd:=⟨hs.tyd.1,λx e2 hx=>?_⟩
      bx_F:=λp x hp hx=>?_
      F_lt:=hs.F_lt
      glob:=λg cs hg=>(hs.glob g cs hg).mono le1
      rep:=hs.rep.mono le1
      own:=hown _ _ hs.own
      tok:=λx=>?_}⟩
  . by_cases q:x=b'
    . subst q
      have:(if x=x then some []else O.com x)=some cs:=hx
      rw[an rfl]at this;cases this
      refine⟨arr,e',(lo,hi'),hh,⟨arr.toList,rfl⟩,λT hT=>?_⟩
      have:(if x=x then some e' else O.ct x)=some T:=hT
      rw[an rfl]at this;grind
    . rw[same x q]at hx
      obtain⟨ar,e2,fz,k1,k2,k3⟩:=hs.com_ok x cs hx
      refine⟨ar,e2,fz,k1,k2,λT hT=>k3 T ?_⟩
      have:(if x=b' then some e' else O.ct x)=some T:=hT
      rw[aj q]at this;omega
  . rcases aM.1 hp with rfl|hp
    . left
      refine⟨bi,arri,ei,⟨hi.bx,hi.heap,?_,?_,by rw[same bi hbi];exact hi.com,?_,hi.ty⟩⟩
      . simp only[ae,ap,bI]
        rw[hta]
        exact .cons (hr0.mono le1) (.cons hbuf .nil)
      . rw[hai]
        simp only[bz,ownL,bm,cF]
        refine⟨?_,hbown⟩
        have:=hown [s0] [v0] (by simp only[ownL,cF];omega)
        simpa only[ownL,cF]using this
      . have:=hi.one
        omega
    . rcases hs.box_ok p (by grind)with⟨k,ar,e2,hk⟩|⟨v,hk⟩
      . left
        refine⟨k,ar,e2,⟨hk.bx,hk.heap,hk.rep.mono le1,hown _ _ hk.own,?_,hk.one,hk.ty⟩⟩
        rw[same k λq=>?_]
        . exact hk.com
        . subst q
          have:=hs.inj _ _ _ hbx hk.bx
          grind
      . right
        exact⟨v,hk.sx,hk.bx,hk.rep.mono le1,hown _ _ hk.own⟩
  . by_cases q:x=b'
    . subst q;exact⟨[],by show(if x=x then _ else _)=_;simp⟩
    . have:(if x=b' then some e' else O.ct x)=some e2:=hx
      rw[aj q]at this
      obtain⟨cs,h2⟩:=hs.tyd.2 x e2 this
      grind
  . rcases aM.1 hp with rfl|hp
    . exact hs.bx_F (i,[s0,.trow e' j 0]) x fI hx
    . exact hs.bx_F p x (by grind) hx
  . have ht:=hs.tok x
    have hcm:Ap O w x ((j,[.any])::(i,[s0,.trow e' j 0])::m)=DK O w x (j,[.any])+(DK O w x (i,[s0,.trow e' j 0])+Ap O w x m):=rfl
    simp only at ht
    rw[hcm]at ht
    obtain⟨lo2,hi2,hhi,_⟩:=hi.heap
    have hci:DK O w x (i,[s0,.trow e' j 0])=cnt x s0 v0:=by
      have:DK O w x (i,[s0,.trow e' j 0])=AP x [s0,.trow e' j 0] arri.toList:=by simp only[DK,hi.bx,hcells,hhi]
      grind[AP,cnt]
    have hcn:DK O' w x (i,[s0,.buf e' [] true])=cnt x s0 v0+CO x (.slice (some ⟨b',0,none⟩) 0 cap):=by
      have hbx':O'.bx i=some bi:=hi.bx
      have:DK O' w x (i,[s0,.buf e' [] true])=AP x [s0,.buf e' [] true] arri.toList:=by grind[DK,hcells]
      grind[AP,cnt]
    have hmm:Ap O' w x m=Ap O w x m:=Ff (λp hp=>⟨rfl,λk hk=>rfl⟩) (λp hp=>rfl)
    show F x+AP x af tm+(DK O' w x (i,[s0,.buf e' [] true])+Ap O' w x m)<=1
    rw[hcn,hmm]
    by_cases q:x=b'
    . subst q
      have z1:AP x af tm=0:=by
        rcases bb 0 (AP x af tm)with h|h
        . exact absurd (Bw _ _ hs.own h).2 nheld
        omega
      grind[Ap,Nat.lt_or_ge,absurd,Af8,CO]
    . have:CO x (.slice (some ⟨b',0,none⟩) 0 cap)=0:=by simp only[CO];rw[aj (λh=>q h.symm)]
      omega
def ACall.fuse{E:Env}{f:FuncId}{args:List AVal}{st:St}{Q:AVal->St->Prop} (h:ACall E f args st λr st'=>∃i j e s0 m,st'.m=(j,[.any])::(i,[s0,.trow e j 0])::m/\Q r ⟨(i,[s0,.buf e [] true])::m,st'.next⟩):ACall E f args st Q:=by constructor;intro F O w cargs hs;refine(h.go F O w cargs hs).mono ?_;rintro e w' ⟨v,he,O',r,⟨m',n'⟩,k1,k2,k3,i,j,el,s0,m,hm,hq⟩;simp only at hm k2;subst hm;obtain⟨O2,x2,s2⟩:=k3.fuse;exact⟨v,he,O2,r,_,k1.trans x2,k2,s2,hq⟩
end Go.VM
