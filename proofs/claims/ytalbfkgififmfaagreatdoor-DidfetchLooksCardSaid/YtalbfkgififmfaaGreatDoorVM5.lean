import Derived.Test.YtalbfkgififmfaaGreatDoorVM3
set_option linter.defProp false
set_option linter.unusedSimpArgs false
set_option linter.unusedVariables false
namespace Go.VM
def RepL.split{O:At}: ∀ {xs ys:List AVal}{vs:List Value},RepL O (xs++ys) vs->∃us a,vs=us++a/\RepL O xs us/\RepL O ys a|[],ys,vs,h=>⟨[],vs,rfl,.nil,h⟩|x::xs,ys,vs,h=>by cases h with|cons h t=>obtain⟨us,a,rfl,b,c⟩:=RepL.split t;exact⟨_::us,a,rfl,.cons h b,c⟩
def elA (w:Nat):AVal->Bool|.agg cs=>cs.length==w|.bool _=>w==1|.int _ _=>w==1|.str _=>w==1|_=>false
def AAM{O:At}{w:Nat}: ∀(xs:List AVal) (vs rest:List Value),(∀x,x∈xs->elA w x=true)->RepL O (xs.flatMap Aa) vs->(∀v,v∈vs->v.oneCell'=true)->RepS O w xs (vs++rest)
 |[],vs,rest,_,_,_=>.nil _ _
 |x::xs,vs,rest,hx,h,ho=>by
  rw[aR]at h;obtain⟨us,j,rfl,a,l⟩:=RepL.split h;have e:=AAM xs j rest (λy p=>hx y (by grind)) l (λv i=>ho v (by grind));have d:=hx x fN;rw[aJ];cases x with
  |agg cs=>simp only[elA,be]at d;have q:=RepL.length a;have:=RepS.cons (v:=.agg us.toArray) (w:=w) (.agg (by simpa[Aa]using a) (λv i=>ho v (by grind))) ⟨by grind[Value.cells,Aa],λc f=>ho c (by grind[Value.cells])⟩ e;grind[Value.cells]
  |bool b=>simp only[elA,be]at d;subst d;simp only[Aa]at a;cases a with|cons a t=>cases t;cases a;exact RepS.cons (v:=.bool b) (.bool b) ⟨rfl,λc f=>ho c (by grind[Value.cells])⟩ e
  |int k n=>simp only[elA,be]at d;subst d;simp only[Aa]at a;cases a with|cons a t=>cases t;cases a;exact RepS.cons (v:=.int k n) (.int k n) ⟨rfl,λc f=>ho c (by grind[Value.cells])⟩ e
  |str s=>simp only[elA,be]at d;subst d;simp only[Aa]at a;cases a with|cons a t=>cases t;cases a;rename_i b g;exact RepS.cons (v:=.string b) (.str b g) ⟨rfl,λc f=>ho c (by grind[Value.cells])⟩ e
  |_=>simp[elA]at d
inductive Lent1 (m:List (Nat×List AVal)):AVal->AVal->Prop|same (x:AVal):Lent1 m x x|box{w i len:Nat}{xs junk:List AVal} (hm:(i,xs.flatMap Aa++junk)∈m) (hl:xs.length=len) (hx: ∀x,x∈xs->elA w x=true):Lent1 m (.gsl w i len) (.slice w xs false)|stripped (x:AVal):Lent1 m x x.strip|ptr{i off:Nat}{cs:List AVal} (hm:(i,cs)∈m) (ho:off<=cs.length):Lent1 m (.ptr i off) (.cptr (cs.drop off))|row{i len:Nat}{xs junk:List AVal} (hm:(i,xs.flatMap Aa++junk)∈m) (hl:xs.length=len) (hx: ∀x,x∈xs->elA 1 x=true):Lent1 m (.bsl 1 i 0 len) (.slice 1 xs false)
inductive Lent1L (m:List (Nat×List AVal)):List AVal->List AVal->Prop|nil:Lent1L m [] []|cons{x y:AVal}{xs ys:List AVal} (h:Lent1 m x y) (t:Lent1L m xs ys):Lent1L m (x::xs) (y::ys)
inductive Lent (m:List (Nat×List AVal)):AVal->AVal->Prop|one{x y:AVal} (h:Lent1 m x y):Lent m x y|agg{xs ys:List AVal} (h:Lent1L m xs ys):Lent m (.agg xs) (.agg ys)
inductive LentL (m:List (Nat×List AVal)):List AVal->List AVal->Prop|nil:LentL m [] []|cons{x y:AVal}{xs ys:List AVal} (h:Lent m x y) (t:LentL m xs ys):LentL m (x::xs) (y::ys)
section
variable{m:List (Nat×List AVal)}{O O':At}
def Seen (m:List (Nat×List AVal)) (O O':At):Prop:= ∀i cs b,(i,cs)∈m->O.bx i=some b-> ∃us a,O'.com b=some (us++a)/\RepL O' cs us/\ ∀v,v∈us->v.oneCell'=true
def Lent1.rep (le:O.le O') (hs:Seen m O O'){x y:AVal}{v:Value} (h:Lent1 m x y) (k:Rep O x v):Rep O' y v:=by
 cases h with
 |same=>exact k.mono le
 |box j a n=>cases k with|gsl g z l w=>obtain⟨us,p,c,d,e⟩:=hs _ _ _ j g;obtain⟨s,r,rfl,q,t⟩:=RepL.split d;exact .slice false c a l (by rw[aN,aJ];exact AAM _ _ _ n q λv f=>e v (by simp[f])) (λh=>by cases h)
 |stripped=>exact(k.mono le).strip
 |ptr j b=>cases k with|ptr g=>obtain⟨us,p,c,d,e⟩:=hs _ _ _ j g;have a:=d.length;refine .cptr (vs:=us.drop _) (rest:=p) c ?_ (d.drop _) λv f=>e v (cy f);grind
 | @row i len xs junk j a n=>
  cases k with
  |bsl g b l=>
   obtain⟨us,p,c,d,e⟩:=hs _ _ _ j g;obtain⟨s,r,rfl,q,t⟩:=RepL.split d;rcases b with b|b;·subst b;have:xs=[]:=dV.1 a;subst this;exact .slice false c a l (.nil _ _) (λh=>by cases h)
   ·subst b;exact .slice false c a l (by rw[aN,aJ];exact AAM _ _ _ n q λv f=>e v (by simp[f])) (λh=>by cases h)
def Lent1L.rep (le:O.le O') (hs:Seen m O O'){xs ys:List AVal}{vs:List Value} (h:Lent1L m xs ys) (k:RepL O xs vs):RepL O' ys vs:=by induction h generalizing vs with|nil=>cases k;exact .nil|cons h t b=>cases k with|cons c a=>exact .cons (h.rep le hs c) (b a)
def Lent.rep (le:O.le O') (hs:Seen m O O'){x y:AVal}{v:Value} (h:Lent m x y) (k:Rep O x v):Rep O' y v:=by cases h with|one h=>exact h.rep le hs k|agg h=>cases k with|agg k one=>exact .agg (h.rep le hs k) one
def LentL.rep (le:O.le O') (hs:Seen m O O'){xs ys:List AVal}{vs:List Value} (h:LentL m xs ys) (k:RepL O xs vs):RepL O' ys vs:=by induction h generalizing vs with|nil=>cases k;exact .nil|cons h t b=>cases k with|cons c a=>exact .cons (h.rep le hs c) (b a)
end
def ATF:AVal->Bool|.bool _=>true|.int _ _=>true|.str _=>true|_=>false
def Axe:AVal->Bool|.tuple vs=>vs.all ATF|x=>ATF x
def AFu{O O':At}{w:World}{x:AVal}{v:Value} (a:ATF x=true) (h:Rep O x v):Rep O' x v/\own O' w x v/\∀b,cnt b x v=0:=by cases x<;>first|(simp[ATF]at a;done)|(cases h;exact⟨by constructor<;>assumption,by simp[own],λb=>by simp[cnt]⟩)
def AGm{O O':At}{w:World}: ∀ {xs:List AVal}{vs:List Value},xs.all ATF=true->RepL O xs vs->RepL O' xs vs/\ownL O' w xs vs/\∀b,AR b xs vs=0|[],vs,_,h=>by cases h;exact⟨.nil,by simp[ownL],λb=>by simp[AR]⟩|x::xs,vs,hx,h=>by rw[aQ,aw]at hx;cases h with|cons h t=>obtain⟨c,f,e⟩:=AFu (O':=O') (w:=w) hx.1 h;obtain⟨a,g,d⟩:=AGm (O':=O') (w:=w) hx.2 t;exact⟨.cons c a,by grind[ownL],λb=>by grind[AR]⟩
def AmC{O O':At}{w:World}{x:AVal}{v:Value} (a:Axe x=true) (h:Rep O x v):Rep O' x v/\own O' w x v/\∀b,cnt b x v=0:=by
 cases x with
 |tuple vs=>cases h with|tuple h=>obtain⟨c,e,d⟩:=AGm (O':=O') (w:=w) a h;exact⟨.tuple c,by grind[own],λb=>by grind[cnt]⟩
 |_=>exact AFu a h
def Br (O:At) (m:List (Nat×List AVal)) (b:Nat):Bool:=m.any λp=>decide (O.bx p.1=some b)
def NJ{O:At}{m:List (Nat×List AVal)}{b:Nat}:Br O m b=true<->∃p,p∈m/\O.bx p.1=some b:=by simp_all[Br]
def At.lend (O:At) (w:World) (m:List (Nat×List AVal)):At:= {O with com:=λb=>if Br O m b=true then some (hcells w b)else O.com b}
def At.back (O O':At) (m:List (Nat×List AVal)):At:={com:=λb=>if Br O m b=true then none else O'.com b,bx:=O'.bx,bt:=λi=>if(m.map (·.1)).contains i=true then O.bt i else O'.bt i,ct:=λb=>if Br O m b=true then none else O'.ct b,sx:=O'.sx}
def AE.lend{E:Env}{f:FuncId}{I args':List AVal}{m:List (Nat×List AVal)}{n:Nat}{Q:AVal->St->Prop} (hl:LentL m I args') (hst:stripL args'=args')
    (h:AE E f args' ⟨[],n⟩ λr K=>Axe r=true/\ ∀n',n<=n'->Q r ⟨m,n'⟩):AE E f I ⟨m,n⟩ Q:=by
  constructor
  intro F O w l hs
  have box: ∀p,p∈m-> ∀b,O.bx p.1=some b-> ∃arr e,DE O w p b arr e:=λp hp b c=>by
    rcases hs.box_ok p hp with⟨J,arr,e,h⟩|⟨v,h⟩
    . have:J=b:=by have:=h.bx;grind
      grind
    . rw[h.bx]at c;grind
  have nocom: ∀b,Br O m b=true->O.com b=none/\b<w.heap.size/\F b=0/\O.ct b=none:=λb c=>by
    obtain⟨p,hp,y⟩:=NJ.1 c
    obtain⟨arr,e,k⟩:=box p hp b y
    refine⟨k.com,hs.bx_lt _ _ y,hs.bx_F p b hp y,?_⟩
    cases R:O.ct b with
    |none=>rfl
    |some e'=>obtain⟨cs,D⟩:=hs.tyd.2 b e' R;rw[k.com]at D;grind
  have C:O.le (O.lend w m):=⟨λb cs c=>by
      have:Br O m b=false:=by
        grind
      exact⟨[],by rw[bm];show(if Br O m b=true then _ else _)=_;grind⟩,λ_ _ h=>h,λ_ _ h=>h,λ_ _ h=>h,λ_ _ h=>h⟩
  have L:Seen m O (O.lend w m):=λi cs b hm c=>by
    obtain⟨arr,e,k⟩:=box _ hm b c
    obtain⟨lo,hi,S,_⟩:=k.heap
    have d:Br O m b=true:=NJ.2 ⟨_,hm,c⟩
    have R:hcells w b=arr.toList:=by grind[hcells]
    refine⟨arr.toList.take cs.length,arr.toList.drop cs.length,?_,k.rep.mono C,k.one⟩
    show(if Br O m b=true then _ else _)=_
    simp_all
  let U:Nat->Nat:=λb=>if Br O m b=true then 1 else F b+Aq O w b m
  have big: ∀b,w.heap.size<=b->Aq O w b m=0:=λb c=>by
    rcases eT (Aq O w b m)with h0|h0
    . omega
    . have:=ACP (a:= {tmps:=l,defers:=[]}) hs h0
      omega
  have cz: ∀b,AR b args' l.toList=0:=λb=>by grind[JK]
  have P:Sim E U (O.lend w m) ⟨[],n⟩ w args' l.toList:=
    { com_ok:=λb cs c=>by
        cases d:Br O m b
        . have H:O.com b=some cs:=by have:(if Br O m b=true then some (hcells w b)else O.com b)=some cs:=c;grind
          exact hs.com_ok b cs H
        . have H:hcells w b=cs:=by have:(if Br O m b=true then some (hcells w b)else O.com b)=some cs:=c;grind
          obtain⟨p,hp,y⟩:=NJ.1 d
          obtain⟨arr,e,k⟩:=box p hp b y
          obtain⟨lo,hi,S,_⟩:=k.heap
          refine⟨arr,e,(lo,hi),S,⟨[],by grind[hcells]⟩,λT M=>?_⟩
          have:O.ct b=some T:=M
          grind
      box_ok:=λp hp=>by grind
      sx_next:=hs.sx_next
      keys:=fN
      inj:=hs.inj
      bx_lt:=hs.bx_lt
      bx_next:=hs.bx_next
      tyd:=⟨hs.tyd.1,λb e c=>by
        obtain⟨cs,D⟩:=hs.tyd.2 b e c
        obtain⟨ds,h3⟩:=C.1 b cs D
        grind⟩
      bx_F:=λp b hp=>by grind
      F_lt:=λb c=>by
        show(if Br O m b=true then 1 else F b+Aq O w b m)=0
        cases d:Br O m b
        . rw[aj fO,hs.F_lt b c,big b c]
        grind
      glob:=λg cs hg=>(hs.glob g cs hg).mono C
      rep:=hl.rep C L hs.rep
      own:=by grind[K3]
      tok:=λb=>by
        rw[cz b]
        show(if Br O m b=true then 1 else F b+Aq O w b m)+0+0<=1
        have:=hs.tok b
        grind}
  refine(h.go U (O.lend w m) w l P).mono ?_
  rintro e w' ⟨v,he,O',r,K,d,hn,j,X,hq⟩
  refine⟨v,he,O.back O' m,r,⟨m,K.next⟩,?_,hn,?_,hq _ hn⟩
  all_goals
    have t:O.le (O.back O' m):=⟨λb cs c=>by
        have B:Br O m b=false:=by
          grind
        obtain⟨ds,y⟩:=C.1 b cs c
        obtain⟨ds',D⟩:=d.le.1 b _ y
        refine⟨ds++ds',?_⟩
        show(if Br O m b=true then none else O'.com b)=_
        simp_all,
      λi b h=>d.le.2.1 i b h,λi x h=>by
        show(if(m.map (·.1)).contains i=true then O.bt i else O'.bt i)=some x
        split
        . exact h
        . exact d.le.2.2.1 i x h,
      λb e h=>by
        have B:Br O m b=false:=by
          grind
        show(if Br O m b=true then none else O'.ct b)=_
        rw[B,aj fO]
        exact d.le.2.2.2.1 b e h,λi v h=>d.le.2.2.2.2 i v h⟩
  . refine⟨t,λb c=>?_,d.size,d.os,d.output,d.tape⟩
    have B:Br O m b=false:=by
      grind
    have Y:1<=U b:=by show 1<=(if Br O m b=true then 1 else F b+Aq O w b m);rw[B,aj fO];omega
    obtain⟨Z,k2⟩:=d.keep b Y
    refine⟨Z,?_⟩
    show(if Br O m b=true then none else O'.com b)=_
    rw[B,aj fO,k2]
    show(if Br O m b=true then some (hcells w b)else O.com b)=_
    simp_all
  . have s: ∀p,p∈m-> ∀b,O.bx p.1=some b->w'.heap[b]?=w.heap[b]?:=λp hp b c=>by
      have q:Br O m b=true:=NJ.2 ⟨p,hp,c⟩
      exact(d.keep b (by show 1<=(if Br O m b=true then 1 else F b+Aq O w b m);grind)).1
    have A: ∀b,1<=Aq O w b m->w'.heap[b]?=w.heap[b]?/\(O.back O' m).com b=O.com b:=λb c=>by
      cases q:Br O m b
      . have Y:1<=U b:=by show 1<=(if Br O m b=true then 1 else F b+Aq O w b m);rw[q,aj fO];omega
        obtain⟨Z,k2⟩:=d.keep b Y
        refine⟨Z,?_⟩
        show(if Br O m b=true then none else O'.com b)=_
        rw[q,aj fO,k2]
        show(if Br O m b=true then some (hcells w b)else O.com b)=_
        simp_all
      . obtain⟨p,hp,y⟩:=NJ.1 q
        refine⟨s p hp b y,?_⟩
        show(if Br O m b=true then none else O'.com b)=_
        simp_all
    have G: ∀p,p∈m->O'.bx p.1=O.bx p.1:=λp hp=>by
      rcases hs.box_ok p hp with⟨J,arr,e,h⟩|⟨v,h⟩
      . rw[h.bx];exact d.le.2.1 _ _ h.bx
      . rw[h.bx];exact(j.sx_next _ _ (d.le.2.2.2.2 _ _ h.sx)).2
    have sxm: ∀p,p∈m->O'.sx p.1=O.sx p.1:=λp hp=>by
      rcases hs.box_ok p hp with⟨J,arr,e,h⟩|⟨v,h⟩
      . cases y:O.sx p.1 with
        |some v=>exact d.le.2.2.2.2 _ _ y
        | none=>
          cases D:O'.sx p.1 with
          |none=>rfl
          |some v=>have:=(j.sx_next _ _ D).2;rw[G p hp,h.bx]at this;grind
      . rw[h.sx];exact d.le.2.2.2.2 _ _ h.sx
    have W:=j.rep
    cases W with
    |cons W _=>
    obtain⟨f1,f2,f3⟩:=AmC (O':=O.back O' m) (w:=w') X W
    refine
    { com_ok:=λb cs c=>by
        cases q:Br O m b
        . have z:(if Br O m b=true then none else O'.com b)=some cs:=c
          rw[q,aj fO]at z
          obtain⟨arr,e,fz,y,D,h3⟩:=j.com_ok b cs z
          refine⟨arr,e,fz,y,D,λT M=>?_⟩
          have V:(if Br O m b=true then none else O'.ct b)=some T:=M
          simp_all
        . have z:(if Br O m b=true then none else O'.com b)=some cs:=c
          simp_all
      box_ok:=λp hp=>by
        rcases hs.box_ok p hp with⟨b,arr,e,k⟩|⟨v,k⟩
        . left
          obtain⟨lo,hi,S,hz⟩:=k.heap
          have q:Br O m b=true:=NJ.2 ⟨p,hp,k.bx⟩
          refine⟨b,arr,e,⟨d.le.2.1 _ _ k.bx,⟨lo,hi,(s p hp b k.bx).trans S,hz⟩,k.rep.mono t,?_,?_,k.one,λT n M=>?_⟩⟩
          . refine Bz t _ _ k.own λJ H=>A J (bK ?_ (Yp hp))
            unfold DR
            rw[k.bx]
            grind[hcells]
          . show(if Br O m b=true then none else O'.com b)=none
            grind
          . have R:(m.map (·.1)).contains p.1=true:=by rw[ft];exact bv.2 ⟨p,hp,rfl⟩
            have V:(if(m.map (·.1)).contains p.1=true then O.bt p.1 else O'.bt p.1)=some (T,n):=M
            rw[an R]at V
            exact k.ty T n V
        . right
          refine⟨v,d.le.2.2.2.2 _ _ k.sx,?_,k.rep.mono t,?_⟩
          . show O'.bx p.1=none
            rw[G p hp];exact k.bx
          . refine Bz t _ _ k.own λJ H=>A J (bK ?_ (Yp hp))
            unfold DR
            rw[k.bx,k.sx]
            omega
      sx_next:=j.sx_next
      keys:=hs.keys
      inj:=j.inj
      bx_lt:=j.bx_lt
      bx_next:=j.bx_next
      tyd:=⟨λi x hi=>by
          have z:(if(m.map (·.1)).contains i=true then O.bt i else O'.bt i)=some x:=hi
          split at z
          . obtain⟨b,c⟩:=hs.tyd.1 i x z
            exact⟨b,d.le.2.1 _ _ c⟩
          . exact j.tyd.1 i x z,
        λb e c=>by
          have z:(if Br O m b=true then none else O'.ct b)=some e:=c
          cases q:Br O m b
          . rw[q,aj fO]at z
            obtain⟨cs,D⟩:=j.tyd.2 b e z
            refine⟨cs,?_⟩
            show(if Br O m b=true then none else O'.com b)=_
            simp_all
          simp_all⟩
      bx_F:=λp b hp c=>by
        have z:O'.bx p.1=some b:=c
        rw[G p hp]at z
        exact hs.bx_F p b hp z
      F_lt:=λb c=>hs.F_lt b (bK d.size c)
      glob:=λg cs hg=>(hs.glob g cs hg).mono t
      rep:=.cons f1 .nil
      own:=by grind[ownL]
      tok:=λb=>?_}
    have ec:Aq (O.back O' m) w' b m=Aq O w b m:=GD (λp hp=>⟨G p hp,λk hk=>s p hp k hk⟩) (λp hp=>sxm p hp)
    have:=hs.tok b
    grind[AR]
def Sim.give{E:Env}{F:Nat->Nat}{O:At}{a y:List (Nat×List AVal)}{n:Nat}{w:World}{af af':List AVal}{D:List Value} (hs:Sim E F O ⟨a++y,n⟩ w af D) (L:LentL a af af') (M:stripL af'=af'):
    Sim E F (O.lend w a) ⟨y,n⟩ w af' D/\Ext F O w (O.lend w a) w:=by
  have box: ∀p,p∈a-> ∀b,O.bx p.1=some b-> ∃arr e,DE O w p b arr e:=λp hp b d=>by
    rcases hs.box_ok p (cS _ hp)with⟨b',arr,e,h⟩|⟨v,h⟩
    . have:b'=b:=by have:=h.bx;grind
      grind
    . rw[h.bx]at d;grind
  have r: ∀b,Br O a b=true->O.com b=none/\F b=0/\O.ct b=none/\ ∃arr e fz,w.heap[b]?=some (.cells arr e fz):=λb d=>by
    obtain⟨p,hp,x⟩:=NJ.1 d
    obtain⟨arr,e,k⟩:=box p hp b x
    obtain⟨lo,hi,C,_⟩:=k.heap
    refine⟨k.com,hs.bx_F p b (cS _ hp) x,?_,arr,e,(lo,hi),C⟩
    cases H:O.ct b with
    |none=>rfl
    |some R=>obtain⟨cs,G⟩:=hs.tyd.2 b R H;rw[k.com]at G;grind
  have j:O.le (O.lend w a):=⟨λb cs d=>by
      have:Br O a b=false:=by
        grind
      exact⟨[],by rw[bm];show(if Br O a b=true then _ else _)=_;grind⟩,λ_ _ h=>h,λ_ _ h=>h,λ_ _ h=>h,λ_ _ h=>h⟩
  have z:Seen a O (O.lend w a):=λi cs b I d=>by
    obtain⟨arr,e,k⟩:=box _ I b d
    obtain⟨lo,hi,C,_⟩:=k.heap
    have A:Br O a b=true:=NJ.2 ⟨_,I,d⟩
    have H:hcells w b=arr.toList:=by grind[hcells]
    refine⟨arr.toList.take cs.length,arr.toList.drop cs.length,?_,k.rep.mono j,k.one⟩
    show(if Br O a b=true then _ else _)=_
    simp_all
  have B: ∀b,Br O a b=true-> ¬Held O w b:=λb d C=>by
    obtain⟨x,_,_,arr,e,fz,J⟩:=r b d
    rcases C with⟨cs,h⟩|⟨s,p,h⟩|⟨es,c,h⟩<;>grind
  have l: ∀b,Br O a b=false->(O.lend w a).com b=O.com b:=λb d=>by
    show(if Br O a b=true then _ else _)=_
    simp_all
  have V: ∀b,AR b af' D=0:=λb=>by grind[JK]
  have f:=hs.keys
  simp only[cF,List.nodup_append]at f
  refine⟨
    { com_ok:=λb cs d=>?_
      box_ok:=λp hp=>?_
      sx_next:=hs.sx_next
      keys:=f.2.1
      inj:=hs.inj
      bx_lt:=hs.bx_lt
      bx_next:=hs.bx_next
      tyd:=⟨hs.tyd.1,λb e d=>?_⟩
      bx_F:=λp b hp=>hs.bx_F p b (cK _ hp)
      F_lt:=hs.F_lt
      glob:=λg cs S=>(hs.glob g cs S).mono j
      rep:=L.rep j z hs.rep
      own:=(by grind[K3])
      tok:=λb=>?_},?_⟩
  . cases A:Br O a b
    . rw[l b A]at d
      exact hs.com_ok b cs d
    . have U:hcells w b=cs:=by have:(if Br O a b=true then some (hcells w b)else O.com b)=some cs:=d;grind
      obtain⟨x,_,K,arr,e,fz,J⟩:=r b A
      refine⟨arr,e,fz,J,⟨[],by grind[hcells]⟩,λT P=>?_⟩
      have:O.ct b=some T:=P
      grind
  . have t: ∀(xs:List AVal) (vs:List Value),ownL O w xs vs->ownL (O.lend w a) w xs vs:=λxs vs h=>Bz j xs vs h λb d=>by
      refine⟨rfl,l b ?_⟩
      grind[Br,absurd,CG]
    rcases hs.box_ok p (cK _ hp)with⟨b,arr,e,k⟩|⟨v,k⟩
    . left
      refine⟨b,arr,e,⟨k.bx,k.heap,k.rep.mono j,t _ _ k.own,?_,k.one,k.ty⟩⟩
      rw[l b ?_]
      . exact k.com
      . cases A:Br O a b
        . rfl
        . obtain⟨q,Q,x⟩:=NJ.1 A
          have:=hs.inj _ _ _ x k.bx
          exact absurd this (f.2.2 q.1 (bv.2 ⟨q,Q,rfl⟩) p.1 (bv.2 ⟨p,hp,rfl⟩))
    . right
      exact⟨v,k.sx,k.bx,k.rep.mono j,t _ _ k.own⟩
  . obtain⟨cs,G⟩:=hs.tyd.2 b e d
    grind
  . have x:=hs.tok b
    have G:Aq O w b y<=Aq O w b (a++y):=AWA (cN _ _) b
    have K:Aq (O.lend w a) w b y=Aq O w b y:=GD (λp hp=>⟨rfl,λk W=>rfl⟩) (λp hp=>rfl)
    grind
  . refine⟨j,λb d=>⟨rfl,l b ?_⟩,av _,rfl,rfl,rfl⟩
    grind
def AVw: ∀l:List B8,(l.map AVal.str).flatMap Aa=l.map AVal.str|[]=>rfl|x::l=>by rw[aH,aR,AVw l];rfl
def AjC{i len:Nat}{l:List B8} (b:len<=l.length):Lent [(i,l.map AVal.str)] (.bsl 1 i 0 len) (.slice 1 ((l.take len).map AVal.str) false):=.one (.row (xs:=(l.take len).map AVal.str) (junk:=(l.drop len).map AVal.str) (by rw[AVw,<-cF,bI];simp) (by grind) (λx a=>by simp only[bv]at a;obtain⟨_,_,rfl⟩:=a;rfl))
def AE.give{E:Env}{f:FuncId}{a:List AVal}{st:St}{Q:AVal->St->Prop} (h:AE E f a st λr d=>∃i g c,d.m=i++g/\Lent i r c/\c.strip=c/\Q c ⟨g,d.next⟩):AE E f a st Q:=by constructor;intro F O w b hs;refine(h.go F O w b hs).mono ?_;rintro e w' ⟨v,p,O',r,⟨A,n⟩,l,j,t,i,g,c,k,q,s,x⟩;simp only at k j;subst k;obtain⟨y,z⟩:=t.give (af':=[c]) (.cons q .nil) (by grind[stripL]);exact⟨v,p,_,c,⟨g,n⟩,l.trans z,j,y,x⟩
def AG6{i j:Nat} (h:i≠j): ∀m:List (Nat×List AVal),Dy (Dy m i) j=Dy (Dy m j) i
 |[]=>rfl
 | (k,d)::m=>by
  by_cases e:i=k;·subst e;simp only[Dy,az,aj (λe:j=i=>h e.symm)]
  ·by_cases e2:j=k;·simp_all[Dy]
   ·simp only[Dy,aj e,aj e2];rw[AG6 h m]
def AE.front2{E:Env}{f:FuncId}{a:List AVal}{m:List (Nat×List AVal)}{n i j:Nat}{c d:List AVal}{Q:AVal->St->Prop} (hi:Aj m i=some c) (J:Aj m j=some d) (q:i≠j) (h:i<n->j<n->AE E f a ⟨(i,c)::(j,d)::Dy (Dy m i) j,n⟩ λr l=>∃g p,l.m=(i,g)::(j,p)::Dy (Dy m i) j/\Q r ⟨A9 (A9 m i g) j p,l.next⟩):AE E f a ⟨m,n⟩ Q:=by
 refine AE.known λ_ G=>?_;have B: ∀ {k:Nat}{x:List AVal},Aj m k=some x->k<n:=λ{k x} hx=>by
  rcases bf k n with h'|h';·omega
  ·have:=G k h';grind
 have t:Aj (Dy m i) j=some d:=by grind[Z9]
 constructor;intro F O w b hs;refine((h (B hi) (B J)).go F O w b (hs.perm ((Lc hi).trans ((Lc t).cons _)))).mono ?_;rintro e w' ⟨v,M,O',r,⟨P,D⟩,K,I,z,g,p,C,H⟩;simp only at C;subst C;have y:Aj (A9 m i g) j=some d:=by grind[RO]
 have L:=UH (x:=p) y;have s:Aj (Dy m j) i=some c:=by grind[Z9]
 have A:=UH (x:=g) s;rw[AF9 (λe=>q e.symm)]at A;rw[AG6 q]at z;exact⟨v,M,O',r,⟨A9 (A9 m i g) j p,D⟩,K,I,z.perm (((cC _ _ _).trans (A.cons _)).trans L),H⟩
def Ake{E:Env}{c:Code}{f:FuncId}{d:Func}{k:Nat}{i:List ResultVar}{b:List AVal}{m:MS}{n:Nat}{Q:PQ} (q:E.P.funcs[f]?=some d) (s:d.body=some c) (v:d.ntmps=k) (r:d.results=i.toArray) (a:An) (h: ∀R:APost,(∀af st xs m0 j g,Sm E i af st=some (xs,⟨j,g⟩)->m0.Sublist j->n<=g->Q (Uv xs) ⟨m0,g⟩->R .ret af st/\R .normal af st)->Gl (wpc E c a R (b++List.replicate (k-b.length) .any) ⟨m,n⟩)):AE E f b ⟨m,n⟩ Q:=by
 refine Nh q s ?_;have x:=Re a (h (Ko E d Q) ?_).go;·grind
 ·intro af st xs m0 j g w p t l;have e:d.results.toList=i:=by rw[r]
  exact⟨LW (by rw[e];omega) p l,Ld (by rw[e];omega) p l⟩
theorem Ah9{E:Env}{F:Nat->Nat}{O:At}{st:St}{w:World}{af:List AVal}{e:List Value} (hs:Sim E F O st w af e){b:Nat} (h:0<Aq O w b st.m):Held O w b:=by
 have: ∀m,(∀p,p∈m->p∈st.m)->0<Aq O w b m->Held O w b:=by
  intro m;induction m with
  |nil=>grind[Aq]
  | cons p m ih=>
   intro d h;rw[Aq]at h;rcases hs.box_ok p (d p fN)with⟨k,arr,e',hb⟩|⟨v,hv⟩;rotate_left
   ·have a:DR O w b p=AR b p.2 [v]:=by simp[DR,hv.bx,hv.sx]
    rcases bf 0 (AR b p.2 [v])with h'|h';·exact(CG _ _ hv.own h').2
    grind
   obtain⟨lo,hi,c,f⟩:=hb.heap;have a:DR O w b p=AR b p.2 arr.toList:=by simp[DR,hb.bx,hcells,c]
   rcases bf 0 (AR b p.2 arr.toList)with h'|h';·exact(CG _ _ hb.own h').2
   grind
 grind
theorem Sim.fuse{E:Env}{F:Nat->Nat}{O:At}{m:List (Nat×List AVal)}{n i j:Nat}{e:TypeId}{a:AVal}{w:World}{af:List AVal}{K:List Value} (hs:Sim E F O ⟨(j,[.any])::(i,[a,.trow e j 0])::m,n⟩ w af K):
    ∃O',Ext F O w O' w/\Sim E F O' ⟨(i,[a,.buf e [] true])::m,n⟩ w af K:=by
  rcases hs.box_ok (i,[a,.trow e j 0]) (by simp)with⟨bi,arri,ei,hi⟩|⟨v,hv⟩
  rotate_left
  . have:=hv.rep.length;grind
  have G:=hi.rep
  simp only[ae,aq,bJ]at G
  obtain⟨A,v1,hta,hr0,hr1⟩: ∃A v1,arri.toList.take (1+1)=[A,v1]/\Rep O a A/\Rep O (.trow e j 0) v1:=by
    generalize arri.toList.take (1+1)=q at G
    cases G with
    | cons q1 t=>cases t with
      |cons q2 t=>cases t;exact⟨_,_,rfl,q1,q2⟩
  cases hr1 with
  |trow D Y hcap hcz=>
  rename_i b cap nn
  rcases hs.box_ok (j,[.any]) (by simp)with⟨b',arr,e',hj⟩|⟨v,hv⟩
  rotate_left
  . have:=hv.bx;grind
  have L:b'=b:=by have:=hj.bx;grind
  subst L
  obtain⟨he,hsz⟩:=hj.ty _ _ Y
  subst he
  have hnn:1<=nn:=by
    have:=hj.rep.length
    grind
  obtain⟨lo,I,V,hf⟩:=hj.heap
  have hcom:O.com b'=none:=hj.com
  have hct:O.ct b'=none:=by
    cases hc:O.ct b' with
    |none=>rfl
    |some z=>obtain⟨cs,h2⟩:=hs.tyd.2 b' z hc;grind
  have H: ¬Held O w b':=by
    rintro(⟨cs,h⟩|⟨s,p,h⟩|⟨es,c,h⟩)<;>grind
  let O':At:= {O with com:=λx=>if x=b' then some []else O.com x,ct:=λx=>if x=b' then some e' else O.ct x}
  have d: ∀x,x≠b'->O'.com x=O.com x:=λx f=>by show(if x=b' then _ else _)=_;grind
  have l:O.le O':=⟨λx cs f=>by
      have Z:x≠b':=λq=>by grind
      simp_all,λ_ _ h=>h,λ_ _ h=>h,λx z f=>by
      have Z:x≠b':=λq=>by grind
      show(if x=b' then _ else _)=_
      simp_all,λ_ _ h=>h⟩
  have y: ∀(xs:List AVal) (vs:List Value),ownL O w xs vs->ownL O' w xs vs:=λxs vs h=>Bz l xs vs h λx f=>⟨rfl,d x λq=>by grind[CG]⟩
  have hF:F b'=0:=hs.bx_F (j,[.any]) b' fN D
  have C:=hs.keys
  simp only[aH,bZ,aO,fL]at C
  have W:bi≠b':=λq=>by
    subst q
    have:=hs.inj _ _ _ D hi.bx
    omega
  have S:arri.toList=[A,.slice (some ⟨b',0,none⟩) 0 cap]++arri.toList.drop 2:=by grind[List.take_append_drop]
  have J:Rep O' (.buf e' [] true) (.slice (some ⟨b',0,none⟩) 0 cap):=by
    refine .buf true (.slice (cells:=[]) true (by show(if b'=b' then _ else _)=_;simp) rfl ⟨aM _,aM _⟩ (.nil _ _) (λ_ _=>.inr rfl)) ⟨rfl,rfl,fM,?_⟩
    show(if b'=b' then _ else _)=_
    simp
  have B:VM.own O' w (.buf e' [] true) (.slice (some ⟨b',0,none⟩) 0 cap):=by
    simp only[VM.own]
    refine⟨λ_=>⟨arr,e',lo,I,[],V,hf,rfl,by show(if b'=b' then _ else _)=_;simp,fN,by grind⟩,λx f=>?_⟩
    simp only[CP]at f
    split at f
    . rename_i q;subst q;exact⟨⟨[],by show(if b'=b' then _ else _)=_;simp⟩,_,V⟩
    omega
  have hoi:VM.own O w a A:=by have:=hi.own;grind[ownL]
  have U:(2:Nat)<=arri.toList.length:=by have:=br List.length hta;grind
  refine⟨O',⟨l,λx f=>⟨rfl,d x λq=>by grind⟩,av _,rfl,rfl,rfl⟩,
    { com_ok:=λx cs f=>?_
      box_ok:=λp hp=>?_
      sx_next:=hs.sx_next
      keys:=by grind
      inj:=hs.inj
      bx_lt:=hs.bx_lt
      bx_next:=hs.bx_next
      tyd:=⟨hs.tyd.1,λx z f=>?_⟩
      bx_F:=λp x hp f=>?_
      F_lt:=hs.F_lt
      glob:=λg cs hg=>(hs.glob g cs hg).mono l
      rep:=hs.rep.mono l
      own:=y _ _ hs.own
      tok:=λx=>?_}⟩
  . by_cases q:x=b'
    . subst q
      have:(if x=x then some []else O.com x)=some cs:=f
      rw[an rfl]at this;cases this
      refine⟨arr,e',(lo,I),V,⟨arr.toList,rfl⟩,λT P=>?_⟩
      have:(if x=x then some e' else O.ct x)=some T:=P
      rw[an rfl]at this;grind
    . rw[d x q]at f
      obtain⟨ar,z,fz,k1,k2,k3⟩:=hs.com_ok x cs f
      refine⟨ar,z,fz,k1,k2,λT P=>k3 T ?_⟩
      have:(if x=b' then some e' else O.ct x)=some T:=P
      rw[aj q]at this;omega
  . rcases aO.1 hp with rfl|hp
    . left
      refine⟨bi,arri,ei,⟨hi.bx,hi.heap,?_,?_,by rw[d bi W];exact hi.com,?_,hi.ty⟩⟩
      . simp only[ae,aq,bJ]
        rw[hta]
        exact .cons (hr0.mono l) (.cons J .nil)
      . rw[S]
        simp only[bD,ownL,bl,cG]
        refine⟨?_,B⟩
        have:=y [a] [A] (by simp only[ownL,cG];omega)
        simpa only[ownL,cG]using this
      . have:=hi.one
        omega
    . rcases hs.box_ok p (by grind)with⟨k,ar,z,r⟩|⟨v,r⟩
      . left
        refine⟨k,ar,z,⟨r.bx,r.heap,r.rep.mono l,y _ _ r.own,?_,r.one,r.ty⟩⟩
        rw[d k λq=>?_]
        . exact r.com
        . subst q
          have:=hs.inj _ _ _ D r.bx
          grind
      . right
        exact⟨v,r.sx,r.bx,r.rep.mono l,y _ _ r.own⟩
  . by_cases q:x=b'
    . subst q;exact⟨[],by show(if x=x then _ else _)=_;simp⟩
    . have:(if x=b' then some e' else O.ct x)=some z:=f
      rw[aj q]at this
      obtain⟨cs,h2⟩:=hs.tyd.2 x z this
      grind
  . rcases aO.1 hp with rfl|hp
    . exact hs.bx_F (i,[a,.trow e' j 0]) x fN f
    . exact hs.bx_F p x (by grind) f
  . have ht:=hs.tok x
    have Q:Aq O w x ((j,[.any])::(i,[a,.trow e' j 0])::m)=DR O w x (j,[.any])+(DR O w x (i,[a,.trow e' j 0])+Aq O w x m):=rfl
    simp only at ht
    rw[Q]at ht
    obtain⟨lo2,hi2,X,_⟩:=hi.heap
    have hci:DR O w x (i,[a,.trow e' j 0])=cnt x a A:=by
      have:DR O w x (i,[a,.trow e' j 0])=AR x [a,.trow e' j 0] arri.toList:=by simp only[DR,hi.bx,hcells,X]
      grind[AR,cnt]
    have R:DR O' w x (i,[a,.buf e' [] true])=cnt x a A+CP x (.slice (some ⟨b',0,none⟩) 0 cap):=by
      have hbx':O'.bx i=some bi:=hi.bx
      have:DR O' w x (i,[a,.buf e' [] true])=AR x [a,.buf e' [] true] arri.toList:=by grind[DR,hcells]
      grind[AR,cnt]
    have M:Aq O' w x m=Aq O w x m:=GD (λp hp=>⟨rfl,λk r=>rfl⟩) (λp hp=>rfl)
    show F x+AR x af K+(DR O' w x (i,[a,.buf e' [] true])+Aq O' w x m)<=1
    rw[R,M]
    by_cases q:x=b'
    . subst q
      have z1:AR x af K=0:=by
        rcases bf 0 (AR x af K)with h|h
        . exact absurd (CG _ _ hs.own h).2 H
        omega
      grind[Aq,Nat.lt_or_ge,absurd,Ah9,CP]
    . have:CP x (.slice (some ⟨b',0,none⟩) 0 cap)=0:=by simp only[CP];rw[aj (λh=>q h.symm)]
      omega
def AE.fuse{E:Env}{f:FuncId}{a:List AVal}{st:St}{Q:AVal->St->Prop} (h:AE E f a st λr c=>∃i j e d m,c.m=(j,[.any])::(i,[d,.trow e j 0])::m/\Q r ⟨(i,[d,.buf e [] true])::m,c.next⟩):AE E f a st Q:=by constructor;intro F O w b hs;refine(h.go F O w b hs).mono ?_;rintro e w' ⟨v,s,O',r,⟨A,z⟩,x,g,q,i,j,y,d,m,k,t⟩;simp only at k g;subst k;obtain⟨l,n,p⟩:=q.fuse;exact⟨v,s,l,r,_,x.trans n,g,p,t⟩
end Go.VM
