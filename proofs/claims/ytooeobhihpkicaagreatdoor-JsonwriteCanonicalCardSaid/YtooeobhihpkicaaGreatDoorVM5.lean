import Derived.Test.YtooeobhihpkicaaGreatDoorVM3
set_option linter.unusedSimpArgs false
set_option linter.unusedVariables false
namespace Go.VM
theorem RepL.split{Γ:Ghost}: ∀ {xs ys:List AVal}{vs:List Value},RepL Γ (xs++ys) vs→ ∃us ws,vs=us++ws∧RepL Γ xs us∧RepL Γ ys ws
  |[],ys,vs,h=>⟨[],vs,rfl,.nil,h⟩
  | x::xs,ys,vs,h=>by
    cases h with
    | cons h t=>
      obtain⟨us,ws,rfl,h1,h2⟩:=RepL.split t
      exact⟨_::us,ws,rfl,.cons h h1,h2⟩
def elA (w:Nat):AVal→Bool
  |.agg cs=>cs.length==w
  |.bool _=>w==1
  |.int _ _=>w==1
  |.str _=>w==1
  |_=>false
theorem OM{Γ:Ghost}{w:Nat}: ∀(xs:List AVal) (vs rest:List Value),(∀x,x∈xs→elA w x=true)→RepL Γ (xs.flatMap BJ) vs→(∀v,v∈vs→v.oneCell'=true)→RepS Γ w xs (vs++rest)
  |[],vs,rest,_,_,_=>.nil _ _
  | x::xs,vs,rest,hx,h,ho=>by
    rw[List.flatMap_cons]at h
    obtain⟨us,ws,rfl,h1,h2⟩:=RepL.split h
    have ih:=OM xs ws rest (fun y hy=>hx y (by simp[hy])) h2 (fun v hv=>ho v (by simp[hv]))
    have he:=hx x (by simp)
    rw[List.append_assoc]
    cases x with
    | agg cs=>
      simp only[elA,beq_iff_eq]at he
      have hl:=RepL.length h1
      have:=RepS.cons (v:=.agg us.toArray) (w:=w) (.agg (by simpa[BJ]using h1) (fun v hv=>ho v (by simp at hv;simp[hv]))) ⟨by simp only[Value.cells,List.size_toArray];simp only[BJ]at hl;omega,fun c hc=>ho c (by simp[Value.cells]at hc;simp[hc])⟩ ih
      simpa[Value.cells]using this
    | bool b=>
      simp only[elA,beq_iff_eq]at he;subst he
      simp only[BJ]at h1
      cases h1 with
      |cons h1 t=>cases t;cases h1;exact RepS.cons (v:=.bool b) (.bool b) ⟨rfl,fun c hc=>ho c (by simp[Value.cells]at hc;simp[hc])⟩ ih
    | int k n=>
      simp only[elA,beq_iff_eq]at he;subst he
      simp only[BJ]at h1
      cases h1 with
      |cons h1 t=>cases t;cases h1;exact RepS.cons (v:=.int k n) (.int k n) ⟨rfl,fun c hc=>ho c (by simp[Value.cells]at hc;simp[hc])⟩ ih
    | str s=>
      simp only[elA,beq_iff_eq]at he;subst he
      simp only[BJ]at h1
      cases h1 with
      |cons h1 t=>cases t;cases h1;rename_i b hn;exact RepS.cons (v:=.string b) (.str b hn) ⟨rfl,fun c hc=>ho c (by simp[Value.cells]at hc;simp[hc])⟩ ih
    |_=>simp[elA]at he
inductive Lent1 (m:List (Nat×List AVal)):AVal→AVal→Prop
  |same (x:AVal):Lent1 m x x
  |box{w i len:Nat}{xs junk:List AVal} (hm:(i,xs.flatMap BJ++junk)∈m) (hl:xs.length=len) (hx: ∀x,x∈xs→elA w x=true):Lent1 m (.gsl w i len) (.slice w xs false)
  |stripped (x:AVal):Lent1 m x x.strip
  |ptr{i off:Nat}{cs:List AVal} (hm:(i,cs)∈m) (ho:off≤cs.length):Lent1 m (.ptr i off) (.cptr (cs.drop off))
  |row{i len:Nat}{xs junk:List AVal} (hm:(i,xs.flatMap BJ++junk)∈m) (hl:xs.length=len) (hx: ∀x,x∈xs→elA 1 x=true):Lent1 m (.bsl 1 i 0 len) (.slice 1 xs false)
inductive Lent1L (m:List (Nat×List AVal)):List AVal→List AVal→Prop
  |nil:Lent1L m [] []
  |cons{x y:AVal}{xs ys:List AVal} (h:Lent1 m x y) (t:Lent1L m xs ys):Lent1L m (x::xs) (y::ys)
inductive Lent (m:List (Nat×List AVal)):AVal→AVal→Prop
  |one{x y:AVal} (h:Lent1 m x y):Lent m x y
  |agg{xs ys:List AVal} (h:Lent1L m xs ys):Lent m (.agg xs) (.agg ys)
inductive LentL (m:List (Nat×List AVal)):List AVal→List AVal→Prop
  |nil:LentL m [] []
  |cons{x y:AVal}{xs ys:List AVal} (h:Lent m x y) (t:LentL m xs ys):LentL m (x::xs) (y::ys)
section
variable{m:List (Nat×List AVal)}{Γ Γ':Ghost}
def Seen (m:List (Nat×List AVal)) (Γ Γ':Ghost):Prop:= ∀i cs b,(i,cs)∈m→Γ.bx i=some b→ ∃us ws,Γ'.com b=some (us++ws)∧RepL Γ' cs us∧ ∀v,v∈us→v.oneCell'=true
theorem Lent1.rep (le:Γ.le Γ') (hs:Seen m Γ Γ'){x y:AVal}{v:Value} (h:Lent1 m x y) (k:Rep Γ x v):Rep Γ' y v:=by
  cases h with
  |same=>exact k.mono le
  | box hm hl hx=>
    cases k with
    | gsl hb ht hc hz=>
      obtain⟨us,ws,h1,h2,h3⟩:=hs _ _ _ hm hb
      obtain⟨u1,u2,rfl,h4,h5⟩:=RepL.split h2
      exact .slice false h1 hl hc (by rw[List.drop_zero,List.append_assoc];exact OM _ _ _ hx h4 fun v hv=>h3 v (by simp[hv])) (fun h=>by cases h)
  |stripped=>exact(k.mono le).strip
  | ptr hm ho=>
    cases k with
    | ptr hb=>
      obtain⟨us,ws,h1,h2,h3⟩:=hs _ _ _ hm hb
      have hl:=h2.length
      refine .cptr (vs:=us.drop _) (rest:=ws) h1 ?_ (h2.drop _) fun v hv=>h3 v (List.mem_of_mem_drop hv)
      rw[List.drop_append_of_le_length (by omega)]
  | @row i len xs junk hm hl hx=>
    cases k with
    | bsl hb ho hc=>
      obtain⟨us,ws,h1,h2,h3⟩:=hs _ _ _ hm hb
      obtain⟨u1,u2,rfl,h4,h5⟩:=RepL.split h2
      rcases ho with ho|ho
      · subst ho
        have:xs=[]:=List.length_eq_zero_iff.1 hl
        subst this
        exact .slice false h1 hl hc (.nil _ _) (fun h=>by cases h)
      · subst ho
        exact .slice false h1 hl hc (by rw[List.drop_zero,List.append_assoc];exact OM _ _ _ hx h4 fun v hv=>h3 v (by simp[hv])) (fun h=>by cases h)
theorem Lent1L.rep (le:Γ.le Γ') (hs:Seen m Γ Γ'){xs ys:List AVal}{vs:List Value} (h:Lent1L m xs ys) (k:RepL Γ xs vs):RepL Γ' ys vs:=by
  induction h generalizing vs with
  |nil=>cases k;exact .nil
  |cons h t ih=>cases k with|cons k1 k2=>exact .cons (h.rep le hs k1) (ih k2)
theorem Lent.rep (le:Γ.le Γ') (hs:Seen m Γ Γ'){x y:AVal}{v:Value} (h:Lent m x y) (k:Rep Γ x v):Rep Γ' y v:=by
  cases h with
  |one h=>exact h.rep le hs k
  |agg h=>cases k with|agg k one=>exact .agg (h.rep le hs k) one
theorem LentL.rep (le:Γ.le Γ') (hs:Seen m Γ Γ'){xs ys:List AVal}{vs:List Value} (h:LentL m xs ys) (k:RepL Γ xs vs):RepL Γ' ys vs:=by
  induction h generalizing vs with
  |nil=>cases k;exact .nil
  |cons h t ih=>cases k with|cons k1 k2=>exact .cons (h.rep le hs k1) (ih k2)
end
def YZ:AVal→Bool
  |.bool _=>true
  |.int _ _=>true
  |.str _=>true
  |_=>false
def AKP:AVal→Bool
  |.tuple vs=>vs.all YZ
  |x=>YZ x
theorem Tm{Γ Γ':Ghost}{w:World}{x:AVal}{v:Value} (hx:YZ x=true) (h:Rep Γ x v):Rep Γ' x v∧own Γ' w x v∧ ∀b,cnt b x v=0:=by
  cases x<;>first
    |(simp[YZ]at hx;done)
    |(cases h;exact⟨by constructor<;>assumption,by simp[own],fun b=>by simp[cnt]⟩)
theorem TZ{Γ Γ':Ghost}{w:World}: ∀ {xs:List AVal}{vs:List Value},xs.all YZ=true→RepL Γ xs vs→RepL Γ' xs vs∧ownL Γ' w xs vs∧ ∀b,Ah b xs vs=0
  |[],vs,_,h=>by cases h;exact⟨.nil,by simp[ownL],fun b=>by simp[Ah]⟩
  | x::xs,vs,hx,h=>by
    rw[List.all_cons,Bool.and_eq_true]at hx
    cases h with
    | cons h t=>
      obtain⟨a1,a2,a3⟩:=Tm (Γ':=Γ') (w:=w) hx.1 h
      obtain⟨b1,b2,b3⟩:=TZ (Γ':=Γ') (w:=w) hx.2 t
      exact⟨.cons a1 b1,by rw[ownL];exact⟨a2,b2⟩,fun b=>by rw[Ah,a3 b,b3 b]⟩
theorem AGt{Γ Γ':Ghost}{w:World}{x:AVal}{v:Value} (hx:AKP x=true) (h:Rep Γ x v):Rep Γ' x v∧own Γ' w x v∧ ∀b,cnt b x v=0:=by
  cases x with
  | tuple vs=>
    cases h with
    | tuple h=>
      obtain⟨a1,a2,a3⟩:=TZ (Γ':=Γ') (w:=w) hx h
      exact⟨.tuple a1,by rw[own];exact a2,fun b=>by rw[cnt];exact a3 b⟩
  |_=>exact Tm hx h
def Bn (Γ:Ghost) (m:List (Nat×List AVal)) (b:Nat):Bool:=m.any fun p=>decide (Γ.bx p.1=some b)
theorem G8{Γ:Ghost}{m:List (Nat×List AVal)}{b:Nat}:Bn Γ m b=true↔ ∃p,p∈m∧Γ.bx p.1=some b:=by
  unfold Bn
  rw[List.any_eq_true]
  simp only[decide_eq_true_eq]
def Ghost.lend (Γ:Ghost) (w:World) (m:List (Nat×List AVal)):Ghost:= {Γ with com:=fun b=>if Bn Γ m b=true then some (hcells w b)else Γ.com b}
def Ghost.back (Γ Γ':Ghost) (m:List (Nat×List AVal)):Ghost:=
  {com:=fun b=>if Bn Γ m b=true then none else Γ'.com b,bx:=Γ'.bx,bt:=fun i=>if(m.map (·.1)).contains i=true then Γ.bt i else Γ'.bt i,ct:=fun b=>if Bn Γ m b=true then none else Γ'.ct b,sx:=Γ'.sx}
theorem ACall.lend{E:Env}{f:FuncId}{args args':List AVal}{m:List (Nat×List AVal)}{n:Nat}{Q:AVal→St→Prop} (hl:LentL m args args') (hst:stripL args'=args')
    (h:ACall E f args' ⟨[],n⟩ fun r st'=>AKP r=true∧ ∀n',n≤n'→Q r ⟨m,n'⟩):ACall E f args ⟨m,n⟩ Q:=by
  constructor
  intro F Γ w cargs hs
  have box: ∀p,p∈m→ ∀b,Γ.bx p.1=some b→ ∃arr e,BoxOK Γ w p b arr e:=fun p hp b hb=>by
    rcases hs.box_ok p hp with⟨b',arr,e,h⟩|⟨v,h⟩
    · have:b'=b:=by have:=h.bx;rw[hb]at this;exact(Option.some.inj this).symm
      subst this
      exact⟨arr,e,h⟩
    · rw[h.bx]at hb;cases hb
  have nocom: ∀b,Bn Γ m b=true→Γ.com b=none∧b<w.heap.size∧F b=0∧Γ.ct b=none:=fun b hb=>by
    obtain⟨p,hp,h1⟩:=G8.1 hb
    obtain⟨arr,e,k⟩:=box p hp b h1
    refine⟨k.com,hs.bx_lt _ _ h1,hs.bx_F p b hp h1,?_⟩
    cases hc:Γ.ct b with
    |none=>rfl
    |some e'=>obtain⟨cs,h2⟩:=hs.tyd.2 b e' hc;rw[k.com]at h2;cases h2
  have le1:Γ.le (Γ.lend w m):=⟨fun b cs hb=>by
      have:Bn Γ m b=false:=by
        cases hx:Bn Γ m b
        · rfl
        · rw[(nocom b hx).1]at hb;cases hb
      exact⟨[],by rw[List.append_nil];show(if Bn Γ m b=true then _ else _)=_;rw[this];exact hb⟩,fun _ _ h=>h,fun _ _ h=>h,fun _ _ h=>h,fun _ _ h=>h⟩
  have seen:Seen m Γ (Γ.lend w m):=fun i cs b hm hb=>by
    obtain⟨arr,e,k⟩:=box _ hm b hb
    obtain⟨lo,hi,hh,_⟩:=k.heap
    have hx:Bn Γ m b=true:=G8.2 ⟨_,hm,hb⟩
    have hc:hcells w b=arr.toList:=by unfold hcells;rw[hh]
    refine⟨arr.toList.take cs.length,arr.toList.drop cs.length,?_,k.rep.mono le1,k.one⟩
    show(if Bn Γ m b=true then _ else _)=_
    rw[if_pos hx,hc,List.take_append_drop]
  let F1:Nat→Nat:=fun b=>if Bn Γ m b=true then 1 else F b+BV Γ w b m
  have big: ∀b,w.heap.size≤b→BV Γ w b m=0:=fun b hb=>by
    rcases Nat.eq_zero_or_pos (BV Γ w b m)with h0|h0
    · exact h0
    · have:=Pw (a:= {tmps:=cargs,defers:=[]}) hs h0
      omega
  have cz: ∀b,Ah b args' cargs.toList=0:=fun b=>by rw[←hst];exact GD b args' cargs.toList
  have hsim:Sim E F1 (Γ.lend w m) ⟨[],n⟩ w args' cargs.toList:=
    { com_ok:=fun b cs hb=>by
        cases hx:Bn Γ m b
        · have hb':Γ.com b=some cs:=by have:(if Bn Γ m b=true then some (hcells w b)else Γ.com b)=some cs:=hb;rw[hx]at this;exact this
          exact hs.com_ok b cs hb'
        · have hb':hcells w b=cs:=by have:(if Bn Γ m b=true then some (hcells w b)else Γ.com b)=some cs:=hb;rw[hx]at this;exact Option.some.inj this
          obtain⟨p,hp,h1⟩:=G8.1 hx
          obtain⟨arr,e,k⟩:=box p hp b h1
          obtain⟨lo,hi,hh,_⟩:=k.heap
          refine⟨arr,e,(lo,hi),hh,⟨[],by rw[←hb',List.append_nil];unfold hcells;rw[hh]⟩,fun T hT=>?_⟩
          have:Γ.ct b=some T:=hT
          rw[(nocom b hx).2.2.2]at this;cases this
      box_ok:=fun p hp=>by cases hp
      sx_next:=hs.sx_next
      keys:=by simp
      inj:=hs.inj
      bx_lt:=hs.bx_lt
      bx_next:=hs.bx_next
      tyd:=⟨hs.tyd.1,fun b e hb=>by
        obtain⟨cs,h2⟩:=hs.tyd.2 b e hb
        obtain⟨ds,h3⟩:=le1.1 b cs h2
        exact⟨_,h3⟩⟩
      bx_F:=fun p b hp=>by cases hp
      F_lt:=fun b hb=>by
        show(if Bn Γ m b=true then 1 else F b+BV Γ w b m)=0
        cases hx:Bn Γ m b
        · rw[if_neg (by decide),hs.F_lt b hb,big b hb]
        · have:=(nocom b hx).2.1;omega
      glob:=fun g cs hg=>(hs.glob g cs hg).mono le1
      rep:=hl.rep le1 seen hs.rep
      own:=by rw[←hst];exact Gs _ _ _ _
      tok:=fun b=>by
        rw[cz b]
        show(if Bn Γ m b=true then 1 else F b+BV Γ w b m)+0+0≤1
        have:=hs.tok b
        split
        · omega
        · simp only[]at this;omega}
  refine(h.go F1 (Γ.lend w m) w cargs hsim).mono ?_
  rintro e w' ⟨v,he,Γ',r,st',hx,hn,hs',hfl,hq⟩
  refine⟨v,he,Γ.back Γ' m,r,⟨m,st'.next⟩,?_,hn,?_,hq _ hn⟩
  all_goals
    have le2:Γ.le (Γ.back Γ' m):=⟨fun b cs hb=>by
        have hnb:Bn Γ m b=false:=by
          cases hx:Bn Γ m b
          · rfl
          · rw[(nocom b hx).1]at hb;cases hb
        obtain⟨ds,h1⟩:=le1.1 b cs hb
        obtain⟨ds',h2⟩:=hx.le.1 b _ h1
        refine⟨ds++ds',?_⟩
        show(if Bn Γ m b=true then none else Γ'.com b)=_
        rw[hnb,if_neg (by decide),h2,List.append_assoc],
      fun i b h=>hx.le.2.1 i b h,fun i x h=>by
        show(if(m.map (·.1)).contains i=true then Γ.bt i else Γ'.bt i)=some x
        split
        · exact h
        · exact hx.le.2.2.1 i x h,
      fun b e h=>by
        have hnb:Bn Γ m b=false:=by
          cases hx:Bn Γ m b
          · rfl
          · rw[(nocom b hx).2.2.2]at h;cases h
        show(if Bn Γ m b=true then none else Γ'.ct b)=_
        rw[hnb,if_neg (by decide)]
        exact hx.le.2.2.2.1 b e h,fun i v h=>hx.le.2.2.2.2 i v h⟩
  · refine⟨le2,fun b hb=>?_,hx.size,hx.os,hx.output,hx.tape⟩
    have hnb:Bn Γ m b=false:=by
      cases hx:Bn Γ m b
      · rfl
      · have:=(nocom b hx).2.2.1;omega
    have hF:1≤F1 b:=by show 1≤(if Bn Γ m b=true then 1 else F b+BV Γ w b m);rw[hnb,if_neg (by decide)];omega
    obtain⟨k1,k2⟩:=hx.keep b hF
    refine⟨k1,?_⟩
    show(if Bn Γ m b=true then none else Γ'.com b)=_
    rw[hnb,if_neg (by decide),k2]
    show(if Bn Γ m b=true then some (hcells w b)else Γ.com b)=_
    rw[hnb,if_neg (by decide)]
  · have keepB: ∀p,p∈m→ ∀b,Γ.bx p.1=some b→w'.heap[b]?=w.heap[b]?:=fun p hp b hb=>by
      have hxb:Bn Γ m b=true:=G8.2 ⟨p,hp,hb⟩
      exact(hx.keep b (by show 1≤(if Bn Γ m b=true then 1 else F b+BV Γ w b m);rw[if_pos hxb];exact Nat.le_refl 1)).1
    have keepT: ∀b,1≤BV Γ w b m→w'.heap[b]?=w.heap[b]?∧(Γ.back Γ' m).com b=Γ.com b:=fun b hb=>by
      cases hxb:Bn Γ m b
      · have hF:1≤F1 b:=by show 1≤(if Bn Γ m b=true then 1 else F b+BV Γ w b m);rw[hxb,if_neg (by decide)];omega
        obtain⟨k1,k2⟩:=hx.keep b hF
        refine⟨k1,?_⟩
        show(if Bn Γ m b=true then none else Γ'.com b)=_
        rw[hxb,if_neg (by decide),k2]
        show(if Bn Γ m b=true then some (hcells w b)else Γ.com b)=_
        rw[hxb,if_neg (by decide)]
      · obtain⟨p,hp,h1⟩:=G8.1 hxb
        refine⟨keepB p hp b h1,?_⟩
        show(if Bn Γ m b=true then none else Γ'.com b)=_
        rw[hxb,if_pos rfl,(nocom b hxb).1]
    have bxm: ∀p,p∈m→Γ'.bx p.1=Γ.bx p.1:=fun p hp=>by
      rcases hs.box_ok p hp with⟨b',arr,e,h⟩|⟨v,h⟩
      · rw[h.bx];exact hx.le.2.1 _ _ h.bx
      · rw[h.bx];exact(hs'.sx_next _ _ (hx.le.2.2.2.2 _ _ h.sx)).2
    have sxm: ∀p,p∈m→Γ'.sx p.1=Γ.sx p.1:=fun p hp=>by
      rcases hs.box_ok p hp with⟨b',arr,e,h⟩|⟨v,h⟩
      · cases h1:Γ.sx p.1 with
        |some v=>exact hx.le.2.2.2.2 _ _ h1
        | none=>
          cases h2:Γ'.sx p.1 with
          |none=>rfl
          |some v=>have:=(hs'.sx_next _ _ h2).2;rw[bxm p hp,h.bx]at this;cases this
      · rw[h.sx];exact hx.le.2.2.2.2 _ _ h.sx
    have hr:=hs'.rep
    cases hr with
    |cons hr _=>
    obtain⟨f1,f2,f3⟩:=AGt (Γ':=Γ.back Γ' m) (w:=w') hfl hr
    refine
    { com_ok:=fun b cs hb=>by
        cases hxb:Bn Γ m b
        · have e1:(if Bn Γ m b=true then none else Γ'.com b)=some cs:=hb
          rw[hxb,if_neg (by decide)]at e1
          obtain⟨arr,e,fz,h1,h2,h3⟩:=hs'.com_ok b cs e1
          refine⟨arr,e,fz,h1,h2,fun T hT=>?_⟩
          have e2:(if Bn Γ m b=true then none else Γ'.ct b)=some T:=hT
          rw[hxb,if_neg (by decide)]at e2
          exact h3 T e2
        · have e1:(if Bn Γ m b=true then none else Γ'.com b)=some cs:=hb
          rw[hxb,if_pos rfl]at e1;cases e1
      box_ok:=fun p hp=>by
        rcases hs.box_ok p hp with⟨b,arr,e,k⟩|⟨v,k⟩
        · left
          obtain⟨lo,hi,hh,hz⟩:=k.heap
          have hxb:Bn Γ m b=true:=G8.2 ⟨p,hp,k.bx⟩
          refine⟨b,arr,e,⟨hx.le.2.1 _ _ k.bx,⟨lo,hi,(keepB p hp b k.bx).trans hh,hz⟩,k.rep.mono le2,?_,?_,k.one,fun T n hT=>?_⟩⟩
          · refine CJ le2 _ _ k.own fun b' hb'=>keepT b' (Nat.le_trans ?_ (NV hp))
            unfold EB
            rw[k.bx]
            simp only[hcells,hh]
            exact hb'
          · show(if Bn Γ m b=true then none else Γ'.com b)=none
            rw[if_pos hxb]
          · have hc:(m.map (·.1)).contains p.1=true:=by rw[List.contains_iff_mem];exact List.mem_map.2 ⟨p,hp,rfl⟩
            have e2:(if(m.map (·.1)).contains p.1=true then Γ.bt p.1 else Γ'.bt p.1)=some (T,n):=hT
            rw[if_pos hc]at e2
            exact k.ty T n e2
        · right
          refine⟨v,hx.le.2.2.2.2 _ _ k.sx,?_,k.rep.mono le2,?_⟩
          · show Γ'.bx p.1=none
            rw[bxm p hp];exact k.bx
          · refine CJ le2 _ _ k.own fun b' hb'=>keepT b' (Nat.le_trans ?_ (NV hp))
            unfold EB
            rw[k.bx,k.sx]
            exact hb'
      sx_next:=hs'.sx_next
      keys:=hs.keys
      inj:=hs'.inj
      bx_lt:=hs'.bx_lt
      bx_next:=hs'.bx_next
      tyd:=⟨fun i x hi=>by
          have e1:(if(m.map (·.1)).contains i=true then Γ.bt i else Γ'.bt i)=some x:=hi
          split at e1
          · obtain⟨b,hb⟩:=hs.tyd.1 i x e1
            exact⟨b,hx.le.2.1 _ _ hb⟩
          · exact hs'.tyd.1 i x e1,
        fun b e hb=>by
          have e1:(if Bn Γ m b=true then none else Γ'.ct b)=some e:=hb
          cases hxb:Bn Γ m b
          · rw[hxb,if_neg (by decide)]at e1
            obtain⟨cs,h2⟩:=hs'.tyd.2 b e e1
            refine⟨cs,?_⟩
            show(if Bn Γ m b=true then none else Γ'.com b)=_
            rw[hxb,if_neg (by decide)];exact h2
          · rw[hxb,if_pos rfl]at e1;cases e1⟩
      bx_F:=fun p b hp hb=>by
        have e1:Γ'.bx p.1=some b:=hb
        rw[bxm p hp]at e1
        exact hs.bx_F p b hp e1
      F_lt:=fun b hb=>hs.F_lt b (Nat.le_trans hx.size hb)
      glob:=fun g cs hg=>(hs.glob g cs hg).mono le2
      rep:=.cons f1 .nil
      own:=by rw[ownL];exact⟨f2,by simp[ownL]⟩
      tok:=fun b=>?_}
    have ec:BV (Γ.back Γ' m) w' b m=BV Γ w b m:=EL (fun p hp=>⟨bxm p hp,fun k hk=>keepB p hp k hk⟩) (fun p hp=>sxm p hp)
    have:=hs.tok b
    simp only[Ah,f3 b,ec]at this⊢
    omega
theorem Sim.give{E:Env}{F:Nat→Nat}{Γ:Ghost}{m1 m2:List (Nat×List AVal)}{n:Nat}{w:World}{af af':List AVal}{tm:List Value} (hs:Sim E F Γ ⟨m1++m2,n⟩ w af tm) (hl:LentL m1 af af') (hst:stripL af'=af'):
    Sim E F (Γ.lend w m1) ⟨m2,n⟩ w af' tm∧Ext F Γ w (Γ.lend w m1) w:=by
  have box: ∀p,p∈m1→ ∀b,Γ.bx p.1=some b→ ∃arr e,BoxOK Γ w p b arr e:=fun p hp b hb=>by
    rcases hs.box_ok p (List.mem_append_left _ hp)with⟨b',arr,e,h⟩|⟨v,h⟩
    · have:b'=b:=by have:=h.bx;rw[hb]at this;exact(Option.some.inj this).symm
      subst this
      exact⟨arr,e,h⟩
    · rw[h.bx]at hb;cases hb
  have nocom: ∀b,Bn Γ m1 b=true→Γ.com b=none∧F b=0∧Γ.ct b=none∧ ∃arr e fz,w.heap[b]?=some (.cells arr e fz):=fun b hb=>by
    obtain⟨p,hp,h1⟩:=G8.1 hb
    obtain⟨arr,e,k⟩:=box p hp b h1
    obtain⟨lo,hi,hh,_⟩:=k.heap
    refine⟨k.com,hs.bx_F p b (List.mem_append_left _ hp) h1,?_,arr,e,(lo,hi),hh⟩
    cases hc:Γ.ct b with
    |none=>rfl
    |some e'=>obtain⟨cs,h2⟩:=hs.tyd.2 b e' hc;rw[k.com]at h2;cases h2
  have le1:Γ.le (Γ.lend w m1):=⟨fun b cs hb=>by
      have:Bn Γ m1 b=false:=by
        cases hx:Bn Γ m1 b
        · rfl
        · rw[(nocom b hx).1]at hb;cases hb
      exact⟨[],by rw[List.append_nil];show(if Bn Γ m1 b=true then _ else _)=_;rw[this];exact hb⟩,fun _ _ h=>h,fun _ _ h=>h,fun _ _ h=>h,fun _ _ h=>h⟩
  have seen:Seen m1 Γ (Γ.lend w m1):=fun i cs b hm hb=>by
    obtain⟨arr,e,k⟩:=box _ hm b hb
    obtain⟨lo,hi,hh,_⟩:=k.heap
    have hx:Bn Γ m1 b=true:=G8.2 ⟨_,hm,hb⟩
    have hc:hcells w b=arr.toList:=by unfold hcells;rw[hh]
    refine⟨arr.toList.take cs.length,arr.toList.drop cs.length,?_,k.rep.mono le1,k.one⟩
    show(if Bn Γ m1 b=true then _ else _)=_
    rw[if_pos hx,hc,List.take_append_drop]
  have noheld: ∀b,Bn Γ m1 b=true→ ¬Held Γ w b:=fun b hb hh=>by
    obtain⟨h1,_,_,arr,e,fz,h4⟩:=nocom b hb
    rcases hh with⟨cs,h⟩|⟨s,p,h⟩|⟨es,c,h⟩
    · rw[h1]at h;cases h
    · rw[h4]at h;cases h
    · rw[h4]at h;cases h
  have same: ∀b,Bn Γ m1 b=false→(Γ.lend w m1).com b=Γ.com b:=fun b hb=>by
    show(if Bn Γ m1 b=true then _ else _)=_
    rw[hb,if_neg (by decide)]
  have cz: ∀b,Ah b af' tm=0:=fun b=>by rw[←hst];exact GD b af' tm
  have hkeys:=hs.keys
  simp only[List.map_append,List.nodup_append]at hkeys
  refine⟨
    { com_ok:=fun b cs hb=>?_
      box_ok:=fun p hp=>?_
      sx_next:=hs.sx_next
      keys:=hkeys.2.1
      inj:=hs.inj
      bx_lt:=hs.bx_lt
      bx_next:=hs.bx_next
      tyd:=⟨hs.tyd.1,fun b e hb=>?_⟩
      bx_F:=fun p b hp=>hs.bx_F p b (List.mem_append_right _ hp)
      F_lt:=hs.F_lt
      glob:=fun g cs hg=>(hs.glob g cs hg).mono le1
      rep:=hl.rep le1 seen hs.rep
      own:=(by rw[←hst];exact Gs _ _ _ _)
      tok:=fun b=>?_},?_⟩
  · cases hx:Bn Γ m1 b
    · rw[same b hx]at hb
      exact hs.com_ok b cs hb
    · have hb':hcells w b=cs:=by have:(if Bn Γ m1 b=true then some (hcells w b)else Γ.com b)=some cs:=hb;rw[hx]at this;exact Option.some.inj this
      obtain⟨h1,_,h3,arr,e,fz,h4⟩:=nocom b hx
      refine⟨arr,e,fz,h4,⟨[],by rw[←hb',List.append_nil];unfold hcells;rw[h4]⟩,fun T hT=>?_⟩
      have:Γ.ct b=some T:=hT
      rw[h3]at this;cases this
  · have hown: ∀(xs:List AVal) (vs:List Value),ownL Γ w xs vs→ownL (Γ.lend w m1) w xs vs:=fun xs vs h=>CJ le1 xs vs h fun b hb=>by
      refine⟨rfl,same b ?_⟩
      cases hx:Bn Γ m1 b
      · rfl
      · exact absurd (Cf xs vs h hb).2 (noheld b hx)
    rcases hs.box_ok p (List.mem_append_right _ hp)with⟨b,arr,e,k⟩|⟨v,k⟩
    · left
      refine⟨b,arr,e,⟨k.bx,k.heap,k.rep.mono le1,hown _ _ k.own,?_,k.one,k.ty⟩⟩
      rw[same b ?_]
      · exact k.com
      · cases hx:Bn Γ m1 b
        · rfl
        · obtain⟨q,hq,h1⟩:=G8.1 hx
          have:=hs.inj _ _ _ h1 k.bx
          exact absurd this (hkeys.2.2 q.1 (List.mem_map.2 ⟨q,hq,rfl⟩) p.1 (List.mem_map.2 ⟨p,hp,rfl⟩))
    · right
      exact⟨v,k.sx,k.bx,k.rep.mono le1,hown _ _ k.own⟩
  · obtain⟨cs,h2⟩:=hs.tyd.2 b e hb
    obtain⟨ds,h3⟩:=le1.1 b cs h2
    exact⟨_,h3⟩
  · have h1:=hs.tok b
    have h2:BV Γ w b m2≤BV Γ w b (m1++m2):=Zr (List.sublist_append_right _ _) b
    have h3:BV (Γ.lend w m1) w b m2=BV Γ w b m2:=EL (fun p hp=>⟨rfl,fun k hk=>rfl⟩) (fun p hp=>rfl)
    simp only[]at h1
    rw[cz b]
    show F b+0+BV (Γ.lend w m1) w b m2≤1
    omega
  · refine⟨le1,fun b hb=>⟨rfl,same b ?_⟩,Nat.le_refl _,rfl,rfl,rfl⟩
    cases hx:Bn Γ m1 b
    · rfl
    · have:=(nocom b hx).2.1;omega
def frz (i:Nat) (cs:List AVal):AVal→AVal
  |.ptr j off=>if j=i∧off≤cs.length then .cptr (cs.drop off)else .ptr j off
  |x=>x.strip
theorem AFp (i:Nat) (cs:List AVal) (x:AVal):Lent [(i,cs)] x (frz i cs x):=by
  refine .one ?_
  cases x<;>first
    |exact .stripped _
    |skip
  rename_i j off
  by_cases h:j=i∧off≤cs.length
  · rw[frz,if_pos h]
    obtain⟨rfl,h⟩:=h
    exact .ptr (by simp) h
  · rw[frz,if_neg h]
    exact .same _
theorem ABs (i:Nat) (cs:List AVal): ∀af:List AVal,LentL [(i,cs)] af (af.map (frz i cs))
  |[]=>.nil
  |x::af=>.cons (AFp i cs x) (ABs i cs af)
mutual
theorem PK: ∀x:AVal,x.strip.strip=x.strip
  |.agg cs=>by simp only[AVal.strip,KS cs]
  |.tuple cs=>by simp only[AVal.strip,KS cs]
  |.slice _ _ _=>rfl
  |.iter _ _=>rfl
  |.map _ _=>rfl
  |.slop _ _=>rfl
  |.buf _ _ _=>rfl
  |.bufp _ _ _=>rfl
  |.any=>rfl
  |.bool _=>rfl
  |.int _ _=>rfl
  |.str _=>rfl
  |.ptr _ _=>rfl
  |.nilp=>rfl
  |.cptr _=>rfl
  |.fn _ _ _=>rfl
  |.nilFn=>rfl
  |.iface _ _=>rfl
  |.nilIface=>rfl
  |.bsl _ _ _ _=>rfl
  |.nself _ _ _=>rfl
  |.sh _=>rfl
  |.sptr _ _ _=>rfl
  |.gsl _ _ _=>rfl
  |.nmap=>rfl
theorem KS: ∀xs:List AVal,stripL (stripL xs)=stripL xs
  |[]=>rfl
  |x::xs=>by simp only[stripL,PK x,KS xs]
end
theorem TR (i:Nat) (cs:List AVal): ∀af:List AVal,stripL (af.map (frz i cs))=af.map (frz i cs)
  |[]=>rfl
  | x::af=>by
    rw[List.map_cons,stripL,TR i cs af]
    congr 1
    cases x<;>first
      |exact PK _
      |skip
    rename_i j off
    by_cases h:j=i∧off≤cs.length
    · rw[frz,if_pos h];rfl
    · rw[frz,if_neg h];rfl
theorem FB{i:Nat}{cs:List AVal}:frz i cs (.ptr i 0)=.cptr cs:=by simp[frz]
theorem FD{i:Nat}{cs:List AVal}:frz i cs .any=.any:=rfl
theorem EF{i:Nat}{cs:List AVal}{b:Bool}:frz i cs (.bool b)=.bool b:=rfl
theorem E9{i:Nat}{cs:List AVal}{k:IntKind}{n:Int}:frz i cs (.int k n)=.int k n:=rfl
theorem FC{i:Nat}{cs:List AVal}{l:List UInt8}:frz i cs (.str l)=.str l:=rfl
theorem E8{i:Nat}{cs xs:List AVal}:frz i cs (.agg xs)=.agg (stripL xs):=rfl
theorem Dl{i:Nat}{cs xs:List AVal}:frz i cs (.tuple xs)=.tuple (stripL xs):=rfl
theorem Dk{i w:Nat}{cs xs:List AVal}{b:Bool}:frz i cs (.slice w xs b)=.slice w xs false:=rfl
theorem E5{i w j o l:Nat}{cs:List AVal}:frz i cs (.bsl w j o l)=.bsl w j o l:=rfl
theorem EG{i:Nat}{cs xs:List AVal}:frz i cs (.cptr xs)=.cptr xs:=rfl
theorem ZX (k:IntKind): ∀l:List Int,(l.map (AVal.int k)).flatMap BJ=l.map (AVal.int k)
  |[]=>rfl
  |x::l=>by rw[List.map_cons,List.flatMap_cons,ZX k l];rfl
theorem AFx{i len:Nat}{k:IntKind}{l:List Int} (hl:l.length=len):Lent [(i,l.map (AVal.int k))] (.bsl 1 i 0 len) (.slice 1 (l.map (AVal.int k)) false):=
  .one (.row (xs:=l.map (AVal.int k)) (junk:=[]) (by rw[ZX,List.append_nil];simp) (by simpa using hl) (fun x hx=>by simp only[List.mem_map]at hx;obtain⟨_,_,rfl⟩:=hx;rfl))
theorem AAi{E:Env}{c:Code}{Q:APost}{af:List AVal}{m m2:List (Nat×List AVal)}{n i:Nat}{cs:List AVal} (hp:m.Perm ((i,cs)::m2)) (h:AWp E c Q (af.map (frz i cs)) ⟨m2,n⟩):AWp E c Q af ⟨m,n⟩:=by
  constructor
  intro F Γ w a hd hs
  have hs2:Sim E F Γ ⟨[(i,cs)]++m2,n⟩ w af a.tmps.toList:=hs.perm hp
  obtain⟨h1,h2⟩:=hs2.give (ABs i cs af) (TR i cs af)
  exact wp_mono (h.go F _ w a hd h1) fun _ _ _ q=>NA h2 (Nat.le_refl _) q
theorem ACall.give{E:Env}{f:FuncId}{args:List AVal}{st:St}{Q:AVal→St→Prop} (h:ACall E f args st fun r st'=> ∃m1 m2 r',st'.m=m1++m2∧Lent m1 r r'∧r'.strip=r'∧Q r' ⟨m2,st'.next⟩):ACall E f args st Q:=by
  constructor
  intro F Γ w cargs hs
  refine(h.go F Γ w cargs hs).mono ?_
  rintro e w' ⟨v,he,Γ',r,⟨m',n'⟩,k1,k2,k3,m1,m2,r',hm,hl,hst,hq⟩
  simp only at hm k2
  subst hm
  obtain⟨h1,h2⟩:=k3.give (af':=[r']) (.cons hl .nil) (by simp[stripL,hst])
  exact⟨v,he,_,r',⟨m2,n'⟩,k1.trans h2,k2,h1,hq⟩
theorem Sy{i j:Nat} (h:i≠j): ∀m:List (Nat×List AVal),BP (BP m i) j=BP (BP m j) i
  |[]=>rfl
  | (k,d)::m=>by
    by_cases e:i=k
    · subst e
      simp only[BP,if_true,if_neg (fun e:j=i=>h e.symm)]
    · by_cases e2:j=k
      · subst e2;simp only[BP,if_true,if_neg e]
      · simp only[BP,if_neg e,if_neg e2];rw[Sy h m]
theorem ACall.front2{E:Env}{f:FuncId}{args:List AVal}{m:List (Nat×List AVal)}{n i j:Nat}{c d:List AVal}{Q:AVal→St→Prop} (hi:Bi m i=some c) (hj:Bi m j=some d) (hne:i≠j)
    (h:i<n→j<n→ACall E f args ⟨(i,c)::(j,d)::BP (BP m i) j,n⟩ fun r st'=> ∃c' d',st'.m=(i,c')::(j,d')::BP (BP m i) j∧Q r ⟨Br (Br m i c') j d',st'.next⟩):ACall E f args ⟨m,n⟩ Q:=by
  refine ACall.known fun _ hk=>?_
  have lt: ∀ {k:Nat}{x:List AVal},Bi m k=some x→k<n:=fun {k x} hx=>by
    rcases Nat.lt_or_ge k n with h'|h'
    · exact h'
    · have:=hk k h';simp only at this;rw[this]at hx;cases hx
  have hj2:Bi (BP m i) j=some d:=by rw[OP hne];exact hj
  constructor
  intro F Γ w cargs hs
  refine((h (lt hi) (lt hj)).go F Γ w cargs (hs.perm ((Ip hi).trans ((Ip hj2).cons _)))).mono ?_
  rintro e w' ⟨v,he,Γ',r,⟨m',n'⟩,h1,h2,h3,c',d',hm,hq⟩
  simp only at hm
  subst hm
  have hj3:Bi (Br m i c') j=some d:=by rw[WJ (fun e=>hne e.symm)];exact hj
  have p1:=MP (x:=d') hj3
  have hmd:Bi (BP m j) i=some c:=by rw[OP (fun e=>hne e.symm)];exact hi
  have p2:=MP (x:=c') hmd
  rw[Sv (fun e=>hne e.symm)]at p2
  rw[Sy hne]at h3
  exact⟨v,he,Γ',r,⟨Br (Br m i c') j d',n'⟩,h1,h2,h3.perm (((List.Perm.swap _ _ _).trans (p2.cons _)).trans p1),hq⟩
theorem ANA{E:Env}{c:Code}{f:FuncId}{fn:Func}{nt:Nat}{rs:List ResultVar}{args:List AVal}{m:MS}{n:Nat}{Q:PQ} (hf:E.P.funcs[f]?=some fn) (hb:fn.body=some c)
    (hn:fn.ntmps=nt) (hr:fn.results=rs.toArray) (a:An)
    (h: ∀R:APost,(∀af st xs m0 m1 n',La E rs af st=some (xs,⟨m1,n'⟩)→m0.Sublist m1→n≤n'→Q (PS xs) ⟨m0,n'⟩→R .ret af st∧R .normal af st)→Gl (wpc E c a R (args++List.replicate (nt-args.length) .any) ⟨m,n⟩)):ACall E f args ⟨m,n⟩ Q:=by
  refine QD hf hb ?_
  have hw:=Ki a (h (KE E fn Q) ?_).go
  · subst hn;exact hw
  · intro af st xs m0 m1 n' h1 h2 h3 h4
    have e:fn.results.toList=rs:=by rw[hr]
    exact⟨OT (by rw[e];exact h1) h2 h4,OV (by rw[e];exact h1) h2 h4⟩
end Go.VM
