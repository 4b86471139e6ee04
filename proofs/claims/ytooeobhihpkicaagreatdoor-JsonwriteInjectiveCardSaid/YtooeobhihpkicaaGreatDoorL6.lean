import Derived.Test.YtooeobhihpkicaaGreatDoorL5
import Derived.Test.YtooeobhihpkicaaGreatDoorRd
import Derived.KernelRfl
set_option linter.unusedVariables false
set_option linter.unusedSimpArgs false
namespace Go.VM
def VF (c:UInt8):Bool:=c==44||c==93||c==125||wsB c
def Stop (r:List UInt8):Prop:= ∀c t,r=c::t→VF c=true
theorem VA:Stop []:=fun _ _ h=>by cases h
theorem I5{c:UInt8}{t:List UInt8} (h:VF c=true):Stop (c::t):=fun c' t' e=>by cases e;exact h
def AJ4 (w:List UInt8):Prop:= ∀c,c∈w→wsB c=true
theorem Stop.ws{w t:List UInt8} (hw:AJ4 w) (h:Stop t):Stop (w++t):=by
  cases w with
  |nil=>exact h
  |cons c w=>exact I5 (by unfold VF;rw[hw c (by simp)];simp)
section
variable{N:Nat}{l:List UInt8}
theorem Nu{p:Nat}{c:UInt8}{r:List UInt8} (h:PO.contains c=true):Vb N p (c::r)=(ApiToken.mk 2 [c] p,((p+1:Nat):Int),0):=by rw[Lp,if_pos h]
theorem O1 (rest:List UInt8): ∀(k':Nat) (t:List UInt8),(Df k' t).isSome=true→ ∀(k i:Nat) (out:List UInt8),t.length<k→Gu k (t.flatMap qB++34::rest) i out=(out++t,i+(t.flatMap qB).length+1,0)
  |0,t,h,k,i,out,hk=>by cases h
  | k'+1,[],h,k,i,out,hk=>by
    obtain⟨k,rfl⟩: ∃j,k=j+1:=⟨k-1,by simp at hk;omega⟩
    simp[Gu]
  | k'+1,c::t,h,k,i,out,hk=>by
    rw[Df]at h
    cases hd:Kc (c::t)with
    |none=>rw[hd]at h;cases h
    | some p=>
      obtain⟨r,n⟩:=p
      rw[hd]at h
      simp only[Option.isSome_map]at h
      obtain⟨e1,e2,_⟩:=YH hd
      obtain⟨k,rfl⟩: ∃j,k=j+1:=⟨k-1,by simp only[List.length_cons]at hk;omega⟩
      have hsplit:c::t=(c::t).take n++(c::t).drop n:=(List.take_append_drop n _).symm
      have ih:=O1 rest k' ((c::t).drop n) h k
      have hlen:((c::t).drop n).length<k:=by rw[List.length_drop];omega
      by_cases hc:c.toNat<128
      · rw[VH hc]at hd
        simp only[Option.some.injEq,Prod.mk.injEq]at hd
        obtain⟨_,rfl⟩:=hd
        rw[List.flatMap_cons,List.append_assoc,AIZ hc,show t=(c::t).drop 1 from rfl,ih _ _ hlen]
        simp only[List.drop_succ_cons,List.drop_zero,List.length_append,List.append_assoc,List.singleton_append]
        congr 2;omega
      · have hh:=ADK _ (AB4 hd hc)
        have hq:(c::t).flatMap qB=(c::t).take n++((c::t).drop n).flatMap qB:=by
          conv=>lhs;rw[hsplit]
          rw[List.flatMap_append,hh]
        rw[hq,List.append_assoc]
        have hpre:=ADd hd (((c::t).drop n).flatMap qB++34::rest)
        have hl:((c::t).take n).length=n:=by rw[List.length_take];omega
        obtain⟨u,hu⟩: ∃u,(c::t).take n++(((c::t).drop n).flatMap qB++34::rest)=c::u:=by
          obtain⟨m,rfl⟩: ∃m,n=m+1:=⟨n-1,by omega⟩
          exact⟨_,rfl⟩
        have hdrop:(c::u).drop n=((c::t).drop n).flatMap qB++34::rest:=by
          rw[←hu,List.drop_append,List.drop_of_length_le (by omega),hl,Nat.sub_self];rfl
        have htake:(c::u).take n=(c::t).take n:=by
          rw[←hu,List.take_append,hl,Nat.sub_self,List.take_take,Nat.min_self];simp
        rw[hu]at hpre⊢
        rw[Gu,if_neg (by omega),if_neg (by omega),if_neg (by omega),hpre]
        simp only[]
        rw[hdrop,htake,ih _ _ hlen,List.append_assoc,←hsplit]
        congr 2
        rw[List.length_append,hl];omega
theorem NR{p:Nat}{s rest:List UInt8} (h:(Df N s).isSome=true) (hN:s.length<N):Vb N p (FI s++rest)=(ApiToken.mk 3 s p,((p+(FI s).length:Nat):Int),0):=by
  have e:FI s++rest=34::(s.flatMap qB++34::rest):=by simp[FI]
  rw[e,Lp,if_neg (by decide),if_pos (by decide),O1 rest N s h N (p+1) [] hN]
  simp only[if_true,List.nil_append]
  congr 2
  simp[FI];omega
theorem I6{set x rest:List UInt8} (hr: ∀c t,rest=c::t→set.contains c=false):Cq set (x++rest)=Cq set x:=by
  cases x with
  | nil=>
    cases rest with
    |nil=>rfl
    |cons c t=>simpa[Cq]using hr c t rfl
  |cons c x=>rfl
theorem LC{x rest:List UInt8} (hr: ∀c t,rest=c::t→DZ c=false):EA (x++rest)=EA x:=by
  unfold EA
  induction x with
  | nil=>
    cases rest with
    |nil=>rfl
    |cons c t=>simp[hr c t rfl]
  | cons c x ih=>
    simp only[List.cons_append,List.takeWhile_cons]
    cases DZ c
    · rfl
    · simp only[if_true,List.length_cons,ih]
theorem VB{c:UInt8} (h:VF c=true):DZ c=false∧([45]:List UInt8).contains c=false∧([48]:List UInt8).contains c=false∧([46]:List UInt8).contains c=false∧([101,69]:List UInt8).contains c=false∧([43,45]:List UInt8).contains c=false∧JI c=false:=by
  have:=Hd (f:=fun n=>if VF (UInt8.ofNat n)=true then(DZ (UInt8.ofNat n)||([45]:List UInt8).contains (UInt8.ofNat n)||([48]:List UInt8).contains (UInt8.ofNat n)||([46]:List UInt8).contains (UInt8.ofNat n)||([101,69]:List UInt8).contains (UInt8.ofNat n)||([43,45]:List UInt8).contains (UInt8.ofNat n)||JI (UInt8.ofNat n))else false) (g:=fun _=>false) (by kernel_rfl) c
  simp only[UInt8.ofNat_toNat,h,if_true,Bool.or_eq_false_iff]at this
  obtain⟨⟨⟨⟨⟨⟨a,b⟩,c⟩,d⟩,e⟩,f⟩,g⟩:=this
  exact⟨a,b,c,d,e,f,g⟩
theorem II{x rest:List UInt8}{a:Nat} (h:a≤x.length):(x++rest).drop a=x.drop a++rest:=by
  rw[List.drop_append,show a-x.length=0 by omega,List.drop_zero]
theorem ABj{x rest:List UInt8} (hr:Stop rest):EE (x++rest)=EE x:=by
  have hs: ∀c t,rest=c::t→_:=fun c t e=>VB (hr c t e)
  have hd:=LC (x:=x) fun c t e=>(hs c t e).1
  have sg:A7 (x++rest)=A7 x:=by unfold A7;rw[I6 fun c t e=>(hs c t e).2.1]
  have it: ∀y:List UInt8,C8 (y++rest)=C8 y:=fun y=>by unfold C8;rw[I6 fun c t e=>(hs c t e).2.2.1,LC fun c t e=>(hs c t e).1]
  have d1: ∀y:List UInt8,EA ((y++rest).drop 1)=EA (y.drop 1)∨y=[]:=fun y=>by
    cases y with
    |nil=>exact .inr rfl
    |cons a y=>exact .inl (by rw[II (by simp),LC fun c t e=>(hs c t e).1])
  have fr: ∀y:List UInt8,EK (y++rest)=EK y:=fun y=>by
    unfold EK
    rw[I6 fun c t e=>(hs c t e).2.2.2.1]
    rcases d1 y with e|rfl
    · rw[e]
    · rw[if_neg (by simp[Cq]),if_neg (by simp[Cq])]
  have ex: ∀y:List UInt8,Io (y++rest)=Io y:=fun y=>by
    cases y with
    | nil=>
      unfold Io
      rw[I6 fun c t e=>(hs c t e).2.2.2.2.1,if_neg (by simp[Cq]),if_neg (by simp[Cq])]
    | cons a y=>
      have eg:Gr (a::y++rest)=Gr (a::y):=by
        unfold Gr
        rw[II (by simp),I6 fun c t e=>(hs c t e).2.2.2.2.2.1]
      have ele:1+Gr (a::y)≤(a::y).length∨Gr (a::y)=0:=by
        unfold Gr
        split
        · rename_i h;have:=F5 h;simp at this⊢;omega
        · exact .inr rfl
      have hr2:EA ((a::y++rest).drop (1+Gr (a::y)))=EA ((a::y).drop (1+Gr (a::y))):=by
        rcases ele with h|h
        · rw[II h,LC fun c t e=>(hs c t e).1]
        · rw[h,II (by simp),LC fun c t e=>(hs c t e).1]
      unfold Io
      rw[I6 fun c t e=>(hs c t e).2.2.2.2.1,eg,hr2]
  have h1:=M5 x
  have h2:=Mk (x.drop (A7 x))
  have h3:=Ms (x.drop (A7 x+C8 (x.drop (A7 x))))
  simp only[List.length_drop]at h2 h3
  unfold EE
  rw[sg,II h1,it,II (by omega),fr,II (by omega),ex]
theorem AFV{s:List UInt8} (h0:s≠ []) (hn:EE s=s.length): ∃c r,s=c::r∧(c=45∨DZ c=true):=by
  obtain⟨sg,W,F,FR,P,EX,h⟩:=RB h0 hn
  rcases h.sg with e|e
  · cases hW:W with
    |nil=>exact absurd hW h.Wn
    | cons c W'=>
      have:=h.Wd
      rw[hW,List.all_cons,Bool.and_eq_true]at this
      exact⟨c,_,by rw[h.eq,e,hW];rfl,.inr this.1⟩
  · exact⟨45,_,by rw[h.eq,e];rfl,.inl rfl⟩
theorem AEA{c:UInt8} (hc:c=45∨DZ c=true):wsB c=false∧PO.contains c=false∧ ¬c.toNat=34∧(([45]:List UInt8).contains c||DZ c)=true:=by
  have hcN:c.toNat=45∨(48≤c.toNat∧c.toNat≤57):=by
    rcases hc with rfl|hc
    · exact .inl rfl
    · exact .inr (Je hc)
  refine⟨?_,?_,by omega,?_⟩
  · simp only[wsB,wsN,Bool.or_eq_false_iff,decide_eq_false_iff_not];omega
  · have:=Hd (f:=fun n=>if decide (n=45∨(48≤n∧n≤57))=true then PO.contains (UInt8.ofNat n)else false) (g:=fun _=>false) (by kernel_rfl) c
    simp only[UInt8.ofNat_toNat,decide_eq_true hcN,if_true]at this
    exact this
  · rcases hc with rfl|hc
    · rfl
    · rw[hc];simp
theorem AGB{p:Nat}{s rest:List UInt8} (h0:s≠ []) (hn:EE s=s.length) (hr:Stop rest):Vb N p (s++rest)=(ApiToken.mk 4 s p,((p+s.length:Nat):Int),0):=by
  obtain⟨c,r,rfl,hc⟩:=AFV h0 hn
  obtain⟨_,h2,h3,h4⟩:=AEA hc
  have e:=ABj (x:=c::r) hr
  rw[hn]at e
  rw[List.cons_append]at e⊢
  rw[Lp,if_neg (by rw[h2];decide),if_neg h3,if_pos h4,e,if_neg (by simp)]
  have:(c::(r++rest)).take (c::r).length=c::r:=by rw[←List.cons_append,List.take_left]
  rw[this]
theorem Y3{x rest:List UInt8} (hx:x.all JI=true) (hr:Stop rest):(x++rest).takeWhile JI=x:=by
  induction x with
  | nil=>
    cases rest with
    |nil=>rfl
    |cons c t=>rw[List.nil_append,List.takeWhile_cons,(VB (hr c t rfl)).2.2.2.2.2.2];rfl
  | cons c x ih=>
    rw[List.all_cons,Bool.and_eq_true]at hx
    rw[List.cons_append,List.takeWhile_cons,hx.1,if_pos rfl,ih hx.2]
theorem AFo{p:Nat}{x rest:List UInt8} (hx:isWord x=true) (hr:Stop rest):Vb N p (x++rest)=(ApiToken.mk 5 x p,((p+x.length:Nat):Int),0):=by
  have key: ∃c r,x=c::r∧x.all JI=true∧PO.contains c=false∧ ¬c.toNat=34∧(([45]:List UInt8).contains c||DZ c)=false:=by
    unfold isWord at hx
    simp only[Bool.or_eq_true,beq_iff_eq]at hx
    rcases hx with rfl|rfl|rfl<;>exact⟨_,_,rfl,by decide,by decide,by decide,by decide⟩
  obtain⟨c,r,rfl,h1,h2,h3,h4⟩:=key
  have hw:=Y3 h1 hr
  rw[List.cons_append]at hw⊢
  rw[Lp,if_neg (by rw[h2];decide),if_neg h3,if_neg (by rw[h4];decide),hw,if_pos hx]
end
end Go.VM
namespace Go.VM
open Classical
theorem AHN:KN 1099511627776=some true:=by kernel_rfl
def hdT (v:ApiValue):ApiToken:=if v.kind==6 then ApiToken.mk 2 [91] 0 else if v.kind==7 then ApiToken.mk 2 [123] 0 else if v.kind==5 then ApiToken.mk 3 v.text 0 else if v.kind==4 then ApiToken.mk 4 v.text 0 else ApiToken.mk 5 (wrV v) 0
section
variable{N:Nat}
theorem wr4{s:List UInt8} {ks xs}:wrV ⟨4,s,ks,xs⟩=s:=by rw[wrV,if_neg (by decide),if_neg (by decide),if_neg (by decide),if_pos (by decide)]
theorem wr5{s:List UInt8} {ks xs}:wrV ⟨5,s,ks,xs⟩=FI s:=by rw[wrV,if_neg (by decide),if_neg (by decide),if_neg (by decide),if_neg (by decide),if_pos (by decide)]
theorem wr6{s:List UInt8} {ks xs}:wrV ⟨6,s,ks,xs⟩=91::(wrI true xs++[93]):=by rw[wrV,if_neg (by decide),if_neg (by decide),if_neg (by decide),if_neg (by decide),if_neg (by decide),if_neg (by decide)]
theorem wr7{s:List UInt8} {ks xs}:wrV ⟨7,s,ks,xs⟩=123::(wrM true ks xs++[125]):=by rw[wrV,if_neg (by decide),if_neg (by decide),if_neg (by decide),if_neg (by decide),if_neg (by decide),if_pos (by decide)]
theorem hd4{s:List UInt8} {ks xs}:hdT ⟨4,s,ks,xs⟩=ApiToken.mk 4 s 0:=rfl
theorem hd5{s:List UInt8} {ks xs}:hdT ⟨5,s,ks,xs⟩=ApiToken.mk 3 s 0:=rfl
theorem hd6{s:List UInt8} {ks xs}:hdT ⟨6,s,ks,xs⟩=ApiToken.mk 2 [91] 0:=rfl
theorem hd7{s:List UInt8} {ks xs}:hdT ⟨7,s,ks,xs⟩=ApiToken.mk 2 [123] 0:=rfl
theorem pr0{k:Int}{t:List UInt8}{a b:Int}:(ApiToken.mk k t ((0:Nat):Int),a,b).1=ApiToken.mk k t 0:=rfl
theorem S9 (hN:2000≤N){e:Nat}{v:ApiValue} (hv:okW e v) (hs:FB N v=true){r:List UInt8} (hr:Stop r):(Vb N 0 (wrV v++r)).1=hdT v:=by
  have ht:=hv.text
  cases Gb hs with
  | word k hk=>
    have key: ∀x:List UInt8,isWord x=true→(Vb N 0 (x++r)).1=ApiToken.mk 5 x 0:=fun x hx=>by rw[AFo hx hr,pr0]
    rcases hk with rfl|rfl|rfl
    · rw[show wrV ⟨1,[],[],[]⟩=[110,117,108,108] by rw[wrV];rfl,key _ (by decide)];simp[hdT,wrV]
    · rw[show wrV ⟨2,[],[],[]⟩=[102,97,108,115,101] by rw[wrV];rfl,key _ (by decide)];simp[hdT,wrV]
    · rw[show wrV ⟨3,[],[],[]⟩=[116,114,117,101] by rw[wrV];rfl,key _ (by decide)];simp[hdT,wrV]
  | num s hn=>
    unfold Ra Zl at hn
    by_cases hc2:s≠ []∧EE s=s.length
    · rw[wr4,AGB hc2.1 hc2.2 hr,pr0,hd4]
    · rw[if_neg hc2]at hn;simp at hn
  | str s hq=>
    simp only at ht
    rw[wr5,NR hq (by omega),pr0,hd5]
  | arr xs _=>
    rw[wr6,List.cons_append,Nu (by decide),pr0,hd6]
  | obj ks xs _ _ _=>
    rw[wr7,List.cons_append,Nu (by decide),pr0,hd7]
theorem RS{c:UInt8}{r:List UInt8} (h:PO.contains c=true):(Vb N 0 (c::r)).1=ApiToken.mk 2 [c] 0:=by rw[Nu h,pr0]
theorem AEN{v:ApiValue}{c:UInt8} (h:hdT v=ApiToken.mk 2 [c] 0):c=91∨c=123:=by
  unfold hdT at h
  split at h
  · simp at h;exact .inl h.symm
  · split at h
    · simp at h;exact .inr h.symm
    · split at h
      · simp at h
      · split at h<;>simp at h
theorem AAY (xs:List ApiValue) (r:List UInt8):Stop (wrI false xs++93::r):=by
  cases xs with
  |nil=>rw[wrI];exact I5 (by decide)
  |cons x xs=>rw[wrI];exact I5 (by decide)
theorem AIQ (ks:List (List UInt8)) (xs:List ApiValue) (r:List UInt8):Stop (wrM false ks xs++125::r):=by
  cases ks with
  | nil => rw[wrM]; · exact I5 (by decide)
           · intros;simp_all
  | cons k ks=>
    cases xs with
    | nil => rw[wrM]; · exact I5 (by decide)
             · intros;simp_all
    |cons x xs=>rw[wrM];exact I5 (by decide)
theorem AAw (hN:2000≤N){s t r r':List UInt8} (h1:(Df N s).isSome=true) (h2:(Df N t).isSome=true) (l1:s.length≤300) (l2:t.length≤300) (h:FI s++r=FI t++r'):s=t∧r=r':=by
  have e1:=NR (N:=N) (p:=0) (rest:=r) h1 (by omega)
  rw[h,NR h2 (by omega)]at e1
  simp only[Prod.mk.injEq,ApiToken.mk.injEq]at e1
  obtain⟨⟨_,e2,_⟩,_⟩:=e1
  subst e2
  exact⟨rfl,List.append_cancel_left h⟩
def AIz (N e:Nat):Prop:= ∀(v w:ApiValue) (r r':List UInt8),okW e v→okW e w→FB N v=true→FB N w=true→Stop r→Stop r'→wrV v++r=wrV w++r'→v=w∧r=r'
theorem Ro (hN:2000≤N){e:Nat} (ih:AIz N e): ∀(xs ys:List ApiValue) (b:Bool) (r r':List UInt8),(∀x,x∈xs→okW e x∧FB N x=true)→(∀x,x∈ys→okW e x∧FB N x=true)→wrI b xs++93::r=wrI b ys++93::r'→xs=ys∧r=r'
  |[],[],b,r,r',_,_,h=>by simpa[wrI]using h
  | [],y::ys,b,r,r',_,hy,h=>by
    rw[wrI,wrI,List.nil_append]at h
    cases b
    · simp at h
    · simp only[if_true,List.nil_append,List.append_assoc]at h
      have h1:=S9 hN (hy y (by simp)).1 (hy y (by simp)).2 (AAY ys r')
      rw[←h,RS (by decide)]at h1
      rcases AEN h1.symm with q|q<;>cases q
  | x::xs,[],b,r,r',hx,_,h=>by
    rw[wrI,wrI,List.nil_append]at h
    cases b
    · simp at h
    · simp only[if_true,List.nil_append,List.append_assoc]at h
      have h1:=S9 hN (hx x (by simp)).1 (hx x (by simp)).2 (AAY xs r)
      rw[h,RS (by decide)]at h1
      rcases AEN h1.symm with q|q<;>cases q
  | x::xs,y::ys,b,r,r',hx,hy,h=>by
    rw[wrI,wrI]at h
    simp only[List.append_assoc]at h
    have h2:=List.append_cancel_left h
    obtain⟨e1,e2⟩:=ih x y _ _ (hx x (by simp)).1 (hy y (by simp)).1 (hx x (by simp)).2 (hy y (by simp)).2 (AAY xs r) (AAY ys r') h2
    obtain⟨e3,e4⟩:=Ro hN ih xs ys false r r' (fun z hz=>hx z (by simp[hz])) (fun z hz=>hy z (by simp[hz])) e2
    exact⟨by rw[e1,e3],e4⟩
theorem OG (hN:2000≤N){e:Nat} (ih:AIz N e): ∀(ks:List (List UInt8)) (xs:List ApiValue) (js:List (List UInt8)) (ys:List ApiValue) (b:Bool) (r r':List UInt8),ks.length=xs.length→js.length=ys.length→(∀x,x∈xs→okW e x∧FB N x=true)→(∀x,x∈ys→okW e x∧FB N x=true)→(∀k,k∈ks→(Df N k).isSome=true∧k.length≤300)→(∀k,k∈js→(Df N k).isSome=true∧k.length≤300)→
    wrM b ks xs++125::r=wrM b js ys++125::r'→ks=js∧xs=ys∧r=r'
  | [],[],[],[],b,r,r',_,_,_,_,_,_,h=>by
    have e: ∀b,wrM b [] []=[]:=fun b=>by rw[wrM];intros;simp_all
    rw[e]at h
    simpa using h
  | [],[],j::js,y::ys,b,r,r',_,_,_,_,_,hj,h=>by
    have e:wrM b [] []=[]:=by rw[wrM];intros;simp_all
    rw[e,wrM]at h
    cases b<;>simp[FI]at h
  | k::ks,x::xs,[],[],b,r,r',_,_,_,_,_,_,h=>by
    have e:wrM b [] []=[]:=by rw[wrM];intros;simp_all
    rw[e,wrM]at h
    cases b<;>simp[FI]at h
  | k::ks,x::xs,j::js,y::ys,b,r,r',hl,hl2,hx,hy,hk,hj,h=>by
    rw[wrM,wrM]at h
    simp only[List.append_assoc,List.cons_append]at h
    have h2:=List.append_cancel_left h
    obtain⟨e1,e2⟩:=AAw hN (hk k (by simp)).1 (hj j (by simp)).1 (hk k (by simp)).2 (hj j (by simp)).2 h2
    simp only[List.cons.injEq,true_and]at e2
    obtain⟨e3,e4⟩:=ih x y _ _ (hx x (by simp)).1 (hy y (by simp)).1 (hx x (by simp)).2 (hy y (by simp)).2 (AIQ ks xs r) (AIQ js ys r') e2
    obtain⟨e5,e6,e7⟩:=OG hN ih ks xs js ys false r r' (by simpa using hl) (by simpa using hl2) (fun z hz=>hx z (by simp[hz])) (fun z hz=>hy z (by simp[hz])) (fun z hz=>hk z (by simp[hz])) (fun z hz=>hj z (by simp[hz])) e4
    exact⟨by rw[e1,e5],by rw[e3,e6],e7⟩
  |[],_::_,_,_,_,_,_,hl,_,_,_,_,_,_=>by simp at hl
  |_::_,[],_,_,_,_,_,hl,_,_,_,_,_,_=>by simp at hl
  |_,_,[],_::_,_,_,_,_,hl,_,_,_,_,_=>by simp at hl
  |_,_,_::_,[],_,_,_,_,hl,_,_,_,_,_=>by simp at hl
theorem AEy (hN:2000≤N): ∀e,AIz N e
  |0=>fun v w r r' h=>by have:=h.pos;omega
  | e+1=>fun v w r r' hv hw hs hs2 hr hr' h=>by
    have ih:=AEy hN e
    have h1:=S9 hN hv hs hr
    rw[h,S9 hN hw hs2 hr']at h1
    have hvs:=hv.sub;have hws:=hw.sub;have hvk:=hv.klen;have hwk:=hw.klen
    have h2: ∀x:List UInt8,wrV v=x→wrV w=x→v=w→v=w∧r=r':=fun x q1 q2 q3=>⟨q3,by rw[q1,q2]at h;exact List.append_cancel_left h⟩
    cases Gb hs with
    | word k hk=>
      cases Gb hs2 with
      |word k2 hk2=>rcases hk with rfl|rfl|rfl<;>rcases hk2 with rfl|rfl|rfl<;>first|exact h2 _ rfl rfl rfl|(simp[hdT,wrV]at h1)
      |num s _=>rcases hk with rfl|rfl|rfl<;>simp[hdT]at h1
      |str s _=>rcases hk with rfl|rfl|rfl<;>simp[hdT]at h1
      |arr xs _=>rcases hk with rfl|rfl|rfl<;>simp[hdT]at h1
      |obj ks xs _ _ _=>rcases hk with rfl|rfl|rfl<;>simp[hdT]at h1
    | num s _=>
      cases Gb hs2 with
      |word k2 hk2=>rcases hk2 with rfl|rfl|rfl<;>simp[hdT]at h1
      | num t _=>
        have:t=s:=by simpa[hdT]using h1
        subst this
        exact h2 _ rfl rfl rfl
      |str t _=>simp[hdT]at h1
      |arr xs _=>simp[hdT]at h1
      |obj ks xs _ _ _=>simp[hdT]at h1
    | str s _=>
      cases Gb hs2 with
      |word k2 hk2=>rcases hk2 with rfl|rfl|rfl<;>simp[hdT]at h1
      |num t _=>simp[hdT]at h1
      | str t _=>
        have:t=s:=by simpa[hdT]using h1
        subst this
        exact h2 _ rfl rfl rfl
      |arr xs _=>simp[hdT]at h1
      |obj ks xs _ _ _=>simp[hdT]at h1
    | arr xs hx=>
      cases Gb hs2 with
      |word k2 hk2=>rcases hk2 with rfl|rfl|rfl<;>simp[hdT]at h1
      |num t _=>simp[hdT]at h1
      |str t _=>simp[hdT]at h1
      | arr ys hy=>
        rw[wrV,wrV]at h
        have h3:wrI true xs++93::r=wrI true ys++93::r':=by
          have h4:91::((wrI true xs++[93])++r)=91::((wrI true ys++[93])++r'):=h
          simpa using h4
        obtain⟨q1,q2⟩:=Ro hN ih xs ys true r r' (fun x hm=>⟨hvs x hm,hx x hm⟩) (fun x hm=>⟨hws x hm,hy x hm⟩) h3
        exact⟨by rw[q1],q2⟩
      |obj ks xs _ _ _=>simp[hdT]at h1
    | obj ks xs hl hd hx=>
      cases Gb hs2 with
      |word k2 hk2=>rcases hk2 with rfl|rfl|rfl<;>simp[hdT]at h1
      |num t _=>simp[hdT]at h1
      |str t _=>simp[hdT]at h1
      |arr ys hy=>simp[hdT]at h1
      | obj js ys hl2 hd2 hy=>
        rw[wrV,wrV]at h
        have h3:wrM true ks xs++125::r=wrM true js ys++125::r':=by
          have h4:123::((wrM true ks xs++[125])++r)=123::((wrM true js ys++[125])++r'):=h
          simpa using h4
        obtain⟨q1,q2,q3⟩:=OG hN ih ks xs js ys true r r' hl hl2 (fun x hm=>⟨hvs x hm,hx x hm⟩) (fun x hm=>⟨hws x hm,hy x hm⟩) (fun k hm=>⟨Nb hd k hm,hvk k hm⟩) (fun k hm=>⟨Nb hd2 k hm,hwk k hm⟩) h3
        exact⟨by rw[q1,q2],q3⟩
end
theorem Jw (v:ApiValue) (_:okApiValue v) (w:ApiValue) (_:okApiValue w):D6 1099511627776 v w=some true:=by
  unfold D6
  rw[AHN,Option.bind_some,if_pos rfl]
  dsimp only[Am]
  obtain⟨b,e1,hb⟩:=WU (N:=1099511627776) (by omega) v 40 (by omega)
  obtain⟨c,e2,hc⟩:=WU (N:=1099511627776) (by omega) w 40 (by omega)
  rw[show(40:Int)=((40:Nat):Int)from rfl,e1,Option.bind_some]
  cases b
  · rfl
  rw[if_pos rfl,e2,Option.bind_some]
  cases c
  · rfl
  rw[if_neg (by decide)]
  obtain⟨hv,nv⟩:=hb rfl
  obtain⟨hw,nw⟩:=hc rfl
  have len: ∀v:ApiValue,okW 70 v→Ik v≤280→FB 1099511627776 v=true→(wrV (CV v)).length≤1048576:=fun v k1 k2 k3=>by
    obtain⟨o1,o2,o3,o4⟩:=K5 (N:=1099511627776) 70 v k1 k3
    have:=ZB (N:=1099511627776) 70 (CV v) o1 o2
    omega
  rw[Rx (N:=1099511627776) (by omega) hv (by omega) (len v hv (by omega)),Option.bind_some,Rx (N:=1099511627776) (by omega) hw (by omega) (len w hw (by omega)),Option.bind_some]
  cases hcv:VW 1099511627776 v
  · rfl
  cases hcw:VW 1099511627776 w
  · rfl
  have hs:FB 1099511627776 v=true:=by unfold VW at hcv;rw[Bool.and_eq_true]at hcv;exact hcv.2
  have hs2:FB 1099511627776 w=true:=by unfold VW at hcw;rw[Bool.and_eq_true]at hcw;exact hcw.2
  simp only[if_true]
  rw[if_neg (by decide),if_neg (by decide),Po (N:=1099511627776) (by omega) 1099511627776 70 v w hv hw (by omega) hs hs2,Option.bind_some]
  obtain⟨o1,o2,_,_⟩:=K5 (N:=1099511627776) 70 v hv hs
  obtain⟨q1,q2,_,_⟩:=K5 (N:=1099511627776) 70 w hw hs2
  congr 1
  by_cases he:CV v=CV w
  · simp[he]
  · have: ¬wrV (CV v)=wrV (CV w):=fun h=>he (AEy (N:=1099511627776) (by omega) 70 (CV v) (CV w) [] [] o1 q1 o2 q2 VA VA (by rw[List.append_nil,List.append_nil];exact h)).1
    simp[he,this]
end Go.VM
