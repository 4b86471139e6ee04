import Derived.Test.YtooeobhihpkicaaGreatDoorL6
import Derived.Test.YtooeobhihpkicaaGreatDoorRd
import Derived.KernelRfl
set_option linter.unusedVariables false
set_option linter.unusedSimpArgs false
namespace Go.VM
def Xz (c:UInt8):Bool:=c==44||c==93||c==125||wsB c
def Stop (r:List UInt8):Prop:= ∀c t,r=c::t→Xz c=true
theorem XZ:Stop []:=fun _ _ h=>by cases h
theorem JZ{c:UInt8}{t:List UInt8} (h:Xz c=true):Stop (c::t):=fun c' t' e=>by cases e;exact h
def AB0 (w:List UInt8):Prop:= ∀c,c∈w→wsB c=true
theorem UO:AB0 []:=fun _ h=>by cases h
theorem ABt: ∀ {w:List UInt8},AB0 w→ ∀ {t:List UInt8},(∀c r,t=c::r→wsB c=false)→(w++t).takeWhile wsB=w
  |[],_,[],_=>rfl
  |[],_,c::r,h=>by rw[List.nil_append,List.takeWhile_cons,h c r rfl];rfl
  | x::w,hw,t,h=>by
    rw[List.cons_append,List.takeWhile_cons,hw x (by simp)]
    simp only[if_true]
    rw[ABt (fun c hc=>hw c (by simp[hc])) h]
theorem Stop.ws{w t:List UInt8} (hw:AB0 w) (h:Stop t):Stop (w++t):=by
  cases w with
  |nil=>exact h
  |cons c w=>exact JZ (by unfold Xz;rw[hw c (by simp)];simp)
section
variable{N:Nat}{l:List UInt8}
theorem Nv{i:Nat}{w t:List UInt8} (h:l.drop i=w++t) (hw:AB0 w) (ht: ∀c r,t=c::r→wsB c=false):M4 N l i=SS N (i+w.length) t:=by
  unfold M4
  rw[h,ABt hw ht,←List.drop_drop,h,List.drop_left]
theorem Om{p:Nat}{c:UInt8}{r:List UInt8} (h:Mx.contains c=true):SS N p (c::r)=(ApiToken.mk 2 [c] p,((p+1:Nat):Int),0):=by rw[Ja,if_pos h]
theorem Ra (rest:List UInt8): ∀(k':Nat) (t:List UInt8),(C9 k' t).isSome=true→ ∀(k i:Nat) (out:List UInt8),t.length<k→Dx k (t.flatMap qB++34::rest) i out=(out++t,i+(t.flatMap qB).length+1,0)
  |0,t,h,k,i,out,hk=>by cases h
  | k'+1,[],h,k,i,out,hk=>by
    obtain⟨k,rfl⟩: ∃j,k=j+1:=⟨k-1,by simp at hk;omega⟩
    simp[Dx]
  | k'+1,c::t,h,k,i,out,hk=>by
    rw[C9]at h
    cases hd:GY (c::t)with
    |none=>rw[hd]at h;cases h
    | some p=>
      obtain⟨r,n⟩:=p
      rw[hd]at h
      simp only[Option.isSome_map]at h
      obtain⟨e1,e2,_⟩:=JI hd
      obtain⟨k,rfl⟩: ∃j,k=j+1:=⟨k-1,by simp only[List.length_cons]at hk;omega⟩
      have hsplit:c::t=(c::t).take n++(c::t).drop n:=(List.take_append_drop n _).symm
      have ih:=Ra rest k' ((c::t).drop n) h k
      have hlen:((c::t).drop n).length<k:=by rw[List.length_drop];omega
      by_cases hc:c.toNat<128
      · rw[NS hc]at hd
        simp only[Option.some.injEq,Prod.mk.injEq]at hd
        obtain⟨_,rfl⟩:=hd
        rw[List.flatMap_cons,List.append_assoc,AKo hc,show t=(c::t).drop 1 from rfl,ih _ _ hlen]
        simp only[List.drop_succ_cons,List.drop_zero,List.length_append,List.append_assoc,List.singleton_append]
        congr 2;omega
      · have hh:=AF8 _ (ACd hd hc)
        have hq:(c::t).flatMap qB=(c::t).take n++((c::t).drop n).flatMap qB:=by
          conv=>lhs;rw[hsplit]
          rw[List.flatMap_append,hh]
        rw[hq,List.append_assoc]
        have hpre:=Qs hd (((c::t).drop n).flatMap qB++34::rest)
        have hl:((c::t).take n).length=n:=by rw[List.length_take];omega
        obtain⟨u,hu⟩: ∃u,(c::t).take n++(((c::t).drop n).flatMap qB++34::rest)=c::u:=by
          obtain⟨m,rfl⟩: ∃m,n=m+1:=⟨n-1,by omega⟩
          exact⟨_,rfl⟩
        have hdrop:(c::u).drop n=((c::t).drop n).flatMap qB++34::rest:=by
          rw[←hu,List.drop_append,List.drop_of_length_le (by omega),hl,Nat.sub_self];rfl
        have htake:(c::u).take n=(c::t).take n:=by
          rw[←hu,List.take_append,hl,Nat.sub_self,List.take_take,Nat.min_self];simp
        rw[hu]at hpre⊢
        rw[Dx,if_neg (by omega),if_neg (by omega),if_neg (by omega),hpre]
        simp only[]
        rw[hdrop,htake,ih _ _ hlen,List.append_assoc,←hsplit]
        congr 2
        rw[List.length_append,hl];omega
theorem Tg{p:Nat}{s rest:List UInt8} (h:(C9 N s).isSome=true) (hN:s.length<N):SS N p (DT s++rest)=(ApiToken.mk 3 s p,((p+(DT s).length:Nat):Int),0):=by
  have e:DT s++rest=34::(s.flatMap qB++34::rest):=by simp[DT]
  rw[e,Ja,if_neg (by decide),if_pos (by decide),Ra rest N s h N (p+1) [] hN]
  simp only[if_true,List.nil_append]
  congr 2
  simp[DT];omega
theorem Jb{set x rest:List UInt8} (hr: ∀c t,rest=c::t→set.contains c=false):CV set (x++rest)=CV set x:=by
  cases x with
  | nil=>
    cases rest with
    |nil=>rfl
    |cons c t=>simpa[CV]using hr c t rfl
  |cons c x=>rfl
theorem Lr{x rest:List UInt8} (hr: ∀c t,rest=c::t→Cu c=false):De (x++rest)=De x:=by
  unfold De
  induction x with
  | nil=>
    cases rest with
    |nil=>rfl
    |cons c t=>simp[hr c t rfl]
  | cons c x ih=>
    simp only[List.cons_append,List.takeWhile_cons]
    cases Cu c
    · rfl
    · simp only[if_true,List.length_cons,ih]
theorem XQ{c:UInt8} (h:Xz c=true):Cu c=false∧([45]:List UInt8).contains c=false∧([48]:List UInt8).contains c=false∧([46]:List UInt8).contains c=false∧([101,69]:List UInt8).contains c=false∧([43,45]:List UInt8).contains c=false∧Eb c=false:=by
  have:=FV (f:=fun n=>if Xz (UInt8.ofNat n)=true then(Cu (UInt8.ofNat n)||([45]:List UInt8).contains (UInt8.ofNat n)||([48]:List UInt8).contains (UInt8.ofNat n)||([46]:List UInt8).contains (UInt8.ofNat n)||([101,69]:List UInt8).contains (UInt8.ofNat n)||([43,45]:List UInt8).contains (UInt8.ofNat n)||Eb (UInt8.ofNat n))else false) (g:=fun _=>false) (by kernel_rfl) c
  simp only[UInt8.ofNat_toNat,h,if_true,Bool.or_eq_false_iff]at this
  obtain⟨⟨⟨⟨⟨⟨a,b⟩,c⟩,d⟩,e⟩,f⟩,g⟩:=this
  exact⟨a,b,c,d,e,f,g⟩
theorem Iz{x rest:List UInt8}{a:Nat} (h:a≤x.length):(x++rest).drop a=x.drop a++rest:=by
  rw[List.drop_append,show a-x.length=0 by omega,List.drop_zero]
theorem AEu{x rest:List UInt8} (hr:Stop rest):Cz (x++rest)=Cz x:=by
  have hs: ∀c t,rest=c::t→_:=fun c t e=>XQ (hr c t e)
  have hd:=Lr (x:=x) fun c t e=>(hs c t e).1
  have sg:Ac (x++rest)=Ac x:=by unfold Ac;rw[Jb fun c t e=>(hs c t e).2.1]
  have it: ∀y:List UInt8,CY (y++rest)=CY y:=fun y=>by unfold CY;rw[Jb fun c t e=>(hs c t e).2.2.1,Lr fun c t e=>(hs c t e).1]
  have d1: ∀y:List UInt8,De ((y++rest).drop 1)=De (y.drop 1)∨y=[]:=fun y=>by
    cases y with
    |nil=>exact .inr rfl
    |cons a y=>exact .inl (by rw[Iz (by simp),Lr fun c t e=>(hs c t e).1])
  have fr: ∀y:List UInt8,DK (y++rest)=DK y:=fun y=>by
    unfold DK
    rw[Jb fun c t e=>(hs c t e).2.2.2.1]
    rcases d1 y with e|rfl
    · rw[e]
    · rw[if_neg (by simp[CV]),if_neg (by simp[CV])]
  have ex: ∀y:List UInt8,Gp (y++rest)=Gp y:=fun y=>by
    cases y with
    | nil=>
      unfold Gp
      rw[Jb fun c t e=>(hs c t e).2.2.2.2.1,if_neg (by simp[CV]),if_neg (by simp[CV])]
    | cons a y=>
      have eg:Fg (a::y++rest)=Fg (a::y):=by
        unfold Fg
        rw[Iz (by simp),Jb fun c t e=>(hs c t e).2.2.2.2.2.1]
      have ele:1+Fg (a::y)≤(a::y).length∨Fg (a::y)=0:=by
        unfold Fg
        split
        · rename_i h;have:=Gd h;simp at this⊢;omega
        · exact .inr rfl
      have hr2:De ((a::y++rest).drop (1+Fg (a::y)))=De ((a::y).drop (1+Fg (a::y))):=by
        rcases ele with h|h
        · rw[Iz h,Lr fun c t e=>(hs c t e).1]
        · rw[h,Iz (by simp),Lr fun c t e=>(hs c t e).1]
      unfold Gp
      rw[Jb fun c t e=>(hs c t e).2.2.2.2.1,eg,hr2]
  have h1:=Nf x
  have h2:=NU (x.drop (Ac x))
  have h3:=NT (x.drop (Ac x+CY (x.drop (Ac x))))
  simp only[List.length_drop]at h2 h3
  unfold Cz
  rw[sg,Iz h1,it,Iz (by omega),fr,Iz (by omega),ex]
theorem YF{s:List UInt8} (h0:s≠ []) (hn:Cz s=s.length): ∃c r,s=c::r∧(c=45∨Cu c=true):=by
  obtain⟨sg,W,F,FR,P,EX,h⟩:=OI h0 hn
  rcases h.sg with e|e
  · cases hW:W with
    |nil=>exact absurd hW h.Wn
    | cons c W'=>
      have:=h.Wd
      rw[hW,List.all_cons,Bool.and_eq_true]at this
      exact⟨c,_,by rw[h.eq,e,hW];rfl,.inr this.1⟩
  · exact⟨45,_,by rw[h.eq,e];rfl,.inl rfl⟩
theorem XO{c:UInt8} (hc:c=45∨Cu c=true):wsB c=false∧Mx.contains c=false∧ ¬c.toNat=34∧(([45]:List UInt8).contains c||Cu c)=true:=by
  have hcN:c.toNat=45∨(48≤c.toNat∧c.toNat≤57):=by
    rcases hc with rfl|hc
    · exact .inl rfl
    · exact .inr (J5 hc)
  refine⟨?_,?_,by omega,?_⟩
  · simp only[wsB,wsN,Bool.or_eq_false_iff,decide_eq_false_iff_not];omega
  · have:=FV (f:=fun n=>if decide (n=45∨(48≤n∧n≤57))=true then Mx.contains (UInt8.ofNat n)else false) (g:=fun _=>false) (by kernel_rfl) c
    simp only[UInt8.ofNat_toNat,decide_eq_true hcN,if_true]at this
    exact this
  · rcases hc with rfl|hc
    · rfl
    · rw[hc];simp
theorem AKH{p:Nat}{s rest:List UInt8} (h0:s≠ []) (hn:Cz s=s.length) (hr:Stop rest):SS N p (s++rest)=(ApiToken.mk 4 s p,((p+s.length:Nat):Int),0):=by
  obtain⟨c,r,rfl,hc⟩:=YF h0 hn
  obtain⟨_,h2,h3,h4⟩:=XO hc
  have e:=AEu (x:=c::r) hr
  rw[hn]at e
  rw[List.cons_append]at e⊢
  rw[Ja,if_neg (by rw[h2];decide),if_neg h3,if_pos h4,e,if_neg (by simp)]
  have:(c::(r++rest)).take (c::r).length=c::r:=by rw[←List.cons_append,List.take_left]
  rw[this]
theorem ABS{x rest:List UInt8} (hx:x.all Eb=true) (hr:Stop rest):(x++rest).takeWhile Eb=x:=by
  induction x with
  | nil=>
    cases rest with
    |nil=>rfl
    |cons c t=>rw[List.nil_append,List.takeWhile_cons,(XQ (hr c t rfl)).2.2.2.2.2.2];rfl
  | cons c x ih=>
    rw[List.all_cons,Bool.and_eq_true]at hx
    rw[List.cons_append,List.takeWhile_cons,hx.1,if_pos rfl,ih hx.2]
theorem Qv{p:Nat}{x rest:List UInt8} (hx:isWord x=true) (hr:Stop rest):SS N p (x++rest)=(ApiToken.mk 5 x p,((p+x.length:Nat):Int),0):=by
  have key: ∃c r,x=c::r∧x.all Eb=true∧Mx.contains c=false∧ ¬c.toNat=34∧(([45]:List UInt8).contains c||Cu c)=false:=by
    unfold isWord at hx
    simp only[Bool.or_eq_true,beq_iff_eq]at hx
    rcases hx with rfl|rfl|rfl<;>exact⟨_,_,rfl,by decide,by decide,by decide,by decide⟩
  obtain⟨c,r,rfl,h1,h2,h3,h4⟩:=key
  have hw:=ABS h1 hr
  rw[List.cons_append]at hw⊢
  rw[Ja,if_neg (by rw[h2];decide),if_neg h3,if_neg (by rw[h4];decide),hw,if_pos hx]
end
end Go.VM
namespace Go.VM
open Classical
def hdT (v:ApiValue):ApiToken:=if v.kind==6 then ApiToken.mk 2 [91] 0 else if v.kind==7 then ApiToken.mk 2 [123] 0 else if v.kind==5 then ApiToken.mk 3 v.text 0 else if v.kind==4 then ApiToken.mk 4 v.text 0 else ApiToken.mk 5 (wrV v) 0
section
variable{N:Nat}
theorem wr4{s:List UInt8} {ks xs}:wrV ⟨4,s,ks,xs⟩=s:=by rw[wrV,if_neg (by decide),if_neg (by decide),if_neg (by decide),if_pos (by decide)]
theorem wr5{s:List UInt8} {ks xs}:wrV ⟨5,s,ks,xs⟩=DT s:=by rw[wrV,if_neg (by decide),if_neg (by decide),if_neg (by decide),if_neg (by decide),if_pos (by decide)]
theorem wr6{s:List UInt8} {ks xs}:wrV ⟨6,s,ks,xs⟩=91::(wrI true xs++[93]):=by rw[wrV,if_neg (by decide),if_neg (by decide),if_neg (by decide),if_neg (by decide),if_neg (by decide),if_neg (by decide)]
theorem wr7{s:List UInt8} {ks xs}:wrV ⟨7,s,ks,xs⟩=123::(wrM true ks xs++[125]):=by rw[wrV,if_neg (by decide),if_neg (by decide),if_neg (by decide),if_neg (by decide),if_neg (by decide),if_pos (by decide)]
theorem hd4{s:List UInt8} {ks xs}:hdT ⟨4,s,ks,xs⟩=ApiToken.mk 4 s 0:=rfl
theorem hd5{s:List UInt8} {ks xs}:hdT ⟨5,s,ks,xs⟩=ApiToken.mk 3 s 0:=rfl
theorem hd6{s:List UInt8} {ks xs}:hdT ⟨6,s,ks,xs⟩=ApiToken.mk 2 [91] 0:=rfl
theorem hd7{s:List UInt8} {ks xs}:hdT ⟨7,s,ks,xs⟩=ApiToken.mk 2 [123] 0:=rfl
theorem AFW (xs:List ApiValue) (r:List UInt8):Stop (wrI false xs++93::r):=by
  cases xs with
  |nil=>rw[wrI];exact JZ (by decide)
  |cons x xs=>rw[wrI];exact JZ (by decide)
theorem AKQ (ks:List (List UInt8)) (xs:List ApiValue) (r:List UInt8):Stop (wrM false ks xs++125::r):=by
  cases ks with
  | nil => rw[wrM]; · exact JZ (by decide)
           · intros;simp_all
  | cons k ks=>
    cases xs with
    | nil => rw[wrM]; · exact JZ (by decide)
             · intros;simp_all
    |cons x xs=>rw[wrM];exact JZ (by decide)
end
end Go.VM
namespace Go.VM
open Classical
def hdL (v:ApiValue):Nat:=if v.kind==6||v.kind==7 then 1 else(wrV v).length
def tkV (v:ApiValue) (p:Nat):ApiToken:=ApiToken.mk (hdT v).kind (hdT v).text p
theorem TD (s:List UInt8):s.length+2≤(DT s).length:=by
  have: ∀l:List UInt8,l.length≤(l.flatMap qB).length:=fun l=>by
    induction l with
    |nil=>simp
    | cons c t ih=>
      have h1:=(AAf c).1
      rw[List.flatMap_cons,List.length_append,List.length_cons];omega
  have:=this s
  unfold DT;simp only[List.length_cons,List.length_append,List.length_nil];omega
theorem wr1:wrV ⟨1,[],[],[]⟩=[110,117,108,108]:=by rw[wrV];rfl
theorem wr2:wrV ⟨2,[],[],[]⟩=[102,97,108,115,101]:=by rw[wrV];rfl
theorem wr3:wrV ⟨3,[],[],[]⟩=[116,114,117,101]:=by rw[wrV];rfl
section
variable{N:Nat}{l:List UInt8}
theorem Rp{s:List UInt8} (h:KY N s=true):s≠ []∧Cz s=s.length∧OC N s=(s,0):=by
  have h':=h
  unfold KY at h
  simp only[Bool.and_eq_true,beq_iff_eq]at h
  have e:OC N s=(s,0):=Prod.ext h.2 h.1
  unfold KY OC at h'
  by_cases hc2:s≠ []∧Cz s=s.length
  · exact⟨hc2.1,hc2.2,e⟩
  · rw[if_neg hc2]at h';simp at h'
theorem AId{v:ApiValue}{p:Nat} (hs:FL N v=true){r:List UInt8} (hr:Stop r) (hl:(wrV v).length<N):SS N p (wrV v++r)=(tkV v p,((p+hdL v:Nat):Int),0):=by
  cases H5 hs with
  | word k hk=>
    rcases hk with rfl|rfl|rfl
    · unfold tkV hdL;rw[wr1,Qv (by decide) hr];simp[hdT,wr1]
    · unfold tkV hdL;rw[wr2,Qv (by decide) hr];simp[hdT,wr2]
    · unfold tkV hdL;rw[wr3,Qv (by decide) hr];simp[hdT,wr3]
  | num s hn=>
    obtain⟨h1,h2,_⟩:=Rp hn
    unfold tkV hdL;rw[wr4,AKH h1 h2 hr,hd4];simp
  | str s hq=>
    have:=TD s
    rw[wr5]at hl
    unfold tkV hdL;rw[wr5,Tg hq (by omega),hd5];simp
  |arr xs _=>unfold tkV hdL;rw[wr6,List.cons_append,Om (by decide),hd6];simp
  |obj ks xs _ _ _=>unfold tkV hdL;rw[wr7,List.cons_append,Om (by decide),hd7];simp
theorem AB6{v:ApiValue} (hs:FL N v=true): ∃c u,wrV v=c::u∧wsB c=false:=by
  cases H5 hs with
  | word k hk=>
    rcases hk with rfl|rfl|rfl
    · exact⟨_,_,wr1,by decide⟩
    · exact⟨_,_,wr2,by decide⟩
    · exact⟨_,_,wr3,by decide⟩
  | num s hn=>
    obtain⟨h1,h2,_⟩:=Rp hn
    obtain⟨c,r,e,hc⟩:=YF h1 h2
    exact⟨c,r,by rw[wr4,e],(XO hc).1⟩
  |str s hq=>exact⟨_,_,by rw[wr5];rfl,by decide⟩
  |arr xs _=>exact⟨_,_,wr6,by decide⟩
  |obj ks xs _ _ _=>exact⟨_,_,wr7,by decide⟩
theorem AKf{v:ApiValue}{p:Nat}{c:UInt8} (hs:FL N v=true) (hc:c=93∨c=125):((tkV v p).kind==2&&(tkV v p).text==[c])=false:=by
  have:(hdT v).kind=2→(hdT v).text=[c]→False:=by
    cases H5 hs with
    |word k hk=>rcases hk with rfl|rfl|rfl<;>(intro h;simp[hdT]at h)
    |num s hn=>rw[hd4];intro h;simp at h
    |str s hq=>rw[hd5];intro h;simp at h
    |arr xs _=>rw[hd6];intro _ h;rcases hc with rfl|rfl<;>simp at h
    |obj ks xs _ _ _=>rw[hd7];intro _ h;rcases hc with rfl|rfl<;>simp at h
  cases h:((tkV v p).kind==2&&(tkV v p).text==[c])
  · rfl
  · simp only[Bool.and_eq_true,beq_iff_eq]at h;exact(this h.1 h.2).elim
def Pq (l:List UInt8) (i n:Nat):Ref14Parser:=Ref14Parser.mk l i n 0 0
theorem VV{i:Nat}{c:UInt8}{t:List UInt8} (h:l.drop i=c::t):i<l.length:=by
  have:=congrArg List.length h
  simp only[List.length_drop,List.length_cons]at this;omega
theorem OH{i:Nat}{a b:List UInt8} (h:l.drop i=a++b):l.drop (i+a.length)=b:=by rw[←List.drop_drop,h,List.drop_left]
theorem MI{i:Nat}{c:UInt8}{t:List UInt8} (h:l.drop i=c::t):l.drop (i+1)=t:=OH (a:=[c]) h
theorem Wq (hb:l.length≤2^40) (hN:l.length+10≤N){i j n:Nat}{t:ApiToken} (hi:i≤l.length) (h:M4 N l i=(t,(j:Int),0)):A9 N (Pq l i n)=some (t,Pq l j n):=by
  unfold A9 Pq
  dsimp only
  rw[if_neg (by decide),AR,Xb hb hN hi,Option.bind_some,h]
  rfl
theorem LB (hb:l.length≤2^40) (hN:l.length+10≤N){i n:Nat}{c:UInt8}{r:List UInt8} (h:l.drop i=c::r) (hc:Mx.contains c=true) (hw:wsB c=false):A9 N (Pq l i n)=some (ApiToken.mk 2 [c] i,Pq l (i+1) n):=by
  have:=VV h
  refine Wq hb hN (by omega) ?_
  rw[Nv (w:=[]) h UO (fun c' r' e=>by cases e;exact hw)]
  exact Om hc
theorem Pz (hb:l.length≤2^40) (hN:l.length+10≤N){i n:Nat}{v:ApiValue}{r:List UInt8} (hs:FL N v=true) (h:l.drop i=wrV v++r) (hr:Stop r):A9 N (Pq l i n)=some (tkV v i,Pq l (i+hdL v) n):=by
  obtain⟨c,u,e,hw⟩:=AB6 hs
  have h2:=h;rw[e,List.cons_append]at h2
  have:=VV h2
  have hl:=congrArg List.length h
  simp only[List.length_drop,List.length_append]at hl
  refine Wq hb hN (by omega) ?_
  rw[Nv (w:=[]) h UO (fun c' r' e'=>by rw[e]at e';cases e';exact hw)]
  exact AId hs hr (by omega)
theorem ABr (hb:l.length≤2^40) (hN:l.length+10≤N){i n:Nat}{s:List UInt8}{r:List UInt8} (hq:(C9 N s).isSome=true) (h:l.drop i=DT s++r):A9 N (Pq l i n)=some (ApiToken.mk 3 s i,Pq l (i+(DT s).length) n):=by
  have h2:l.drop i=34::(s.flatMap qB++[34]++r):=h
  have:=VV h2
  have:=TD s
  have hl:=congrArg List.length h
  simp only[List.length_drop,List.length_append]at hl
  refine Wq hb hN (by omega) ?_
  rw[Nv (w:=[]) h UO (fun c' r' e'=>by have e2:(34:UInt8)::(s.flatMap qB++[34]++r)=c'::r':=e';cases e2;decide)]
  exact Tg hq (by omega)
theorem Em (t:ApiToken) (c:List UInt8):Ew N t c=some (t.kind==2&&t.text==c):=by
  unfold Ew;split<;>simp_all
def AKq (N:Nat) (l:List UInt8) (e:Nat):Prop:= ∀(v:ApiValue) (D i n d:Nat) (r:List UInt8),FJ v<e→FL N v=true→l.drop i=wrV v++r→Stop r→2 * e≤D→d+FJ v≤64→n+II v≤20000→
  Ao N D (Pq l (i+hdL v) n) (tkV v i) (d:Int)=some (v,Pq l (i+(wrV v).length) (n+II v))
theorem RV (hb:l.length≤2^40) (hN:l.length+10≤N){e D:Nat} (ih:AKq N l e) (hD:2 * e≤D) (d:Nat) (k6:ApiToken×List ApiValue×Ref14Parser→Option (ApiValue×Ref14Parser)): ∀(xs:List ApiValue) (x:ApiValue) (dn:List ApiValue) (k i n:Nat) (r:List UInt8),Co (x::xs)<e→(∀y,y∈x::xs→FL N y=true)→l.drop i=wrV x++(wrI false xs++93::r)→d+Co (x::xs)≤64→n+Cj (x::xs)≤20000→dn.length+xs.length+1≤1000000→xs.length<k→
    Bg N (d:Int) (Ao N D) k6 k (tkV x i) dn (Pq l (i+hdL x) n)=some (⟨6,[],[],dn++x::xs⟩,Pq l (i+(wrV x++wrI false xs).length+1) (n+Cj (x::xs)))
  |xs,x,dn,0,i,n,r,_,_,_,_,_,_,hk=>by omega
  | xs,x,dn,k+1,i,n,r,he,hs,h,hd,hc,hl,hk=>by
    simp only[Co,Cj]at he hd hc⊢
    have h1:=OH h
    rw[Bg,if_pos (by rfl),AR,ih x D i n d _ (by omega) (hs x (by simp)) h (AFW xs r) hD (by omega) (by omega),Option.bind_some,AZ (Ou (by omega))]
    dsimp only[AR]
    cases xs with
    | nil=>
      rw[wrI]at h1⊢
      rw[LB hb hN h1 (by decide) (by decide),Option.bind_some,Em,Option.bind_some,if_pos (by rfl)]
      simp[Cj]
    | cons y ys=>
      rw[wrI]at h1⊢
      simp only[Bool.false_eq_true,if_false,List.append_assoc,List.cons_append,List.nil_append]at h1
      rw[LB hb hN h1 (by decide) (by decide),Option.bind_some,Em,Option.bind_some,if_neg (by exact Bool.false_ne_true),if_pos (by rfl),Em,Option.bind_some,if_neg (by exact Bool.false_ne_true)]
      have h2:=MI h1
      rw[Pz hb hN (hs y (by simp)) h2 (AFW ys r),Option.bind_some]
      simp only[Cj,Co,List.length_cons]at hc hd he hl hk
      rw[RV hb hN ih hD d k6 ys y (dn++[x]) k _ _ r (by simp only[Co];omega) (fun z hz=>hs z (by simp only[List.mem_cons]at hz⊢;exact .inr hz)) h2 (by simp only[Co];omega) (by simp only[Cj];omega) (by simp only[List.length_append,List.length_cons,List.length_nil];omega) (by omega)]
      have e1:i+(wrV x).length+1+(wrV y++wrI false ys).length+1=i+(wrV x++((if false=true then []else [44])++(wrV y++wrI false ys))).length+1:=by simp only[Bool.false_eq_true,if_false,List.length_append,List.length_cons,List.length_nil];omega
      have e2:n+II x+Cj (y::ys)=n+(II x+Cj (y::ys)):=by omega
      rw[e1,e2,List.append_assoc];rfl
theorem Nc (hb:l.length≤2^40) (hN:l.length+10≤N){e D:Nat} (ih:AKq N l e) (hD:2 * e≤D) (d:Nat) (k6:ApiToken×List (List UInt8)×List ApiValue×Ref14Parser→Option (ApiValue×Ref14Parser)): ∀(ks:List (List UInt8)) (xs:List ApiValue) (c:List UInt8) (x:ApiValue) (dk:List (List UInt8)) (dn:List ApiValue) (k i n:Nat) (r:List UInt8),Co (x::xs)<e→(∀y,y∈x::xs→FL N y=true)→(∀y,y∈c::ks→(C9 N y).isSome=true)→ks.length=xs.length→dk.length=dn.length→(dk++c::ks).Nodup→l.drop i=DT c++(58::(wrV x++(wrM false ks xs++125::r)))→d+Co (x::xs)≤64→n+Cj (x::xs)≤20000→dn.length+xs.length+1≤1000000→xs.length<k→
    Bb N (d:Int) (Ao N D) k6 k (ApiToken.mk 3 c i) dk dn (Pq l (i+(DT c).length) n)=some (⟨7,[],dk++c::ks,dn++x::xs⟩,Pq l (i+(DT c++58::(wrV x++wrM false ks xs)).length+1) (n+Cj (x::xs)))
  |ks,xs,c,x,dk,dn,0,i,n,r,_,_,_,_,_,_,_,_,_,_,hk=>by omega
  | ks, xs,c,x,dk,dn,k+1,i,n,r,he,hs,hq,hkx,hdk,hnd,h,hd,hc,hl,hk=>by
    simp only[Co,Cj]at he hd hc⊢
    have h1:=OH h
    have h2:=MI h1
    have h3:=OH h2
    have hget:(Sm (ApiValue.mk 7 [] dk dn) c).2=false:=by
      unfold Sm
      rw[if_pos (by rfl)]
      dsimp only
      rw[NY hdk]
      have:c∉dk:=fun hm=>by
        rw[List.nodup_append]at hnd
        exact hnd.2.2 c hm c (by simp) rfl
      simp[this]
    rw[Bb,if_pos (by rfl)]
    dsimp only[AR]
    rw[if_neg (by exact Bool.false_ne_true),P9 _ _ (by dsimp only;omega),Option.bind_some,hget,if_neg (by exact Bool.false_ne_true)]
    rw[LB hb hN h1 (by decide) (by decide),Option.bind_some,if_pos (by rfl),Em,Option.bind_some,if_neg (by exact Bool.false_ne_true)]
    dsimp only
    rw[Pz hb hN (hs x (by simp)) h2 (AKQ ks xs r),Option.bind_some]
    dsimp only
    rw[ih x D _ n d _ (by omega) (hs x (by simp)) h2 (AKQ ks xs r) hD (by omega) (by omega),Option.bind_some,AZ (by unfold FY;omega),AZ (Ou (by omega))]
    dsimp only
    cases xs with
    | nil=>
      obtain rfl:ks=[]:=List.length_eq_zero_iff.1 hkx
      have em:wrM false [] []=[]:=by rw[wrM];intros;simp_all
      rw[em]at h3⊢
      rw[LB hb hN h3 (by decide) (by decide),Option.bind_some,Em,Option.bind_some,if_pos (by rfl)]
      have e1:i+(DT c).length+1+(wrV x).length+1=i+(DT c++58::(wrV x++[])).length+1:=by simp only[List.length_append,List.length_cons,List.length_nil];omega
      rw[e1];simp[Cj]
    | cons y ys=>
      cases ks with
      |nil=>simp at hkx
      | cons c2 ks=>
        rw[wrM]at h3⊢
        simp only[Bool.false_eq_true,if_false,List.append_assoc,List.cons_append,List.nil_append]at h3
        rw[LB hb hN h3 (by decide) (by decide),Option.bind_some,Em,Option.bind_some,if_neg (by exact Bool.false_ne_true),if_pos (by rfl),Em,Option.bind_some,if_neg (by exact Bool.false_ne_true)]
        have h4:=MI h3
        rw[ABr hb hN (hq c2 (by simp)) h4,Option.bind_some]
        simp only[Cj,Co,List.length_cons]at hc hd he hl hk hkx
        rw[Nc hb hN ih hD d k6 ks ys c2 y (dk++[c]) (dn++[x]) k _ _ r (by simp only[Co];omega) (fun z hz=>hs z (by simp only[List.mem_cons]at hz⊢;exact .inr hz)) (fun z hz=>hq z (by simp only[List.mem_cons]at hz⊢;exact .inr hz)) (by omega) (by simp[hdk]) (by simpa using hnd) h4 (by simp only[Co];omega) (by simp only[Cj];omega) (by simp only[List.length_append,List.length_cons,List.length_nil];omega) (by omega)]
        have e1:i+(DT c).length+1+(wrV x).length+1+(DT c2++58::(wrV y++wrM false ks ys)).length+1=i+(DT c++58::(wrV x++((if false=true then []else [44])++(DT c2++58::(wrV y++wrM false ks ys))))).length+1:=by simp only[Bool.false_eq_true,if_false,List.length_append,List.length_cons,List.length_nil];omega
        have e2:n+II x+Cj (y::ys)=n+(II x+Cj (y::ys)):=by omega
        rw[e1,e2,List.append_assoc,List.append_assoc];rfl
theorem Jh{D j n d:Nat}{t:ApiToken}{v:ApiValue} (hD:1≤D) (hn:n+1≤20000) (hk:(t.kind=3∧v=⟨5,t.text,[],[]⟩)∨(t.kind=4∧v=⟨4,t.text,[],[]⟩∧D6 N t.text=some (t.text,0))∨(t.kind=5∧GA N t.text=some v.kind∧v=⟨v.kind,[],[],[]⟩)):
    Ao N D (Pq l j n) t (d:Int)=some (v,Pq l j (n+1)):=by
  obtain⟨D,rfl⟩: ∃k,D=k+1:=⟨D-1,by omega⟩
  have hw:wr .i64 ((n:Int)+1)=((n+1:Nat):Int):=by rw[Ak (by omega)];omega
  have hg: ¬((20000:Int)<(n:Int)+1):=by omega
  rw[Ao]
  simp only[AR,Pq,Em,Option.bind_some]
  rcases hk with⟨h,rfl⟩|⟨h,rfl,h2⟩|⟨h,h2,h3⟩
  · simp[h,hw,hg]
  · simp[h,hw,hg,h2]
  · simp[h,hw,hg,h2];exact h3.symm
theorem Z6{α β:Type} (x:Option (α×β)):(x.bind fun y=>some (y.1,y.2))=x:=by cases x<;>rfl
theorem Qm{D i j n d:Nat}{c:UInt8} (hc:c=91∨c=123) (hn:n+1≤20000) (hd:d<64):
    Ao N (D+1) (Pq l j n) (ApiToken.mk 2 [c] i) (d:Int)=if c=91 then Ch N D (Pq l j (n+1)) ((d+1:Nat):Int)else Ca N D (Pq l j (n+1)) ((d+1:Nat):Int):=by
  have hw:wr .i64 ((n:Int)+1)=((n+1:Nat):Int):=by rw[Ak (by omega)];omega
  have hw2:wr .i64 ((d:Int)+1)=((d+1:Nat):Int):=by rw[Ak (by omega)];omega
  have hg: ¬((20000:Int)<(n:Int)+1):=by omega
  have h64: ¬(d:Int)=64:=by omega
  rw[Ao]
  simp only[AR,Pq,Em,Option.bind_some]
  rcases hc with rfl|rfl
  · simp[hw,hw2,hg,h64,Z6]
  · simp[hw,hw2,hg,h64,Z6]
theorem X9 (hb:l.length≤1048576) (hN:l.length+2000000≤N): ∀e:Nat,AKq N l e
  |0=>fun v D i n d r h=>by omega
  | e+1=>fun v D i n d r he hs h hr hD hd hc=>by
    have ih:=X9 hb hN e
    have hb':l.length≤2^40:=by omega
    have hll:=congrArg List.length h
    simp only[List.length_drop,List.length_append]at hll
    have hn:=NQ v
    cases H5 hs with
    | word k hk=>
      rcases hk with rfl|rfl|rfl
      · rw[show hdL ⟨1,[],[],[]⟩=(wrV ⟨1,[],[],[]⟩).length from rfl];exact Jh (by omega) (by omega) (.inr (.inr ⟨rfl,by show GA N (wrV ⟨1,[],[],[]⟩)=_;rw[wr1];rfl,rfl⟩))
      · rw[show hdL ⟨2,[],[],[]⟩=(wrV ⟨2,[],[],[]⟩).length from rfl];exact Jh (by omega) (by omega) (.inr (.inr ⟨rfl,by show GA N (wrV ⟨2,[],[],[]⟩)=_;rw[wr2];rfl,rfl⟩))
      · rw[show hdL ⟨3,[],[],[]⟩=(wrV ⟨3,[],[],[]⟩).length from rfl];exact Jh (by omega) (by omega) (.inr (.inr ⟨rfl,by show GA N (wrV ⟨3,[],[],[]⟩)=_;rw[wr3];rfl,rfl⟩))
    | num s hnu=>
      rw[wr4]at hll⊢
      have hL:hdL ⟨4,s,[],[]⟩=s.length:=by unfold hdL;rw[if_neg (by simp),wr4]
      rw[hL]
      exact Jh (by omega) (by omega) (.inr (.inl ⟨rfl,rfl,by show D6 N s=some (s,0);rw[(U6 s (by omega) (by omega)).1,(Rp hnu).2.2]⟩))
    | str s hq=>
      have hL:hdL ⟨5,s,[],[]⟩=(wrV ⟨5,s,[],[]⟩).length:=by unfold hdL;rw[if_neg (by simp)]
      rw[hL]
      exact Jh (by omega) (by omega) (.inl ⟨rfl,rfl⟩)
    | arr xs hxs=>
      rw[wr6]at h hll⊢
      rw[List.cons_append,List.append_assoc]at h
      rw[FW]at he hd
      rw[Ib]at hc⊢
      simp only[beq_self_eq_true,Bool.true_or,if_true]at he hd
      simp only at hc
      obtain⟨D,rfl⟩: ∃k,D=k+2:=⟨D-2,by omega⟩
      rw[show hdL ⟨6,[],[],xs⟩=1 from rfl,show tkV ⟨6,[],[],xs⟩ i=ApiToken.mk 2 [91] i by unfold tkV;rw[hd6],Qm (.inl rfl) (by omega) (by omega),if_pos rfl]
      have h1:=MI h
      rw[Ch]
      cases xs with
      | nil=>
        rw[wrI]at h1⊢
        rw[LB hb' (by omega) h1 (by decide) (by decide),Option.bind_some,Em,Option.bind_some,if_pos (by rfl)]
        simp[Cj]
      | cons x xs=>
        rw[wrI]at h1⊢
        simp only[if_true,List.append_assoc,List.nil_append]at h1
        have hcnt:(x::xs).length≤Cj (x::xs):=by
          have: ∀zs:List ApiValue,zs.length≤Cj zs:=fun zs=>by
            induction zs with
            |nil=>simp
            |cons z zs ihz=>have:=NQ z;rw[Cj,List.length_cons];omega
          exact this _
        simp only[List.length_cons]at hcnt
        rw[Pz hb' (by omega) (hxs x (by simp)) h1 (AFW xs r),Option.bind_some,Em,Option.bind_some,AKf (hxs x (by simp)) (.inl rfl),if_neg (by decide),AR]
        rw[RV hb' (by omega) ih (by omega) (d+1) _ xs x [] N _ _ r (by omega) hxs h1 (by omega) (by omega) (by simp only[List.length_nil];omega) (by omega)]
        have e1:i+1+(wrV x++wrI false xs).length+1=i+(91::((if true=true then []else [44])++(wrV x++wrI false xs)++[93])).length:=by simp only[if_true,List.length_append,List.length_cons,List.length_nil];omega
        have e2:n+1+Cj (x::xs)=n+(1+Cj (x::xs)):=by omega
        rw[e1,e2];rfl
    | obj ks xs hl hdk hxs=>
      rw[wr7]at h hll⊢
      rw[List.cons_append,List.append_assoc]at h
      rw[FW]at he hd
      rw[Ib]at hc⊢
      simp only[beq_self_eq_true,Bool.or_true,if_true]at he hd
      simp only at hc
      obtain⟨D,rfl⟩: ∃k,D=k+2:=⟨D-2,by omega⟩
      rw[show hdL ⟨7,[],ks,xs⟩=1 from rfl,show tkV ⟨7,[],ks,xs⟩ i=ApiToken.mk 2 [123] i by unfold tkV;rw[hd7],Qm (.inr rfl) (by omega) (by omega),if_neg (by decide)]
      have h1:=MI h
      rw[Ca]
      cases xs with
      | nil=>
        obtain rfl:ks=[]:=List.length_eq_zero_iff.1 hl
        have em:wrM true [] []=[]:=by rw[wrM];intros;simp_all
        rw[em]at h1⊢
        rw[LB hb' (by omega) h1 (by decide) (by decide),Option.bind_some,Em,Option.bind_some,if_pos (by rfl)]
        simp[Cj]
      | cons x xs=>
        cases ks with
        |nil=>simp at hl
        | cons c ks=>
          rw[wrM]at h1⊢
          simp only[if_true,List.append_assoc,List.nil_append,List.cons_append]at h1
          have hcnt:(x::xs).length≤Cj (x::xs):=by
            have: ∀zs:List ApiValue,zs.length≤Cj zs:=fun zs=>by
              induction zs with
              |nil=>simp
              |cons z zs ihz=>have:=NQ z;rw[Cj,List.length_cons];omega
            exact this _
          simp only[List.length_cons]at hcnt hl
          rw[ABr hb' (by omega) (Og hdk c (by simp)) h1,Option.bind_some,Em,Option.bind_some,if_neg (by exact Bool.false_ne_true),AR]
          rw[Nc hb' (by omega) ih (by omega) (d+1) _ ks xs c x [] [] N _ _ r (by omega) hxs (Og hdk) (by omega) rfl (by simpa using H6 hdk) h1 (by omega) (by omega) (by simp only[List.length_nil];omega) (by omega)]
          have e1:i+1+(DT c++58::(wrV x++wrM false ks xs)).length+1=i+(123::((if true=true then []else [44])++(DT c++58::(wrV x++wrM false ks xs))++[125])).length:=by simp only[if_true,List.length_append,List.length_cons,List.length_nil];omega
          have e2:n+1+Cj (x::xs)=n+(1+Cj (x::xs)):=by omega
          rw[e1,e2];rfl
theorem AC9{v:ApiValue} (hb:(wrV v).length≤1048576) (hN:4000000≤N) (hs:FL N v=true) (hn:FJ v≤64) (hc:II v≤20000):Fh N (wrV v)=some (v,((wrV v).length:Int),0):=by
  have hd:(wrV v).drop 0=wrV v++[]:=by simp
  have hb':(wrV v).length≤2^40:=by omega
  unfold Fh
  rw[if_neg (by simp;omega),show Ref14Parser.mk (wrV v) 0 0 0 0=Pq (wrV v) 0 0 from rfl,Pz hb' (by omega) hs hd XZ,Option.bind_some]
  dsimp only
  rw[show(0:Int)=((0:Nat):Int)from rfl,X9 hb (by omega) (FJ v+1) v N 0 0 0 [] (by omega) hs hd XZ (by omega) (by omega) (by omega),Option.bind_some]
  have he:M4 N (wrV v) (0+(wrV v).length)=(ApiToken.mk 1 [] ((wrV v).length:Int),(((wrV v).length:Nat):Int),0):=by
    rw[Nv (w:=[]) (t:=[]) (by simp) UO (fun c r e=>by cases e)]
    simp[SS]
  dsimp only[AR]
  rw[Wq hb' (by omega) (by omega) he,Option.bind_some,if_pos (by rfl),if_neg (by exact Bool.false_ne_true),if_neg (by exact Bool.false_ne_true)]
end
end Go.VM
namespace Go.VM
open Classical
theorem Lm{x:ApiValue}: ∀ {xs:List ApiValue},x∈xs→FJ x≤Co xs
  | y::xs,h=>by
    rw[Co]
    rcases List.mem_cons.1 h with rfl|h
    · omega
    · have:=Lm h;omega
theorem Q8{N:Nat}: ∀(e:Nat) (v:ApiValue),FJ v<e→FL N v=true→CO (CO v)=CO v
  |0,v,h,_=>by omega
  | e+1,v,h,hs=>by
    rw[FW]at h
    cases H5 hs with
    |word k hk=>rw[Cw (by omega)];exact Cw (by omega)
    |num s _=>rw[Cw (by decide)];exact Cw (by decide)
    |str s _=>rw[Cw (by decide)];exact Cw (by decide)
    | arr xs hx=>
      simp only[beq_self_eq_true,Bool.true_or,if_true]at h
      rw[KD,KD,List.map_map]
      congr 1
      exact List.map_congr_left fun x hm=>Q8 (N:=N) e x (by have:=Lm hm;omega) (hx x hm)
    | obj ks xs hl hd hx=>
      simp only[beq_self_eq_true,Bool.or_true,if_true]at h
      rw[KF,KF,M3 (Dw ks),MW _ _ (by simp) ((Dw ks).nodup_iff.2 (H6 hd)),List.map_map]
      congr 1
      refine List.map_congr_left fun k hk=>?_
      obtain⟨x,h1,_,h3⟩:=Lp CO ks xs k hl ((Dw ks).mem_iff.1 hk)
      show CO (Gn ks (xs.map CO) k).1=_
      rw[h3]
      exact Q8 (N:=N) e x (by have:=Lm h1;omega) (hx x h1)
end Go.VM
namespace Go.VM
def okU (s:List UInt8):Prop:= ∀k,s.length<k→(C9 k s).isSome=true
theorem ACH:okU []:=fun k h=>by
  obtain⟨k,rfl⟩: ∃j,k=j+1:=⟨k-1,by omega⟩
  rfl
theorem T9 : ∀ (m:Nat) (a b:List UInt8),a.length≤m→okU a→okU b→okU (a++b)
  |_,[],b,_,_,hb=>hb
  |0,c::t,b,h,_,_=>by simp at h
  | m+1,c::t,b,h,ha,hb=>fun k hk=>by
    obtain⟨k,rfl⟩: ∃j,k=j+1:=⟨k-1,by omega⟩
    have h1:=ha ((c::t).length+1) (by omega)
    rw[C9]at h1
    cases hd:GY (c::t)with
    |none=>rw[hd]at h1;simp at h1
    | some p=>
      obtain⟨r,n⟩:=p
      obtain⟨e1,e2,_⟩:=JI hd
      have e:c::t++b=(c::t).take n++((c::t).drop n++b):=by rw[←List.append_assoc,List.take_append_drop]
      have hd2:GY (c::(t++b))=some (r,n):=by
        rw[show c::(t++b)=c::t++b from rfl,e];exact Qs hd _
      have hdr:(c::(t++b)).drop n=(c::t).drop n++b:=by
        rw[show c::(t++b)=c::t++b from rfl,List.drop_append_of_le_length e2]
      have hu:okU ((c::t).drop n):=fun q hq=>by
        have h2:=ha (q+n) (by rw[List.length_drop]at hq;omega)
        obtain⟨z,hz⟩: ∃z,q+n=z+1:=⟨q+n-1,by omega⟩
        rw[hz,C9,hd]at h2
        simp only[Option.isSome_map]at h2
        have key: ∀(x:List UInt8) (y w:Nat),x.length<y→x.length<w→C9 y x=C9 w x:=by
          intro x y
          induction y generalizing x with
          |zero=>intro w h;omega
          | succ y ih=>
            intro w hy hw
            obtain⟨w,rfl⟩: ∃j,w=j+1:=⟨w-1,by omega⟩
            cases x with
            |nil=>rfl
            | cons c x=>
              rw[C9,C9]
              cases hd:GY (c::x)with
              |none=>rfl
              | some p=>
                obtain⟨r,n⟩:=p
                obtain⟨e1,e2,_⟩:=JI hd
                simp only[List.length_cons]at hy hw e2
                simp only[]
                rw[ih ((c::x).drop n) w (by rw[List.length_drop,List.length_cons];omega) (by rw[List.length_drop,List.length_cons];omega)]
        rw[key _ q z hq (by rw[List.length_drop]at hq⊢;omega)];exact h2
      rw[List.cons_append,C9,hd2]
      simp only[Option.isSome_map]
      rw[hdr]
      simp only[List.length_cons]at h e2
      exact T9 m _ _ (by rw[List.length_drop,List.length_cons];omega) hu hb k (by
        simp only[List.length_append,List.length_cons]at hk
        rw[List.length_append,List.length_drop,List.length_cons];omega)
theorem Nl{x:List UInt8}{r:Nat} (hx:GY x=some (r,x.length)):okU x:=fun k hk=>by
  obtain⟨e1,e2,_⟩:=JI hx
  cases x with
  |nil=>simp at e1
  | cons c t=>
    obtain⟨k,rfl⟩: ∃j,k=j+1:=⟨k-1,by omega⟩
    rw[C9,hx]
    simp only[Option.isSome_map,List.drop_length]
    exact ACH k (by simp only[List.length_cons]at hk;simp;omega)
theorem un{m:Nat} (h:m<256):(UInt8.ofNat m).toNat=m:=by
  rw[UInt8.toNat_ofNat'];omega
theorem ANM{n:Nat}{a b:UInt8} (h1: ¬n<128) (h2:n<2048) (ha:a.toNat=192+n / 64) (hb:b.toNat=128+n % 64):GY [a,b]=some (n,2):=by
  have c1:DD b=true:=by unfold DD;rw[decide_eq_true_eq];omega
  have e:a.toNat % 32 * 64+b.toNat % 64=n:=by omega
  simp only[GY,e,c1,true_and]
  rw[if_neg (by omega),if_pos (by omega),if_pos (by omega)]
theorem ANK{n:Nat}{a b c:UInt8} (h1: ¬n<2048) (h2:n<65536) (hs: ¬(55296≤n∧n≤57343)) (ha:a.toNat=224+n / 4096) (hb:b.toNat=128+n / 64 % 64) (hc:c.toNat=128+n % 64):GY [a,b,c]=some (n,3):=by
  have c1:DD b=true:=by unfold DD;rw[decide_eq_true_eq];omega
  have c2:DD c=true:=by unfold DD;rw[decide_eq_true_eq];omega
  have e:(a.toNat % 16 * 64+b.toNat % 64) * 64+c.toNat % 64=n:=by omega
  have p:DI (n:Int)=true:=by simp[DI];omega
  simp only[GY,e,c1,c2,p,true_and,and_true]
  rw[if_neg (by omega),if_neg (by omega),if_pos (by omega),if_pos (by omega)]
theorem AM6{n:Nat}{a b c d:UInt8} (h1: ¬n<65536) (h2:n≤1114111) (ha:a.toNat=240+n / 262144) (hb:b.toNat=128+n / 4096 % 64) (hc:c.toNat=128+n / 64 % 64) (hd:d.toNat=128+n % 64):GY [a,b,c,d]=some (n,4):=by
  have c1:DD b=true:=by unfold DD;rw[decide_eq_true_eq];omega
  have c2:DD c=true:=by unfold DD;rw[decide_eq_true_eq];omega
  have c3:DD d=true:=by unfold DD;rw[decide_eq_true_eq];omega
  have e:((a.toNat % 8 * 64+b.toNat % 64) * 64+c.toNat % 64) * 64+d.toNat % 64=n:=by omega
  have p:DI (n:Int)=true:=by simp[DI];omega
  simp only[GY,e,c1,c2,c3,p,true_and,and_true]
  rw[if_neg (by omega),if_neg (by omega),if_neg (by omega),if_pos (by omega),if_pos (by omega)]
theorem ACF{n:Nat} (hn:n≤1114111) (hs: ¬(55296≤n∧n≤57343)):GY (KU n)=some (n,(KU n).length):=by
  unfold KU
  by_cases h1:n<128
  · rw[if_pos h1,NS (by rw[un (by omega)];exact h1),un (by omega)];rfl
  rw[if_neg h1]
  by_cases h2:n<2048
  · rw[if_pos h2];exact ANM h1 h2 (un (by omega)) (un (by omega))
  rw[if_neg h2]
  by_cases h3:n<65536
  · rw[if_pos h3];exact ANK h2 h3 hs (un (by omega)) (un (by omega)) (un (by omega))
  · rw[if_neg h3];exact AM6 h3 hn (un (by omega)) (un (by omega)) (un (by omega)) (un (by omega))
theorem AIs{t:List UInt8} (h:(Ih t).2.2=0):okU (Ih t).1:=by
  cases hu:HZ t with
  | none=>
    rw[MV hu]at h⊢
    match t,h with
    |[],h=>cases h
    |[_],h=>cases h
    | _::c::r,h=>
      simp only[MX]at h⊢
      cases hs:Kb c.toNat with
      |none=>rw[hs]at h;cases h
      | some b=>
        refine Nl (x:=[b]) (r:=b.toNat) (NS ?_)
        generalize c.toNat=q at hs
        unfold Kb at hs
        repeat' split at hs
        all_goals first|(simp only[Option.some.injEq]at hs;subst hs;decide)|cases hs
  | some hi=>
    obtain⟨h1,h2,_⟩:=L8 hu
    rw[MQ hu]at h⊢
    by_cases c1:55296≤hi∧hi≤56319
    · rw [if_pos c1]at h⊢
      cases hu2:HZ (t.drop 6)with
      |none=>rw[hu2]at h;cases h
      | some lo=>
        rw[hu2]at h
        simp only at h⊢
        by_cases c2:56320≤lo∧lo≤57343
        · rw[if_pos c2]
          have q1:Lu hi lo≤1114111:=by unfold Lu;omega
          have q2: ¬(55296≤Lu hi lo∧Lu hi lo≤57343):=by unfold Lu;omega
          generalize Lu hi lo=q at q1 q2⊢
          exact Nl (x:=KU q) (r:=q) (ACF q1 q2)
        · rw[if_neg c2]at h;cases h
    · rw[if_neg c1]at h⊢
      by_cases c2:56320≤hi∧hi≤57343
      · rw[if_pos c2]at h;cases h
      · rw[if_neg c2]
        exact Nl (x:=KU hi) (r:=hi) (ACF (by omega) (by omega))
theorem OX: ∀(k:Nat) (t:List UInt8) (i:Nat) (out:List UInt8),okU out→(Dx k t i out).2.2=0→okU (Dx k t i out).1∧(Dx k t i out).1.length+i+1≤out.length+(Dx k t i out).2.1
  |0,t,i,out,_,h=>by rw[Dx]at h;cases h
  |k+1,[],i,out,_,h=>by rw[Dx]at h;cases h
  | k+1,c::t,i,out,ho,h=>by
    rw[Dx]at h⊢
    by_cases c1:c.toNat=34
    · rw[if_pos c1];exact⟨ho,by simp only[];omega⟩
    rw[if_neg c1]at h⊢
    by_cases c2:c.toNat=92
    · rw[if_pos c2]at h⊢
      by_cases c3:(Ih (c::t)).2.2=0
      · rw[if_pos c3]at h⊢
        obtain⟨e1,e2,e3,e4⟩:=RB c3
        have:=OX k _ _ _ (T9 _ _ _ (Nat.le_refl _) ho (AIs c3)) h
        rw[List.length_append]at this
        exact⟨this.1,by omega⟩
      · rw[if_neg c3]at h;exact absurd h c3
    rw[if_neg c2]at h⊢
    by_cases c3:c.toNat<32
    · rw[if_pos c3]at h;cases h
    rw[if_neg c3]at h⊢
    cases hd:GY (c::t)with
    |none=>rw[hd]at h;cases h
    | some p=>
      obtain⟨r,n⟩:=p
      obtain⟨e1,e2,_⟩:=JI hd
      rw[hd]at h
      simp only at h⊢
      have hx:=Qs hd []
      rw[List.append_nil]at hx
      have hl:((c::t).take n).length=n:=by rw[List.length_take];omega
      have:=OX k _ _ _ (T9 _ _ _ (Nat.le_refl _) ho (Nl (by rw[hl];exact hx))) h
      rw[List.length_append,hl]at this
      exact⟨this.1,by omega⟩
end Go.VM
namespace Go.VM
end Go.VM
namespace Go.VM
theorem Qn: ∀(l:List UInt8) (v:Nat) (c:UInt8),Ey v (l++[c])=Ey v l * 10+FH c.toNat
  |[],v,c=>by rw[List.nil_append,Ey,Ey,Ey]
  |x::l,v,c=>by rw[List.cons_append,Ey,Ey,Qn l]
theorem AGE{d:Nat} (h:d<10):Cu (UInt8.ofNat (48+d))=true∧FH (UInt8.ofNat (48+d)).toNat=d∧(d≠0→((UInt8.ofNat (48+d))==48)=false):=by
  have e:(UInt8.ofNat (48+d)).toNat=48+d:=toNat_ofNat (by omega)
  refine⟨?_,?_,fun hd=>?_⟩
  · unfold Cu;rw[e];simp;omega
  · unfold FH;rw[e,if_pos (by omega)];omega
  · have:UInt8.ofNat (48+d)≠48:=fun h=>by
      have:=congrArg UInt8.toNat h
      rw[e]at this
      have h2:(48:UInt8).toNat=48:=rfl
      omega
    simpa using this
theorem Rc: ∀(k n:Nat) (acc:List UInt8),n<10^k→0<k→ ∃D,Qw k n acc=D++acc∧D.all Cu=true∧(∀v,Ey v D=v * 10^D.length+n)∧D≠ []∧D.length≤k∧(n≠0→ ∃c r,D=c::r∧(c==48)=false)
  |0,n,acc,h,hk=>by omega
  | k+1,n,acc,h,hk=>by
    have hd:n % 10<10:=Nat.mod_lt _ (by decide)
    obtain⟨d1,d2,d3⟩:=AGE hd
    rw[Qw]
    by_cases c:n / 10=0
    · rw[if_pos c]
      refine⟨[UInt8.ofNat (48+n % 10)],rfl,by rw[List.all_cons,d1];rfl,fun v=>?_,by simp,by simp,fun hn=>⟨_,_,rfl,d3 (by omega)⟩⟩
      rw[Ey,Ey,d2]
      simp;omega
    · rw[if_neg c]
      have hk2:0<k:=by
        cases k with
        |zero=>simp at h;omega
        |succ=>omega
      obtain⟨D,e1,e2,e3,e4,e5,e6⟩:=Rc k (n / 10) (UInt8.ofNat (48+n % 10)::acc) (by rw[Nat.pow_succ]at h;omega) hk2
      refine⟨D++[UInt8.ofNat (48+n % 10)],by rw[e1];simp,by rw[List.all_append,e2,List.all_cons,d1];rfl,fun v=>?_,by simp,by simp;omega,fun hn=>?_⟩
      · rw[Qn,e3,d2,List.length_append,List.length_cons,List.length_nil,Nat.pow_succ]
        have e:v * (10^D.length * 10)=v * 10^D.length * 10:=by rw[Nat.mul_assoc]
        rw[e];omega
      · obtain⟨a,r,rfl,ha⟩:=e6 c
        exact⟨a,r++_,rfl,ha⟩
theorem Q5 (n:Nat) (h:n<2^64):(fmtS n).all Cu=true∧Ey 0 (fmtS n)=n∧fmtS n≠ []∧(n≠0→ ∃c r,fmtS n=c::r∧(c==48)=false):=by
  obtain⟨D,e1,e2,e3,e4,e5,e6⟩:=Rc 20 n [] (by omega) (by decide)
  rw[List.append_nil]at e1
  unfold fmtS;rw[e1]
  refine⟨e2,?_,e4,e6⟩
  rw[e3];simp
theorem Zq{set a b:List UInt8} (h:a≠ []):CV set (a++b)=CV set a:=by
  cases a with
  |nil=>exact absurd rfl h
  |cons=>rfl
theorem Yr{k:UInt8}{D:List UInt8} (h:D.all Cu=true) (hk:Cu k=false):CV [k] D=false:=by
  cases D with
  |nil=>rfl
  | cons c D=>
    simp only[List.all_cons,Bool.and_eq_true]at h
    have:=AGO h.1 hk
    show([k]:List UInt8).contains c=false
    simpa using this
theorem TM {s sg W F FR P EX:List UInt8} (h:NumP s sg W F FR P EX) (hW:W=[48]∨ ∃c r,W=c::r∧(c==48)=false) (hF:FR=[]∨F≠ []) (hP:EX=[]∨P≠ []):Cz s=s.length:=by
  have h45:CV [45] (W++(FR++EX))=false:=by rw[Zq h.Wn];exact Yr h.Wd (by decide)
  have hs:Ac s=sg.length:=by
    unfold Ac
    rcases h.sg with e|e
    · rw[h.eq,e,List.nil_append,h45];rfl
    · rw[h.eq,e];rfl
  have d1:s.drop (Ac s)=W++(FR++EX):=by rw[hs,h.eq,List.drop_left]
  have nodig: ∀r:List UInt8,r=[]∨(∃c q,r=c::q∧Cu c=false)→ ∀D:List UInt8,D.all Cu=true→De (D++r)=D.length:=fun r hr D hD=>Ve hD hr
  have hEX:EX=[]∨ ∃c q,EX=c::q∧Cu c=false:=by
    rcases h.ex with⟨e,_⟩|e|e
    · exact .inl e
    · exact .inr ⟨_,_,e,rfl⟩
    · exact .inr ⟨_,_,e,rfl⟩
  have hFE:FR++EX=[]∨ ∃c q,FR++EX=c::q∧Cu c=false:=by
    rcases h.fr with⟨e,_⟩|e
    · rw[e];exact hEX
    · rw[e];exact .inr ⟨_,_,rfl,rfl⟩
  have hi:CY (W++(FR++EX))=W.length:=by
    unfold CY
    rw[Zq h.Wn]
    rcases hW with e|⟨c,r,e,hc⟩
    · rw[e];rfl
    · have:CV [48] W=false:=by
        rw[e];show([48]:List UInt8).contains c=false
        simpa using hc
      rw[this,if_neg (by decide)]
      exact Ve h.Wd hFE
  have hWl:W.length≠0:=fun e=>h.Wn (List.length_eq_zero_iff.1 e)
  have d2:s.drop (Ac s+CY (s.drop (Ac s)))=FR++EX:=by
    rw[←List.drop_drop,d1,hi,List.drop_left]
  have hf:DK (FR++EX)=FR.length:=by
    unfold DK
    rcases h.fr with⟨e,_⟩|e
    · rw[e,List.nil_append]
      have:CV [46] EX=false:=by
        rcases h.ex with⟨e,_⟩|e|e<;>rw[e]<;>rfl
      rw[this,if_neg (by simp)];rfl
    · have hF':F≠ []:=by
        rcases hF with e2|e2
        · rw[e2]at e;cases e
        · exact e2
      have hr:De ((FR++EX).drop 1)=F.length:=by rw[e];exact Ve h.Fd hEX
      have hpos:0<F.length:=List.length_pos_iff.2 hF'
      rw[if_pos ⟨by rw[e];rfl,by rw[hr];exact hpos⟩,hr,e];simp;omega
  have d3:s.drop (Ac s+CY (s.drop (Ac s))+DK (s.drop (Ac s+CY (s.drop (Ac s)))))=EX:=by
    rw[←List.drop_drop,d2,hf,List.drop_left]
  have he:Gp EX=EX.length:=by
    have key: ∀c:UInt8,CV [101,69] (c::P)=true→P≠ []→Gp (c::P)=(c::P).length:=by
      intro c hc hP'
      unfold Gp
      rcases h.pw with e|⟨sn,D,e,hs,hD,hd⟩
      · exact absurd e hP'
      · have hpos:0<D.length:=List.length_pos_iff.2 hD
        have hes:Fg (c::P)=sn.length:=by
          unfold Fg
          show(if CV [43,45] P=true then 1 else 0)=sn.length
          rw[e]
          rcases hs with e|e|e
          · rw [e,List.nil_append]
            have:CV [43,45] D=false:=by
              cases D with
              |nil=>exact absurd rfl hD
              | cons x D=>
                simp only[List.all_cons,Bool.and_eq_true]at hd
                exact UJ hd.1
            rw[this];rfl
          · rw[e];rfl
          · rw[e];rfl
        have hdr:(c::P).drop (1+Fg (c::P))=D:=by
          rw[hes,Nat.add_comm,List.drop_succ_cons,e,List.drop_left]
        have hrun:De D=D.length:=by
          have:=Ve (r:=[]) hd (.inl rfl)
          rwa[List.append_nil]at this
        rw[hdr,hrun,if_pos ⟨hc,hpos⟩,hes,e]
        simp;omega
    rcases h.ex with⟨e,_⟩|e|e
    · rw[e];rfl
    · have hP':P≠ []:=by
        rcases hP with e2|e2
        · rw[e2]at e;cases e
        · exact e2
      rw[e];exact key 101 rfl hP'
    · have hP':P≠ []:=by
        rcases hP with e2|e2
        · rw[e2]at e;cases e
        · exact e2
      rw[e];exact key 69 rfl hP'
  unfold Cz
  rw[d1,hi,if_neg hWl,←hi,←d1,d3,he,d2,hf,d1,hi,hs,h.eq]
  simp only[List.length_append];omega
def AFy (sh:List UInt8):Prop:=sh.all Cu=true∧(∃c r,sh=c::r∧(c==48)=false)∧En (· ==48) sh=sh
theorem AFd{m:List UInt8} (hm:m.all Cu=true) (hz:En (· ==48) (m.dropWhile (· ==48))≠ []):AFy (En (· ==48) (m.dropWhile (· ==48))):=by
  have hd:(m.dropWhile (· ==48)).all Cu=true:=by
    have:=(List.dropWhile_sublist (fun x:UInt8=>x==48) (l:=m)).subset
    simp only[List.all_eq_true]at hm⊢
    exact fun c hc=>hm c (this hc)
  have hhd:m.dropWhile (fun x:UInt8=>x==48)=[]∨ ∃c r,m.dropWhile (fun x:UInt8=>x==48)=c::r∧(c==48)=false:=by
    clear hz hd hm
    induction m with
    |nil=>exact .inl rfl
    | cons c l ih=>
      rw[List.dropWhile_cons]
      cases hc:(c==48)
      · exact .inr ⟨c,l,rfl,hc⟩
      · exact ih
  generalize m.dropWhile (fun x:UInt8=>x==48)=m1 at *
  rcases hhd with rfl|⟨c,r,rfl,hc⟩
  · exact absurd rfl hz
  have key: ∀(n:Nat) (r:List UInt8),r.length=n→(c::r).all Cu=true→ ∃q,En (fun x:UInt8=>x==48) (c::r)=c::q∧(c::q).all Cu=true∧En (fun x:UInt8=>x==48) (c::q)=c::q:=by
    intro n
    induction n with
    | zero=>
      intro r hr hd
      have:r=[]:=List.length_eq_zero_iff.1 hr
      subst this
      exact⟨[],by unfold En;simp[hc],hd,by unfold En;simp[hc]⟩
    | succ n ih=>
      intro r hr hd
      obtain⟨r',y,rfl⟩: ∃l' y,r=l'++[y]:=by
        have hne:r≠ []:=fun e=>by subst e;simp at hr
        exact⟨r.dropLast,r.getLast hne,(List.dropLast_concat_getLast hne).symm⟩
      rw[←List.cons_append,Jl]
      by_cases hy:(y==48)=true
      · rw[if_pos hy]
        refine ih r' (by simpa using hr) ?_
        rw[←List.cons_append,List.all_append,Bool.and_eq_true]at hd
        exact hd.1
      · rw[if_neg hy]
        refine⟨r'++[y],rfl,hd,?_⟩
        rw[←List.cons_append,Jl,if_neg hy]
  obtain⟨q,e1,e2,e3⟩:=key r.length r rfl hd
  rw[e1]
  exact⟨e2,⟨c,q,rfl,hc⟩,e3⟩
def Yb (y:Int):List UInt8:=if y<0 then 45::fmtS (-y).toNat else if y>0 then fmtS y.toNat else []
theorem ABz (y:Int) (hy: -400≤y∧y≤400):Wv (Yb y)∧I1 (2^40) (Yb y)=y∧(Lb y=[]∨Yb y≠ [])∧((Lb y=[]∧Yb y=[])∨Lb y=101::Yb y):=by
  unfold Yb Lb
  by_cases c1:y<0
  · rw[if_pos c1,if_pos c1]
    obtain⟨f1,f2,f3,f4⟩:=Q5 (-y).toNat (by omega)
    refine⟨.inr ⟨[45],_,rfl,.inr (.inr rfl),f3,f1⟩,?_,.inr (by simp),.inr rfl⟩
    unfold I1
    have e:(45::fmtS (-y).toNat).dropWhile ([43,45]:List UInt8).contains=fmtS (-y).toNat:=by
      rw[List.dropWhile_cons,show([43,45]:List UInt8).contains 45=true from rfl,if_pos rfl];exact Kh f1
    rw[e,f2,if_pos (by rfl),Nat.min_eq_left (by omega)];omega
  · rw[if_neg c1,if_neg c1]
    by_cases c2:y>0
    · rw[if_pos c2,if_pos c2]
      obtain⟨f1,f2,f3,f4⟩:=Q5 y.toNat (by omega)
      refine⟨.inr ⟨[],_,rfl,.inl rfl,f3,f1⟩,?_,.inr f3,.inr rfl⟩
      unfold I1
      rw[Kh f1,f2,Yr f1 (by decide),if_neg (by decide),Nat.min_eq_left (by omega)];omega
    · rw[if_neg c2,if_neg c2]
      refine⟨.inl rfl,?_,.inl rfl,.inl ⟨rfl,rfl⟩⟩
      have:y=0:=by omega
      subst this;rfl
theorem WK{sg sh:List UInt8}{y:Int} (h:AFy sh) (hl:sh.length≤40) (hy: -400≤y∧y≤400):GN sg sh y=(sg++sh++Lb y,0):=by
  obtain⟨h1,⟨c,r,e,hc⟩,h3⟩:=h
  have hd:sh.dropWhile (fun x:UInt8=>x==48)=sh:=by rw[e,List.dropWhile_cons,hc];rfl
  have hne:sh≠ []:=by rw[e];simp
  unfold GN
  dsimp only
  rw[hd,h3,if_neg hne,if_neg (by omega),show y+(sh.length:Int)-(sh.length:Int)=y by omega]
theorem XJ{sg sh:List UInt8}{y:Int} (hsg:sg=[]∨sg=[45]) (h:AFy sh) (hy: -400≤y∧y≤400):NumP (sg++sh++Lb y) sg sh [] [] (Yb y) (Lb y)∧Cz (sg++sh++Lb y)=(sg++sh++Lb y).length:=by
  obtain⟨p1,p2,p3,p4⟩:=ABz y hy
  have hp:NumP (sg++sh++Lb y) sg sh [] [] (Yb y) (Lb y):=⟨by simp,hsg,h.1,by obtain⟨c,r,e,_⟩:=h.2.1;rw[e];simp,.inl ⟨rfl,rfl⟩,rfl,by
    rcases p4 with⟨a,b⟩|a
    · exact .inl ⟨a,b⟩
    · exact .inr (.inl a),p1⟩
  exact⟨hp,TM hp (.inr h.2.1) (.inl rfl) p3⟩
theorem QC:NumP [48] [] [48] [] [] [] []:=⟨rfl,.inl rfl,rfl,by simp,.inl ⟨rfl,rfl⟩,rfl,.inl ⟨rfl,rfl⟩,.inl rfl⟩
theorem AFs:Cz [48]=1:=TM QC (.inl rfl) (.inl rfl) (.inl rfl)
theorem ABO (x:Int):GN [] [48] x=([48],0):=rfl
end Go.VM
