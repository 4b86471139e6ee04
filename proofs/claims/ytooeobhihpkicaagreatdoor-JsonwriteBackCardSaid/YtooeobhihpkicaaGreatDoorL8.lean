import Derived.Test.YtooeobhihpkicaaGreatDoorL7
import Derived.Test.YtooeobhihpkicaaGreatDoorRd
import Derived.KernelRfl
set_option linter.unusedVariables false
set_option linter.unusedSimpArgs false
namespace Go.VM
open Classical
def hdL (v:ApiValue):Nat:=if v.kind==6||v.kind==7 then 1 else(wrV v).length
def tkV (v:ApiValue) (p:Nat):ApiToken:=ApiToken.mk (hdT v).kind (hdT v).text p
theorem TL (s:List UInt8):s.length+2≤(Df s).length:=by
  have: ∀l:List UInt8,l.length≤(l.flatMap qB).length:=fun l=>by
    induction l with
    |nil=>simp
    | cons c t ih=>
      have h1:=(ABO c).1
      rw[List.flatMap_cons,List.length_append,List.length_cons];omega
  have:=this s
  unfold Df;simp only[List.length_cons,List.length_append,List.length_nil];omega
theorem wr1:wrV ⟨1,[],[],[]⟩=[110,117,108,108]:=by rw[wrV];rfl
theorem wr2:wrV ⟨2,[],[],[]⟩=[102,97,108,115,101]:=by rw[wrV];rfl
theorem wr3:wrV ⟨3,[],[],[]⟩=[116,114,117,101]:=by rw[wrV];rfl
section
variable{N:Nat}{l:List UInt8}
theorem QN{s:List UInt8} (h:PY N s=true):s≠ []∧EE s=s.length∧Vu N s=(s,0):=by
  have h':=h
  unfold PY at h
  simp only[Bool.and_eq_true,beq_iff_eq]at h
  have e:Vu N s=(s,0):=Prod.ext h.2 h.1
  unfold PY Vu at h'
  by_cases hc2:s≠ []∧EE s=s.length
  · exact⟨hc2.1,hc2.2,e⟩
  · rw[if_neg hc2]at h';simp at h'
theorem AIn{v:ApiValue}{p:Nat} (hs:E9 N v=true){r:List UInt8} (hr:Stop r) (hl:(wrV v).length<N):Rw N p (wrV v++r)=(tkV v p,((p+hdL v:Nat):Int),0):=by
  cases He hs with
  | word k hk=>
    rcases hk with rfl|rfl|rfl
    · unfold tkV hdL;rw[wr1,Qb (by decide) hr];simp[hdT,wr1]
    · unfold tkV hdL;rw[wr2,Qb (by decide) hr];simp[hdT,wr2]
    · unfold tkV hdL;rw[wr3,Qb (by decide) hr];simp[hdT,wr3]
  | num s hn=>
    obtain⟨h1,h2,_⟩:=QN hn
    unfold tkV hdL;rw[wr4,AIZ h1 h2 hr,hd4];simp
  | str s hq=>
    have:=TL s
    rw[wr5]at hl
    unfold tkV hdL;rw[wr5,Sv hq (by omega),hd5];simp
  |arr xs _=>unfold tkV hdL;rw[wr6,List.cons_append,Oj (by decide),hd6];simp
  |obj ks xs _ _ _=>unfold tkV hdL;rw[wr7,List.cons_append,Oj (by decide),hd7];simp
theorem AI1{v:ApiValue} (hs:E9 N v=true): ∃c u,wrV v=c::u∧wsB c=false:=by
  cases He hs with
  | word k hk=>
    rcases hk with rfl|rfl|rfl
    · exact⟨_,_,wr1,by decide⟩
    · exact⟨_,_,wr2,by decide⟩
    · exact⟨_,_,wr3,by decide⟩
  | num s hn=>
    obtain⟨h1,h2,_⟩:=QN hn
    obtain⟨c,r,e,hc⟩:=YN h1 h2
    exact⟨c,r,by rw[wr4,e],(ZX hc).1⟩
  |str s hq=>exact⟨_,_,by rw[wr5];rfl,by decide⟩
  |arr xs _=>exact⟨_,_,wr6,by decide⟩
  |obj ks xs _ _ _=>exact⟨_,_,wr7,by decide⟩
theorem ALd{v:ApiValue}{p:Nat}{c:UInt8} (hs:E9 N v=true) (hc:c=93∨c=125):((tkV v p).kind==2&&(tkV v p).text==[c])=false:=by
  have:(hdT v).kind=2→(hdT v).text=[c]→False:=by
    cases He hs with
    |word k hk=>rcases hk with rfl|rfl|rfl<;>(intro h;simp[hdT]at h)
    |num s hn=>rw[hd4];intro h;simp at h
    |str s hq=>rw[hd5];intro h;simp at h
    |arr xs _=>rw[hd6];intro _ h;rcases hc with rfl|rfl<;>simp at h
    |obj ks xs _ _ _=>rw[hd7];intro _ h;rcases hc with rfl|rfl<;>simp at h
  cases h:((tkV v p).kind==2&&(tkV v p).text==[c])
  · rfl
  · simp only[Bool.and_eq_true,beq_iff_eq]at h;exact(this h.1 h.2).elim
def Pq (l:List UInt8) (i n:Nat):Ref14Parser:=Ref14Parser.mk l i n 0 0
theorem VA{i:Nat}{c:UInt8}{t:List UInt8} (h:l.drop i=c::t):i<l.length:=by
  have:=congrArg List.length h
  simp only[List.length_drop,List.length_cons]at this;omega
theorem Nk{i:Nat}{a b:List UInt8} (h:l.drop i=a++b):l.drop (i+a.length)=b:=by rw[←List.drop_drop,h,List.drop_left]
theorem Lh{i:Nat}{c:UInt8}{t:List UInt8} (h:l.drop i=c::t):l.drop (i+1)=t:=Nk (a:=[c]) h
theorem AB1 (hb:l.length≤2^40) (hN:l.length+10≤N){i j n:Nat}{t:ApiToken} (hi:i≤l.length) (h:Sy N l i=(t,(j:Int),0)):Ba N (Pq l i n)=some (t,Pq l j n):=by
  unfold Ba Pq
  dsimp only
  rw[if_neg (by decide),AZ,AFU hb hN hi,Option.bind_some,h]
  rfl
theorem K4 (hb:l.length≤2^40) (hN:l.length+10≤N){i n:Nat}{c:UInt8}{r:List UInt8} (h:l.drop i=c::r) (hc:Nf.contains c=true) (hw:wsB c=false):Ba N (Pq l i n)=some (ApiToken.mk 2 [c] i,Pq l (i+1) n):=by
  have:=VA h
  refine AB1 hb hN (by omega) ?_
  rw[NH (w:=[]) h Vl (fun c' r' e=>by cases e;exact hw)]
  exact Oj hc
theorem Pp (hb:l.length≤2^40) (hN:l.length+10≤N){i n:Nat}{v:ApiValue}{r:List UInt8} (hs:E9 N v=true) (h:l.drop i=wrV v++r) (hr:Stop r):Ba N (Pq l i n)=some (tkV v i,Pq l (i+hdL v) n):=by
  obtain⟨c,u,e,hw⟩:=AI1 hs
  have h2:=h;rw[e,List.cons_append]at h2
  have:=VA h2
  have hl:=congrArg List.length h
  simp only[List.length_drop,List.length_append]at hl
  refine AB1 hb hN (by omega) ?_
  rw[NH (w:=[]) h Vl (fun c' r' e'=>by rw[e]at e';cases e';exact hw)]
  exact AIn hs hr (by omega)
theorem ABu (hb:l.length≤2^40) (hN:l.length+10≤N){i n:Nat}{s:List UInt8}{r:List UInt8} (hq:(EN N s).isSome=true) (h:l.drop i=Df s++r):Ba N (Pq l i n)=some (ApiToken.mk 3 s i,Pq l (i+(Df s).length) n):=by
  have h2:l.drop i=34::(s.flatMap qB++[34]++r):=h
  have:=VA h2
  have:=TL s
  have hl:=congrArg List.length h
  simp only[List.length_drop,List.length_append]at hl
  refine AB1 hb hN (by omega) ?_
  rw[NH (w:=[]) h Vl (fun c' r' e'=>by have e2:(34:UInt8)::(s.flatMap qB++[34]++r)=c'::r':=e';cases e2;decide)]
  exact Sv hq (by omega)
theorem Ko (t:ApiToken) (c:List UInt8):Ey N t c=some (t.kind==2&&t.text==c):=by
  unfold Ey;split<;>simp_all
def AKx (N:Nat) (l:List UInt8) (e:Nat):Prop:= ∀(v:ApiValue) (D i n d:Nat) (r:List UInt8),Ha v<e→E9 N v=true→l.drop i=wrV v++r→Stop r→2 * e≤D→d+Ha v≤64→n+Hl v≤20000→
  BK N D (Pq l (i+hdL v) n) (tkV v i) (d:Int)=some (v,Pq l (i+(wrV v).length) (n+Hl v))
theorem Rb (hb:l.length≤2^40) (hN:l.length+10≤N){e D:Nat} (ih:AKx N l e) (hD:2 * e≤D) (d:Nat) (k6:ApiToken×List ApiValue×Ref14Parser→Option (ApiValue×Ref14Parser)): ∀(xs:List ApiValue) (x:ApiValue) (dn:List ApiValue) (k i n:Nat) (r:List UInt8),DW (x::xs)<e→(∀y,y∈x::xs→E9 N y=true)→l.drop i=wrV x++(wrI false xs++93::r)→d+DW (x::xs)≤64→n+Ce (x::xs)≤20000→dn.length+xs.length+1≤1000000→xs.length<k→
    Cv N (d:Int) (BK N D) k6 k (tkV x i) dn (Pq l (i+hdL x) n)=some (⟨6,[],[],dn++x::xs⟩,Pq l (i+(wrV x++wrI false xs).length+1) (n+Ce (x::xs)))
  |xs,x,dn,0,i,n,r,_,_,_,_,_,_,hk=>by omega
  | xs,x,dn,k+1,i,n,r,he,hs,h,hd,hc,hl,hk=>by
    simp only[DW,Ce]at he hd hc⊢
    have h1:=Nk h
    rw[Cv,if_pos (by rfl),AZ,ih x D i n d _ (by omega) (hs x (by simp)) h (AEp xs r) hD (by omega) (by omega),Option.bind_some,AY (V6 (by omega))]
    dsimp only[AZ]
    cases xs with
    | nil=>
      rw[wrI]at h1⊢
      rw[K4 hb hN h1 (by decide) (by decide),Option.bind_some,Ko,Option.bind_some,if_pos (by rfl)]
      simp[Ce]
    | cons y ys=>
      rw[wrI]at h1⊢
      simp only[Bool.false_eq_true,if_false,List.append_assoc,List.cons_append,List.nil_append]at h1
      rw[K4 hb hN h1 (by decide) (by decide),Option.bind_some,Ko,Option.bind_some,if_neg (by exact Bool.false_ne_true),if_pos (by rfl),Ko,Option.bind_some,if_neg (by exact Bool.false_ne_true)]
      have h2:=Lh h1
      rw[Pp hb hN (hs y (by simp)) h2 (AEp ys r),Option.bind_some]
      simp only[Ce,DW,List.length_cons]at hc hd he hl hk
      rw[Rb hb hN ih hD d k6 ys y (dn++[x]) k _ _ r (by simp only[DW];omega) (fun z hz=>hs z (by simp only[List.mem_cons]at hz⊢;exact .inr hz)) h2 (by simp only[DW];omega) (by simp only[Ce];omega) (by simp only[List.length_append,List.length_cons,List.length_nil];omega) (by omega)]
      have e1:i+(wrV x).length+1+(wrV y++wrI false ys).length+1=i+(wrV x++((if false=true then []else [44])++(wrV y++wrI false ys))).length+1:=by simp only[Bool.false_eq_true,if_false,List.length_append,List.length_cons,List.length_nil];omega
      have e2:n+Hl x+Ce (y::ys)=n+(Hl x+Ce (y::ys)):=by omega
      rw[e1,e2,List.append_assoc];rfl
theorem Na (hb:l.length≤2^40) (hN:l.length+10≤N){e D:Nat} (ih:AKx N l e) (hD:2 * e≤D) (d:Nat) (k6:ApiToken×List (List UInt8)×List ApiValue×Ref14Parser→Option (ApiValue×Ref14Parser)): ∀(ks:List (List UInt8)) (xs:List ApiValue) (c:List UInt8) (x:ApiValue) (dk:List (List UInt8)) (dn:List ApiValue) (k i n:Nat) (r:List UInt8),DW (x::xs)<e→(∀y,y∈x::xs→E9 N y=true)→(∀y,y∈c::ks→(EN N y).isSome=true)→ks.length=xs.length→dk.length=dn.length→(dk++c::ks).Nodup→l.drop i=Df c++(58::(wrV x++(wrM false ks xs++125::r)))→d+DW (x::xs)≤64→n+Ce (x::xs)≤20000→dn.length+xs.length+1≤1000000→xs.length<k→
    Cs N (d:Int) (BK N D) k6 k (ApiToken.mk 3 c i) dk dn (Pq l (i+(Df c).length) n)=some (⟨7,[],dk++c::ks,dn++x::xs⟩,Pq l (i+(Df c++58::(wrV x++wrM false ks xs)).length+1) (n+Ce (x::xs)))
  |ks,xs,c,x,dk,dn,0,i,n,r,_,_,_,_,_,_,_,_,_,_,hk=>by omega
  | ks, xs,c,x,dk,dn,k+1,i,n,r,he,hs,hq,hkx,hdk,hnd,h,hd,hc,hl,hk=>by
    simp only[DW,Ce]at he hd hc⊢
    have h1:=Nk h
    have h2:=Lh h1
    have h3:=Nk h2
    have hget:(Xz (ApiValue.mk 7 [] dk dn) c).2=false:=by
      unfold Xz
      rw[if_pos (by rfl)]
      dsimp only
      rw[Pv hdk]
      have:c∉dk:=fun hm=>by
        rw[List.nodup_append]at hnd
        exact hnd.2.2 c hm c (by simp) rfl
      simp[this]
    rw[Cs,if_pos (by rfl)]
    dsimp only[AZ]
    rw[if_neg (by exact Bool.false_ne_true),Uw _ _ (by dsimp only;omega),Option.bind_some,hget,if_neg (by exact Bool.false_ne_true)]
    rw[K4 hb hN h1 (by decide) (by decide),Option.bind_some,if_pos (by rfl),Ko,Option.bind_some,if_neg (by exact Bool.false_ne_true)]
    dsimp only
    rw[Pp hb hN (hs x (by simp)) h2 (AJq ks xs r),Option.bind_some]
    dsimp only
    rw[ih x D _ n d _ (by omega) (hs x (by simp)) h2 (AJq ks xs r) hD (by omega) (by omega),Option.bind_some,AY (by unfold Ez;omega),AY (V6 (by omega))]
    dsimp only
    cases xs with
    | nil=>
      obtain rfl:ks=[]:=List.length_eq_zero_iff.1 hkx
      have em:wrM false [] []=[]:=by rw[wrM];intros;simp_all
      rw[em]at h3⊢
      rw[K4 hb hN h3 (by decide) (by decide),Option.bind_some,Ko,Option.bind_some,if_pos (by rfl)]
      have e1:i+(Df c).length+1+(wrV x).length+1=i+(Df c++58::(wrV x++[])).length+1:=by simp only[List.length_append,List.length_cons,List.length_nil];omega
      rw[e1];simp[Ce]
    | cons y ys=>
      cases ks with
      |nil=>simp at hkx
      | cons c2 ks=>
        rw[wrM]at h3⊢
        simp only[Bool.false_eq_true,if_false,List.append_assoc,List.cons_append,List.nil_append]at h3
        rw[K4 hb hN h3 (by decide) (by decide),Option.bind_some,Ko,Option.bind_some,if_neg (by exact Bool.false_ne_true),if_pos (by rfl),Ko,Option.bind_some,if_neg (by exact Bool.false_ne_true)]
        have h4:=Lh h3
        rw[ABu hb hN (hq c2 (by simp)) h4,Option.bind_some]
        simp only[Ce,DW,List.length_cons]at hc hd he hl hk hkx
        rw[Na hb hN ih hD d k6 ks ys c2 y (dk++[c]) (dn++[x]) k _ _ r (by simp only[DW];omega) (fun z hz=>hs z (by simp only[List.mem_cons]at hz⊢;exact .inr hz)) (fun z hz=>hq z (by simp only[List.mem_cons]at hz⊢;exact .inr hz)) (by omega) (by simp[hdk]) (by simpa using hnd) h4 (by simp only[DW];omega) (by simp only[Ce];omega) (by simp only[List.length_append,List.length_cons,List.length_nil];omega) (by omega)]
        have e1:i+(Df c).length+1+(wrV x).length+1+(Df c2++58::(wrV y++wrM false ks ys)).length+1=i+(Df c++58::(wrV x++((if false=true then []else [44])++(Df c2++58::(wrV y++wrM false ks ys))))).length+1:=by simp only[Bool.false_eq_true,if_false,List.length_append,List.length_cons,List.length_nil];omega
        have e2:n+Hl x+Ce (y::ys)=n+(Hl x+Ce (y::ys)):=by omega
        rw[e1,e2,List.append_assoc,List.append_assoc];rfl
theorem Jn{D j n d:Nat}{t:ApiToken}{v:ApiValue} (hD:1≤D) (hn:n+1≤20000) (hk:(t.kind=3∧v=⟨5,t.text,[],[]⟩)∨(t.kind=4∧v=⟨4,t.text,[],[]⟩∧D6 N t.text=some (t.text,0))∨(t.kind=5∧Hr N t.text=some v.kind∧v=⟨v.kind,[],[],[]⟩)):
    BK N D (Pq l j n) t (d:Int)=some (v,Pq l j (n+1)):=by
  obtain⟨D,rfl⟩: ∃k,D=k+1:=⟨D-1,by omega⟩
  have hw:wr .i64 ((n:Int)+1)=((n+1:Nat):Int):=by rw[Ai (by omega)];omega
  have hg: ¬((20000:Int)<(n:Int)+1):=by omega
  rw[BK]
  simp only[AZ,Pq,Ko,Option.bind_some]
  rcases hk with⟨h,rfl⟩|⟨h,rfl,h2⟩|⟨h,h2,h3⟩
  · simp[h,hw,hg]
  · simp[h,hw,hg,h2]
  · simp[h,hw,hg,h2];exact h3.symm
theorem WO{α β:Type} (x:Option (α×β)):(x.bind fun y=>some (y.1,y.2))=x:=by cases x<;>rfl
theorem Rj{D i j n d:Nat}{c:UInt8} (hc:c=91∨c=123) (hn:n+1≤20000) (hd:d<64):
    BK N (D+1) (Pq l j n) (ApiToken.mk 2 [c] i) (d:Int)=if c=91 then EP N D (Pq l j (n+1)) ((d+1:Nat):Int)else D8 N D (Pq l j (n+1)) ((d+1:Nat):Int):=by
  have hw:wr .i64 ((n:Int)+1)=((n+1:Nat):Int):=by rw[Ai (by omega)];omega
  have hw2:wr .i64 ((d:Int)+1)=((d+1:Nat):Int):=by rw[Ai (by omega)];omega
  have hg: ¬((20000:Int)<(n:Int)+1):=by omega
  have h64: ¬(d:Int)=64:=by omega
  rw[BK]
  simp only[AZ,Pq,Ko,Option.bind_some]
  rcases hc with rfl|rfl
  · simp[hw,hw2,hg,h64,WO]
  · simp[hw,hw2,hg,h64,WO]
theorem Ym (hb:l.length≤1048576) (hN:l.length+2000000≤N): ∀e:Nat,AKx N l e
  |0=>fun v D i n d r h=>by omega
  | e+1=>fun v D i n d r he hs h hr hD hd hc=>by
    have ih:=Ym hb hN e
    have hb':l.length≤2^40:=by omega
    have hll:=congrArg List.length h
    simp only[List.length_drop,List.length_append]at hll
    have hn:=Nw v
    cases He hs with
    | word k hk=>
      rcases hk with rfl|rfl|rfl
      · rw[show hdL ⟨1,[],[],[]⟩=(wrV ⟨1,[],[],[]⟩).length from rfl];exact Jn (by omega) (by omega) (.inr (.inr ⟨rfl,by show Hr N (wrV ⟨1,[],[],[]⟩)=_;rw[wr1];rfl,rfl⟩))
      · rw[show hdL ⟨2,[],[],[]⟩=(wrV ⟨2,[],[],[]⟩).length from rfl];exact Jn (by omega) (by omega) (.inr (.inr ⟨rfl,by show Hr N (wrV ⟨2,[],[],[]⟩)=_;rw[wr2];rfl,rfl⟩))
      · rw[show hdL ⟨3,[],[],[]⟩=(wrV ⟨3,[],[],[]⟩).length from rfl];exact Jn (by omega) (by omega) (.inr (.inr ⟨rfl,by show Hr N (wrV ⟨3,[],[],[]⟩)=_;rw[wr3];rfl,rfl⟩))
    | num s hnu=>
      rw[wr4]at hll⊢
      have hL:hdL ⟨4,s,[],[]⟩=s.length:=by unfold hdL;rw[if_neg (by simp),wr4]
      rw[hL]
      exact Jn (by omega) (by omega) (.inr (.inl ⟨rfl,rfl,by show D6 N s=some (s,0);rw[(ABY s (by omega) (by omega)).1,(QN hnu).2.2]⟩))
    | str s hq=>
      have hL:hdL ⟨5,s,[],[]⟩=(wrV ⟨5,s,[],[]⟩).length:=by unfold hdL;rw[if_neg (by simp)]
      rw[hL]
      exact Jn (by omega) (by omega) (.inl ⟨rfl,rfl⟩)
    | arr xs hxs=>
      rw[wr6]at h hll⊢
      rw[List.cons_append,List.append_assoc]at h
      rw[JK]at he hd
      rw[I4]at hc⊢
      simp only[beq_self_eq_true,Bool.true_or,if_true]at he hd
      simp only at hc
      obtain⟨D,rfl⟩: ∃k,D=k+2:=⟨D-2,by omega⟩
      rw[show hdL ⟨6,[],[],xs⟩=1 from rfl,show tkV ⟨6,[],[],xs⟩ i=ApiToken.mk 2 [91] i by unfold tkV;rw[hd6],Rj (.inl rfl) (by omega) (by omega),if_pos rfl]
      have h1:=Lh h
      rw[EP]
      cases xs with
      | nil=>
        rw[wrI]at h1⊢
        rw[K4 hb' (by omega) h1 (by decide) (by decide),Option.bind_some,Ko,Option.bind_some,if_pos (by rfl)]
        simp[Ce]
      | cons x xs=>
        rw[wrI]at h1⊢
        simp only[if_true,List.append_assoc,List.nil_append]at h1
        have hcnt:(x::xs).length≤Ce (x::xs):=by
          have: ∀zs:List ApiValue,zs.length≤Ce zs:=fun zs=>by
            induction zs with
            |nil=>simp
            |cons z zs ihz=>have:=Nw z;rw[Ce,List.length_cons];omega
          exact this _
        simp only[List.length_cons]at hcnt
        rw[Pp hb' (by omega) (hxs x (by simp)) h1 (AEp xs r),Option.bind_some,Ko,Option.bind_some,ALd (hxs x (by simp)) (.inl rfl),if_neg (by decide),AZ]
        rw[Rb hb' (by omega) ih (by omega) (d+1) _ xs x [] N _ _ r (by omega) hxs h1 (by omega) (by omega) (by simp only[List.length_nil];omega) (by omega)]
        have e1:i+1+(wrV x++wrI false xs).length+1=i+(91::((if true=true then []else [44])++(wrV x++wrI false xs)++[93])).length:=by simp only[if_true,List.length_append,List.length_cons,List.length_nil];omega
        have e2:n+1+Ce (x::xs)=n+(1+Ce (x::xs)):=by omega
        rw[e1,e2];rfl
    | obj ks xs hl hdk hxs=>
      rw[wr7]at h hll⊢
      rw[List.cons_append,List.append_assoc]at h
      rw[JK]at he hd
      rw[I4]at hc⊢
      simp only[beq_self_eq_true,Bool.or_true,if_true]at he hd
      simp only at hc
      obtain⟨D,rfl⟩: ∃k,D=k+2:=⟨D-2,by omega⟩
      rw[show hdL ⟨7,[],ks,xs⟩=1 from rfl,show tkV ⟨7,[],ks,xs⟩ i=ApiToken.mk 2 [123] i by unfold tkV;rw[hd7],Rj (.inr rfl) (by omega) (by omega),if_neg (by decide)]
      have h1:=Lh h
      rw[D8]
      cases xs with
      | nil=>
        obtain rfl:ks=[]:=List.length_eq_zero_iff.1 hl
        have em:wrM true [] []=[]:=by rw[wrM];intros;simp_all
        rw[em]at h1⊢
        rw[K4 hb' (by omega) h1 (by decide) (by decide),Option.bind_some,Ko,Option.bind_some,if_pos (by rfl)]
        simp[Ce]
      | cons x xs=>
        cases ks with
        |nil=>simp at hl
        | cons c ks=>
          rw[wrM]at h1⊢
          simp only[if_true,List.append_assoc,List.nil_append,List.cons_append]at h1
          have hcnt:(x::xs).length≤Ce (x::xs):=by
            have: ∀zs:List ApiValue,zs.length≤Ce zs:=fun zs=>by
              induction zs with
              |nil=>simp
              |cons z zs ihz=>have:=Nw z;rw[Ce,List.length_cons];omega
            exact this _
          simp only[List.length_cons]at hcnt hl
          rw[ABu hb' (by omega) (Og hdk c (by simp)) h1,Option.bind_some,Ko,Option.bind_some,if_neg (by exact Bool.false_ne_true),AZ]
          rw[Na hb' (by omega) ih (by omega) (d+1) _ ks xs c x [] [] N _ _ r (by omega) hxs (Og hdk) (by omega) rfl (by simpa using JD hdk) h1 (by omega) (by omega) (by simp only[List.length_nil];omega) (by omega)]
          have e1:i+1+(Df c++58::(wrV x++wrM false ks xs)).length+1=i+(123::((if true=true then []else [44])++(Df c++58::(wrV x++wrM false ks xs))++[125])).length:=by simp only[if_true,List.length_append,List.length_cons,List.length_nil];omega
          have e2:n+1+Ce (x::xs)=n+(1+Ce (x::xs)):=by omega
          rw[e1,e2];rfl
theorem AC4{v:ApiValue} (hb:(wrV v).length≤1048576) (hN:4000000≤N) (hs:E9 N v=true) (hn:Ha v≤64) (hc:Hl v≤20000):IE N (wrV v)=some (v,((wrV v).length:Int),0):=by
  have hd:(wrV v).drop 0=wrV v++[]:=by simp
  have hb':(wrV v).length≤2^40:=by omega
  unfold IE
  rw[if_neg (by simp;omega),show Ref14Parser.mk (wrV v) 0 0 0 0=Pq (wrV v) 0 0 from rfl,Pp hb' (by omega) hs hd Wv,Option.bind_some]
  dsimp only
  rw[show(0:Int)=((0:Nat):Int)from rfl,Ym hb (by omega) (Ha v+1) v N 0 0 0 [] (by omega) hs hd Wv (by omega) (by omega) (by omega),Option.bind_some]
  have he:Sy N (wrV v) (0+(wrV v).length)=(ApiToken.mk 1 [] ((wrV v).length:Int),(((wrV v).length:Nat):Int),0):=by
    rw[NH (w:=[]) (t:=[]) (by simp) Vl (fun c r e=>by cases e)]
    simp[Rw]
  dsimp only[AZ]
  rw[AB1 hb' (by omega) (by omega) he,Option.bind_some,if_pos (by rfl),if_neg (by exact Bool.false_ne_true),if_neg (by exact Bool.false_ne_true)]
end
end Go.VM
namespace Go.VM
open Classical
theorem Qk{x:ApiValue}: ∀ {xs:List ApiValue},x∈xs→Ha x≤DW xs
  | y::xs,h=>by
    rw[DW]
    rcases List.mem_cons.1 h with rfl|h
    · omega
    · have:=Qk h;omega
theorem Rf{N:Nat}: ∀(e:Nat) (v:ApiValue),Ha v<e→E9 N v=true→CF (CF v)=CF v
  |0,v,h,_=>by omega
  | e+1,v,h,hs=>by
    rw[JK]at h
    cases He hs with
    |word k hk=>rw[Cq (by omega)];exact Cq (by omega)
    |num s _=>rw[Cq (by decide)];exact Cq (by decide)
    |str s _=>rw[Cq (by decide)];exact Cq (by decide)
    | arr xs hx=>
      simp only[beq_self_eq_true,Bool.true_or,if_true]at h
      rw[KF,KF,List.map_map]
      congr 1
      exact List.map_congr_left fun x hm=>Rf (N:=N) e x (by have:=Qk hm;omega) (hx x hm)
    | obj ks xs hl hd hx=>
      simp only[beq_self_eq_true,Bool.or_true,if_true]at h
      rw[KE,KE,Mr (D5 ks),OO _ _ (by simp) ((D5 ks).nodup_iff.2 (JD hd)),List.map_map]
      congr 1
      refine List.map_congr_left fun k hk=>?_
      obtain⟨x,h1,_,h3⟩:=MJ CF ks xs k hl ((D5 ks).mem_iff.1 hk)
      show CF (Gn ks (xs.map CF) k).1=_
      rw[h3]
      exact Rf (N:=N) e x (by have:=Qk h1;omega) (hx x h1)
theorem AJI:Ky 1099511627776=some true:=by kernel_rfl
theorem NE (v:ApiValue) (_:okApiValue v):Fz 1099511627776 v=some true:=by
  unfold Fz
  rw[AJI,Option.bind_some,if_pos rfl]
  obtain⟨b,e1,hb⟩:=AGF (N:=1099511627776) (by omega) v 80 (by omega)
  rw[show(80:Int)=((80:Nat):Int)from rfl,e1,Option.bind_some]
  cases b
  · rfl
  rw[if_pos rfl]
  obtain⟨hv,nv⟩:=hb rfl
  have len:E9 1099511627776 v=true→(wrV (CF v)).length≤1048576:=fun k3=>by
    obtain⟨o1,o2,o3,o4⟩:=NI (N:=1099511627776) 70 v hv k3
    have:=ABL (N:=1099511627776) 70 (CF v) o1 o2
    omega
  rw[ADo (N:=1099511627776) (by omega) hv (by omega) len,Option.bind_some]
  cases hc:VL 1099511627776 v
  · rfl
  have hc':=hc
  unfold VL at hc'
  rw[Bool.and_eq_true,decide_eq_true_eq]at hc'
  obtain⟨hn,hs⟩:=hc'
  obtain⟨o1,o2,o3,o4⟩:=NI (N:=1099511627776) 70 v hv hs
  rw[if_pos rfl,if_neg (by exact Bool.false_ne_true)]
  dsimp only
  rw[AC4 (N:=1099511627776) (len hs) (by omega) o2 (by omega) (by omega),Option.bind_some,if_pos (by rfl),if_pos (beq_self_eq_true _)]
  rw[ADr (N:=1099511627776) (by omega) hv (by omega),hc,if_pos rfl,Option.bind_some]
  dsimp only
  rw[Sn (N:=1099511627776) 1099511627776 70 _ (okW.d o1) (by omega),Option.bind_some,if_pos rfl]
  rw[Q5 (N:=1099511627776) (by omega) 1099511627776 70 v (CF v) hv o1 (by omega) hs o2,Option.bind_some,Rf (N:=1099511627776) (Ha v+1) v (by omega) hs]
  simp
end Go.VM
