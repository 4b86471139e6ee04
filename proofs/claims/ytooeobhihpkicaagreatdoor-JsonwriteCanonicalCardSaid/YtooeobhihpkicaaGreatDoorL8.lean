import Derived.Test.YtooeobhihpkicaaGreatDoorL7
import Derived.Test.YtooeobhihpkicaaGreatDoorRd
import Derived.KernelRfl
set_option linter.unusedVariables false
set_option linter.unusedSimpArgs false
namespace Go.VM
section
variable{N:Nat}
theorem PU{x:List UInt8}{sg W F FR P EX:List UInt8} (h:NumP x sg W F FR P EX) (hn:Cz x=x.length) (hl:x.length≤100) (hN:2000≤N) (hc:GN sg (W++F) (I1 (2^40) P-F.length)=(x,0)):KY N x=true:=by
  have hne:x≠ []:=fun e=>by
    have:=h.eq;rw[e]at this
    have h2:=h.Wn
    simp at this
    exact h2 (by simp_all)
  unfold KY OC
  rw[if_pos ⟨hne,hn⟩]
  unfold Ut
  rw[UL h hn (by omega) (by omega),hc]
  simp
theorem AGV{s x:List UInt8} (hb:s.length≤100000) (hN:s.length+2000≤N) (h:OC N s=(x,0)):KY N x=true∧x.length≤70:=by
  unfold OC at h
  by_cases hc:s≠ []∧Cz s=s.length
  · rw [if_pos hc]at h
    obtain⟨hne,hnum⟩:=hc
    obtain⟨sg,W,F,FR,P,EX,hp⟩:=OI hne hnum
    obtain⟨l1,l2,l3⟩:=hp.len
    unfold Ut at h
    rw[UL hp hnum (by omega) (by omega),Option.getD_some]at h
    have hm:(W++F).all Cu=true:=by rw[List.all_append,hp.Wd,hp.Fd];rfl
    generalize hx:I1 (2^40) P-(F.length:Int)=y at h
    by_cases hz:En (fun x:UInt8=>x==48) ((W++F).dropWhile (fun x:UInt8=>x==48))=[]
    · have hc:GN sg (W++F) y=([48],0):=by unfold GN;dsimp only;rw[if_pos hz]
      rw[hc]at h
      cases h
      exact⟨PU QC AFs (by simp) (by omega) (ABO _),by simp⟩
    · have ht:=AFd hm hz
      have hc:GN sg (W++F) y=if(En (fun x:UInt8=>x==48) ((W++F).dropWhile (fun x:UInt8=>x==48))).length>40∨y+((W++F).dropWhile (fun x:UInt8=>x==48)).length-(En (fun x:UInt8=>x==48) ((W++F).dropWhile (fun x:UInt8=>x==48))).length< -400∨y+((W++F).dropWhile (fun x:UInt8=>x==48)).length-(En (fun x:UInt8=>x==48) ((W++F).dropWhile (fun x:UInt8=>x==48))).length>400 then([],144)else(sg++En (fun x:UInt8=>x==48) ((W++F).dropWhile (fun x:UInt8=>x==48))++Lb (y+((W++F).dropWhile (fun x:UInt8=>x==48)).length-(En (fun x:UInt8=>x==48) ((W++F).dropWhile (fun x:UInt8=>x==48))).length),0):=by
        unfold GN;dsimp only;rw[if_neg hz]
      rw[hc]at h
      generalize En (fun x:UInt8=>x==48) ((W++F).dropWhile (fun x:UInt8=>x==48))=sh at *
      generalize y+(((W++F).dropWhile (fun x:UInt8=>x==48)).length:Int)-(sh.length:Int)=z at *
      by_cases hb:sh.length>40∨z< -400∨z>400
      · rw[if_pos hb]at h;cases h
      · rw [if_neg hb]at h
        have hy: -400≤z∧z≤400:=by omega
        obtain⟨p1,p2⟩:=XJ hp.sg ht hy
        simp only[Prod.mk.injEq,and_true]at h
        subst h
        have hlen:(sg++sh++Lb z).length≤70:=by
          have f:=QZ
          have hsg:sg.length≤1:=by rcases hp.sg with e|e<;>rw[e]<;>simp
          have:(Lb z).length≤22:=by
            unfold Lb
            have:=f (-z).toNat
            have:=f z.toNat
            split
            · simp;omega
            · split
              · simp;omega
              · simp
          simp only[List.length_append]
          omega
        refine⟨PU p1 p2 (by omega) (by omega) ?_,hlen⟩
        rw[List.append_nil,(ABz z hy).2.1]
        have:=WK (sg:=sg) ht (by omega) hy
        simpa using this
  · rw[if_neg hc]at h;simp at h
end
end Go.VM
namespace Go.VM
open Classical
def TW (t:ApiToken) (w:Nat):Prop:=(t.kind=1∨1≤w)∧(t.kind=3→okU t.text∧t.text.length+2≤w)∧(t.kind=4→t.text≠ []∧Cz t.text=t.text.length∧t.text.length≤w)∧(t.kind=5→isWord t.text=true)
theorem TW.fin{t:ApiToken}{w:Nat} (h:t.kind=1):TW t w:=⟨.inl h,fun e=>by omega,fun e=>by omega,fun e=>by omega⟩
theorem TW.pun{t:ApiToken}{w:Nat} (h:t.kind=2) (hw:1≤w):TW t w:=⟨.inr hw,fun e=>by omega,fun e=>by omega,fun e=>by omega⟩
theorem TW.txt{t:ApiToken}{w:Nat} (h:t.kind=3) (hw:1≤w) (h1:okU t.text) (h2:t.text.length+2≤w):TW t w:=⟨.inr hw,fun _=>⟨h1,h2⟩,fun e=>by omega,fun e=>by omega⟩
theorem TW.num{t:ApiToken}{w:Nat} (h:t.kind=4) (hw:1≤w) (h1:t.text≠ []) (h2:Cz t.text=t.text.length) (h3:t.text.length≤w):TW t w:=⟨.inr hw,fun e=>by omega,fun _=>⟨h1,h2,h3⟩,fun e=>by omega⟩
theorem TW.wrd{t:ApiToken}{w:Nat} (h:t.kind=5) (hw:1≤w) (h1:isWord t.text=true):TW t w:=⟨.inr hw,fun e=>by omega,fun e=>by omega,fun _=>h1⟩
section
variable{N:Nat}{l:List UInt8}
theorem AIv{i:Nat} (hi:i≤l.length) (he:(M4 N l i).2.2=0): ∃t,∃j:Nat,M4 N l i=(t,(j:Int),0)∧i≤j∧j≤l.length∧TW t (j-i):=by
  unfold M4 at he⊢
  have hw:=Kc wsB (l.drop i)
  rw[List.length_drop]at hw
  generalize hp:i+((l.drop i).takeWhile wsB).length=p at he⊢
  obtain⟨t,ht⟩: ∃t,l.drop p=t:=⟨_,rfl⟩
  have hl:p+t.length=l.length:=by rw[←ht,List.length_drop];omega
  rw[ht]at he⊢
  match t,hl,he with
  |[],hl,he=>exact⟨_,p,rfl,by omega,by simp at hl;omega,.fin rfl⟩
  | c::r,hl,he=>
    simp only[List.length_cons]at hl
    rw[Ja]at he⊢
    by_cases h1:Mx.contains c=true
    · rw[if_pos h1];exact⟨_,p+1,rfl,by omega,by omega,.pun rfl (by omega)⟩
    rw[if_neg h1]at he⊢
    by_cases h2:c.toNat=34
    · rw[if_pos h2]at he⊢
      by_cases h3:(Dx N r (p+1) []).2.2=0
      · rw[if_pos h3]
        have a:=RI N r (p+1) [] h3
        have b:=OX N r (p+1) [] ACH h3
        have b2:=b.2
        simp only[List.length_nil]at b2
        exact⟨_,_,rfl,by omega,by have:=a.2.1;omega,.txt rfl (by omega) b.1 (by simp only[];omega)⟩
      · rw[if_neg h3]at he;exact absurd he h3
    rw[if_neg h2]at he⊢
    by_cases h3:(([45]:List UInt8).contains c||Cu c)=true
    · rw[if_pos h3]at he⊢
      by_cases h4:Cz (c::r)=0
      · rw[if_pos h4]at he;cases he
      · rw[if_neg h4]
        have hle:=P6 (c::r)
        simp only[List.length_cons]at hle
        have hlen:((c::r).take (Cz (c::r))).length=Cz (c::r):=by rw[List.length_take];simp only[List.length_cons];omega
        exact⟨_,_,rfl,by omega,by omega,.num rfl (by omega) (fun e=>h4 (by rw[←hlen];exact congrArg List.length e)) (by simp only[];rw[hlen,ADA]) (by simp only[];rw[hlen];omega)⟩
    rw[if_neg h3]at he⊢
    by_cases h4:isWord ((c::r).takeWhile Eb)=true
    · rw[if_pos h4]
      have:=Kc Eb (c::r)
      simp only[List.length_cons]at this
      have hpos:0<((c::r).takeWhile Eb).length:=by
        rcases Nat.eq_zero_or_pos ((c::r).takeWhile Eb).length with e|e
        · rw[List.length_eq_zero_iff.1 e]at h4;simp[isWord]at h4
        · exact e
      exact⟨_,_,rfl,by omega,by omega,.wrd rfl (by omega) h4⟩
    · rw[if_neg h4]at he;cases he
def AMh:ApiToken:=ApiToken.mk 0 [] 0
theorem Hq (p:Ref14Parser) (a e:Int) (he:e≠0):Ok (BZ N p a e) fun q=>q.fail≠0:=by
  unfold BZ
  by_cases h:p.fail=0
  · rw[if_pos (by simpa using h)];exact Ok.ret he
  · rw[if_neg (by simpa using h)];exact Ok.ret h
theorem MF{p:Ref14Parser} (h:p.fail≠0):A9 N p=some (AMh,p):=by
  unfold A9;rw[if_pos (by simpa using h)];rfl
theorem Mo (hb:l.length≤2^40) (hN:l.length+10≤N){i:Nat} (n:Nat) (hi:i≤l.length):Ok (A9 N (Pq l i n)) fun r=>(r.2.fail≠0∧r.1=AMh)∨ ∃j,r.2=Pq l j n∧i≤j∧j≤l.length∧TW r.1 (j-i):=by
  by_cases he:(M4 N l i).2.2=0
  · obtain⟨t,j,e,h1,h2,h3⟩:=AIv hi he
    rw[Wq hb hN hi e]
    exact Ok.ret (.inr ⟨j,rfl,h1,h2,h3⟩)
  · unfold A9 Pq
    dsimp only
    rw[if_neg (by decide),AR,Xb hb hN hi,Option.bind_some]
    dsimp only
    rw[if_pos (by simpa using he)]
    exact Ok.bind (Hq _ _ _ he) fun q hq=>Ok.ret (.inl ⟨hq,rfl⟩)
theorem Un{D:Nat}{p:Ref14Parser}{t:ApiToken}{d:Int} (h:p.fail≠0) (hD:1≤D):Ok (Ao N D p t d) fun r=>r.2.fail≠0:=by
  obtain⟨D,rfl⟩: ∃k,D=k+1:=⟨D-1,by omega⟩
  rw[Ao]
  have e:(p.fail !=0)=true:=by simpa using h
  simp only[AR,e,if_true,Em,Option.bind_some,ite_self]
  exact Ok.ret h
theorem ABx{d:Int}{rc:Ref14Parser→ApiToken→Int→Option (ApiValue×Ref14Parser)}{k6:ApiToken×List ApiValue×Ref14Parser→Option (ApiValue×Ref14Parser)}{k:Nat}{t:ApiToken}{dn:List ApiValue}{p:Ref14Parser} (h:p.fail≠0) (hk:1≤k):Bg N d rc k6 k t dn p=k6 (t,dn,p):=by
  obtain⟨k,rfl⟩: ∃j,k=j+1:=⟨k-1,by omega⟩
  rw[Bg,if_neg (by simpa using h)]
theorem ABp{d:Int}{rc:Ref14Parser→ApiToken→Int→Option (ApiValue×Ref14Parser)}{k6:ApiToken×List (List UInt8)×List ApiValue×Ref14Parser→Option (ApiValue×Ref14Parser)}{k:Nat}{t:ApiToken}{dk:List (List UInt8)}{dn:List ApiValue}{p:Ref14Parser} (h:p.fail≠0) (hk:1≤k):Bb N d rc k6 k t dk dn p=k6 (t,dk,dn,p):=by
  obtain⟨k,rfl⟩: ∃j,k=j+1:=⟨k-1,by omega⟩
  rw[Bb,if_neg (by simpa using h)]
theorem Xh (x:ApiValue): ∀(xs:List ApiValue) (b:Bool),(wrI b (xs++[x])).length≤(wrI b xs).length+1+(wrV x).length
  |[],b=>by rw[List.nil_append,wrI,wrI,wrI];cases b<;>simp<;>omega
  | y::ys,b=>by
    have:=Xh x ys false
    rw[List.cons_append,wrI,wrI]
    simp only[List.length_append];omega
theorem Zj (k:List UInt8) (x:ApiValue): ∀(ks:List (List UInt8)) (xs:List ApiValue) (b:Bool),ks.length=xs.length→(wrM b (ks++[k]) (xs++[x])).length≤(wrM b ks xs).length+2+(DT k).length+(wrV x).length
  | [],[],b,_=>by
    have em: ∀b,wrM b [] []=[]:=fun b=>by rw[wrM];intros;simp_all
    rw[List.nil_append,List.nil_append,wrM,em,em];cases b<;>simp<;>omega
  | c::ks,y::ys,b,h=>by
    have:=Zj k x ks ys false (by simpa using h)
    rw[List.cons_append,List.cons_append,wrM,wrM]
    simp only[List.length_append,List.length_cons];omega
  |[],_::_,_,h=>by simp at h
  |_::_,[],_,h=>by simp at h
theorem RG (x:ApiValue): ∀xs:List ApiValue,Cj (xs++[x])=Cj xs+II x
  |[]=>by simp[Cj]
  |y::ys=>by rw[List.cons_append,Cj,Cj,RG x ys];omega
theorem PN (x:ApiValue): ∀xs:List ApiValue,Co (xs++[x])=max (Co xs) (FJ x)
  |[]=>by simp[Co]
  |y::ys=>by rw[List.cons_append,Co,Co,PN x ys];omega
structure GV (N:Nat) (v:ApiValue) (n n' w d:Nat):Prop where
  s:FL N v=true
  b:okB 10 (70-d) v
  e:FJ v+d≤64
  c:n'=n+II v
  m:n'≤20000
  w:(wrV v).length≤80 * w
structure GI (N:Nat) (xs:List ApiValue) (n n' w d:Nat):Prop where
  s: ∀x,x∈xs→FL N x=true∧okB 10 (70-d) x
  e:Co xs+d≤64
  c:n'=n+1+Cj xs
  m:n'≤20000
  w:2 * xs.length≤w
theorem GI.snoc{xs:List ApiValue}{x:ApiValue}{n n1 n2 w w2 w3 d:Nat} (h:GI N xs n n1 w d) (hv:GV N x n1 n2 w2 d) (hw:w+2≤w3):GI N (xs++[x]) n n2 w3 d:=by
  refine⟨fun y hy=>?_,?_,?_,hv.m,?_⟩
  · rcases List.mem_append.1 hy with hy|hy
    · exact h.s y hy
    · simp only[List.mem_singleton]at hy;subst hy;exact⟨hv.s,hv.b⟩
  · rw[PN];have:=h.e;have:=hv.e;omega
  · rw[RG];have:=h.c;have:=hv.c;omega
  · have:=h.w;simp only[List.length_append,List.length_cons,List.length_nil];omega
def VS (N:Nat) (l:List UInt8) (D d:Nat):Prop:= ∀(i j n:Nat) (t:ApiToken),i≤j→j≤l.length→n≤20000→TW t (j-i)→
  Ok (Ao N D (Pq l j n) t (d:Int)) fun r=>r.2.fail≠0∨ ∃j' n',r.2=Pq l j' n'∧j≤j'∧j'≤l.length∧GV N r.1 n n' (j'-i) d
theorem NM{t:ApiToken}{w:Nat}{c:UInt8} (h:TW t w) (hc:(t.kind==2&&t.text==[c])=true):1≤w:=by
  simp only[Bool.and_eq_true,beq_iff_eq]at hc
  rcases h.1 with e|e
  · omega
  · exact e
theorem TV (hb:l.length≤2000) (hN:1000000≤N){D d:Nat} (hD:1≤D) (ih:VS N l D d) (i0 jm n0:Nat) (hjm:i0≤jm) (P:ApiValue×Ref14Parser→Prop)
    (hbad: ∀xs p,p.fail≠0→P (⟨6,[],[],xs⟩,p)) (hgood: ∀xs j n,GI N xs n0 n (j-i0) d→(wrI true xs).length+2≤80 * (j-i0)→jm≤j→j≤l.length→P (⟨6,[],[],xs⟩,Pq l j n)):
    ∀(k i j n:Nat) (t:ApiToken) (dn:List ApiValue),jm≤i→i≤j→j≤l.length→l.length+1<k+j→TW t (j-i)→GI N dn n0 n (i-i0) d→(wrI true dn).length+2≤80 * (i-i0)→
    Ok (Bg N (d:Int) (Ao N D) (fun j5=>some (ApiValue.mk 6 [] [] j5.2.1,j5.2.2)) k t dn (Pq l j n)) P
  |0,i,j,n,t,dn,_,_,_,hk,_,_,_=>by omega
  | k + 1, i, j,n,t,dn,hi0,hij,hj,hk,ht,hg,hw=>by
    rw[Bg,if_pos (by rfl)]
    have hb':l.length≤2^40:=by omega
    have hgw:=hg.w
    simp only[AR]
    refine Ok.bind (ih i j n t hij hj hg.m ht) fun r hr=>?_
    refine Ok.grd (Ou (by omega)) ?_
    have fin: ∀(xs:List ApiValue) (p:Ref14Parser),p.fail≠0→Ok (Option.bind (A9 N p) fun y=>Bg N (d:Int) (Ao N D) (fun j5=>some (ApiValue.mk 6 [] [] j5.2.1,j5.2.2)) k y.1 xs y.2) P:=fun xs p hp=>by
      rw[MF hp,Option.bind_some,ABx hp (by omega)]
      exact Ok.ret (hbad xs p hp)
    have bad: ∀(xs:List ApiValue) (p:Ref14Parser),p.fail≠0→(p.fail==0)=false:=fun _ p hp=>by simpa using hp
    rcases hr with hr|⟨j1,n1,e1,h1,h2,h3⟩
    · rw[MF hr,Option.bind_some,Em,Option.bind_some,if_neg (by exact Bool.false_ne_true),bad dn _ hr,if_neg (by decide),if_neg (by decide)]
      exact fin _ _ hr
    · rw [e1]
      refine Ok.bind (Mo hb' (by omega) n1 h2) fun r2 hr2=>?_
      rw[Em,Option.bind_some]
      rcases hr2 with⟨hr2,et⟩|⟨j2,e2,q1,q2,q3⟩
      · rw[et,if_neg (by exact Bool.false_ne_true),bad dn _ hr2,if_neg (by decide),if_neg (by decide)]
        exact fin _ _ hr2
      · rw [e2]
        have hcl: ∀w3,1≤j2-j1→w3=j2-i0→GI N (dn++[r.1]) n0 n1 w3 d∧(wrI true (dn++[r.1])).length+2≤80 * w3:=fun w3 hpos hw3=>by
          have h4:=h3.w
          have h5:=Xh r.1 dn true
          have hone:1≤j1-i:=by
            have:=AB6 h3.s
            obtain⟨c,u,e,_⟩:=this
            rw[e]at h4;simp only[List.length_cons]at h4;omega
          exact⟨hg.snoc h3 (by omega),by omega⟩
        by_cases c93:(r2.1.kind==2&&r2.1.text==[93])=true
        · rw[if_pos c93]
          have:=NM q3 c93
          obtain⟨g1,g2⟩:=hcl (j2-i0) this rfl
          exact Ok.ret (hgood _ _ _ g1 g2 (by omega) q2)
        · rw [if_neg c93,if_pos (by rfl),Em,Option.bind_some]
          by_cases c44:(r2.1.kind==2&&r2.1.text==[44])=true
          · rw[c44,if_neg (by decide)]
            have:=NM q3 c44
            obtain⟨g1,g2⟩:=hcl (j2-i0) this rfl
            refine Ok.bind (Mo hb' (by omega) n1 q2) fun r3 hr3=>?_
            rcases hr3 with⟨hr3,_⟩|⟨j3,e3,s1,s2,s3⟩
            · rw[ABx hr3 (by omega)];exact Ok.ret (hbad _ _ hr3)
            · rw[e3]
              exact TV hb hN hD ih i0 jm n0 hjm P hbad hgood k j2 j3 n1 r3.1 _ (by omega) s1 s2 (by omega) s3 g1 g2
          · have:(r2.1.kind==2&&r2.1.text==[44])=false:=by simpa using c44
            rw[this,if_pos (by decide)]
            exact Ok.bind (Hq _ _ _ (by decide)) fun q hq=>fin _ _ hq
structure GK (N:Nat) (ks:List (List UInt8)):Prop where
  d:ks.Nodup
  s: ∀k,k∈ks→(C9 N k).isSome=true∧k.length≤2000
theorem Tz (hb:l.length≤2000) (hN:1000000≤N){D d:Nat} (hD:1≤D) (ih:VS N l D d) (i0 jm n0:Nat) (hjm:i0≤jm) (P:ApiValue×Ref14Parser→Prop)
    (hbad: ∀ks xs p,p.fail≠0→P (⟨7,[],ks,xs⟩,p)) (hgood: ∀ks xs j n,GI N xs n0 n (j-i0) d→GK N ks→ks.length=xs.length→(wrM true ks xs).length+2≤80 * (j-i0)→jm≤j→j≤l.length→P (⟨7,[],ks,xs⟩,Pq l j n)):
    ∀(k i j n:Nat) (t:ApiToken) (dk:List (List UInt8)) (dn:List ApiValue),jm≤i→i≤j→j≤l.length→l.length+1<k+j→TW t (j-i)→GI N dn n0 n (i-i0) d→GK N dk→dk.length=dn.length→(wrM true dk dn).length+2≤80 * (i-i0)→
    Ok (Bb N (d:Int) (Ao N D) (fun j5=>some (ApiValue.mk 7 [] j5.2.1 j5.2.2.1,j5.2.2.2)) k t dk dn (Pq l j n)) P
  |0,i,j,n,t,dk,dn,_,_,_,hk,_,_,_,_,_=>by omega
  | k + 1, i, j,n,t,dk,dn,hi0,hij,hj,hk,ht,hg,hgk,hkl,hw=>by
    rw[Bb,if_pos (by rfl)]
    have hb':l.length≤2^40:=by omega
    have hgw:=hg.w
    have fin: ∀(ks:List (List UInt8)) (xs:List ApiValue) (p:Ref14Parser),p.fail≠0→Ok (Option.bind (A9 N p) fun y=>Bb N (d:Int) (Ao N D) (fun j5=>some (ApiValue.mk 7 [] j5.2.1 j5.2.2.1,j5.2.2.2)) k y.1 ks xs y.2) P:=fun ks xs p hp=>by
      rw[MF hp,Option.bind_some,ABp hp (by omega)]
      exact Ok.ret (hbad ks xs p hp)
    have bad: ∀(p:Ref14Parser),p.fail≠0→(p.fail==0)=false:=fun p hp=>by simpa using hp
    have fit:FY (dk.length+1) 16:=by unfold FY;omega
    refine Ok.meet (fun j10=>j10.fail≠0∨(j10=Pq l j n∧t.kind=3)) ?_ ?_
    · intro j10 h10
      refine Ok.meet (fun j16=>j16.fail≠0∨(j16=Pq l j n∧t.kind=3∧t.text∉dk)) ?_ ?_
      · intro j16 h16
        refine Ok.meet (fun j24:ApiToken×Ref14Parser=>j24.2.fail≠0∨ ∃j1,j24.2=Pq l j1 n∧j+1≤j1∧j1≤l.length∧t.kind=3∧t.text∉dk) ?_ ?_
        · intro j24 h24
          rcases h24 with hr|⟨j1,e1,h1,h2,h3,h4⟩
          · rw[MF hr,Option.bind_some]
            refine Ok.bind (Un hr hD) fun r hr=>?_
            refine Ok.grd fit (Ok.grd (Ou (by omega)) ?_)
            rw[MF hr,Option.bind_some,Em,Option.bind_some,if_neg (by exact Bool.false_ne_true)]
            simp only[AR]
            rw[bad _ hr,if_neg (by decide),if_neg (by decide)]
            exact fin _ _ _ hr
          · rw [e1]
            refine Ok.bind (Mo hb' (by omega) n h2) fun r0 hr0=>?_
            rcases hr0 with⟨hr,_⟩|⟨j2,e2,q1,q2,q3⟩
            · refine Ok.bind (Un hr hD) fun r hr=>?_
              refine Ok.grd fit (Ok.grd (Ou (by omega)) ?_)
              rw[MF hr,Option.bind_some,Em,Option.bind_some,if_neg (by exact Bool.false_ne_true)]
              simp only[AR]
              rw[bad _ hr,if_neg (by decide),if_neg (by decide)]
              exact fin _ _ _ hr
            rw[e2]
            refine Ok.bind (ih j1 j2 n r0.1 q1 q2 hg.m q3) fun r hr=>?_
            refine Ok.grd fit (Ok.grd (Ou (by omega)) ?_)
            rcases hr with hr|⟨j3,n3,e3,u1,u2,u3⟩
            · rw[MF hr,Option.bind_some,Em,Option.bind_some,if_neg (by exact Bool.false_ne_true)]
              simp only[AR]
              rw[bad _ hr,if_neg (by decide),if_neg (by decide)]
              exact fin _ _ _ hr
            rw[e3]
            refine Ok.bind (Mo hb' (by omega) n3 u2) fun r2 hr2=>?_
            rw[Em,Option.bind_some]
            simp only[AR]
            rcases hr2 with⟨hr2,et⟩|⟨j4,e4,v1,v2,v3⟩
            · rw[et,if_neg (by exact Bool.false_ne_true),bad _ hr2,if_neg (by decide),if_neg (by decide)]
              exact fin _ _ _ hr2
            rw[e4]
            obtain⟨k1,k2⟩:=ht.2.1 h3
            have hgk2:GK N (dk++[t.text]):=⟨by
              rw[List.nodup_append]
              exact⟨hgk.d,by simp,fun a ha b hb e=>by simp only[List.mem_singleton]at hb;subst hb;exact h4 (e▸ha)⟩,fun q hq=>by
              rcases List.mem_append.1 hq with hq|hq
              · exact hgk.s q hq
              · simp only[List.mem_singleton]at hq;subst hq;exact⟨k1 N (by omega),by omega⟩⟩
            have hcl: ∀w3,1≤j4-j3→w3=j4-i0→GI N (dn++[r.1]) n0 n3 w3 d∧(wrM true (dk++[t.text]) (dn++[r.1])).length+2≤80 * w3:=fun w3 hpos hw3=>by
              have p4:=u3.w
              have p5:=Zj t.text r.1 dk dn true hkl
              have p6:=NH t.text
              exact⟨hg.snoc u3 (by omega),by omega⟩
            by_cases c93:(r2.1.kind==2&&r2.1.text==[125])=true
            · rw[if_pos c93]
              have:=NM v3 c93
              obtain⟨g1,g2⟩:=hcl (j4-i0) this rfl
              exact Ok.ret (hgood _ _ _ _ g1 hgk2 (by simp[hkl]) g2 (by omega) v2)
            · rw [if_neg c93,if_pos (by rfl),Em,Option.bind_some]
              by_cases c44:(r2.1.kind==2&&r2.1.text==[44])=true
              · rw[c44,if_neg (by decide)]
                have:=NM v3 c44
                obtain⟨g1,g2⟩:=hcl (j4-i0) this rfl
                refine Ok.bind (Mo hb' (by omega) n3 v2) fun r3 hr3=>?_
                rcases hr3 with⟨hr3,_⟩|⟨j5,e5,s1,s2,s3⟩
                · rw[ABp hr3 (by omega)];exact Ok.ret (hbad _ _ _ hr3)
                · rw[e5]
                  exact Tz hb hN hD ih i0 jm n0 hjm P hbad hgood k j4 j5 n3 r3.1 _ _ (by omega) s1 s2 (by omega) s3 g1 hgk2 (by simp[hkl]) g2
              · have:(r2.1.kind==2&&r2.1.text==[44])=false:=by simpa using c44
                rw[this,if_pos (by decide)]
                exact Ok.bind (Hq _ _ _ (by decide)) fun q hq=>fin _ _ _ hq
        · intro k25 hk25
          simp only[AR]
          rcases h16 with hr|⟨e1,h3,h4⟩
          · rw[MF hr,Option.bind_some,bad _ hr,if_neg (by decide),if_neg (by decide)]
            exact hk25 _ (.inl hr)
          · rw [e1]
            refine Ok.bind (Mo hb' (by omega) n hj) fun r hr=>?_
            rcases hr with⟨hr,_⟩|⟨j1,e2,q1,q2,q3⟩
            · rw[bad _ hr,if_neg (by decide),if_neg (by decide)]
              exact hk25 _ (.inl hr)
            · rw[e2,if_pos (by rfl),Em,Option.bind_some]
              by_cases c58:(r.1.kind==2&&r.1.text==[58])=true
              · rw[c58,if_neg (by decide)]
                have:=NM q3 c58
                exact hk25 _ (.inr ⟨j1,rfl,by omega,q2,h3,h4⟩)
              · have:(r.1.kind==2&&r.1.text==[58])=false:=by simpa using c58
                rw[this,if_pos (by decide)]
                exact Ok.bind (Hq _ _ _ (by decide)) fun q hq=>hk25 _ (.inl hq)
      · intro k17 hk17
        rw[P9 _ _ (by dsimp only;omega),Option.bind_some]
        have hg2:(Sm (ApiValue.mk 7 [] dk dn) t.text).2=decide (t.text∈dk):=by
          unfold Sm
          rw[if_pos (by rfl)]
          exact NY hkl
        rw[hg2]
        by_cases hm:t.text∈dk
        · rw[decide_eq_true hm,if_pos rfl]
          exact Ok.bind (Hq _ _ _ (by decide)) fun q hq=>hk17 _ (.inl hq)
        · rw[decide_eq_false hm,if_neg (by decide)]
          rcases h10 with h|⟨h,h3⟩
          · exact hk17 _ (.inl h)
          · exact hk17 _ (.inr ⟨h,h3,hm⟩)
    · intro k11 hk11
      by_cases h3:t.kind=3
      · rw[h3,if_neg (by decide)]
        exact hk11 _ (.inr ⟨rfl,h3⟩)
      · rw[if_pos (by simpa using h3)]
        exact Ok.bind (Hq _ _ _ (by decide)) fun q hq=>hk11 _ (.inl hq)
theorem AJt{D:Nat}{p:Ref14Parser}{d:Int} (h:p.fail≠0) (hD:1≤D) (hN:1≤N):Ok (Ch N D p d) fun r=>r.2.fail≠0:=by
  obtain⟨D,rfl⟩: ∃k,D=k+1:=⟨D-1,by omega⟩
  rw[Ch,MF h,Option.bind_some,Em,Option.bind_some,if_neg (by exact Bool.false_ne_true),AR,ABx h hN]
  exact Ok.ret h
theorem AJZ{D:Nat}{p:Ref14Parser}{d:Int} (h:p.fail≠0) (hD:1≤D) (hN:1≤N):Ok (Ca N D p d) fun r=>r.2.fail≠0:=by
  obtain⟨D,rfl⟩: ∃k,D=k+1:=⟨D-1,by omega⟩
  rw[Ca,MF h,Option.bind_some,Em,Option.bind_some,if_neg (by exact Bool.false_ne_true),AR,ABp h hN]
  exact Ok.ret h
def VP (N:Nat) (l:List UInt8) (i j n d:Nat) (r:ApiValue×Ref14Parser):Prop:=r.2.fail≠0∨ ∃j' n',r.2=Pq l j' n'∧j≤j'∧j'≤l.length∧GV N r.1 n n' (j'-i) d
theorem YL (hb:l.length≤2000) (hN:1000000≤N){D d i j n:Nat} (hD:1≤D) (hd:d<64) (ih:VS N l D (d+1)) (hij:i<j) (hj:j≤l.length) (hn:n+1≤20000):
    Ok (Ch N (D+1) (Pq l j (n+1)) ((d+1:Nat):Int)) (VP N l i j n d):=by
  have hgood: ∀xs j' n',GI N xs n n' (j'-i) (d+1)→(wrI true xs).length+2≤80 * (j'-i)→j≤j'→j'≤l.length→VP N l i j n d (⟨6,[],[],xs⟩,Pq l j' n'):=fun xs j' n' g hw h1 h2=>by
    have gw:=g.w;have ge:=g.e;have gc:=g.c
    refine .inr ⟨j',n',rfl,h1,h2,(Shp.arr xs fun x hx=>(g.s x hx).1).b,?_,?_,?_,g.m,?_⟩
    · have:=okB.mk (B:=10) (d:=69-d) ⟨6,[],[],xs⟩ (by simp) (by simp) (by simp) (by simp only[];omega) fun x hx=>by have:=(g.s x hx).2;rwa[show 70-(d+1)=69-d by omega]at this
      rwa[show 69-d+1=70-d by omega]at this
    · rw[FW];simp only[beq_self_eq_true,Bool.true_or,if_true];omega
    · rw[Ib];simp only[];omega
    · rw[wr6];simp only[List.length_cons,List.length_append,List.length_nil];omega
  rw[Ch]
  refine Ok.bind (Mo (by omega) (by omega) (n+1) hj) fun r hr=>?_
  rw[Em,Option.bind_some]
  have g0: ∀w,GI N [] n (n+1) w (d+1):=fun w=>⟨(fun x hx=>by cases hx),by simp[Co];omega,by simp[Cj],hn,by simp⟩
  rcases hr with⟨hr,et⟩|⟨j1,e1,h1,h2,h3⟩
  · rw[et,if_neg (by exact Bool.false_ne_true),AR,ABx hr (by omega)];exact Ok.ret (.inl hr)
  · rw[e1]
    by_cases c:(r.1.kind==2&&r.1.text==[93])=true
    · rw[if_pos c]
      exact Ok.ret (hgood [] j1 (n+1) (g0 _) (by rw[wrI];simp only[List.length_nil];omega) h1 h2)
    · rw[if_neg c,AR]
      exact TV hb hN hD ih i j n (by omega) _ (fun xs p hp=>.inl hp) hgood N j j1 (n+1) r.1 [] (Nat.le_refl _) h1 h2 (by omega) h3 (g0 _) (by rw[wrI];simp only[List.length_nil];omega)
theorem UD (hb:l.length≤2000) (hN:1000000≤N){D d i j n:Nat} (hD:1≤D) (hd:d<64) (ih:VS N l D (d+1)) (hij:i<j) (hj:j≤l.length) (hn:n+1≤20000):
    Ok (Ca N (D+1) (Pq l j (n+1)) ((d+1:Nat):Int)) (VP N l i j n d):=by
  have hgood: ∀ks xs j' n',GI N xs n n' (j'-i) (d+1)→GK N ks→ks.length=xs.length→(wrM true ks xs).length+2≤80 * (j'-i)→j≤j'→j'≤l.length→VP N l i j n d (⟨7,[],ks,xs⟩,Pq l j' n'):=fun ks xs j' n' g gk hl hw h1 h2=>by
    have gw:=g.w;have ge:=g.e;have gc:=g.c
    have hdk:Jn N ks=true:=by
      unfold Jn
      rw[Bool.and_eq_true,decide_eq_true_eq,List.all_eq_true]
      exact⟨gk.d,fun k hk=>(gk.s k hk).1⟩
    refine .inr ⟨j',n',rfl,h1,h2,(Shp.obj ks xs hl hdk fun x hx=>(g.s x hx).1).b,?_,?_,?_,g.m,?_⟩
    · have:=okB.mk (B:=10) (d:=69-d) ⟨7,[],ks,xs⟩ (by simp) (by simp only[];omega) (fun k hk=>by have:=(gk.s k hk).2;omega) (by simp only[];omega) fun x hx=>by have:=(g.s x hx).2;rwa[show 70-(d+1)=69-d by omega]at this
      rwa[show 69-d+1=70-d by omega]at this
    · rw[FW];simp only[beq_self_eq_true,Bool.or_true,if_true];omega
    · rw[Ib];simp only[];omega
    · rw[wr7];simp only[List.length_cons,List.length_append,List.length_nil];omega
  rw[Ca]
  refine Ok.bind (Mo (by omega) (by omega) (n+1) hj) fun r hr=>?_
  rw[Em,Option.bind_some]
  have g0: ∀w,GI N [] n (n+1) w (d+1):=fun w=>⟨(fun x hx=>by cases hx),by simp[Co];omega,by simp[Cj],hn,by simp⟩
  have k0:GK N []:=⟨by simp,(fun k hk=>by cases hk)⟩
  have em:wrM true [] []=[]:=by rw[wrM];intros;simp_all
  rcases hr with⟨hr,et⟩|⟨j1,e1,h1,h2,h3⟩
  · rw[et,if_neg (by exact Bool.false_ne_true),AR,ABp hr (by omega)];exact Ok.ret (.inl hr)
  · rw[e1]
    by_cases c:(r.1.kind==2&&r.1.text==[125])=true
    · rw[if_pos c]
      exact Ok.ret (hgood [] [] j1 (n+1) (g0 _) k0 rfl (by rw[em];simp only[List.length_nil];omega) h1 h2)
    · rw[if_neg c,AR]
      exact Tz hb hN hD ih i j n (by omega) _ (fun ks xs p hp=>.inl hp) hgood N j j1 (n+1) r.1 [] [] (Nat.le_refl _) h1 h2 (by omega) h3 (g0 _) k0 rfl (by rw[em];simp only[List.length_nil];omega)
def opn (t:ApiToken):Bool:=t.kind==3||(t.kind==4||(t.kind==5||((t.kind==2&&t.text==[91])||(t.kind==2&&t.text==[123]))))
theorem ABv (x:List UInt8):Ok (GA N x) fun k=>k=1∨k=2∨k=3:=by
  unfold GA
  split
  · exact Ok.ret (.inr (.inr rfl))
  · split
    · exact Ok.ret (.inr (.inl rfl))
    · exact Ok.ret (.inl rfl)
theorem AEC{k:Int}{s:List UInt8}{e:Nat} (h:s.length≤3000) (he:1≤e):okB 10 e ⟨k,s,[],[]⟩:=by
  obtain⟨e,rfl⟩: ∃j,e=j+1:=⟨e-1,by omega⟩
  exact .mk _ (by simp only[];omega) (by simp) (by simp) (by simp) (by simp)
theorem Xd (hb:l.length≤2000) (hN:1000000≤N) (D d:Nat) (hD:d<64→1≤D) (hd:d≤64) (ih:d<64→ ∃D',D=D'+1∧1≤D'∧VS N l D' (d+1)) (i j n:Nat) (t:ApiToken) (hij:i≤j) (hj:j≤l.length) (hn:n≤20000) (ht:TW t (j-i)):
    Ok (Ao N (D+1) (Pq l j n) t (d:Int)) (VP N l i j n d):=by
  have hw:wr .i64 ((n:Int)+1)=((n+1:Nat):Int):=by rw[Ak (by omega)];omega
  have hw2:wr .i64 ((d:Int)+1)=((d+1:Nat):Int):=by rw[Ak (by omega)];omega
  rw[Ao]
  refine Ok.meet (fun j1=>j1=opn t) ?_ ?_
  · rintro _ rfl
    rw[if_neg (by exact Bool.false_ne_true)]
    by_cases ho:opn t=true
    · rw [if_pos ho]
      refine Ok.meet (fun j9=>j9=true∨(j9=false∧(t.kind=2→d<64))) ?_ ?_
      · intro j9 h9
        rcases h9 with rfl|⟨rfl,h64⟩
        · rw[if_pos rfl]
          exact Ok.bind (Hq _ _ _ (by decide)) fun q hq=>Ok.ret (.inl hq)
        · rw [if_neg (by decide)]
          refine Ok.meet (fun j15:Int×List UInt8×Ref14Parser=>j15.2.2.fail≠0∨(j15.2.2=Pq l j n∧(t.kind=4→j15.1=4∧KY N j15.2.1=true∧j15.2.1.length≤70)∧(t.kind≠4→j15.1=5∧j15.2.1=t.text))) ?_ ?_
          · rintro ⟨kd,tx,p⟩ h15
            refine Ok.meet (fun j27:List UInt8×Int×Int×Int×Int=>(Ref14Parser.mk j27.1 j27.2.1 j27.2.2.1 j27.2.2.2.1 j27.2.2.2.2).fail≠0∨(Ref14Parser.mk j27.1 j27.2.1 j27.2.2.1 j27.2.2.2.1 j27.2.2.2.2=Pq l j (n+1)∧n+1≤20000∧(t.kind=4→kd=4∧KY N tx=true∧tx.length≤70)∧(t.kind≠4→kd=5∧tx=t.text))) ?_ ?_
            · intro j27 h27
              dsimp only
              generalize Ref14Parser.mk j27.1 j27.2.1 j27.2.2.1 j27.2.2.2.1 j27.2.2.2.2=q at h27⊢
              rcases h27 with h27|⟨rfl,hn1,hk4,hk5⟩
              · by_cases c5:(t.kind==5)=true
                · rw[if_pos c5];exact Ok.bind (ABv _) fun k _=>Ok.ret (.inl h27)
                rw[if_neg c5,Em,Option.bind_some]
                by_cases c91:(t.kind==2&&t.text==[91])=true
                · rw[if_pos c91]
                  have k2:t.kind=2:=by simp only[Bool.and_eq_true,beq_iff_eq]at c91;exact c91.1
                  exact Ok.bind (AJt h27 (hD (h64 k2)) (by omega)) fun r hr=>Ok.ret (.inl hr)
                rw[if_neg c91,Em,Option.bind_some]
                by_cases c123:(t.kind==2&&t.text==[123])=true
                · rw[if_pos c123]
                  have k2:t.kind=2:=by simp only[Bool.and_eq_true,beq_iff_eq]at c123;exact c123.1
                  exact Ok.bind (AJZ h27 (hD (h64 k2)) (by omega)) fun r hr=>Ok.ret (.inl hr)
                · rw[if_neg c123];exact Ok.ret (.inl h27)
              · have plain: ∀k s,Shp N ⟨k,s,[],[]⟩→FJ ⟨k,s,[],[]⟩=0→s.length≤3000→(wrV ⟨k,s,[],[]⟩).length≤80 * (j-i)→VP N l i j n d (⟨k,s,[],[]⟩,Pq l j (n+1)):=fun k s h1 h2 h3 h4=>
                  .inr ⟨j,n+1,rfl,Nat.le_refl _,hj,h1.b,AEC h3 (by omega),by show FJ ⟨k,s,[],[]⟩+d≤64;omega,by rw[Ib];simp[Cj],hn1,h4⟩
                by_cases c5:(t.kind==5)=true
                · rw[if_pos c5]
                  have k5:t.kind=5:=by simpa using c5
                  have hpos:1≤j-i:=by rcases ht.1 with e|e<;>omega
                  refine Ok.bind (ABv _) fun k hk=>Ok.ret (plain k [] (.word k hk) ?_ (by simp) ?_)
                  · rw[FW];rcases hk with rfl|rfl|rfl<;>rfl
                  · rcases hk with rfl|rfl|rfl
                    · rw[wr1];simp only[List.length_cons,List.length_nil];omega
                    · rw[wr2];simp only[List.length_cons,List.length_nil];omega
                    · rw[wr3];simp only[List.length_cons,List.length_nil];omega
                rw[if_neg c5,Em,Option.bind_some]
                by_cases c91:(t.kind==2&&t.text==[91])=true
                · rw[if_pos c91]
                  have k2:t.kind=2:=by simp only[Bool.and_eq_true,beq_iff_eq]at c91;exact c91.1
                  obtain⟨D',rfl,hD',hv⟩:=ih (h64 k2)
                  have hpos:=NM ht c91
                  rw[hw2]
                  exact Ok.bind (YL hb hN hD' (h64 k2) hv (by omega) hj hn1) fun r hr=>Ok.ret hr
                rw[if_neg c91,Em,Option.bind_some]
                by_cases c123:(t.kind==2&&t.text==[123])=true
                · rw[if_pos c123]
                  have k2:t.kind=2:=by simp only[Bool.and_eq_true,beq_iff_eq]at c123;exact c123.1
                  obtain⟨D',rfl,hD',hv⟩:=ih (h64 k2)
                  have hpos:=NM ht c123
                  rw[hw2]
                  exact Ok.bind (UD hb hN hD' (h64 k2) hv (by omega) hj hn1) fun r hr=>Ok.ret hr
                rw[if_neg c123]
                by_cases c4:t.kind=4
                · obtain⟨rfl,h2,h3⟩:=hk4 c4
                  have hpos:1≤j-i:=by rcases ht.1 with e|e<;>omega
                  exact Ok.ret (plain 4 tx (.num tx h2) (by rw[FW];rfl) (by omega) (by rw[wr4];omega))
                · obtain⟨rfl,rfl⟩:=hk5 c4
                  have k3:t.kind=3:=by
                    unfold opn at ho
                    simp only[Bool.not_eq_true]at c5 c91 c123
                    rw[c5,c91,c123]at ho
                    simp[c4]at ho;exact ho
                  obtain⟨u1,u2⟩:=ht.2.1 k3
                  have:=NH t.text
                  exact Ok.ret (plain 5 t.text (.str _ (u1 N (by omega))) (by rw[FW];rfl) (by omega) (by rw[wr5];omega))
            · intro k28 hk28
              dsimp only
              rcases h15 with h15|⟨rfl,hk4,hk5⟩
              · split
                · exact Ok.bind (Hq _ _ _ (by decide)) fun q hq=>hk28 _ (.inl hq)
                · exact hk28 _ (.inl h15)
              · show Ok (if decide (wr .i64 ((n:Int)+1)>20000)=true then _ else _) _
                rw[hw]
                by_cases hn1:n+1≤20000
                · rw[if_neg (by simp;omega)]
                  exact hk28 _ (.inr ⟨by rw[show(Pq l j n).nodes=(n:Int)from rfl,hw];rfl,hn1,hk4,hk5⟩)
                · rw[if_pos (by simp;omega)]
                  exact Ok.bind (Hq _ _ _ (by decide)) fun q hq=>hk28 _ (.inl hq)
          · intro k16 hk16
            by_cases c4:t.kind=4
            · rw[if_pos (by simpa using c4)]
              obtain⟨m1,m2,m3⟩:=ht.2.2.1 c4
              rw[(U6 t.text (by omega) (by omega)).1,Option.bind_some]
              simp only[AR]
              by_cases he:(OC N t.text).2=0
              · rw[if_neg (by simpa using he)]
                obtain⟨o1,o2⟩:=AGV (N:=N) (s:=t.text) (x:=(OC N t.text).1) (by omega) (by omega) (Prod.ext rfl he)
                exact hk16 _ (.inr ⟨rfl,fun _=>⟨rfl,o1,o2⟩,fun h=>absurd c4 h⟩)
              · rw[if_pos (by simpa using he)]
                exact Ok.bind (Hq _ _ _ he) fun q hq=>hk16 _ (.inl hq)
            · rw[if_neg (by simpa using c4)]
              exact hk16 _ (.inr ⟨rfl,fun h=>absurd h c4,fun _=>⟨rfl,rfl⟩⟩)
      · intro k10 hk10
        by_cases c2:t.kind=2
        · rw[if_pos (by simpa using c2)]
          by_cases c:d=64
          · exact hk10 _ (.inl (by subst c;rfl))
          · exact hk10 _ (.inr ⟨by simp;omega,fun _=>by omega⟩)
        · rw[if_neg (by simpa using c2)]
          exact hk10 _ (.inr ⟨rfl,fun h=>absurd h c2⟩)
    · rw[if_neg ho]
      exact Ok.bind (Hq _ _ _ (by decide)) fun q hq=>Ok.ret (.inl hq)
  · intro k2 hk2
    simp only[Em,Option.bind_some]
    unfold opn at hk2
    by_cases c3:(t.kind==3)=true
    · rw[if_pos c3];exact hk2 _ (by rw[c3];rfl)
    rw[if_neg c3]
    by_cases c4:(t.kind==4)=true
    · rw[if_pos c4];exact hk2 _ (by rw[c4];simp)
    rw[if_neg c4]
    by_cases c5:(t.kind==5)=true
    · rw[if_pos c5];exact hk2 _ (by rw[c5];simp)
    rw[if_neg c5]
    simp only[Bool.not_eq_true]at c3 c4 c5
    by_cases c91:(t.kind==2&&t.text==[91])=true
    · rw[if_pos c91];exact hk2 _ (by rw[c91];simp)
    rw[if_neg c91]
    simp only[Bool.not_eq_true]at c91
    exact hk2 _ (by rw[c3,c4,c5,c91];simp)
theorem Tq (hb:l.length≤2000) (hN:1000000≤N): ∀D d,2 * (64-d)+2≤D→d≤64→VS N l D d
  |0,d,h,_=>by omega
  |1,d,h,hd=>fun i j n t hij hj hn ht=>Xd hb hN 0 d (by omega) hd (fun h=>by omega) i j n t hij hj hn ht
  |D+2,d,h,hd=>fun i j n t hij hj hn ht=>Xd hb hN (D+1) d (by omega) hd (fun h2=>⟨D,rfl,by omega,Tq hb hN D (d+1) (by omega) (by omega)⟩) i j n t hij hj hn ht
end
end Go.VM
namespace Go.VM
open Classical
theorem ACA: ∀(xs:List ApiValue) (b:Bool),(∀x,x∈xs→(wrV (CO x)).length=(wrV x).length)→(wrI b (xs.map CO)).length=(wrI b xs).length
  |[],b,_=>rfl
  | x::xs,b,h=>by
    rw[List.map_cons,wrI,wrI]
    simp only[List.length_append]
    rw[h x (by simp),ACA xs false fun y hy=>h y (by simp[hy])]
def Rk:List (List UInt8)→List ApiValue→Nat
  |k::ks,x::xs=>(DT k).length+2+(wrV x).length+Rk ks xs
  |_,_=>0
theorem AB4: ∀(ks:List (List UInt8)) (xs:List ApiValue),ks.length=xs.length→(wrM false ks xs).length=Rk ks xs
  | [], [], _ => by rw[wrM]; · rfl
                    · intros;simp_all
  | k::ks,x::xs,h=>by
    rw[wrM,Rk]
    simp only[Bool.false_eq_true,if_false,List.length_append,List.length_cons,List.length_nil,AB4 ks xs (by simpa using h)];omega
  |[],_::_,h=>by simp at h
  |_::_,[],h=>by simp at h
theorem We (ks:List (List UInt8)) (xs:List ApiValue) (h:ks.length=xs.length):(wrM true ks xs).length+(if ks.length=0 then 0 else 1)=Rk ks xs:=by
  match ks,xs,h with
  | [], [], _ => rw[wrM]; · rfl
                 · intros;simp_all
  | k::ks,x::xs,h=>
    rw[wrM,Rk]
    simp only[if_true,List.length_append,List.length_cons,List.length_nil,AB4 ks xs (by simpa using h)]
    rw[if_neg (by omega)];omega
theorem Rv (f:List UInt8→ApiValue): ∀ks:List (List UInt8),Rk ks (ks.map f)=(ks.map fun k=>(DT k).length+2+(wrV (f k)).length).sum
  |[]=>rfl
  |k::ks=>by rw[List.map_cons,Rk,Rv f ks,List.map_cons,List.sum_cons]
theorem Zf: ∀(ks:List (List UInt8)) (xs:List ApiValue),(∀x,x∈xs→(wrV (CO x)).length=(wrV x).length)→Rk ks (xs.map CO)=Rk ks xs
  |[],_,_=>rfl
  |_::_,[],_=>rfl
  |k::ks,x::xs,h=>by rw[List.map_cons,Rk,Rk,h x (by simp),Zf ks xs fun y hy=>h y (by simp[hy])]
theorem NJ{N:Nat}: ∀(e:Nat) (v:ApiValue),FJ v<e→FL N v=true→(wrV (CO v)).length=(wrV v).length
  |0,v,h,_=>by omega
  | e+1,v,h,hs=>by
    rw[FW]at h
    cases H5 hs with
    |word k hk=>rw[Cw (by omega)]
    |num s _=>rw[Cw (by decide)]
    |str s _=>rw[Cw (by decide)]
    | arr xs hx=>
      simp only[beq_self_eq_true,Bool.true_or,if_true]at h
      rw[KD,wr6,wr6]
      simp only[List.length_cons,List.length_append]
      rw[ACA xs true fun x hm=>NJ (N:=N) e x (by have:=Lm hm;omega) (hx x hm)]
    | obj ks xs hl hd hx=>
      simp only[beq_self_eq_true,Bool.or_true,if_true]at h
      have hel:=fun x hm=>NJ (N:=N) e x (by have:=Lm (x:=x) (xs:=xs) hm;omega) (hx x hm)
      rw[KF,wr7,wr7]
      simp only[List.length_cons,List.length_append]
      have hp:=Dw ks
      have h1:=We (Il ks) ((Il ks).map fun k=>(Gn ks (xs.map CO) k).1) (by simp)
      have h2:=We ks xs hl
      rw[Rv,(hp.map _).sum_nat,←Rv,MW ks (xs.map CO) (by simpa using hl) (H6 hd),Zf ks xs hel,hp.length_eq]at h1
      omega
section
variable{N:Nat}{l:List UInt8}
theorem Zt (hb:l.length≤2000) (hN:1000000≤N):Ok (Fh N l) fun r=>r.2.2≠0∨(r.2.2=0∧FL N r.1=true∧okB 10 70 r.1∧FJ r.1≤64∧II r.1≤20000∧(wrV r.1).length≤160000):=by
  unfold Fh
  rw[if_neg (by simp;omega),show Ref14Parser.mk l 0 0 0 0=Pq l 0 0 from rfl]
  simp only[AR]
  have fin: ∀(v:ApiValue) (p:Ref14Parser),p.fail≠0→Ok (Option.bind (A9 N p) fun y9=>if(y9.2.fail==0)=true then if(y9.1.kind !=1)=true then Option.bind (BZ N y9.2 y9.1.at_ 140) fun y15=>if(y15.fail !=0)=true then some ((ApiValue.mk 0 [] [] []),y15.where_,y15.fail)else some (v,(l.length:Int),0)else if(y9.2.fail !=0)=true then some ((ApiValue.mk 0 [] [] []),y9.2.where_,y9.2.fail)else some (v,(l.length:Int),0)else if false=true then Option.bind (BZ N y9.2 y9.1.at_ 140) fun y15=>if(y15.fail !=0)=true then some ((ApiValue.mk 0 [] [] []),y15.where_,y15.fail)else some (v,(l.length:Int),0)else if(y9.2.fail !=0)=true then some ((ApiValue.mk 0 [] [] []),y9.2.where_,y9.2.fail)else some (v,(l.length:Int),0)) fun r=>r.2.2≠0∨(r.2.2=0∧FL N r.1=true∧okB 10 70 r.1∧FJ r.1≤64∧II r.1≤20000∧(wrV r.1).length≤160000):=fun v p hp=>by
    rw[MF hp,Option.bind_some,if_neg (by simpa using hp),if_neg (by decide),if_pos (by simpa using hp)]
    exact Ok.ret (.inl hp)
  refine Ok.bind (Mo (by omega) (by omega) 0 (Nat.zero_le _)) fun r hr=>?_
  rcases hr with⟨hr,_⟩|⟨j,e1,h1,h2,h3⟩
  · exact Ok.bind (Un hr (by omega)) fun r2 hr2=>fin _ _ hr2
  · rw [e1]
    refine Ok.bind (Tq hb hN N 0 (by omega) (by omega) 0 j 0 r.1 h1 h2 (by omega) h3) fun r2 hr2=>?_
    rcases hr2 with hr2|⟨j2,n2,e2,q1,q2,g⟩
    · exact fin _ _ hr2
    · rw [e2]
      refine Ok.bind (Mo (by omega) (by omega) n2 q2) fun r3 hr3=>?_
      rcases hr3 with⟨hr3,_⟩|⟨j3,e3,u1,u2,u3⟩
      · rw[if_neg (by simpa using hr3),if_neg (by decide),if_pos (by simpa using hr3)]
        exact Ok.ret (.inl hr3)
      · rw[e3,if_pos (by rfl)]
        by_cases k1:r3.1.kind=1
        · rw[if_neg (by simp[k1]),if_neg (by exact Bool.false_ne_true)]
          have gw:=g.w;have ge:=g.e;have gc:=g.c;have gm:=g.m
          exact Ok.ret (.inr ⟨rfl,g.s,g.b,by simp only[];omega,by simp only[];omega,by simp only[];omega⟩)
        · rw[if_pos (by simpa using k1)]
          refine Ok.bind (Hq _ _ _ (by decide)) fun q hq=>?_
          rw[if_pos (by simpa using hq)]
          exact Ok.ret (.inl hq)
end
theorem AKB:Ky 1099511627776=some true:=by kernel_rfl
theorem Ko (s:List UInt8) (_:s.length≤reachBytes):EM 1099511627776 s=some true:=by
  unfold EM
  rw[AKB,Option.bind_some,if_pos rfl]
  by_cases hl:(s.length:Int)>2000
  · rw[if_pos (decide_eq_true hl)]
  rw[if_neg (by simpa using hl)]
  obtain⟨⟨v,a,e⟩,e1,h⟩:=Zt (N:=1099511627776) (l:=s) (by omega) (by omega)
  rw[e1,Option.bind_some]
  rcases h with h|⟨h0,hs,hv,hn,hc,hw⟩
  · rw[if_pos (by simpa using h)]
  simp only at h0 hs hv hn hc hw
  subst h0
  rw[if_neg (by exact Bool.false_ne_true)]
  have hcan:YJ 1099511627776 v=true:=by unfold YJ;rw[hs,decide_eq_true hn];rfl
  obtain⟨o1,o2,o3,o4⟩:=RO (N:=1099511627776) 70 v hv hs
  have hcan2:YJ 1099511627776 (CO v)=true:=by unfold YJ;rw[o2,decide_eq_true (by omega)];rfl
  have hlen:=NJ (N:=1099511627776) (FJ v+1) v (by omega) hs
  have hid:=Q8 (N:=1099511627776) (FJ v+1) v (by omega) hs
  dsimp only
  rw[TK (N:=1099511627776) (B:=10) (by omega) hv hc (fun _=>by omega),hcan,if_pos rfl,Option.bind_some]
  dsimp only
  rw[AC9 (N:=1099511627776) (by omega) (by omega) o2 (by omega) (by omega),Option.bind_some]
  dsimp only
  rw[TK (N:=1099511627776) (B:=10) (by omega) o1 (by omega) (fun _=>by rw[hid];omega),hcan2,if_pos rfl,Option.bind_some,hid]
  dsimp only
  rw[if_pos (by rfl),if_pos (by rfl),if_pos (by rfl),if_pos (beq_self_eq_true _)]
  rw[RX (N:=1099511627776) (B:=10) (by omega) 1099511627776 70 v (CO v) hv o1 (by omega) hs o2,Option.bind_some,hid]
  simp
end Go.VM
