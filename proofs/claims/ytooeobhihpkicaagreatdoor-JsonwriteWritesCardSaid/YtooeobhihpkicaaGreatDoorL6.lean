import Derived.Test.YtooeobhihpkicaaGreatDoorL5
import Derived.Test.YtooeobhihpkicaaGreatDoorRd
import Derived.KernelRfl
set_option linter.unusedVariables false
set_option linter.unusedSimpArgs false
namespace Go.VM
section
variable{N:Nat}
theorem AFi{v:ApiValue} (ht:v.text.length≤1000000) (hN:2000000≤N):GG N v=some (if v.kind==4 then Sl N v.text else if v.kind==5 then(DF N v.text).isSome else v.text==[]):=by
  unfold GG
  cases h4:v.kind==4
  · cases h5:v.kind==5
    · rfl
    · simp only[Bool.false_eq_true,if_false,if_true]
      rw[OT (by omega) (by omega)];rfl
  · simp only[if_true]
    rw[(ABS (N:=N) v.text (by omega) (by omega)).2,Option.bind_some]
    unfold Sl
    cases (XL N v.text).2==0<;>simp
theorem AI9 (hN:2000000≤N): ∀(ks seen:List (List UInt8)),(∀k,k∈ks→k.length≤1000000)→seen.Nodup→JD N ks seen=some (decide (seen++ks).Nodup&&ks.all fun k=>(DF N k).isSome)
  |[],seen,_,hs=>by rw[JD,List.append_nil,decide_eq_true hs];rfl
  | k::ks,seen,hk,hs=>by
    rw[JD]
    by_cases hin:k∈seen
    · rw[if_pos hin,decide_eq_false]
      · rfl
      · intro h
        rw[List.nodup_append]at h
        exact h.2.2 k hin k (by simp) rfl
    · have hk1:=hk k (by simp)
      rw[if_neg hin,OT (by omega) (by omega),Option.bind_some,List.all_cons]
      cases (DF N k).isSome
      · simp
      · rw[if_pos rfl,AI9 hN ks (seen++[k]) (fun y hy=>hk y (by simp[hy])) (by rw[List.nodup_append];exact⟨hs,by simp,fun a ha b hb e=>by simp at hb;subst hb;exact hin (e▸ha)⟩)]
        rw[List.append_assoc];simp
theorem AHF{ks:List (List UInt8)} (hl:ks.length≤1000000) (hN:2000000≤N) (hk: ∀k,k∈ks→k.length≤1000000):G7 N ks=some (JQ N ks):=by
  unfold G7
  rw[JA (by omega),AI9 hN ks [] hk (by simp)];rfl
theorem AEg{α β:Type} (xs:List α) (ys:List β) (h:xs.length≤1000000) (h2:ys.length≤1000000):(wr .i64 ((xs.length:Int)+(ys.length:Int))==0)=(ys.isEmpty&&xs.isEmpty):=by
  rw[A8 (by omega)]
  cases xs<;>cases ys<;>simp<;>omega
theorem Qf{d:Nat} (rc:JsonwriteCounter→ApiValue→Int→Option (Bool×JsonwriteCounter)): ∀(xs:List ApiValue) (n:Nat),n+Dx xs≤20000→d≤64→(∀x,x∈xs→ ∀n:Nat,n+Gs x≤20000→Ok (rc ⟨(n:Int)⟩ x ((d+1:Nat):Int)) fun r=>r.1=(decide (d+1+IA x≤64)&&Ex N x)∧(r.1=true→r.2.nodes=((n+Gs x:Nat):Int)))→(d+1≤64)→
    Ok (BQ N (d:Int) rc (fun j17=>some (true,JsonwriteCounter.mk j17)) xs (n:Int)) fun r=>r.1=(decide (d+1+Er xs≤64)&&Ia N xs)∧(r.1=true→r.2.nodes=((n+Dx xs:Nat):Int))
  | [],n,_,_,_,hd=>by
    rw[BQ,Er,Ia,Dx]
    exact Ok.ret ⟨by simp;omega,fun _=>rfl⟩
  | x::xs,n,hn,hd,hr,hd1=>by
    rw[Dx]at hn⊢
    rw[BQ,show(d:Int)+1=((d+1:Nat):Int) by omega,A8 (by omega),Er,Ia]
    refine(hr x (by simp) n (by omega)).bind fun r h=>?_
    cases e:r.1
    · rw[if_neg (by decide)]
      rw[e]at h
      refine Ok.ret ⟨?_,fun k=>by cases k⟩
      have h1:=h.1.symm
      rw[Bool.and_eq_false_iff]at h1
      rcases h1 with h1|h1
      · rw[decide_eq_false_iff_not]at h1
        rw[decide_eq_false (by omega)];rfl
      · rw[h1];simp
    · rw[if_pos rfl,h.2 e]
      rw[e]at h
      have h1:=h.1.symm
      rw[Bool.and_eq_true,decide_eq_true_eq]at h1
      refine(Qf rc xs (n+Gs x) (by omega) hd (fun y hy=>hr y (by simp[hy])) hd1).mono fun r2 h2=>⟨?_,fun k=>?_⟩
      · rw[h2.1,h1.2]
        by_cases hx:d+1+Er xs≤64
        · rw[decide_eq_true hx,decide_eq_true (by omega)];simp
        · rw[decide_eq_false hx,decide_eq_false (by omega)];simp
      · rw[h2.2 k];congr 1;omega
def AGZ (N:Nat) (v:ApiValue):Bool:=if v.kind==4 then Sl N v.text else if v.kind==5 then(DF N v.text).isSome else v.text==[]
theorem QG (v:ApiValue):Ex N v=(decide (1≤v.kind∧v.kind≤7)&&AGZ N v&&(if v.kind<6 then v.keys.isEmpty&&v.items.isEmpty else if v.kind==6 then v.keys.isEmpty&&Ia N v.items else decide (v.keys.length=v.items.length)&&JQ N v.keys&&Ia N v.items)):=by
  obtain⟨kind,text,keys,items⟩:=v
  rw[Ex]
  unfold AGZ
  simp only[]
  by_cases h:1≤kind∧kind≤7
  · have:kind=1∨kind=2∨kind=3∨kind=4∨kind=5∨kind=6∨kind=7:=by omega
    rcases this with rfl|rfl|rfl|rfl|rfl|rfl|rfl<;>simp[Bool.and_assoc]
  · rw[decide_eq_false h]
    have e: ∀k:Int,(1≤k∧k≤7)→(kind==k)=false:=fun k hk=>by simp;omega
    rw[e 1 (by omega),e 2 (by omega),e 3 (by omega),e 4 (by omega),e 5 (by omega),e 6 (by omega),e 7 (by omega)]
    simp
theorem TD {B:Nat} (hN':2000000≤N∧B≤10): ∀(D e d n:Nat) (v:ApiValue),okB B e v→e≤D→d≤64→n+Gs v≤20000→
    Ok (BO N D ⟨(n:Int)⟩ v (d:Int)) fun r=>r.1=(decide (d+IA v≤64)&&Ex N v)∧(r.1=true→r.2.nodes=((n+Gs v:Nat):Int))
  |0,e,d,n,v,h,he,_,_=>by have:=h.pos;omega
  | D + 1, e, d, n, v,h,he,hd,hn=>by
    obtain⟨hN,hB⟩:=id hN'
    obtain⟨e,rfl⟩: ∃k,e=k+1:=⟨e-1,by have:=h.pos;omega⟩
    have hi:=h.items;have ht:=h.text;have hk:=h.keys;have hkl:=h.klen;have hsub:=h.sub
    have hcp:=Ra v
    have hts:GG N v=some (AGZ N v):=AFi (N:=N) (v:=v) (by omega) hN
    have hks:=AHF (N:=N) (ks:=v.keys) (by omega) hN fun k h=>by have:=hkl k h;omega
    have hcnt:=Ih v
    have hnest:=Kl v
    have e1:(n:Int)+1=((n+1:Nat):Int):=by omega
    have no: ∀x:JsonwriteCounter,Ex N v=false∨ ¬d+IA v≤64→Ok (some (false,x)) fun r:Bool×JsonwriteCounter=>r.1=(decide (d+IA v≤64)&&Ex N v)∧(r.1=true→r.2.nodes=((n+Gs v:Nat):Int)):=fun x hx=>by
      refine Ok.ret ⟨?_,fun k=>by cases k⟩
      rcases hx with hx|hx
      · rw[hx];simp
      · rw[decide_eq_false hx];rfl
    rw[BO]
    dsimp only
    rw[e1,A8 (by omega)]
    refine Ok.meet (fun j1=>j1=!(decide (1≤v.kind∧v.kind≤7)&&AGZ N v)) ?_ ?_
    · rintro _ rfl
      cases hg:(decide (1≤v.kind∧v.kind≤7)&&AGZ N v)
      · rw[if_pos (by decide)]
        exact no _ (.inl (by rw[QG,hg];rfl))
      · have hse := QG (N:=N) v
        rw[hg,Bool.true_and]at hse
        rw[Bool.and_eq_true,decide_eq_true_eq]at hg
        rw[if_neg (by decide)]
        by_cases hk6:v.kind<6
        · rw [if_pos (by simpa using hk6)]
          rw[if_pos hk6]at hse
          rw[AEg v.items v.keys (by omega) (by omega)]
          have h67:(v.kind==6||v.kind==7)=false:=by
            rw[Bool.or_eq_false_iff];exact⟨by simp;omega,by simp;omega⟩
          rw[h67]at hnest
          cases hb:(v.keys.isEmpty&&v.items.isEmpty)
          · exact no _ (.inl (by rw[hse,hb]))
          · rw[hb]at hse
            rw[Bool.and_eq_true,List.isEmpty_iff,List.isEmpty_iff]at hb
            rw[hb.2]at hnest hcnt
            simp only[Er,Dx,Bool.false_eq_true,if_false]at hnest hcnt
            refine Ok.ret ⟨?_,fun _=>?_⟩
            · rw[hse,hnest,decide_eq_true (by omega)];rfl
            · show((n+1:Nat):Int)=_
              rw[hcnt]
        · rw [if_neg (by simpa using hk6)]
          rw[if_neg hk6]at hse
          have h67:(v.kind==6||v.kind==7)=true:=by
            rw[Bool.or_eq_true]
            by_cases h6:v.kind=6
            · exact .inl (by simp[h6])
            · exact .inr (by simp;omega)
          rw[h67,if_pos rfl]at hnest
          by_cases hd64:64≤d
          · rw[if_pos (by simp only[decide_eq_true_eq];omega)]
            exact no _ (.inr (by omega))
          · rw [if_neg (by simp only[decide_eq_true_eq];omega)]
            have loop:=Qf (N:=N) (d:=d) (BO N D) v.items (n+1) (by omega) hd (fun x hx m hm=>TD hN' D e (d+1) m x (hsub x hx) (by omega) (by omega) hm) (by omega)
            have fin:Ex N v=Ia N v.items→Ok (AY (fun j17:Int=>some (true,JsonwriteCounter.mk j17)) fun k18=>grd (BD v.items.length) (BQ N (d:Int) (BO N D) k18 v.items ((n+1:Nat):Int))) fun r=>r.1=(decide (d+IA v≤64)&&Ex N v)∧(r.1=true→r.2.nodes=((n+Gs v:Nat):Int)):=fun hs=>by
              rw[Ab,JA (by omega)]
              refine loop.mono fun r hr=>⟨?_,fun k=>?_⟩
              · rw[hr.1,hs,hnest,Nat.add_assoc]
              · rw[hr.2 k,hcnt];congr 1;omega
            refine Ok.meet (fun j7=>j7=(v.kind==6&&!v.keys.isEmpty)) ?_ ?_
            · rintro _ rfl
              cases h6:v.kind==6
              · have h7:(v.kind==7)=true:=by simp at h6;simp;omega
                rw[Bool.false_and,if_neg (by decide)]
                rw[h6,if_neg (by decide)]at hse
                refine Ok.meet (fun j11=>j11=!(decide (v.keys.length=v.items.length)&&JQ N v.keys)) ?_ ?_
                · rintro _ rfl
                  cases hg2:(decide (v.keys.length=v.items.length)&&JQ N v.keys)
                  · rw[if_pos (by decide)];exact no _ (.inl (by rw[hse,hg2];rfl))
                  · rw[if_neg (by decide)];exact fin (by rw[hse,hg2];rfl)
                · intro k12 hk12
                  rw[if_pos h7]
                  by_cases hl:v.keys.length=v.items.length
                  · rw[if_neg (by simp[hl]),hks,Option.bind_some]
                    exact hk12 _ (by rw[decide_eq_true hl,Bool.true_and])
                  · rw[if_pos (by simp;omega)]
                    exact hk12 _ (by rw[decide_eq_false hl];rfl)
              · rw [h6,if_pos rfl]at hse
                have h7:(v.kind==7)=false:=by simp at h6;simp;omega
                cases hke:v.keys.isEmpty
                · rw[if_pos (by decide)];exact no _ (.inl (by rw[hse,hke];rfl))
                · rw[if_neg (by decide)]
                  refine Ok.meet (fun j11=>j11=false) ?_ ?_
                  · rintro _ rfl
                    rw[if_neg (by decide)];exact fin (by rw[hse,hke];rfl)
                  · intro k12 hk12
                    rw[h7,if_neg (by decide)]
                    exact hk12 _ rfl
            · intro k8 hk8
              cases h6:v.kind==6
              · rw[if_neg (by decide)];exact hk8 _ (by rw[h6];rfl)
              · rw[if_pos rfl]
                refine hk8 _ ?_
                rw[h6,Bool.true_and]
                cases v.keys<;>simp<;>omega
    · intro k2 hk2
      rw[if_neg (by simp only[decide_eq_true_eq];omega)]
      by_cases h1:v.kind<1
      · rw[if_pos (by simpa using h1)];exact hk2 _ (by rw[decide_eq_false (by omega)];rfl)
      · rw[if_neg (by simpa using h1)]
        by_cases h7:v.kind>7
        · rw[if_pos (by simpa using h7)];exact hk2 _ (by rw[decide_eq_false (by omega)];rfl)
        · rw[if_neg (by simpa using h7),hts,Option.bind_some]
          exact hk2 _ (by rw[decide_eq_true (by omega),Bool.true_and])
theorem OU{B:Nat} (hN':2000000≤N∧B≤10){v:ApiValue} (h:okB B 70 v) (hc:Gs v≤20000):Dj N v=some (LQ N v):=by
  obtain⟨hN,hB⟩:=id hN'
  unfold Dj
  obtain⟨r,h1,h2,_⟩:=TD (N:=N) hN' N 70 0 0 v h (by omega) (by omega) (by omega)
  rw[show(0:Int)=((0:Nat):Int)from rfl,h1,Option.bind_some,h2,Nat.zero_add]
  rfl
end
end Go.VM
namespace Go.VM
def Wb (b:List UInt8):JsonwriteWriter:=⟨⟨true,b⟩⟩
def itm (v:ApiValue) (x:Int):ApiValue:=v.items.getD x.toNat zeroV
def PZ (v:ApiValue) (b:Bool) (l:List Int):List UInt8:=if(v.kind==7)=true then wrM b (l.map (kth v)) (l.map fun x=>Cr (itm v x))else wrI b (l.map fun x=>Cr (itm v x))
theorem Wz: ∀ {ks:List (List UInt8)}{ys:List ApiValue}{i:Nat},ks.Nodup→ks.length=ys.length→(h:i<ks.length)→(h2:i<ys.length)→Ip ks ys ks[i]=(ys[i],true)
  |k::ks,y::ys,0,_,_,_,_=>by simp[Ip]
  | k::ks,y::ys,i+1,hn,hl,h,h2=>by
    rw[List.nodup_cons]at hn
    have h':i<ks.length:=by simpa using h
    have hne: ¬k=ks[i]:=fun e=>hn.1 (e▸List.getElem_mem h')
    simp only[List.getElem_cons_succ]
    rw[Ip,if_neg (by simpa using hne)]
    exact Wz hn.2 (by simpa using hl) h' (by simpa using h2)
section
variable{N:Nat}
theorem Jb (w:JsonwriteWriter) (s:List UInt8) (h:w.builder.buf.length+s.length≤1000000000):AL N w s=some ((s.length:Int),(),Wb (w.builder.buf++s)):=by
  unfold AL CG
  cases hw:w.builder.addr
  · rw[if_neg (by decide),Option.bind_some,AU (MI (by simpa using h))];rfl
  · rw[if_pos rfl,Option.bind_some,AU (MI h),hw];rfl
theorem Qv (hN:2000000≤N) (w:JsonwriteWriter) (s:List UInt8) (hs:(DF N s).isSome=true) (hl:s.length≤1000000) (h:w.builder.buf.length+(IK s).length≤1000000000):Cm N w s=some (Wb (w.builder.buf++IK s)):=by
  unfold Cm
  rw[ADc s (.inl (by omega)),Option.bind_some,Oc (by omega) hs]
  dsimp only
  rw[Jb w _ h,Option.bind_some,if_neg (by simp only[decide_eq_true_eq];omega)]
theorem AI8 (hN:2000000≤N) (v:ApiValue) (rc:JsonwriteWriter→ApiValue→Option JsonwriteWriter) (k4:JsonwriteWriter→Option JsonwriteWriter): ∀(l:List Int) (n:Nat) (b:Bool) (buf:List UInt8),(b=true↔n=0)→
    (∀x,x∈l→0≤x∧x.toNat<v.items.length∧((v.kind==7)=true→x.toNat<v.keys.length∧(DF N (kth v x)).isSome=true∧(kth v x).length≤1000000))→
    (∀x,x∈l→ ∀buf:List UInt8,buf.length+(wrV (Cr (itm v x))).length≤1048576→rc (Wb buf) (itm v x)=some (Wb (buf++wrV (Cr (itm v x)))))→buf.length+(PZ v b l).length≤1048576→
    Bg N v rc k4 l (n:Int) (Wb buf)=k4 (Wb (buf++PZ v b l))
  | [],n,b,buf,_,_,_,_=>by
    rw[Bg]
    have:PZ v b []=[]:=by
      unfold PZ
      split
      · rw[List.map_nil,wrM];intros;simp_all
      · rw[List.map_nil,wrI]
    rw[this,List.append_nil]
  | x::l,n,b,buf,hb,hx,hr,hl=>by
    obtain⟨h0,hi,hk⟩:=hx x (by simp)
    have eit:idx v.items x=some (itm v x):=by
      unfold idx itm
      rw[if_pos h0,List.getElem?_eq_getElem hi,List.getD_eq_getElem?_getD,List.getElem?_eq_getElem hi];rfl
    have sep: ∀K:JsonwriteWriter→Option JsonwriteWriter,(if decide ((n:Int)>0)=true then Option.bind (AL N (Wb buf) ([44]:List UInt8)) fun y14=>K y14.2.2 else K (Wb buf))=K (Wb (buf++(if b then []else [44]))):=fun K=>by
      cases b
      · have hn0:n≠0:=fun e=>by have:=hb.2 e;cases this
        rw[if_pos (by simp only[decide_eq_true_eq];omega),Jb _ _ (by show buf.length+_≤_;simp only[List.length_cons,List.length_nil];omega)]
        rfl
      · have hn0:n=0:=hb.1 rfl
        rw[if_neg (by simp only[decide_eq_true_eq];omega)]
        simp
    have ih:=fun buf' h=>AI8 hN v rc k4 l (n+1) false buf' (by simp) (fun y hy=>hx y (by simp[hy])) (fun y hy=>hr y (by simp[hy])) h
    rw[Bg]
    refine(CY sep).trans ?_
    dsimp only[Ab]
    rw[eit]
    unfold PZ at hl ih⊢
    cases h7:v.kind==7
    · simp only[h7,Bool.false_eq_true,if_false,List.map_cons]at hl ih⊢
      rw[wrI]at hl⊢
      simp only[List.length_append]at hl
      rw[Option.bind_some,hr x (by simp) _ (by simp only[List.length_append];omega),Option.bind_some,show(n:Int)+1=((n+1:Nat):Int) by omega,ih _ (by simp only[List.length_append];omega)]
      simp
    · simp only[h7,if_true,List.map_cons]at hl ih⊢
      rw[wrM]at hl⊢
      simp only[List.length_append,List.length_cons]at hl
      obtain⟨hk1,hk2,hk3⟩:=hk h7
      have eky:idx v.keys x=some (kth v x):=by
        unfold idx kth
        rw[if_pos h0,List.getElem?_eq_getElem hk1,List.getD_eq_getElem?_getD,List.getElem?_eq_getElem hk1];rfl
      rw[eky,Option.bind_some,Qv hN _ _ hk2 hk3 (by show(buf++_).length+_≤_;simp only[List.length_append];omega),Option.bind_some]
      rw[Jb _ _ (by show((buf++_)++_).length+_≤_;simp only[List.length_append,List.length_cons,List.length_nil];omega),Option.bind_some]
      dsimp only[Wb]
      rw[Option.bind_some]
      have h2:=hr x (by simp) (((buf++(if b then []else [44]))++IK (kth v x))++[58]) (by simp only[List.length_append,List.length_cons,List.length_nil];omega)
      unfold Wb at h2
      rw[h2,Option.bind_some,show(n:Int)+1=((n+1:Nat):Int) by omega]
      have h3:=ih ((((buf++(if b then []else [44]))++IK (kth v x))++[58])++wrV (Cr (itm v x))) (by simp only[List.length_append,List.length_cons,List.length_nil];omega)
      unfold Wb at h3
      rw[h3]
      simp
theorem Rq{B:Nat} (hN':2000000≤N∧B≤10){e:Nat}{v:ApiValue} (hv:okB B e v) (hs:Ex N v=true) (hk:v.kind=6∨v.kind=7): ∃l,Ct N v=some l∧(∀x,x∈l→0≤x∧x.toNat<v.items.length∧((v.kind==7)=true→x.toNat<v.keys.length∧(DF N (kth v x)).isSome=true∧(kth v x).length≤1000000))∧l.length=v.items.length∧
    (v.kind=6→(l.map fun x=>Cr (itm v x))=v.items.map Cr)∧(v.kind=7→l.map (kth v)=Hy v.keys∧(l.map fun x=>Cr (itm v x))=(Hy v.keys).map fun k=>(Ip v.keys (v.items.map Cr) k).1):=by
  have hi:=hv.items;have hkk:=hv.keys;have hkl:=hv.klen
  have idm: ∀x,x∈Ka v.items.length→0≤x∧x.toNat<v.items.length:=fun x hx=>by
    simp only[Ka,List.mem_map,List.mem_range]at hx
    obtain⟨i,h1,rfl⟩:=hx
    exact⟨by omega,by simpa using h1⟩
  rcases hk with hk|hk
  · have h7:(v.kind==7)=false:=by simp[hk]
    refine⟨_,TP h7 (by omega),fun x hx=>⟨(idm x hx).1,(idm x hx).2,fun h=>by rw[h7]at h;cases h⟩,F5 _,fun _=>?_,fun h=>by omega⟩
    refine List.ext_getElem (by simp[F5]) fun i h1 h2=>?_
    have hi2:i<v.items.length:=by simpa using h2
    simp only[List.getElem_map,Ka,List.getElem_range,itm,Int.toNat_natCast,List.getD_eq_getElem?_getD,List.getElem?_eq_getElem hi2,Option.getD_some]
  · have h7:(v.kind==7)=true:=by simp[hk]
    have hse:=QG (N:=N) v
    rw[hs,hk,if_neg (by decide),if_neg (by decide)]at hse
    have hse:=hse.symm
    simp only[Bool.and_eq_true,decide_eq_true_eq]at hse
    obtain⟨_,⟨hl,hd⟩,_⟩:=hse
    have hnd:=PU hd
    obtain⟨l,h1,h2,h3⟩:=ACt (N:=N) h7 hl hnd (by omega) (by omega)
    have hm: ∀x,x∈l→0≤x∧x.toNat<v.items.length:=fun x hx=>idm x (h3.mem_iff.1 hx)
    have kk: ∀x,x∈l→ ∃(h:x.toNat<v.keys.length),kth v x=v.keys[x.toNat]:=fun x hx=>by
      have hx2:x.toNat<v.keys.length:=by have:=(hm x hx).2;omega
      exact⟨hx2,by unfold kth;rw[List.getD_eq_getElem?_getD,List.getElem?_eq_getElem hx2];rfl⟩
    refine⟨l,h1,fun x hx=>⟨(hm x hx).1,(hm x hx).2,fun _=>?_⟩,by rw[h3.length_eq,F5],fun h=>by omega,fun _=>⟨h2,?_⟩⟩
    · obtain⟨hx2,e⟩:=kk x hx
      rw[e]
      exact⟨hx2,ADt hd _ (List.getElem_mem hx2),by have:=hkl _ (List.getElem_mem hx2);omega⟩
    · rw[←h2,List.map_map]
      refine List.map_congr_left fun x hx=>?_
      obtain⟨hx2,e⟩:=kk x hx
      have hx3:=(hm x hx).2
      show Cr (itm v x)=(Ip v.keys (v.items.map Cr) (kth v x)).1
      rw[e,Wz hnd (by simpa using hl) hx2 (by simpa using hx3),List.getElem_map]
      unfold itm
      rw[List.getD_eq_getElem?_getD,List.getElem?_eq_getElem hx3];rfl
theorem TZ {B:Nat} (hN':2000000≤N∧B≤10): ∀(e D:Nat) (v:ApiValue) (w:JsonwriteWriter),okB B e v→2 * e≤D→Ex N v=true→w.builder.buf.length+(wrV (Cr v)).length≤1048576→Ba N D w v=some (Wb (w.builder.buf++wrV (Cr v)))
  |0,D,v,w,h,_,_,_=>by have:=h.pos;omega
  | e+1,D,v,w,hv,hD,hs,hl=>by
    obtain⟨hN,hB⟩:=id hN'
    obtain⟨D,rfl⟩: ∃k,D=k+2:=⟨D-2,by omega⟩
    have ht:=hv.text;have hsub:=hv.sub
    rw[Ba]
    unfold Bj
    rw[Option.bind_some]
    dsimp only
    rw[if_neg (by simp only[decide_eq_true_eq];omega)]
    have both: ∀(left right:List UInt8),left.length=1→right.length=1→(v.kind=6∨v.kind=7)→(wrV (Cr v)=left++((if(v.kind==7)=true then wrM true (Cr v).keys (Cr v).items else wrI true (Cr v).items)++right))→CV N (D+1) w v left right=some (Wb (w.builder.buf++wrV (Cr v))):=by
      intro left right hll hrl hk hw
      obtain⟨l,h1,h2,h3,h4,h5⟩:=Rq (N:=N) hN' hv hs hk
      have hbody:PZ v true l=if(v.kind==7)=true then wrM true (Cr v).keys (Cr v).items else wrI true (Cr v).items:=by
        unfold PZ
        rcases hk with hk|hk
        · have ho:(Cr v).items=v.items.map Cr:=by
            obtain⟨kind,text,keys,items⟩:=v
            simp only at hk;subst hk
            rw[Cr];exact Jf items
          rw[if_neg (by simp[hk]),if_neg (by simp[hk]),h4 hk,ho]
        · have ho:(Cr v).keys=Hy v.keys∧(Cr v).items=(Hy v.keys).map fun k=>(Ip v.keys (v.items.map Cr) k).1:=by
            obtain⟨kind,text,keys,items⟩:=v
            simp only at hk;subst hk
            rw[Cr];exact⟨rfl,by rw[←Jf];rfl⟩
          rw[if_pos (by simp[hk]),if_pos (by simp[hk]),(h5 hk).1,(h5 hk).2,ho.1,ho.2]
      rw[hw]at hl⊢
      rw[←hbody]at hl⊢
      simp only[List.length_append]at hl
      have hn:=hv.items
      rw[CV,Jb w left (by omega),Option.bind_some]
      dsimp only[Ab]
      rw[h1,Option.bind_some,JA (by omega),show(0:Int)=((0:Nat):Int)from rfl]
      rw[AI8 hN v (Ba N D) _ l 0 true (w.builder.buf++left) (by simp) h2 (fun x hx buf hb=>?_) (by simp only[List.length_append];omega)]
      · rw[Jb _ right (by show((w.builder.buf++left)++_).length+_≤_;simp only[List.length_append];omega),Option.bind_some]
        show some (Wb (((w.builder.buf++left)++PZ v true l)++right))=_
        simp
      · obtain⟨q0,q1,_⟩:=h2 x hx
        have hmem:itm v x∈v.items:=by
          unfold itm
          rw[List.getD_eq_getElem?_getD,List.getElem?_eq_getElem q1];exact List.getElem_mem q1
        have hss:Ex N (itm v x)=true:=by
          have hse:=QG (N:=N) v
          rw[hs]at hse
          have hse:=hse.symm
          have:Ia N v.items=true:=by
            rcases hk with hk|hk<;>rw[hk]at hse<;>simp at hse
            · exact hse.2.2
            · exact hse.2.2
          exact Kj this _ hmem
        exact TZ hN' e D (itm v x) (Wb buf) (hsub _ hmem) (by omega) hss hb
    cases OA hs with
    | word k hk=>
      rw[Hu (by omega)]at hl⊢
      rcases hk with rfl|rfl|rfl
      · show Option.bind (AL N w [110,117,108,108]) (fun y=>some y.2.2)=_
        rw[Jb _ _ (by simp only[List.length_cons,List.length_nil];omega)];rfl
      · show Option.bind (AL N w [102,97,108,115,101]) (fun y=>some y.2.2)=_
        rw[Jb _ _ (by simp only[List.length_cons,List.length_nil];omega)];rfl
      · show Option.bind (AL N w [116,114,117,101]) (fun y=>some y.2.2)=_
        rw[Jb _ _ (by simp only[List.length_cons,List.length_nil];omega)];rfl
    | num s _=>
      simp only at ht
      rw[Hu (by decide)]at hl⊢
      show Option.bind (AL N w s) (fun y=>some y.2.2)=_
      rw[Jb _ _ (by omega)];rfl
    | str s hq=>
      simp only at ht
      have:=Jy s
      rw[Hu (by decide)]at hl⊢
      show Option.bind (Cm N w s) (fun y=>some y)=_
      rw[Qv hN _ _ hq (by omega) (by omega)];rfl
    | arr xs _=>
      show Option.bind (CV N (D+1) w ⟨6,[],[],xs⟩ [91] [93]) (fun y=>some y)=_
      rw[both [91] [93] rfl rfl (.inl rfl) (by rw[Vw,wrV];rfl)];rfl
    | obj ks xs hl2 hd hx=>
      show Option.bind (CV N (D+1) w ⟨7,[],ks,xs⟩ [123] [125]) (fun y=>some y)=_
      rw[both [123] [125] rfl rfl (.inr rfl) (by rw[Vs,wrV];rfl)];rfl
theorem ADk{B:Nat} (hN':2000000≤N∧B≤10){v:ApiValue} (h:okB B 70 v) (hc:Gs v≤20000) (hl:Ex N v=true→(wrV (Cr v)).length≤1048576):FY N v=some (if LQ N v=true then(wrV (Cr v),0)else([],8)):=by
  obtain⟨hN,hB⟩:=id hN'
  unfold FY
  rw[OU hN' h hc,Option.bind_some]
  cases hw:LQ N v
  · rfl
  · have hs:Ex N v=true:=by unfold LQ at hw;rw[Bool.and_eq_true]at hw;exact hw.2
    have hb:=hl hs
    rw[if_pos rfl,TZ hN' 70 N v _ h (by omega) hs (by simpa using hb),Option.bind_some]
    unfold Bj CZ
    rw[Option.bind_some,if_pos rfl]
    refine(if_neg fun hh=>?_).trans rfl
    have h3:((([]++wrV (Cr v):List UInt8).length:Nat):Int)>1048576:=of_decide_eq_true hh
    rw[List.nil_append]at h3
    omega
theorem QZ (v:ApiValue) (rc:ApiValue→Option ApiValue) (k2:List (List UInt8)×List ApiValue→Option ApiValue): ∀(l:List Int) (ks:List (List UInt8)) (xs:List ApiValue),(∀x,x∈l→0≤x∧x.toNat<v.items.length∧((v.kind==7)=true→x.toNat<v.keys.length))→
    (∀x,x∈l→rc (itm v x)=some (Cr (itm v x)))→ks.length+l.length≤1000000→xs.length+l.length≤1000000→
    BN N v rc k2 l ks xs=k2 (ks++(if(v.kind==7)=true then l.map (kth v)else []),xs++l.map fun x=>Cr (itm v x))
  | [],ks,xs,_,_,_,_=>by
    rw[BN];cases v.kind==7<;>simp
  | x::l,ks,xs,hx,hr,h1,h2=>by
    simp only[List.length_cons]at h1 h2
    obtain⟨h0,hi,hk⟩:=hx x (by simp)
    have eit:idx v.items x=some (itm v x):=by
      unfold idx itm
      rw[if_pos h0,List.getElem?_eq_getElem hi,List.getD_eq_getElem?_getD,List.getElem?_eq_getElem hi];rfl
    have ih:=fun ks' xs' q1 q2=>QZ v rc k2 l ks' xs' (fun y hy=>hx y (by simp[hy])) (fun y hy=>hr y (by simp[hy])) q1 q2
    rw[BN]
    dsimp only[Ab]
    rw[eit]
    cases h7:v.kind==7
    · rw[if_neg (by decide),Option.bind_some,hr x (by simp),Option.bind_some,AU (VZ (by omega)),ih _ _ (by omega) (by simp;omega),h7]
      simp
    · have hk1:=hk h7
      have eky:idx v.keys x=some (kth v x):=by
        unfold idx kth
        rw[if_pos h0,List.getElem?_eq_getElem hk1,List.getD_eq_getElem?_getD,List.getElem?_eq_getElem hk1];rfl
      rw[if_pos rfl,eky,Option.bind_some,AU (Lx (by omega)),Option.bind_some,hr x (by simp),Option.bind_some,AU (VZ (by omega)),ih _ _ (by simp;omega) (by simp;omega),h7]
      simp
theorem Wx {B:Nat} (hN':2000000≤N∧B≤10): ∀(e D:Nat) (v:ApiValue),okB B e v→e≤D→Ex N v=true→Bl N D v=some (Cr v)
  |0,D,v,h,_,_=>by have:=h.pos;omega
  | e+1,D,v,hv,hD,hs=>by
    obtain⟨hN,hB⟩:=id hN'
    obtain⟨D,rfl⟩: ∃k,D=k+1:=⟨D-1,by omega⟩
    have hsub:=hv.sub;have hi:=hv.items
    rw[Bl]
    dsimp only[Ab]
    have plain:(v.kind==7)=false→v.items=[]→v.keys=[]→(v.kind==6)=false→Cr v=⟨v.kind,v.text,[],[]⟩→Option.bind (Ct N v) (fun y5=>grd (BD y5.length) (BN N v (Bl N D) (fun j1=>some (ApiValue.mk v.kind v.text j1.1 j1.2)) y5 [] []))=some (Cr v):=fun h7 h1 h2 h6 ho=>by
      rw[TP h7 (by omega),Option.bind_some,h1]
      show grd (BD 0) (BN N v _ _ [] [] [])=_
      rw[JA (by omega),BN,ho]
    have both:(v.kind=6∨v.kind=7)→(∀ks xs,(v.kind=6→ks=[]∧xs=v.items.map Cr)→(v.kind=7→ks=Hy v.keys∧xs=(Hy v.keys).map fun k=>(Ip v.keys (v.items.map Cr) k).1)→ApiValue.mk v.kind v.text ks xs=Cr v)→Option.bind (Ct N v) (fun y5=>grd (BD y5.length) (BN N v (Bl N D) (fun j1=>some (ApiValue.mk v.kind v.text j1.1 j1.2)) y5 [] []))=some (Cr v):=fun hk ho=>by
      obtain⟨l,h1,h2,h3,h4,h5⟩:=Rq (N:=N) hN' hv hs hk
      rw[h1,Option.bind_some,JA (by omega),QZ v _ _ l [] [] (fun x hx=>⟨(h2 x hx).1,(h2 x hx).2.1,fun h=>((h2 x hx).2.2 h).1⟩) (fun x hx=>?_) (by simp;omega) (by simp;omega)]
      · rw[List.nil_append,List.nil_append]
        congr 1
        refine ho _ _ (fun h6=>⟨by rw[if_neg (by simp[h6])],h4 h6⟩) fun h7=>⟨by rw[if_pos (by simp[h7])];exact(h5 h7).1,(h5 h7).2⟩
      · obtain⟨q0,q1,_⟩:=h2 x hx
        have hmem:itm v x∈v.items:=by
          unfold itm
          rw[List.getD_eq_getElem?_getD,List.getElem?_eq_getElem q1];exact List.getElem_mem q1
        have hss:Ex N (itm v x)=true:=by
          have hse:=QG (N:=N) v
          rw[hs]at hse
          have hse:=hse.symm
          have:Ia N v.items=true:=by
            rcases hk with hk|hk<;>rw[hk]at hse<;>simp at hse
            · exact hse.2.2
            · exact hse.2.2
          exact Kj this _ hmem
        exact Wx hN' e D (itm v x) (hsub _ hmem) (by omega) hss
    cases OA hs with
    |word k hk=>exact plain (by rcases hk with rfl|rfl|rfl<;>rfl) rfl rfl (by rcases hk with rfl|rfl|rfl<;>rfl) (Hu (by omega))
    |num s _=>exact plain rfl rfl rfl rfl (Hu (by decide))
    |str s _=>exact plain rfl rfl rfl rfl (Hu (by decide))
    |arr xs _=>exact both (.inl rfl) fun ks ys h6 _=>by rw[(h6 rfl).1,(h6 rfl).2,Vw]
    |obj kk xs hl2 hd hx=>exact both (.inr rfl) fun ks ys _ h7=>by rw[(h7 rfl).1,(h7 rfl).2,Vs]
theorem ADE{B:Nat} (hN':2000000≤N∧B≤10){v:ApiValue} (h:okB B 70 v) (hc:Gs v≤20000):El N v=some (if LQ N v=true then Cr v else zeroV):=by
  obtain⟨hN,hB⟩:=id hN'
  unfold El
  rw[OU hN' h hc,Option.bind_some]
  cases hw:LQ N v
  · rfl
  · have hs:Ex N v=true:=by unfold LQ at hw;rw[Bool.and_eq_true]at hw;exact hw.2
    rw[if_pos rfl,Wx hN' 70 N v h (by omega) hs];rfl
end
end Go.VM
namespace Go.VM
theorem AHD:Kz 1099511627776=some true:=by kernel_rfl
theorem MQ (v:ApiValue) (_:okApiValue v):FI 1099511627776 v=some true:=by
  unfold FI
  rw[AHD,Option.bind_some,if_pos rfl]
  obtain⟨b,e1,hb⟩:=AFp (N:=1099511627776) (by omega) v 80 (by omega)
  rw[show(80:Int)=((80:Nat):Int)from rfl,e1,Option.bind_some]
  cases b
  · rfl
  rw[if_pos rfl]
  obtain⟨hv,nv⟩:=hb rfl
  have len:Ex 1099511627776 v=true→(wrV (Cr v)).length≤1048576:=fun k3=>by
    obtain⟨o1,o2,o3,o4⟩:=ME (N:=1099511627776) 70 v hv k3
    have:=OW (N:=1099511627776) 70 (Cr v) o1 o2
    omega
  rw[ADk (N:=1099511627776) (by omega) hv (by omega) len,Option.bind_some,AE1 (N:=1099511627776) (by omega) hv (by omega),Option.bind_some,OU (N:=1099511627776) (by omega) hv (by omega),Option.bind_some,RV (N:=1099511627776) (by omega) hv (by omega),Option.bind_some]
  rw[show(decide (IA v≤64)&&Ex 1099511627776 v)=LQ 1099511627776 v from rfl]
  rw[if_pos (beq_self_eq_true _),if_pos (beq_self_eq_true _),if_pos (beq_self_eq_true _)]
  rw[ADE (N:=1099511627776) (by omega) hv (by omega),Option.bind_some]
  have hC:Gb 1099511627776 v=some (if LQ 1099511627776 v=true then Cr v else zeroV):=by
    unfold Gb
    rw[RV (N:=1099511627776) (by omega) hv (by omega),Option.bind_some]
    show(if LQ 1099511627776 v=true then _ else _)=_
    cases hc:LQ 1099511627776 v
    · rfl
    · have hs:Ex 1099511627776 v=true:=by unfold LQ at hc;rw[Bool.and_eq_true]at hc;exact hc.2
      rw[if_pos rfl,if_pos rfl,Np (N:=1099511627776) (by omega) 1099511627776 70 v hv (by omega) hs];rfl
  rw[hC,Option.bind_some]
  have hd:okW 70 (if LQ 1099511627776 v=true then Cr v else zeroV):=by
    cases hc:LQ 1099511627776 v
    · rw[if_neg (by decide)]
      exact .mk (d:=69) zeroV (Nat.zero_le _) (Nat.zero_le _) (by intro k hk;cases hk) (Nat.zero_le _) (by intro x hx;cases hx)
    · have hs:Ex 1099511627776 v=true:=by unfold LQ at hc;rw[Bool.and_eq_true]at hc;exact hc.2
      exact(ME (N:=1099511627776) 70 v hv hs).1
  rw[Ti (N:=1099511627776) 1099511627776 70 _ hd.d (by omega)];rfl
end Go.VM
