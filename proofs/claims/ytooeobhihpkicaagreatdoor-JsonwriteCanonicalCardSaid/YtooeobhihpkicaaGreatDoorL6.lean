import Derived.Test.YtooeobhihpkicaaGreatDoorL5
import Derived.Test.YtooeobhihpkicaaGreatDoorRd
set_option linter.unusedVariables false
set_option linter.unusedSimpArgs false
namespace Go.VM
theorem MW: ∀(ks:List (List UInt8)) (xs:List ApiValue),ks.length=xs.length→ks.Nodup→(ks.map fun k=>(Gn ks xs k).1)=xs
  |[],[],_,_=>rfl
  | k::ks,x::xs,h,hn=>by
    rw[List.nodup_cons]at hn
    have ih:=MW ks xs (by simpa using h) hn.2
    rw[List.map_cons]
    congr 1
    · simp[Gn]
    · conv=>rhs;rw[←ih]
      apply List.map_congr_left
      intro y hy
      have: ¬k=y:=fun e=>hn.1 (e▸hy)
      rw[Gn,if_neg (by simpa using this)]
theorem AEP{ks:List (List UInt8)}{xs:List ApiValue} (h:ks.length=xs.length) (hn:ks.Nodup):((Il ks).map fun k=>(Gn ks xs k).1).Perm xs:=by
  have:=(Dw ks).map fun k=>(Gn ks xs k).1
  rw[MW ks xs h hn]at this
  exact this
theorem AAM{xs ys:List ApiValue} (h:xs.Perm ys):Cj xs=Cj ys:=by
  induction h with
  |nil=>rfl
  |cons x _ ih=>rw[Cj,Cj,ih]
  |swap x y l=>simp only[Cj];omega
  |trans _ _ h1 h2=>rw[h1,h2]
theorem YM{xs ys:List ApiValue} (h:xs.Perm ys):Co xs=Co ys:=by
  induction h with
  |nil=>rfl
  |cons x _ ih=>rw[Co,Co,ih]
  |swap x y l=>simp only[Co];omega
  |trans _ _ h1 h2=>rw[h1,h2]
section
variable{N:Nat}
theorem ABG{l m:List (List UInt8)} (h:l.Perm m):Jn N l=Jn N m:=by
  unfold Jn
  have e1:decide l.Nodup=decide m.Nodup:=by rw[decide_eq_decide];exact h.nodup_iff
  have e2:(l.all fun k=>(C9 N k).isSome)=m.all fun k=>(C9 N k).isSome:=by
    rw[Bool.eq_iff_iff,List.all_eq_true,List.all_eq_true]
    exact⟨fun k x hx=>k x (h.mem_iff.2 hx),fun k x hx=>k x (h.mem_iff.1 hx)⟩
  rw[e1,e2]
theorem H6{ks:List (List UInt8)} (h:Jn N ks=true):ks.Nodup:=by
  unfold Jn at h
  rw[Bool.and_eq_true,decide_eq_true_eq]at h
  exact h.1
theorem Og{ks:List (List UInt8)} (h:Jn N ks=true): ∀k,k∈ks→(C9 N k).isSome=true:=by
  unfold Jn at h
  rw[Bool.and_eq_true,List.all_eq_true]at h
  exact h.2
theorem KD (xs:List ApiValue):CO ⟨6,[],[],xs⟩=⟨6,[],[],xs.map CO⟩:=by rw[CO,Kk];rfl
theorem KF (ks:List (List UInt8)) (xs:List ApiValue):CO ⟨7,[],ks,xs⟩=⟨7,[],Il ks,(Il ks).map fun k=>(Gn ks (xs.map CO) k).1⟩:=by rw[CO,Kk];rfl
theorem Cw{k:Int}{s:List UInt8} (h:k≠6):CO ⟨k,s,[],[]⟩=⟨k,s,[],[]⟩:=by rw[CO,if_neg (by simpa using h),ADr];rfl
theorem RO{B:Nat}: ∀(e:Nat) (v:ApiValue),okB B e v→FL N v=true→okB B e (CO v)∧FL N (CO v)=true∧II (CO v)=II v∧FJ (CO v)=FJ v
  |0,v,h,_=>by have:=h.pos;omega
  | e+1,v,h,hs=>by
    have ht:=h.text;have hsub:=h.sub;have hkl:=h.klen;have hk:=h.keys;have hi:=h.items
    cases H5 hs with
    |word k hkw=>rw[Cw (by omega)];exact⟨h,hs,rfl,rfl⟩
    |num s _=>rw[Cw (by decide)];exact⟨h,hs,rfl,rfl⟩
    |str s _=>rw[Cw (by decide)];exact⟨h,hs,rfl,rfl⟩
    | arr xs hx=>
      simp only at hsub hi
      have ih:=fun x hm=>RO e x (hsub x hm) (hx x hm)
      have hc: ∀ys:List ApiValue,(∀y,y∈ys→II (CO y)=II y∧FJ (CO y)=FJ y)→Cj (ys.map CO)=Cj ys∧Co (ys.map CO)=Co ys:=by
        intro ys
        induction ys with
        |nil=>intro _;exact⟨rfl,rfl⟩
        | cons y ys ih2=>
          intro hy
          have h1:=hy y (by simp)
          have h2:=ih2 fun z hz=>hy z (by simp[hz])
          simp only[List.map_cons,Cj,Co,h1.1,h1.2,h2.1,h2.2,and_self]
      obtain⟨c1,c2⟩:=hc xs fun y hy=>⟨(ih y hy).2.2.1,(ih y hy).2.2.2⟩
      rw[KD]
      refine⟨.mk _ (by simp) (by simp) (by simp) (by simpa using hi) fun x hm=>?_,?_,?_,?_⟩
      · simp only[List.mem_map]at hm
        obtain⟨y,hy,rfl⟩:=hm
        exact(ih y hy).1
      · refine(Shp.arr (xs.map CO) fun x hm=>?_).b
        simp only[List.mem_map]at hm
        obtain⟨y,hy,rfl⟩:=hm
        exact(ih y hy).2.1
      · rw[Ib,Ib];simp only[c1]
      · rw[FW,FW];simp only[c2]
    | obj ks xs hl hd hx=>
      simp only at hsub hi hkl hk
      have ih:=fun x hm=>RO e x (hsub x hm) (hx x hm)
      have hc: ∀ys:List ApiValue,(∀y,y∈ys→II (CO y)=II y∧FJ (CO y)=FJ y)→Cj (ys.map CO)=Cj ys∧Co (ys.map CO)=Co ys:=by
        intro ys
        induction ys with
        |nil=>intro _;exact⟨rfl,rfl⟩
        | cons y ys ih2=>
          intro hy
          have h1:=hy y (by simp)
          have h2:=ih2 fun z hz=>hy z (by simp[hz])
          simp only[List.map_cons,Cj,Co,h1.1,h1.2,h2.1,h2.2,and_self]
      obtain⟨c1,c2⟩:=hc xs fun y hy=>⟨(ih y hy).2.2.1,(ih y hy).2.2.2⟩
      have hp:=AEP (ks:=ks) (xs:=xs.map CO) (by simpa using hl) (H6 hd)
      have hpk:=Dw ks
      have hlen:=hp.length_eq
      rw[KF]
      refine⟨.mk _ (by simp) (by rw[hpk.length_eq];exact hk) (fun k hkm=>hkl k (hpk.mem_iff.1 hkm)) (by simp only[];rw[hlen];simpa using hi) fun x hm=>?_,?_,?_,?_⟩
      · have hm:=hp.mem_iff.1 hm
        simp only[List.mem_map]at hm
        obtain⟨y,hy,rfl⟩:=hm
        exact(ih y hy).1
      · refine(Shp.obj _ _ (by simp) (by rw[ABG hpk];exact hd) fun x hm=>?_).b
        have hm:=hp.mem_iff.1 hm
        simp only[List.mem_map]at hm
        obtain⟨y,hy,rfl⟩:=hm
        exact(ih y hy).2.1
      · rw[Ib,Ib];simp only[AAM hp,c1]
      · rw[FW,FW];simp only[YM hp,c2]
def YJ (N:Nat) (v:ApiValue):Bool:=decide (FJ v≤64)&&FL N v
end
end Go.VM
namespace Go.VM
section
variable{N:Nat}
theorem AE7{v:ApiValue} (ht:v.text.length≤1000000) (hN:2000000≤N):Fy N v=some (if v.kind==4 then KY N v.text else if v.kind==5 then(C9 N v.text).isSome else v.text==[]):=by
  unfold Fy
  cases h4:v.kind==4
  · cases h5:v.kind==5
    · rfl
    · simp only[Bool.false_eq_true,if_false,if_true]
      rw[Oc (by omega) (by omega)];rfl
  · simp only[if_true]
    rw[(U6 (N:=N) v.text (by omega) (by omega)).2,Option.bind_some]
    unfold KY
    cases (OC N v.text).2==0<;>simp
theorem AKO (hN:2000000≤N): ∀(ks seen:List (List UInt8)),(∀k,k∈ks→k.length≤1000000)→seen.Nodup→I7 N ks seen=some (decide (seen++ks).Nodup&&ks.all fun k=>(C9 N k).isSome)
  |[],seen,_,hs=>by rw[I7,List.append_nil,decide_eq_true hs];rfl
  | k::ks,seen,hk,hs=>by
    rw[I7]
    by_cases hin:k∈seen
    · rw[if_pos hin,decide_eq_false]
      · rfl
      · intro h
        rw[List.nodup_append]at h
        exact h.2.2 k hin k (by simp) rfl
    · have hk1:=hk k (by simp)
      rw[if_neg hin,Oc (by omega) (by omega),Option.bind_some,List.all_cons]
      cases (C9 N k).isSome
      · simp
      · rw[if_pos rfl,AKO hN ks (seen++[k]) (fun y hy=>hk y (by simp[hy])) (by rw[List.nodup_append];exact⟨hs,by simp,fun a ha b hb e=>by simp at hb;subst hb;exact hin (e▸ha)⟩)]
        rw[List.append_assoc];simp
theorem AJ6{ks:List (List UInt8)} (hl:ks.length≤1000000) (hN:2000000≤N) (hk: ∀k,k∈ks→k.length≤1000000):Gx N ks=some (Jn N ks):=by
  unfold Gx
  rw[AA8 (by omega),AKO hN ks [] hk (by simp)];rfl
theorem AGl{α β:Type} (xs:List α) (ys:List β) (h:xs.length≤1000000) (h2:ys.length≤1000000):(wr .i64 ((xs.length:Int)+(ys.length:Int))==0)=(ys.isEmpty&&xs.isEmpty):=by
  rw[Ak (by omega)]
  cases xs<;>cases ys<;>simp<;>omega
theorem RY{d:Nat} (rc:JsonwriteCounter→ApiValue→Int→Option (Bool×JsonwriteCounter)): ∀(xs:List ApiValue) (n:Nat),n+Cj xs≤20000→d≤64→(∀x,x∈xs→ ∀n:Nat,n+II x≤20000→Ok (rc ⟨(n:Int)⟩ x ((d+1:Nat):Int)) fun r=>r.1=(decide (d+1+FJ x≤64)&&FL N x)∧(r.1=true→r.2.nodes=((n+II x:Nat):Int)))→(d+1≤64)→
    Ok (BR N (d:Int) rc (fun j17=>some (true,JsonwriteCounter.mk j17)) xs (n:Int)) fun r=>r.1=(decide (d+1+Co xs≤64)&&J4 N xs)∧(r.1=true→r.2.nodes=((n+Cj xs:Nat):Int))
  | [],n,_,_,_,hd=>by
    rw[BR,Co,J4,Cj]
    exact Ok.ret ⟨by simp;omega,fun _=>rfl⟩
  | x::xs,n,hn,hd,hr,hd1=>by
    rw[Cj]at hn⊢
    rw[BR,show(d:Int)+1=((d+1:Nat):Int) by omega,Ak (by omega),Co,J4]
    refine(hr x (by simp) n (by omega)).bind fun r h=>?_
    cases e:r.1
    · rw[if_neg (by decide)]
      rw[e]at h
      refine Ok.ret ⟨?_,fun k=>by cases k⟩
      have h1:=h.1.symm
      rw[Bool.and_eq_false_iff]at h1
      rcases h1 with h1|h1
      · rw[decide_eq_false_iff_not]at h1
        rw[decide_eq_false (by omega)];rfl
      · rw[h1];simp
    · rw[if_pos rfl,h.2 e]
      rw[e]at h
      have h1:=h.1.symm
      rw[Bool.and_eq_true,decide_eq_true_eq]at h1
      refine(RY rc xs (n+II x) (by omega) hd (fun y hy=>hr y (by simp[hy])) hd1).mono fun r2 h2=>⟨?_,fun k=>?_⟩
      · rw[h2.1,h1.2]
        by_cases hx:d+1+Co xs≤64
        · rw[decide_eq_true hx,decide_eq_true (by omega)];simp
        · rw[decide_eq_false hx,decide_eq_false (by omega)];simp
      · rw[h2.2 k];congr 1;omega
def AGU (N:Nat) (v:ApiValue):Bool:=if v.kind==4 then KY N v.text else if v.kind==5 then(C9 N v.text).isSome else v.text==[]
theorem VA (v:ApiValue):FL N v=(decide (1≤v.kind∧v.kind≤7)&&AGU N v&&(if v.kind<6 then v.keys.isEmpty&&v.items.isEmpty else if v.kind==6 then v.keys.isEmpty&&J4 N v.items else decide (v.keys.length=v.items.length)&&Jn N v.keys&&J4 N v.items)):=by
  obtain⟨kind,text,keys,items⟩:=v
  rw[FL]
  unfold AGU
  simp only[]
  by_cases h:1≤kind∧kind≤7
  · have:kind=1∨kind=2∨kind=3∨kind=4∨kind=5∨kind=6∨kind=7:=by omega
    rcases this with rfl|rfl|rfl|rfl|rfl|rfl|rfl<;>simp[Bool.and_assoc]
  · rw[decide_eq_false h]
    have e: ∀k:Int,(1≤k∧k≤7)→(kind==k)=false:=fun k hk=>by simp;omega
    rw[e 1 (by omega),e 2 (by omega),e 3 (by omega),e 4 (by omega),e 5 (by omega),e 6 (by omega),e 7 (by omega)]
    simp
theorem TT {B:Nat} (hN':2000000≤N∧B≤10): ∀(D e d n:Nat) (v:ApiValue),okB B e v→e≤D→d≤64→n+II v≤20000→
    Ok (BO N D ⟨(n:Int)⟩ v (d:Int)) fun r=>r.1=(decide (d+FJ v≤64)&&FL N v)∧(r.1=true→r.2.nodes=((n+II v:Nat):Int))
  |0,e,d,n,v,h,he,_,_=>by have:=h.pos;omega
  | D + 1, e, d, n, v,h,he,hd,hn=>by
    obtain⟨hN,hB⟩:=id hN'
    obtain⟨e,rfl⟩: ∃k,e=k+1:=⟨e-1,by have:=h.pos;omega⟩
    have hi:=h.items;have ht:=h.text;have hk:=h.keys;have hkl:=h.klen;have hsub:=h.sub
    have hcp:=NQ v
    have hts:Fy N v=some (AGU N v):=AE7 (N:=N) (v:=v) (by omega) hN
    have hks:=AJ6 (N:=N) (ks:=v.keys) (by omega) hN fun k h=>by have:=hkl k h;omega
    have hcnt:=Ib v
    have hnest:=FW v
    have e1:(n:Int)+1=((n+1:Nat):Int):=by omega
    have no: ∀x:JsonwriteCounter,FL N v=false∨ ¬d+FJ v≤64→Ok (some (false,x)) fun r:Bool×JsonwriteCounter=>r.1=(decide (d+FJ v≤64)&&FL N v)∧(r.1=true→r.2.nodes=((n+II v:Nat):Int)):=fun x hx=>by
      refine Ok.ret ⟨?_,fun k=>by cases k⟩
      rcases hx with hx|hx
      · rw[hx];simp
      · rw[decide_eq_false hx];rfl
    rw[BO]
    dsimp only
    rw[e1,Ak (by omega)]
    refine Ok.meet (fun j1=>j1=!(decide (1≤v.kind∧v.kind≤7)&&AGU N v)) ?_ ?_
    · rintro _ rfl
      cases hg:(decide (1≤v.kind∧v.kind≤7)&&AGU N v)
      · rw[if_pos (by decide)]
        exact no _ (.inl (by rw[VA,hg];rfl))
      · have hse := VA (N:=N) v
        rw[hg,Bool.true_and]at hse
        rw[Bool.and_eq_true,decide_eq_true_eq]at hg
        rw[if_neg (by decide)]
        by_cases hk6:v.kind<6
        · rw [if_pos (by simpa using hk6)]
          rw[if_pos hk6]at hse
          rw[AGl v.items v.keys (by omega) (by omega)]
          have h67:(v.kind==6||v.kind==7)=false:=by
            rw[Bool.or_eq_false_iff];exact⟨by simp;omega,by simp;omega⟩
          rw[h67]at hnest
          cases hb:(v.keys.isEmpty&&v.items.isEmpty)
          · exact no _ (.inl (by rw[hse,hb]))
          · rw[hb]at hse
            rw[Bool.and_eq_true,List.isEmpty_iff,List.isEmpty_iff]at hb
            rw[hb.2]at hnest hcnt
            simp only[Co,Cj,Bool.false_eq_true,if_false]at hnest hcnt
            refine Ok.ret ⟨?_,fun _=>?_⟩
            · rw[hse,hnest,decide_eq_true (by omega)];rfl
            · show((n+1:Nat):Int)=_
              rw[hcnt]
        · rw [if_neg (by simpa using hk6)]
          rw[if_neg hk6]at hse
          have h67:(v.kind==6||v.kind==7)=true:=by
            rw[Bool.or_eq_true]
            by_cases h6:v.kind=6
            · exact .inl (by simp[h6])
            · exact .inr (by simp;omega)
          rw[h67,if_pos rfl]at hnest
          by_cases hd64:64≤d
          · rw[if_pos (by simp only[decide_eq_true_eq];omega)]
            exact no _ (.inr (by omega))
          · rw [if_neg (by simp only[decide_eq_true_eq];omega)]
            have loop:=RY (N:=N) (d:=d) (BO N D) v.items (n+1) (by omega) hd (fun x hx m hm=>TT hN' D e (d+1) m x (hsub x hx) (by omega) (by omega) hm) (by omega)
            have fin:FL N v=J4 N v.items→Ok (Ab (fun j17:Int=>some (true,JsonwriteCounter.mk j17)) fun k18=>grd (Bf v.items.length) (BR N (d:Int) (BO N D) k18 v.items ((n+1:Nat):Int))) fun r=>r.1=(decide (d+FJ v≤64)&&FL N v)∧(r.1=true→r.2.nodes=((n+II v:Nat):Int)):=fun hs=>by
              rw[AR,AA8 (by omega)]
              refine loop.mono fun r hr=>⟨?_,fun k=>?_⟩
              · rw[hr.1,hs,hnest,Nat.add_assoc]
              · rw[hr.2 k,hcnt];congr 1;omega
            refine Ok.meet (fun j7=>j7=(v.kind==6&&!v.keys.isEmpty)) ?_ ?_
            · rintro _ rfl
              cases h6:v.kind==6
              · have h7:(v.kind==7)=true:=by simp at h6;simp;omega
                rw[Bool.false_and,if_neg (by decide)]
                rw[h6,if_neg (by decide)]at hse
                refine Ok.meet (fun j11=>j11=!(decide (v.keys.length=v.items.length)&&Jn N v.keys)) ?_ ?_
                · rintro _ rfl
                  cases hg2:(decide (v.keys.length=v.items.length)&&Jn N v.keys)
                  · rw[if_pos (by decide)];exact no _ (.inl (by rw[hse,hg2];rfl))
                  · rw[if_neg (by decide)];exact fin (by rw[hse,hg2];rfl)
                · intro k12 hk12
                  rw[if_pos h7]
                  by_cases hl:v.keys.length=v.items.length
                  · rw[if_neg (by simp[hl]),hks,Option.bind_some]
                    exact hk12 _ (by rw[decide_eq_true hl,Bool.true_and])
                  · rw[if_pos (by simp;omega)]
                    exact hk12 _ (by rw[decide_eq_false hl];rfl)
              · rw [h6,if_pos rfl]at hse
                have h7:(v.kind==7)=false:=by simp at h6;simp;omega
                cases hke:v.keys.isEmpty
                · rw[if_pos (by decide)];exact no _ (.inl (by rw[hse,hke];rfl))
                · rw[if_neg (by decide)]
                  refine Ok.meet (fun j11=>j11=false) ?_ ?_
                  · rintro _ rfl
                    rw[if_neg (by decide)];exact fin (by rw[hse,hke];rfl)
                  · intro k12 hk12
                    rw[h7,if_neg (by decide)]
                    exact hk12 _ rfl
            · intro k8 hk8
              cases h6:v.kind==6
              · rw[if_neg (by decide)];exact hk8 _ (by rw[h6];rfl)
              · rw[if_pos rfl]
                refine hk8 _ ?_
                rw[h6,Bool.true_and]
                cases v.keys<;>simp<;>omega
    · intro k2 hk2
      rw[if_neg (by simp only[decide_eq_true_eq];omega)]
      by_cases h1:v.kind<1
      · rw[if_pos (by simpa using h1)];exact hk2 _ (by rw[decide_eq_false (by omega)];rfl)
      · rw[if_neg (by simpa using h1)]
        by_cases h7:v.kind>7
        · rw[if_pos (by simpa using h7)];exact hk2 _ (by rw[decide_eq_false (by omega)];rfl)
        · rw[if_neg (by simpa using h7),hts,Option.bind_some]
          exact hk2 _ (by rw[decide_eq_true (by omega),Bool.true_and])
theorem AE0{B:Nat} (hN':2000000≤N∧B≤10){v:ApiValue} (h:okB B 70 v) (hc:II v≤20000):Ed N v=some (YJ N v):=by
  obtain⟨hN,hB⟩:=id hN'
  unfold Ed
  obtain⟨r,h1,h2,_⟩:=TT (N:=N) hN' N 70 0 0 v h (by omega) (by omega) (by omega)
  rw[show(0:Int)=((0:Nat):Int)from rfl,h1,Option.bind_some,h2,Nat.zero_add]
  rfl
end
end Go.VM
namespace Go.VM
def Wb (b:List UInt8):JsonwriteWriter:=⟨⟨true,b⟩⟩
def itm (v:ApiValue) (x:Int):ApiValue:=v.items.getD x.toNat zeroV
def PM (v:ApiValue) (b:Bool) (l:List Int):List UInt8:=if(v.kind==7)=true then wrM b (l.map (kth v)) (l.map fun x=>CO (itm v x))else wrI b (l.map fun x=>CO (itm v x))
theorem YE: ∀ {ks:List (List UInt8)}{ys:List ApiValue}{i:Nat},ks.Nodup→ks.length=ys.length→(h:i<ks.length)→(h2:i<ys.length)→Gn ks ys ks[i]=(ys[i],true)
  |k::ks,y::ys,0,_,_,_,_=>by simp[Gn]
  | k::ks,y::ys,i+1,hn,hl,h,h2=>by
    rw[List.nodup_cons]at hn
    have h':i<ks.length:=by simpa using h
    have hne: ¬k=ks[i]:=fun e=>hn.1 (e▸List.getElem_mem h')
    simp only[List.getElem_cons_succ]
    rw[Gn,if_neg (by simpa using hne)]
    exact YE hn.2 (by simpa using hl) h' (by simpa using h2)
section
variable{N:Nat}
theorem JW (w:JsonwriteWriter) (s:List UInt8) (h:w.builder.buf.length+s.length≤1000000000):AL N w s=some ((s.length:Int),(),Wb (w.builder.buf++s)):=by
  unfold AL CL
  cases hw:w.builder.addr
  · rw[if_neg (by decide),Option.bind_some,AZ (AFM (by simpa using h))];rfl
  · rw[if_pos rfl,Option.bind_some,AZ (AFM h),hw];rfl
theorem RP (hN:2000000≤N) (w:JsonwriteWriter) (s:List UInt8) (hs:(C9 N s).isSome=true) (hl:s.length≤1000000) (h:w.builder.buf.length+(DT s).length≤1000000000):Cr N w s=some (Wb (w.builder.buf++DT s)):=by
  unfold Cr
  rw[AEe s (.inl (by omega)),Option.bind_some,ADI (by omega) hs]
  dsimp only
  rw[JW w _ h,Option.bind_some,if_neg (by simp only[decide_eq_true_eq];omega)]
theorem AKM (hN:2000000≤N) (v:ApiValue) (rc:JsonwriteWriter→ApiValue→Option JsonwriteWriter) (k4:JsonwriteWriter→Option JsonwriteWriter): ∀(l:List Int) (n:Nat) (b:Bool) (buf:List UInt8),(b=true↔n=0)→
    (∀x,x∈l→0≤x∧x.toNat<v.items.length∧((v.kind==7)=true→x.toNat<v.keys.length∧(C9 N (kth v x)).isSome=true∧(kth v x).length≤1000000))→
    (∀x,x∈l→ ∀buf:List UInt8,buf.length+(wrV (CO (itm v x))).length≤1048576→rc (Wb buf) (itm v x)=some (Wb (buf++wrV (CO (itm v x)))))→buf.length+(PM v b l).length≤1048576→
    Bj N v rc k4 l (n:Int) (Wb buf)=k4 (Wb (buf++PM v b l))
  | [],n,b,buf,_,_,_,_=>by
    rw[Bj]
    have:PM v b []=[]:=by
      unfold PM
      split
      · rw[List.map_nil,wrM];intros;simp_all
      · rw[List.map_nil,wrI]
    rw[this,List.append_nil]
  | x::l,n,b,buf,hb,hx,hr,hl=>by
    obtain⟨h0,hi,hk⟩:=hx x (by simp)
    have eit:idx v.items x=some (itm v x):=by
      unfold idx itm
      rw[if_pos h0,List.getElem?_eq_getElem hi,List.getD_eq_getElem?_getD,List.getElem?_eq_getElem hi];rfl
    have sep: ∀K:JsonwriteWriter→Option JsonwriteWriter,(if decide ((n:Int)>0)=true then Option.bind (AL N (Wb buf) ([44]:List UInt8)) fun y14=>K y14.2.2 else K (Wb buf))=K (Wb (buf++(if b then []else [44]))):=fun K=>by
      cases b
      · have hn0:n≠0:=fun e=>by have:=hb.2 e;cases this
        rw[if_pos (by simp only[decide_eq_true_eq];omega),JW _ _ (by show buf.length+_≤_;simp only[List.length_cons,List.length_nil];omega)]
        rfl
      · have hn0:n=0:=hb.1 rfl
        rw[if_neg (by simp only[decide_eq_true_eq];omega)]
        simp
    have ih:=fun buf' h=>AKM hN v rc k4 l (n+1) false buf' (by simp) (fun y hy=>hx y (by simp[hy])) (fun y hy=>hr y (by simp[hy])) h
    rw[Bj]
    refine(CK sep).trans ?_
    dsimp only[AR]
    rw[eit]
    unfold PM at hl ih⊢
    cases h7:v.kind==7
    · simp only[h7,Bool.false_eq_true,if_false,List.map_cons]at hl ih⊢
      rw[wrI]at hl⊢
      simp only[List.length_append]at hl
      rw[Option.bind_some,hr x (by simp) _ (by simp only[List.length_append];omega),Option.bind_some,show(n:Int)+1=((n+1:Nat):Int) by omega,ih _ (by simp only[List.length_append];omega)]
      simp
    · simp only[h7,if_true,List.map_cons]at hl ih⊢
      rw[wrM]at hl⊢
      simp only[List.length_append,List.length_cons]at hl
      obtain⟨hk1,hk2,hk3⟩:=hk h7
      have eky:idx v.keys x=some (kth v x):=by
        unfold idx kth
        rw[if_pos h0,List.getElem?_eq_getElem hk1,List.getD_eq_getElem?_getD,List.getElem?_eq_getElem hk1];rfl
      rw[eky,Option.bind_some,RP hN _ _ hk2 hk3 (by show(buf++_).length+_≤_;simp only[List.length_append];omega),Option.bind_some]
      rw[JW _ _ (by show((buf++_)++_).length+_≤_;simp only[List.length_append,List.length_cons,List.length_nil];omega),Option.bind_some]
      dsimp only[Wb]
      rw[Option.bind_some]
      have h2:=hr x (by simp) (((buf++(if b then []else [44]))++DT (kth v x))++[58]) (by simp only[List.length_append,List.length_cons,List.length_nil];omega)
      unfold Wb at h2
      rw[h2,Option.bind_some,show(n:Int)+1=((n+1:Nat):Int) by omega]
      have h3:=ih ((((buf++(if b then []else [44]))++DT (kth v x))++[58])++wrV (CO (itm v x))) (by simp only[List.length_append,List.length_cons,List.length_nil];omega)
      unfold Wb at h3
      rw[h3]
      simp
theorem ABk{B:Nat} (hN':2000000≤N∧B≤10){e:Nat}{v:ApiValue} (hv:okB B e v) (hs:FL N v=true) (hk:v.kind=6∨v.kind=7): ∃l,ED N v=some l∧(∀x,x∈l→0≤x∧x.toNat<v.items.length∧((v.kind==7)=true→x.toNat<v.keys.length∧(C9 N (kth v x)).isSome=true∧(kth v x).length≤1000000))∧l.length=v.items.length∧
    (v.kind=6→(l.map fun x=>CO (itm v x))=v.items.map CO)∧(v.kind=7→l.map (kth v)=Il v.keys∧(l.map fun x=>CO (itm v x))=(Il v.keys).map fun k=>(Gn v.keys (v.items.map CO) k).1):=by
  have hi:=hv.items;have hkk:=hv.keys;have hkl:=hv.klen
  have idm: ∀x,x∈KL v.items.length→0≤x∧x.toNat<v.items.length:=fun x hx=>by
    simp only[KL,List.mem_map,List.mem_range]at hx
    obtain⟨i,h1,rfl⟩:=hx
    exact⟨by omega,by simpa using h1⟩
  rcases hk with hk|hk
  · have h7:(v.kind==7)=false:=by simp[hk]
    refine⟨_,AEZ h7 (by omega),fun x hx=>⟨(idm x hx).1,(idm x hx).2,fun h=>by rw[h7]at h;cases h⟩,Fu _,fun _=>?_,fun h=>by omega⟩
    refine List.ext_getElem (by simp[Fu]) fun i h1 h2=>?_
    have hi2:i<v.items.length:=by simpa using h2
    simp only[List.getElem_map,KL,List.getElem_range,itm,Int.toNat_natCast,List.getD_eq_getElem?_getD,List.getElem?_eq_getElem hi2,Option.getD_some]
  · have h7:(v.kind==7)=true:=by simp[hk]
    have hse:=VA (N:=N) v
    rw[hs,hk,if_neg (by decide),if_neg (by decide)]at hse
    have hse:=hse.symm
    simp only[Bool.and_eq_true,decide_eq_true_eq]at hse
    obtain⟨_,⟨hl,hd⟩,_⟩:=hse
    have hnd:=H6 hd
    obtain⟨l,h1,h2,h3⟩:=ADP (N:=N) h7 hl hnd (by omega) (by omega)
    have hm: ∀x,x∈l→0≤x∧x.toNat<v.items.length:=fun x hx=>idm x (h3.mem_iff.1 hx)
    have kk: ∀x,x∈l→ ∃(h:x.toNat<v.keys.length),kth v x=v.keys[x.toNat]:=fun x hx=>by
      have hx2:x.toNat<v.keys.length:=by have:=(hm x hx).2;omega
      exact⟨hx2,by unfold kth;rw[List.getD_eq_getElem?_getD,List.getElem?_eq_getElem hx2];rfl⟩
    refine⟨l,h1,fun x hx=>⟨(hm x hx).1,(hm x hx).2,fun _=>?_⟩,by rw[h3.length_eq,Fu],fun h=>by omega,fun _=>⟨h2,?_⟩⟩
    · obtain⟨hx2,e⟩:=kk x hx
      rw[e]
      exact⟨hx2,Og hd _ (List.getElem_mem hx2),by have:=hkl _ (List.getElem_mem hx2);omega⟩
    · rw[←h2,List.map_map]
      refine List.map_congr_left fun x hx=>?_
      obtain⟨hx2,e⟩:=kk x hx
      have hx3:=(hm x hx).2
      show CO (itm v x)=(Gn v.keys (v.items.map CO) (kth v x)).1
      rw[e,YE hnd (by simpa using hl) hx2 (by simpa using hx3),List.getElem_map]
      unfold itm
      rw[List.getD_eq_getElem?_getD,List.getElem?_eq_getElem hx3];rfl
theorem Te {B:Nat} (hN':2000000≤N∧B≤10): ∀(e D:Nat) (v:ApiValue) (w:JsonwriteWriter),okB B e v→2 * e≤D→FL N v=true→w.builder.buf.length+(wrV (CO v)).length≤1048576→Bc N D w v=some (Wb (w.builder.buf++wrV (CO v)))
  |0,D,v,w,h,_,_,_=>by have:=h.pos;omega
  | e+1,D,v,w,hv,hD,hs,hl=>by
    obtain⟨hN,hB⟩:=id hN'
    obtain⟨D,rfl⟩: ∃k,D=k+2:=⟨D-2,by omega⟩
    have ht:=hv.text;have hsub:=hv.sub
    rw[Bc]
    unfold Bp
    rw[Option.bind_some]
    dsimp only
    rw[if_neg (by simp only[decide_eq_true_eq];omega)]
    have both: ∀(left right:List UInt8),left.length=1→right.length=1→(v.kind=6∨v.kind=7)→(wrV (CO v)=left++((if(v.kind==7)=true then wrM true (CO v).keys (CO v).items else wrI true (CO v).items)++right))→CW N (D+1) w v left right=some (Wb (w.builder.buf++wrV (CO v))):=by
      intro left right hll hrl hk hw
      obtain⟨l,h1,h2,h3,h4,h5⟩:=ABk (N:=N) hN' hv hs hk
      have hbody:PM v true l=if(v.kind==7)=true then wrM true (CO v).keys (CO v).items else wrI true (CO v).items:=by
        unfold PM
        rcases hk with hk|hk
        · have ho:(CO v).items=v.items.map CO:=by
            obtain⟨kind,text,keys,items⟩:=v
            simp only at hk;subst hk
            rw[CO];exact Kk items
          rw[if_neg (by simp[hk]),if_neg (by simp[hk]),h4 hk,ho]
        · have ho:(CO v).keys=Il v.keys∧(CO v).items=(Il v.keys).map fun k=>(Gn v.keys (v.items.map CO) k).1:=by
            obtain⟨kind,text,keys,items⟩:=v
            simp only at hk;subst hk
            rw[CO];exact⟨rfl,by rw[←Kk];rfl⟩
          rw[if_pos (by simp[hk]),if_pos (by simp[hk]),(h5 hk).1,(h5 hk).2,ho.1,ho.2]
      rw[hw]at hl⊢
      rw[←hbody]at hl⊢
      simp only[List.length_append]at hl
      have hn:=hv.items
      rw[CW,JW w left (by omega),Option.bind_some]
      dsimp only[AR]
      rw[h1,Option.bind_some,AA8 (by omega),show(0:Int)=((0:Nat):Int)from rfl]
      rw[AKM hN v (Bc N D) _ l 0 true (w.builder.buf++left) (by simp) h2 (fun x hx buf hb=>?_) (by simp only[List.length_append];omega)]
      · rw[JW _ right (by show((w.builder.buf++left)++_).length+_≤_;simp only[List.length_append];omega),Option.bind_some]
        show some (Wb (((w.builder.buf++left)++PM v true l)++right))=_
        simp
      · obtain⟨q0,q1,_⟩:=h2 x hx
        have hmem:itm v x∈v.items:=by
          unfold itm
          rw[List.getD_eq_getElem?_getD,List.getElem?_eq_getElem q1];exact List.getElem_mem q1
        have hss:FL N (itm v x)=true:=by
          have hse:=VA (N:=N) v
          rw[hs]at hse
          have hse:=hse.symm
          have:J4 N v.items=true:=by
            rcases hk with hk|hk<;>rw[hk]at hse<;>simp at hse
            · exact hse.2.2
            · exact hse.2.2
          exact MZ this _ hmem
        exact Te hN' e D (itm v x) (Wb buf) (hsub _ hmem) (by omega) hss hb
    cases H5 hs with
    | word k hk=>
      rw[Cw (by omega)]at hl⊢
      rcases hk with rfl|rfl|rfl
      · show Option.bind (AL N w [110,117,108,108]) (fun y=>some y.2.2)=_
        rw[JW _ _ (by simp only[List.length_cons,List.length_nil];omega)];rfl
      · show Option.bind (AL N w [102,97,108,115,101]) (fun y=>some y.2.2)=_
        rw[JW _ _ (by simp only[List.length_cons,List.length_nil];omega)];rfl
      · show Option.bind (AL N w [116,114,117,101]) (fun y=>some y.2.2)=_
        rw[JW _ _ (by simp only[List.length_cons,List.length_nil];omega)];rfl
    | num s _=>
      simp only at ht
      rw[Cw (by decide)]at hl⊢
      show Option.bind (AL N w s) (fun y=>some y.2.2)=_
      rw[JW _ _ (by omega)];rfl
    | str s hq=>
      simp only at ht
      have:=NH s
      rw[Cw (by decide)]at hl⊢
      show Option.bind (Cr N w s) (fun y=>some y)=_
      rw[RP hN _ _ hq (by omega) (by omega)];rfl
    | arr xs _=>
      show Option.bind (CW N (D+1) w ⟨6,[],[],xs⟩ [91] [93]) (fun y=>some y)=_
      rw[both [91] [93] rfl rfl (.inl rfl) (by rw[KD,wrV];rfl)];rfl
    | obj ks xs hl2 hd hx=>
      show Option.bind (CW N (D+1) w ⟨7,[],ks,xs⟩ [123] [125]) (fun y=>some y)=_
      rw[both [123] [125] rfl rfl (.inr rfl) (by rw[KF,wrV];rfl)];rfl
theorem TK{B:Nat} (hN':2000000≤N∧B≤10){v:ApiValue} (h:okB B 70 v) (hc:II v≤20000) (hl:FL N v=true→(wrV (CO v)).length≤1048576):Ea N v=some (if YJ N v=true then(wrV (CO v),0)else([],8)):=by
  obtain⟨hN,hB⟩:=id hN'
  unfold Ea
  rw[AE0 hN' h hc,Option.bind_some]
  cases hw:YJ N v
  · rfl
  · have hs:FL N v=true:=by unfold YJ at hw;rw[Bool.and_eq_true]at hw;exact hw.2
    have hb:=hl hs
    rw[if_pos rfl,Te hN' 70 N v _ h (by omega) hs (by simpa using hb),Option.bind_some]
    unfold Bp Cc
    rw[Option.bind_some,if_pos rfl]
    refine(if_neg fun hh=>?_).trans rfl
    have h3:((([]++wrV (CO v):List UInt8).length:Nat):Int)>1048576:=of_decide_eq_true hh
    rw[List.nil_append]at h3
    omega
end
end Go.VM
namespace Go.VM
open Classical
theorem Zp: ∀ {a b:List (List UInt8)},a.Nodup→(∀k,k∈a→k∈b)→b.length=a.length→a.Perm b
  |[],b,_,_,h=>by rw[List.length_eq_zero_iff.1 h]
  | k::a,b,hn,hs,h=>by
    rw[List.nodup_cons]at hn
    obtain⟨x,y,rfl⟩:=List.append_of_mem (hs k (by simp))
    have ih:=Zp (a:=a) (b:=x++y) hn.2 (fun q hq=>by
      have:=hs q (by simp[hq])
      simp only[List.mem_append,List.mem_cons]at this⊢
      rcases this with h|rfl|h
      · exact .inl h
      · exact absurd hq hn.1
      · exact .inr h) (by simp at h⊢;omega)
    exact(ih.cons k).trans List.perm_middle.symm
theorem M3{a b:List (List UInt8)} (h:a.Perm b):Il a=Il b:=Re ((Dw _).trans (h.trans (Dw _).symm)) (OY _) (OY _)
theorem NY: ∀ {ks:List (List UInt8)}{xs:List ApiValue}{k:List UInt8},ks.length=xs.length→(Gn ks xs k).2=decide (k∈ks)
  |[],[],k,_=>rfl
  | a::ks,x::xs,k,h=>by
    rw[Gn]
    by_cases e:a=k
    · rw[if_pos (by simp[e])];simp[e]
    · rw[if_neg (by simpa using e),NY (by simpa using h)]
      have: ¬k=a:=fun q=>e q.symm
      simp[this]
theorem TA (v:ApiValue):(CO v).kind=v.kind:=by
  obtain⟨k,t,ks,xs⟩:=v
  rw[CO];split<;>rfl
section
variable{N:Nat}
theorem YK (w:ApiValue) (rc:ApiValue→ApiValue→Option Bool): ∀(xs pre suf:List ApiValue),w.items=pre++suf→xs.length=suf.length→(∀x y,x∈xs→y∈suf→rc x y=some (decide (CO x=CO y)))→DV N w rc (fun _=>some true) xs (pre.length:Int)=some (decide (xs.map CO=suf.map CO))
  | [],pre,suf,_,hl,_=>by
    have:suf=[]:=List.length_eq_zero_iff.1 (by simpa using hl.symm)
    subst this
    rw[DV];simp
  |x::xs,pre,[],_,hl,_=>by simp at hl
  | x::xs,pre,y::suf,hp,hl,hr=>by
    rw[DV,AFH hp,Option.bind_some,hr x y (by simp) (by simp),Option.bind_some]
    by_cases e:CO x=CO y
    · rw[if_pos (by simpa using e),Qg pre y,YK w rc xs (pre++[y]) suf (by simp[hp]) (by simpa using hl) (fun a b ha hb=>hr a b (by simp[ha]) (by simp[hb]))]
      simp[e]
    · rw[if_neg (by simpa using e)];simp[e]
theorem AB8 (v w:ApiValue) (hv:v.kind=7) (hw:w.kind=7) (hvl:v.keys.length=v.items.length) (hwl:w.keys.length=w.items.length) (hb:v.keys.length≤1000000∧w.keys.length≤1000000) (rc:ApiValue→ApiValue→Option Bool) (hr: ∀x y,x∈v.items→y∈w.items→rc x y=some (decide (CO x=CO y))): ∀(ks:List (List UInt8)),(∀k,k∈ks→k∈v.keys)→
    DR N v w rc (fun _=>some true) ks=some (decide (∀k,k∈ks→k∈w.keys∧CO (Gn v.keys v.items k).1=CO (Gn w.keys w.items k).1))
  |[],_=>by rw[DR];simp
  | k::ks,hk=>by
    have hkv:=hk k (by simp)
    have g1:Sm v k=Gn v.keys v.items k:=by unfold Sm;rw[if_pos (by simp[hv])]
    have g2:Sm w k=Gn w.keys w.items k:=by unfold Sm;rw[if_pos (by simp[hw])]
    rw[DR,P9 v k (by omega),Option.bind_some,P9 w k (by omega),Option.bind_some,g1,g2]
    simp only[AR]
    rw[NY hvl,NY hwl,if_pos (by simpa using hkv)]
    by_cases e:k∈w.keys
    · obtain⟨x,h1,h2,_⟩:=Lp CO v.keys v.items k hvl hkv
      obtain⟨y,h3,h4,_⟩:=Lp CO w.keys w.items k hwl e
      rw[if_pos (by simpa using e),h2,h4,hr x y h1 h3,Option.bind_some,AB8 v w hv hw hvl hwl hb rc hr ks fun q hq=>hk q (by simp[hq])]
      by_cases e2:CO x=CO y
      · rw[if_neg (by simp[e2])];simp[e,h2,h4,e2]
      · rw[if_pos (by simp[e2])];simp[e,h2,h4,e2]
    · rw[if_neg (by simpa using e)];simp[e]
theorem RX {B:Nat} (hN':2000≤N∧B≤10): ∀(D e:Nat) (v w:ApiValue),okB B e v→okB B e w→e≤D→FL N v=true→FL N w=true→Cv N D v w=some (decide (CO v=CO w))
  |0,e,v,w,h,_,he,_,_=>by have:=h.pos;omega
  | D + 1, e, v,w,hv,hw,he,hs,hs2=>by
    obtain⟨hN,hB⟩:=id hN'
    obtain⟨e,rfl⟩: ∃k,e=k+1:=⟨e-1,by have:=hv.pos;omega⟩
    have hvi:=hv.items;have hwi:=hw.items;have hvk:=hv.keys;have hwk:=hw.keys
    have hvs:=hv.sub;have hws:=hw.sub
    have olen: ∀u:ApiValue,FL N u=true→(CO u).items.length=u.items.length∧(CO u).keys.length=u.keys.length:=fun u hu=>by
      cases H5 hu with
      |word k hk=>rw[Cw (by omega)];exact⟨rfl,rfl⟩
      |num s _=>rw[Cw (by decide)];exact⟨rfl,rfl⟩
      |str s _=>rw[Cw (by decide)];exact⟨rfl,rfl⟩
      |arr xs _=>rw[KD];exact⟨by simp,rfl⟩
      |obj ks xs hl _ _=>rw[KF];exact⟨by simp[(Dw ks).length_eq,hl],(Dw ks).length_eq⟩
    obtain⟨ov1,ov2⟩:=olen v hs
    obtain⟨ow1,ow2⟩:=olen w hs2
    rw[Cv]
    dsimp only[AR]
    by_cases hk:v.kind=w.kind
    · by_cases hi:v.items.length=w.items.length
      · by_cases hkl:v.keys.length=w.keys.length
        · rw [if_neg (by simp[hk]),if_neg (by simp[hi]),if_neg (by simp[hkl])]
          cases H5 hs with
          | word k hkw=>
            cases H5 hs2 with
            | word k2 hk2=>
              simp only at hk;subst hk
              rcases hkw with rfl|rfl|rfl<;>(rw[decide_eq_true rfl];rfl)
            |num s _=>simp only at hk;omega
            |str s _=>simp only at hk;omega
            |arr xs _=>simp only at hk;omega
            |obj ks xs _ _ _=>simp only at hk;omega
          | num s _=>
            cases H5 hs2 with
            |word k2 hk2=>simp only at hk;omega
            | num s2 _=>
              rw[Cw (by decide),Cw (by decide)]
              show some (s==s2)=_
              congr 1
              by_cases q:s=s2<;>simp[q]
            |str s _=>simp at hk
            |arr xs _=>simp at hk
            |obj ks xs _ _ _=>simp at hk
          | str s _=>
            cases H5 hs2 with
            |word k2 hk2=>simp only at hk;omega
            |num s2 _=>simp at hk
            | str s2 _=>
              rw[Cw (by decide),Cw (by decide)]
              show some (s==s2)=_
              congr 1
              by_cases q:s=s2<;>simp[q]
            |arr xs _=>simp at hk
            |obj ks xs _ _ _=>simp at hk
          | arr xs hx=>
            cases H5 hs2 with
            |word k2 hk2=>simp only at hk;omega
            |num s2 _=>simp at hk
            |str s2 _=>simp at hk
            | arr ys hy=>
              simp only at hi hvi
              show grd (Bf xs.length) (DV N ⟨6,[],[],ys⟩ (Cv N D) (fun _=>some true) xs 0)=_
              rw[AA8 (by omega),show(0:Int)=(([]:List ApiValue).length:Int)from rfl,YK ⟨6,[],[],ys⟩ _ xs [] ys rfl hi (fun x y hxm hym=>RX hN' D e x y (hvs x hxm) (hws y hym) (by omega) (hx x hxm) (hy y hym)),KD,KD]
              congr 1
              simp
            |obj ks xs _ _ _=>simp at hk
          | obj ks xs hl hd hx=>
            cases H5 hs2 with
            |word k2 hk2=>simp only at hk;omega
            |num s2 _=>simp at hk
            |str s2 _=>simp at hk
            |arr ys hy=>simp at hk
            | obj js ys hl2 hd2 hy=>
              simp only at hi hkl hvk hwk
              show grd (Bf ks.length) (DR N ⟨7,[],ks,xs⟩ ⟨7,[],js,ys⟩ (Cv N D) (fun _=>some true) ks)=_
              rw[AA8 (by omega),AB8 ⟨7,[],ks,xs⟩ ⟨7,[],js,ys⟩ rfl rfl hl hl2 ⟨by simp only[];omega,by simp only[];omega⟩ _ (fun x y hxm hym=>RX hN' D e x y (hvs x hxm) (hws y hym) (by omega) (hx x hxm) (hy y hym)) ks (fun k h=>h),KF,KF]
              congr 1
              have gm: ∀ {zs1:List (List UInt8)}{zs:List ApiValue}{k:List UInt8},zs1.length=zs.length→k∈zs1→(Gn zs1 (zs.map CO) k).1=CO (Gn zs1 zs k).1:=fun {zs1 zs k} q1 q2=>by
                obtain⟨z,_,r2,r3⟩:=Lp CO zs1 zs k q1 q2
                rw[r2,r3]
              refine decide_eq_decide.2 ⟨fun h=>?_,fun h=>?_⟩
              · have hp:=Zp (H6 hd) (fun k hkm=>(h k hkm).1) hkl.symm
                have hse:=M3 hp
                rw[←hse]
                congr 1
                refine List.map_congr_left fun k hkm=>?_
                have hkm2:=(Dw ks).mem_iff.1 hkm
                rw[gm hl hkm2,gm hl2 (h k hkm2).1]
                exact(h k hkm2).2
              · simp only[ApiValue.mk.injEq,true_and]at h
                obtain⟨h1,h2⟩:=h
                intro k hkm
                have hkj:k∈js:=(Dw js).mem_iff.1 (h1▸(Dw ks).mem_iff.2 hkm)
                refine⟨hkj,?_⟩
                rw[←h1]at h2
                have:=List.map_inj_left.1 h2 k ((Dw ks).mem_iff.2 hkm)
                rw[gm hl hkm,gm hl2 hkj]at this
                exact this
        · rw[if_neg (by simp[hk]),if_neg (by simp[hi]),if_pos (by simp;omega)]
          have: ¬CO v=CO w:=fun q=>by rw[q]at ov2;omega
          rw[decide_eq_false this]
      · rw[if_neg (by simp[hk]),if_pos (by simp;omega)]
        have: ¬CO v=CO w:=fun q=>by rw[q]at ov1;omega
        rw[decide_eq_false this,if_pos rfl]
    · have: ¬CO v=CO w:=fun q=>hk (by rw[←TA v,q,TA])
      rw[if_pos (by simpa using hk),decide_eq_false this,if_pos rfl]
end
end Go.VM
namespace Go.VM
section
variable{N:Nat}{l:List UInt8}
end
end Go.VM
namespace Go.VM
section
variable{N:Nat}
theorem Qs{t:List UInt8}{r n:Nat} (h:GY t=some (r,n)) (u:List UInt8):GY (t.take n++u)=some (r,n):=by
  match t,h with
  |[],h=>cases h
  | a::t,h=>
    simp only[GY]at h
    by_cases c1:a.toNat<128
    · rw[if_pos c1]at h
      simp only[Option.some.injEq,Prod.mk.injEq]at h;obtain⟨rfl,rfl⟩:=h
      simp[GY,c1]
    rw[if_neg c1]at h
    by_cases c2:a.toNat / 32=6
    · rw [if_pos c2]at h
      match t,h with
      |[],h=>cases h
      | b::t,h=>
        simp only at h
        split at h
        · rename_i hc
          simp only[Option.some.injEq,Prod.mk.injEq]at h;obtain⟨rfl,rfl⟩:=h
          simp only[List.take,List.cons_append,List.nil_append,GY]
          rw[if_neg c1,if_pos c2,if_pos hc]
        · cases h
    rw[if_neg c2]at h
    by_cases c3:a.toNat / 16=14
    · rw [if_pos c3]at h
      match t,h with
      |[],h=>cases h
      |[_],h=>cases h
      | b::c::t,h=>
        simp only at h
        split at h
        · rename_i hc
          simp only[Option.some.injEq,Prod.mk.injEq]at h;obtain⟨rfl,rfl⟩:=h
          simp only[List.take,List.cons_append,List.nil_append,GY]
          rw[if_neg c1,if_neg c2,if_pos c3,if_pos hc]
        · cases h
    rw[if_neg c3]at h
    by_cases c4:a.toNat / 8=30
    · rw [if_pos c4]at h
      match t,h with
      |[],h=>cases h
      |[_],h=>cases h
      |[_,_],h=>cases h
      | b::c::d::t,h=>
        simp only at h
        split at h
        · rename_i hc
          simp only[Option.some.injEq,Prod.mk.injEq]at h;obtain⟨rfl,rfl⟩:=h
          simp only[List.take,List.cons_append,List.nil_append,GY]
          rw[if_neg c1,if_neg c2,if_neg c3,if_pos c4,if_pos hc]
        · cases h
    · rw[if_neg c4]at h;cases h
theorem ACd{a:UInt8}{t:List UInt8}{r n:Nat} (h:GY (a::t)=some (r,n)) (ha: ¬a.toNat<128): ∀c∈(a::t).take n,¬c.toNat<128:=by
  simp only[GY]at h
  rw[if_neg ha]at h
  by_cases c2:a.toNat / 32=6
  · rw [if_pos c2]at h
    match t,h with
    |[],h=>cases h
    | b::t,h=>
      simp only at h
      split at h
      · rename_i hc
        simp only[Option.some.injEq,Prod.mk.injEq]at h;obtain⟨rfl,rfl⟩:=h
        have h1:=hc.1
        simp only[DD,decide_eq_true_eq]at h1
        simp only[List.take,List.mem_cons,List.not_mem_nil,or_false]
        rintro c (rfl|rfl)<;>omega
      · cases h
  rw[if_neg c2]at h
  by_cases c3:a.toNat / 16=14
  · rw [if_pos c3]at h
    match t,h with
    |[],h=>cases h
    |[_],h=>cases h
    | b::c::t,h=>
      simp only at h
      split at h
      · rename_i hc
        simp only[Option.some.injEq,Prod.mk.injEq]at h;obtain⟨rfl,rfl⟩:=h
        have h1:=hc.1
        have h2:=hc.2.1
        simp only[DD,decide_eq_true_eq]at h1 h2
        simp only[List.take,List.mem_cons,List.not_mem_nil,or_false]
        rintro c (rfl|rfl|rfl)<;>omega
      · cases h
  rw[if_neg c3]at h
  by_cases c4:a.toNat / 8=30
  · rw [if_pos c4]at h
    match t,h with
    |[],h=>cases h
    |[_],h=>cases h
    |[_,_],h=>cases h
    | b::c::d::t,h=>
      simp only at h
      split at h
      · rename_i hc
        simp only[Option.some.injEq,Prod.mk.injEq]at h;obtain⟨rfl,rfl⟩:=h
        have h1:=hc.1
        have h2:=hc.2.1
        have h3:=hc.2.2.1
        simp only[DD,decide_eq_true_eq]at h1 h2 h3
        simp only[List.take,List.mem_cons,List.not_mem_nil,or_false]
        rintro c (rfl|rfl|rfl|rfl)<;>omega
      · cases h
  · rw[if_neg c4]at h;cases h
theorem NS{a:UInt8}{t:List UInt8} (ha:a.toNat<128):GY (a::t)=some (a.toNat,1):=by
  simp only[GY];rw[if_pos ha]
theorem AJO{c:UInt8} (h: ¬c.toNat<128):qB c=[c]:=by
  unfold qB qN
  rw[if_neg (by omega),if_neg (by omega),if_neg (by omega),if_neg (by omega),if_neg (by omega),if_neg (by omega),if_neg (by omega),if_neg (by omega)]
  simp
theorem AF8: ∀l:List UInt8,(∀c∈l,¬c.toNat<128)→l.flatMap qB=l
  |[],_=>rfl
  | c::l,h=>by
    rw[List.flatMap_cons,AJO (h c (by simp)),AF8 l fun x hx=>h x (by simp[hx])];rfl
theorem AF4{x:UInt8}{r:List UInt8} (hx:x≠117):HZ (92::x::r)=none:=by
  cases h:HZ (92::x::r)with
  |none=>rfl
  | some n=>
    obtain⟨_,_,r',e⟩:=L8 h
    simp only[List.cons.injEq]at e
    exact absurd e.2.1 hx
theorem ABM{x b:UInt8}{r:List UInt8} (hx:x≠117) (hs:Kb x.toNat=some b):Ih (92::x::r)=([b],2,0):=by
  rw[MV (AF4 hx)]
  simp only[MX,hs]
theorem AFk{c:UInt8}{r:List UInt8} (hc:c.toNat<32):Ih (92::117::48::48::M8.getD (c.toNat / 16) 0::M8.getD (c.toNat % 16) 0::r)=([c],6,0):=by
  have f:=FV (f:=fun n=>if n<32 then([48,48,M8.getD (n / 16) 0,M8.getD (n % 16) 0].all K3&&decide (RJ 0 [48,48,M8.getD (n / 16) 0,M8.getD (n % 16) 0]=n))else true) (g:=fun _=>true) (by kernel_rfl) c
  simp only[hc,if_true,Bool.and_eq_true,decide_eq_true_eq]at f
  have hu:HZ (92::117::48::48::M8.getD (c.toNat / 16) 0::M8.getD (c.toNat % 16) 0::r)=some c.toNat:=by
    simp only[HZ]
    rw[if_pos ⟨trivial,trivial,f.1⟩,f.2]
  rw[MQ hu,if_neg (by omega),if_neg (by omega)]
  unfold KU
  rw[if_pos (by omega)]
  simp
theorem S9{k i:Nat}{t out x:List UInt8}{n:Nat} (h:Ih (92::t)=(x,n,0)):Dx (k+1) (92::t) i out=Dx k ((92::t).drop n) (i+n) (out++x):=by
  rw[Dx,if_neg (by decide),if_pos (by decide),h,if_pos rfl]
theorem AKo{c:UInt8} (hc:c.toNat<128) (k i:Nat) (rest out:List UInt8):Dx (k+1) (qB c++rest) i out=Dx k rest (i+(qB c).length) (out++[c]):=by
  have ch: ∀n:Nat,n<256→c.toNat=n→c=UInt8.ofNat n:=fun n h e=>UInt8.toNat_inj.1 (by rw[e,toNat_ofNat h])
  have letter: ∀(x b:UInt8),qB c=[92,x]→x≠117→Kb x.toNat=some b→b=c→Dx (k+1) (qB c++rest) i out=Dx k rest (i+(qB c).length) (out++[c]):=by
    rintro x b hq hx hs rfl
    rw[hq]
    exact S9 (ABM hx hs)
  by_cases h1:c.toNat=34
  · exact letter 34 34 (by unfold qB qN;rw[if_pos h1]) (by decide) (by decide) (ch 34 (by decide) h1).symm
  by_cases h2:c.toNat=92
  · exact letter 92 92 (by unfold qB qN;rw[if_neg h1,if_pos h2]) (by decide) (by decide) (ch 92 (by decide) h2).symm
  by_cases h3:c.toNat=8
  · exact letter 98 8 (by unfold qB qN;rw[if_neg h1,if_neg h2,if_pos h3]) (by decide) (by decide) (ch 8 (by decide) h3).symm
  by_cases h4:c.toNat=12
  · exact letter 102 12 (by unfold qB qN;rw[if_neg h1,if_neg h2,if_neg h3,if_pos h4]) (by decide) (by decide) (ch 12 (by decide) h4).symm
  by_cases h5:c.toNat=10
  · exact letter 110 10 (by unfold qB qN;rw[if_neg h1,if_neg h2,if_neg h3,if_neg h4,if_pos h5]) (by decide) (by decide) (ch 10 (by decide) h5).symm
  by_cases h6:c.toNat=13
  · exact letter 114 13 (by unfold qB qN;rw[if_neg h1,if_neg h2,if_neg h3,if_neg h4,if_neg h5,if_pos h6]) (by decide) (by decide) (ch 13 (by decide) h6).symm
  by_cases h7:c.toNat=9
  · exact letter 116 9 (by unfold qB qN;rw[if_neg h1,if_neg h2,if_neg h3,if_neg h4,if_neg h5,if_neg h6,if_pos h7]) (by decide) (by decide) (ch 9 (by decide) h7).symm
  by_cases h8:c.toNat<32
  · have hq:qB c=[92,117,48,48,M8.getD (c.toNat / 16) 0,M8.getD (c.toNat % 16) 0]:=by
      unfold qB qN;rw[if_neg h1,if_neg h2,if_neg h3,if_neg h4,if_neg h5,if_neg h6,if_neg h7,if_pos h8]
    rw[hq]
    exact S9 (AFk h8)
  · have hq:qB c=[c]:=by
      unfold qB qN;rw[if_neg h1,if_neg h2,if_neg h3,if_neg h4,if_neg h5,if_neg h6,if_neg h7,if_neg h8];simp
    rw[hq,List.cons_append,List.nil_append,Dx,if_neg h1,if_neg h2,if_neg h8,NS hc]
    rfl
end
end Go.VM
