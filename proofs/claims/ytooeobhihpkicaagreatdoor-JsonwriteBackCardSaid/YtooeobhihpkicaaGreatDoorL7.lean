import Derived.Test.YtooeobhihpkicaaGreatDoorL6
import Derived.Test.YtooeobhihpkicaaGreatDoorRd
import Derived.KernelRfl
set_option linter.unusedVariables false
set_option linter.unusedSimpArgs false
namespace Go.VM
def Wb (b:List UInt8):JsonwriteWriter:=⟨⟨true,b⟩⟩
def itm (v:ApiValue) (x:Int):ApiValue:=v.items.getD x.toNat zeroV
def PO (v:ApiValue) (b:Bool) (l:List Int):List UInt8:=if(v.kind==7)=true then wrM b (l.map (kth v)) (l.map fun x=>CF (itm v x))else wrI b (l.map fun x=>CF (itm v x))
theorem WJ: ∀ {ks:List (List UInt8)}{ys:List ApiValue}{i:Nat},ks.Nodup→ks.length=ys.length→(h:i<ks.length)→(h2:i<ys.length)→Gn ks ys ks[i]=(ys[i],true)
  |k::ks,y::ys,0,_,_,_,_=>by simp[Gn]
  | k::ks,y::ys,i+1,hn,hl,h,h2=>by
    rw[List.nodup_cons]at hn
    have h':i<ks.length:=by simpa using h
    have hne: ¬k=ks[i]:=fun e=>hn.1 (e▸List.getElem_mem h')
    simp only[List.getElem_cons_succ]
    rw[Gn,if_neg (by simpa using hne)]
    exact WJ hn.2 (by simpa using hl) h' (by simpa using h2)
section
variable{N:Nat}
theorem JY (w:JsonwriteWriter) (s:List UInt8) (h:w.builder.buf.length+s.length≤1000000000):AL N w s=some ((s.length:Int),(),Wb (w.builder.buf++s)):=by
  unfold AL CL
  cases hw:w.builder.addr
  · rw[if_neg (by decide),Option.bind_some,AY (AFH (by simpa using h))];rfl
  · rw[if_pos rfl,Option.bind_some,AY (AFH h),hw];rfl
theorem Q9 (hN:2000000≤N) (w:JsonwriteWriter) (s:List UInt8) (hs:(EN N s).isSome=true) (hl:s.length≤1000000) (h:w.builder.buf.length+(Df s).length≤1000000000):Cj N w s=some (Wb (w.builder.buf++Df s)):=by
  unfold Cj
  rw[ACx s (.inl (by omega)),Option.bind_some,ADj (by omega) hs]
  dsimp only
  rw[JY w _ h,Option.bind_some,if_neg (by simp only[decide_eq_true_eq];omega)]
theorem AJs (hN:2000000≤N) (v:ApiValue) (rc:JsonwriteWriter→ApiValue→Option JsonwriteWriter) (k4:JsonwriteWriter→Option JsonwriteWriter): ∀(l:List Int) (n:Nat) (b:Bool) (buf:List UInt8),(b=true↔n=0)→
    (∀x,x∈l→0≤x∧x.toNat<v.items.length∧((v.kind==7)=true→x.toNat<v.keys.length∧(EN N (kth v x)).isSome=true∧(kth v x).length≤1000000))→
    (∀x,x∈l→ ∀buf:List UInt8,buf.length+(wrV (CF (itm v x))).length≤1048576→rc (Wb buf) (itm v x)=some (Wb (buf++wrV (CF (itm v x)))))→buf.length+(PO v b l).length≤1048576→
    Bi N v rc k4 l (n:Int) (Wb buf)=k4 (Wb (buf++PO v b l))
  | [],n,b,buf,_,_,_,_=>by
    rw[Bi]
    have:PO v b []=[]:=by
      unfold PO
      split
      · rw[List.map_nil,wrM];intros;simp_all
      · rw[List.map_nil,wrI]
    rw[this,List.append_nil]
  | x::l,n,b,buf,hb,hx,hr,hl=>by
    obtain⟨h0,hi,hk⟩:=hx x (by simp)
    have eit:idx v.items x=some (itm v x):=by
      unfold idx itm
      rw[if_pos h0,List.getElem?_eq_getElem hi,List.getD_eq_getElem?_getD,List.getElem?_eq_getElem hi];rfl
    have sep: ∀K:JsonwriteWriter→Option JsonwriteWriter,(if decide ((n:Int)>0)=true then Option.bind (AL N (Wb buf) ([44]:List UInt8)) fun y14=>K y14.2.2 else K (Wb buf))=K (Wb (buf++(if b then []else [44]))):=fun K=>by
      cases b
      · have hn0:n≠0:=fun e=>by have:=hb.2 e;cases this
        rw[if_pos (by simp only[decide_eq_true_eq];omega),JY _ _ (by show buf.length+_≤_;simp only[List.length_cons,List.length_nil];omega)]
        rfl
      · have hn0:n=0:=hb.1 rfl
        rw[if_neg (by simp only[decide_eq_true_eq];omega)]
        simp
    have ih:=fun buf' h=>AJs hN v rc k4 l (n+1) false buf' (by simp) (fun y hy=>hx y (by simp[hy])) (fun y hy=>hr y (by simp[hy])) h
    rw[Bi]
    refine(CO sep).trans ?_
    dsimp only[AZ]
    rw[eit]
    unfold PO at hl ih⊢
    cases h7:v.kind==7
    · simp only[h7,Bool.false_eq_true,if_false,List.map_cons]at hl ih⊢
      rw[wrI]at hl⊢
      simp only[List.length_append]at hl
      rw[Option.bind_some,hr x (by simp) _ (by simp only[List.length_append];omega),Option.bind_some,show(n:Int)+1=((n+1:Nat):Int) by omega,ih _ (by simp only[List.length_append];omega)]
      simp
    · simp only[h7,if_true,List.map_cons]at hl ih⊢
      rw[wrM]at hl⊢
      simp only[List.length_append,List.length_cons]at hl
      obtain⟨hk1,hk2,hk3⟩:=hk h7
      have eky:idx v.keys x=some (kth v x):=by
        unfold idx kth
        rw[if_pos h0,List.getElem?_eq_getElem hk1,List.getD_eq_getElem?_getD,List.getElem?_eq_getElem hk1];rfl
      rw[eky,Option.bind_some,Q9 hN _ _ hk2 hk3 (by show(buf++_).length+_≤_;simp only[List.length_append];omega),Option.bind_some]
      rw[JY _ _ (by show((buf++_)++_).length+_≤_;simp only[List.length_append,List.length_cons,List.length_nil];omega),Option.bind_some]
      dsimp only[Wb]
      rw[Option.bind_some]
      have h2:=hr x (by simp) (((buf++(if b then []else [44]))++Df (kth v x))++[58]) (by simp only[List.length_append,List.length_cons,List.length_nil];omega)
      unfold Wb at h2
      rw[h2,Option.bind_some,show(n:Int)+1=((n+1:Nat):Int) by omega]
      have h3:=ih ((((buf++(if b then []else [44]))++Df (kth v x))++[58])++wrV (CF (itm v x))) (by simp only[List.length_append,List.length_cons,List.length_nil];omega)
      unfold Wb at h3
      rw[h3]
      simp
theorem Rt{B:Nat} (hN':2000000≤N∧B≤10){e:Nat}{v:ApiValue} (hv:okB B e v) (hs:E9 N v=true) (hk:v.kind=6∨v.kind=7): ∃l,Cu N v=some l∧(∀x,x∈l→0≤x∧x.toNat<v.items.length∧((v.kind==7)=true→x.toNat<v.keys.length∧(EN N (kth v x)).isSome=true∧(kth v x).length≤1000000))∧l.length=v.items.length∧
    (v.kind=6→(l.map fun x=>CF (itm v x))=v.items.map CF)∧(v.kind=7→l.map (kth v)=Ic v.keys∧(l.map fun x=>CF (itm v x))=(Ic v.keys).map fun k=>(Gn v.keys (v.items.map CF) k).1):=by
  have hi:=hv.items;have hkk:=hv.keys;have hkl:=hv.klen
  have idm: ∀x,x∈KP v.items.length→0≤x∧x.toNat<v.items.length:=fun x hx=>by
    simp only[KP,List.mem_map,List.mem_range]at hx
    obtain⟨i,h1,rfl⟩:=hx
    exact⟨by omega,by simpa using h1⟩
  rcases hk with hk|hk
  · have h7:(v.kind==7)=false:=by simp[hk]
    refine⟨_,TP h7 (by omega),fun x hx=>⟨(idm x hx).1,(idm x hx).2,fun h=>by rw[h7]at h;cases h⟩,Fy _,fun _=>?_,fun h=>by omega⟩
    refine List.ext_getElem (by simp[Fy]) fun i h1 h2=>?_
    have hi2:i<v.items.length:=by simpa using h2
    simp only[List.getElem_map,KP,List.getElem_range,itm,Int.toNat_natCast,List.getD_eq_getElem?_getD,List.getElem?_eq_getElem hi2,Option.getD_some]
  · have h7:(v.kind==7)=true:=by simp[hk]
    have hse:=Qp (N:=N) v
    rw[hs,hk,if_neg (by decide),if_neg (by decide)]at hse
    have hse:=hse.symm
    simp only[Bool.and_eq_true,decide_eq_true_eq]at hse
    obtain⟨_,⟨hl,hd⟩,_⟩:=hse
    have hnd:=JD hd
    obtain⟨l,h1,h2,h3⟩:=AEI (N:=N) h7 hl hnd (by omega) (by omega)
    have hm: ∀x,x∈l→0≤x∧x.toNat<v.items.length:=fun x hx=>idm x (h3.mem_iff.1 hx)
    have kk: ∀x,x∈l→ ∃(h:x.toNat<v.keys.length),kth v x=v.keys[x.toNat]:=fun x hx=>by
      have hx2:x.toNat<v.keys.length:=by have:=(hm x hx).2;omega
      exact⟨hx2,by unfold kth;rw[List.getD_eq_getElem?_getD,List.getElem?_eq_getElem hx2];rfl⟩
    refine⟨l,h1,fun x hx=>⟨(hm x hx).1,(hm x hx).2,fun _=>?_⟩,by rw[h3.length_eq,Fy],fun h=>by omega,fun _=>⟨h2,?_⟩⟩
    · obtain⟨hx2,e⟩:=kk x hx
      rw[e]
      exact⟨hx2,Og hd _ (List.getElem_mem hx2),by have:=hkl _ (List.getElem_mem hx2);omega⟩
    · rw[←h2,List.map_map]
      refine List.map_congr_left fun x hx=>?_
      obtain⟨hx2,e⟩:=kk x hx
      have hx3:=(hm x hx).2
      show CF (itm v x)=(Gn v.keys (v.items.map CF) (kth v x)).1
      rw[e,WJ hnd (by simpa using hl) hx2 (by simpa using hx3),List.getElem_map]
      unfold itm
      rw[List.getD_eq_getElem?_getD,List.getElem?_eq_getElem hx3];rfl
theorem Td {B:Nat} (hN':2000000≤N∧B≤10): ∀(e D:Nat) (v:ApiValue) (w:JsonwriteWriter),okB B e v→2 * e≤D→E9 N v=true→w.builder.buf.length+(wrV (CF v)).length≤1048576→Bc N D w v=some (Wb (w.builder.buf++wrV (CF v)))
  |0,D,v,w,h,_,_,_=>by have:=h.pos;omega
  | e+1,D,v,w,hv,hD,hs,hl=>by
    obtain⟨hN,hB⟩:=id hN'
    obtain⟨D,rfl⟩: ∃k,D=k+2:=⟨D-2,by omega⟩
    have ht:=hv.text;have hsub:=hv.sub
    rw[Bc]
    unfold Bo
    rw[Option.bind_some]
    dsimp only
    rw[if_neg (by simp only[decide_eq_true_eq];omega)]
    have both: ∀(left right:List UInt8),left.length=1→right.length=1→(v.kind=6∨v.kind=7)→(wrV (CF v)=left++((if(v.kind==7)=true then wrM true (CF v).keys (CF v).items else wrI true (CF v).items)++right))→CW N (D+1) w v left right=some (Wb (w.builder.buf++wrV (CF v))):=by
      intro left right hll hrl hk hw
      obtain⟨l,h1,h2,h3,h4,h5⟩:=Rt (N:=N) hN' hv hs hk
      have hbody:PO v true l=if(v.kind==7)=true then wrM true (CF v).keys (CF v).items else wrI true (CF v).items:=by
        unfold PO
        rcases hk with hk|hk
        · have ho:(CF v).items=v.items.map CF:=by
            obtain⟨kind,text,keys,items⟩:=v
            simp only at hk;subst hk
            rw[CF];exact Kk items
          rw[if_neg (by simp[hk]),if_neg (by simp[hk]),h4 hk,ho]
        · have ho:(CF v).keys=Ic v.keys∧(CF v).items=(Ic v.keys).map fun k=>(Gn v.keys (v.items.map CF) k).1:=by
            obtain⟨kind,text,keys,items⟩:=v
            simp only at hk;subst hk
            rw[CF];exact⟨rfl,by rw[←Kk];rfl⟩
          rw[if_pos (by simp[hk]),if_pos (by simp[hk]),(h5 hk).1,(h5 hk).2,ho.1,ho.2]
      rw[hw]at hl⊢
      rw[←hbody]at hl⊢
      simp only[List.length_append]at hl
      have hn:=hv.items
      rw[CW,JY w left (by omega),Option.bind_some]
      dsimp only[AZ]
      rw[h1,Option.bind_some,OL (by omega),show(0:Int)=((0:Nat):Int)from rfl]
      rw[AJs hN v (Bc N D) _ l 0 true (w.builder.buf++left) (by simp) h2 (fun x hx buf hb=>?_) (by simp only[List.length_append];omega)]
      · rw[JY _ right (by show((w.builder.buf++left)++_).length+_≤_;simp only[List.length_append];omega),Option.bind_some]
        show some (Wb (((w.builder.buf++left)++PO v true l)++right))=_
        simp
      · obtain⟨q0,q1,_⟩:=h2 x hx
        have hmem:itm v x∈v.items:=by
          unfold itm
          rw[List.getD_eq_getElem?_getD,List.getElem?_eq_getElem q1];exact List.getElem_mem q1
        have hss:E9 N (itm v x)=true:=by
          have hse:=Qp (N:=N) v
          rw[hs]at hse
          have hse:=hse.symm
          have:Jg N v.items=true:=by
            rcases hk with hk|hk<;>rw[hk]at hse<;>simp at hse
            · exact hse.2.2
            · exact hse.2.2
          exact Kb this _ hmem
        exact Td hN' e D (itm v x) (Wb buf) (hsub _ hmem) (by omega) hss hb
    cases He hs with
    | word k hk=>
      rw[Cq (by omega)]at hl⊢
      rcases hk with rfl|rfl|rfl
      · show Option.bind (AL N w [110,117,108,108]) (fun y=>some y.2.2)=_
        rw[JY _ _ (by simp only[List.length_cons,List.length_nil];omega)];rfl
      · show Option.bind (AL N w [102,97,108,115,101]) (fun y=>some y.2.2)=_
        rw[JY _ _ (by simp only[List.length_cons,List.length_nil];omega)];rfl
      · show Option.bind (AL N w [116,114,117,101]) (fun y=>some y.2.2)=_
        rw[JY _ _ (by simp only[List.length_cons,List.length_nil];omega)];rfl
    | num s _=>
      simp only at ht
      rw[Cq (by decide)]at hl⊢
      show Option.bind (AL N w s) (fun y=>some y.2.2)=_
      rw[JY _ _ (by omega)];rfl
    | str s hq=>
      simp only at ht
      have:=Mw s
      rw[Cq (by decide)]at hl⊢
      show Option.bind (Cj N w s) (fun y=>some y)=_
      rw[Q9 hN _ _ hq (by omega) (by omega)];rfl
    | arr xs _=>
      show Option.bind (CW N (D+1) w ⟨6,[],[],xs⟩ [91] [93]) (fun y=>some y)=_
      rw[both [91] [93] rfl rfl (.inl rfl) (by rw[KF,wrV];rfl)];rfl
    | obj ks xs hl2 hd hx=>
      show Option.bind (CW N (D+1) w ⟨7,[],ks,xs⟩ [123] [125]) (fun y=>some y)=_
      rw[both [123] [125] rfl rfl (.inr rfl) (by rw[KE,wrV];rfl)];rfl
theorem ADo{B:Nat} (hN':2000000≤N∧B≤10){v:ApiValue} (h:okB B 70 v) (hc:Hl v≤20000) (hl:E9 N v=true→(wrV (CF v)).length≤1048576):FT N v=some (if VL N v=true then(wrV (CF v),0)else([],8)):=by
  obtain⟨hN,hB⟩:=id hN'
  unfold FT
  rw[TV hN' h hc,Option.bind_some]
  cases hw:VL N v
  · rfl
  · have hs:E9 N v=true:=by unfold VL at hw;rw[Bool.and_eq_true]at hw;exact hw.2
    have hb:=hl hs
    rw[if_pos rfl,Td hN' 70 N v _ h (by omega) hs (by simpa using hb),Option.bind_some]
    unfold Bo CZ
    rw[Option.bind_some,if_pos rfl]
    refine(if_neg fun hh=>?_).trans rfl
    have h3:((([]++wrV (CF v):List UInt8).length:Nat):Int)>1048576:=of_decide_eq_true hh
    rw[List.nil_append]at h3
    omega
theorem Rs (v:ApiValue) (rc:ApiValue→Option ApiValue) (k2:List (List UInt8)×List ApiValue→Option ApiValue): ∀(l:List Int) (ks:List (List UInt8)) (xs:List ApiValue),(∀x,x∈l→0≤x∧x.toNat<v.items.length∧((v.kind==7)=true→x.toNat<v.keys.length))→
    (∀x,x∈l→rc (itm v x)=some (CF (itm v x)))→ks.length+l.length≤1000000→xs.length+l.length≤1000000→
    BN N v rc k2 l ks xs=k2 (ks++(if(v.kind==7)=true then l.map (kth v)else []),xs++l.map fun x=>CF (itm v x))
  | [],ks,xs,_,_,_,_=>by
    rw[BN];cases v.kind==7<;>simp
  | x::l,ks,xs,hx,hr,h1,h2=>by
    simp only[List.length_cons]at h1 h2
    obtain⟨h0,hi,hk⟩:=hx x (by simp)
    have eit:idx v.items x=some (itm v x):=by
      unfold idx itm
      rw[if_pos h0,List.getElem?_eq_getElem hi,List.getD_eq_getElem?_getD,List.getElem?_eq_getElem hi];rfl
    have ih:=fun ks' xs' q1 q2=>Rs v rc k2 l ks' xs' (fun y hy=>hx y (by simp[hy])) (fun y hy=>hr y (by simp[hy])) q1 q2
    rw[BN]
    dsimp only[AZ]
    rw[eit]
    cases h7:v.kind==7
    · rw[if_neg (by decide),Option.bind_some,hr x (by simp),Option.bind_some,AY (V6 (by omega)),ih _ _ (by omega) (by simp;omega),h7]
      simp
    · have hk1:=hk h7
      have eky:idx v.keys x=some (kth v x):=by
        unfold idx kth
        rw[if_pos h0,List.getElem?_eq_getElem hk1,List.getD_eq_getElem?_getD,List.getElem?_eq_getElem hk1];rfl
      rw[if_pos rfl,eky,Option.bind_some,AY (AKs (by omega)),Option.bind_some,hr x (by simp),Option.bind_some,AY (V6 (by omega)),ih _ _ (by simp;omega) (by simp;omega),h7]
      simp
theorem X9 {B:Nat} (hN':2000000≤N∧B≤10): ∀(e D:Nat) (v:ApiValue),okB B e v→e≤D→E9 N v=true→Bn N D v=some (CF v)
  |0,D,v,h,_,_=>by have:=h.pos;omega
  | e+1,D,v,hv,hD,hs=>by
    obtain⟨hN,hB⟩:=id hN'
    obtain⟨D,rfl⟩: ∃k,D=k+1:=⟨D-1,by omega⟩
    have hsub:=hv.sub;have hi:=hv.items
    rw[Bn]
    dsimp only[AZ]
    have plain:(v.kind==7)=false→v.items=[]→v.keys=[]→(v.kind==6)=false→CF v=⟨v.kind,v.text,[],[]⟩→Option.bind (Cu N v) (fun y5=>grd (BX y5.length) (BN N v (Bn N D) (fun j1=>some (ApiValue.mk v.kind v.text j1.1 j1.2)) y5 [] []))=some (CF v):=fun h7 h1 h2 h6 ho=>by
      rw[TP h7 (by omega),Option.bind_some,h1]
      show grd (BX 0) (BN N v _ _ [] [] [])=_
      rw[OL (by omega),BN,ho]
    have both:(v.kind=6∨v.kind=7)→(∀ks xs,(v.kind=6→ks=[]∧xs=v.items.map CF)→(v.kind=7→ks=Ic v.keys∧xs=(Ic v.keys).map fun k=>(Gn v.keys (v.items.map CF) k).1)→ApiValue.mk v.kind v.text ks xs=CF v)→Option.bind (Cu N v) (fun y5=>grd (BX y5.length) (BN N v (Bn N D) (fun j1=>some (ApiValue.mk v.kind v.text j1.1 j1.2)) y5 [] []))=some (CF v):=fun hk ho=>by
      obtain⟨l,h1,h2,h3,h4,h5⟩:=Rt (N:=N) hN' hv hs hk
      rw[h1,Option.bind_some,OL (by omega),Rs v _ _ l [] [] (fun x hx=>⟨(h2 x hx).1,(h2 x hx).2.1,fun h=>((h2 x hx).2.2 h).1⟩) (fun x hx=>?_) (by simp;omega) (by simp;omega)]
      · rw[List.nil_append,List.nil_append]
        congr 1
        refine ho _ _ (fun h6=>⟨by rw[if_neg (by simp[h6])],h4 h6⟩) fun h7=>⟨by rw[if_pos (by simp[h7])];exact(h5 h7).1,(h5 h7).2⟩
      · obtain⟨q0,q1,_⟩:=h2 x hx
        have hmem:itm v x∈v.items:=by
          unfold itm
          rw[List.getD_eq_getElem?_getD,List.getElem?_eq_getElem q1];exact List.getElem_mem q1
        have hss:E9 N (itm v x)=true:=by
          have hse:=Qp (N:=N) v
          rw[hs]at hse
          have hse:=hse.symm
          have:Jg N v.items=true:=by
            rcases hk with hk|hk<;>rw[hk]at hse<;>simp at hse
            · exact hse.2.2
            · exact hse.2.2
          exact Kb this _ hmem
        exact X9 hN' e D (itm v x) (hsub _ hmem) (by omega) hss
    cases He hs with
    |word k hk=>exact plain (by rcases hk with rfl|rfl|rfl<;>rfl) rfl rfl (by rcases hk with rfl|rfl|rfl<;>rfl) (Cq (by omega))
    |num s _=>exact plain rfl rfl rfl rfl (Cq (by decide))
    |str s _=>exact plain rfl rfl rfl rfl (Cq (by decide))
    |arr xs _=>exact both (.inl rfl) fun ks ys h6 _=>by rw[(h6 rfl).1,(h6 rfl).2,KF]
    |obj kk xs hl2 hd hx=>exact both (.inr rfl) fun ks ys _ h7=>by rw[(h7 rfl).1,(h7 rfl).2,KE]
theorem ADr{B:Nat} (hN':2000000≤N∧B≤10){v:ApiValue} (h:okB B 70 v) (hc:Hl v≤20000):Ei N v=some (if VL N v=true then CF v else zeroV):=by
  obtain⟨hN,hB⟩:=id hN'
  unfold Ei
  rw[TV hN' h hc,Option.bind_some]
  cases hw:VL N v
  · rfl
  · have hs:E9 N v=true:=by unfold VL at hw;rw[Bool.and_eq_true]at hw;exact hw.2
    rw[if_pos rfl,X9 hN' 70 N v h (by omega) hs];rfl
end
end Go.VM
namespace Go.VM
open Classical
theorem X4: ∀ {a b:List (List UInt8)},a.Nodup→(∀k,k∈a→k∈b)→b.length=a.length→a.Perm b
  |[],b,_,_,h=>by rw[List.length_eq_zero_iff.1 h]
  | k::a,b,hn,hs,h=>by
    rw[List.nodup_cons]at hn
    obtain⟨x,y,rfl⟩:=List.append_of_mem (hs k (by simp))
    have ih:=X4 (a:=a) (b:=x++y) hn.2 (fun q hq=>by
      have:=hs q (by simp[hq])
      simp only[List.mem_append,List.mem_cons]at this⊢
      rcases this with h|rfl|h
      · exact .inl h
      · exact absurd hq hn.1
      · exact .inr h) (by simp at h⊢;omega)
    exact(ih.cons k).trans List.perm_middle.symm
theorem Mr{a b:List (List UInt8)} (h:a.Perm b):Ic a=Ic b:=Rc ((D5 _).trans (h.trans (D5 _).symm)) (Oe _) (Oe _)
theorem Pv: ∀ {ks:List (List UInt8)}{xs:List ApiValue}{k:List UInt8},ks.length=xs.length→(Gn ks xs k).2=decide (k∈ks)
  |[],[],k,_=>rfl
  | a::ks,x::xs,k,h=>by
    rw[Gn]
    by_cases e:a=k
    · rw[if_pos (by simp[e])];simp[e]
    · rw[if_neg (by simpa using e),Pv (by simpa using h)]
      have: ¬k=a:=fun q=>e q.symm
      simp[this]
theorem Te (v:ApiValue):(CF v).kind=v.kind:=by
  obtain⟨k,t,ks,xs⟩:=v
  rw[CF];split<;>rfl
section
variable{N:Nat}
theorem Y7 (w:ApiValue) (rc:ApiValue→ApiValue→Option Bool): ∀(xs pre suf:List ApiValue),w.items=pre++suf→xs.length=suf.length→(∀x y,x∈xs→y∈suf→rc x y=some (decide (CF x=CF y)))→DD N w rc (fun _=>some true) xs (pre.length:Int)=some (decide (xs.map CF=suf.map CF))
  | [],pre,suf,_,hl,_=>by
    have:suf=[]:=List.length_eq_zero_iff.1 (by simpa using hl.symm)
    subst this
    rw[DD];simp
  |x::xs,pre,[],_,hl,_=>by simp at hl
  | x::xs,pre,y::suf,hp,hl,hr=>by
    rw[DD,U2 hp,Option.bind_some,hr x y (by simp) (by simp),Option.bind_some]
    by_cases e:CF x=CF y
    · rw[if_pos (by simpa using e),MH pre y,Y7 w rc xs (pre++[y]) suf (by simp[hp]) (by simpa using hl) (fun a b ha hb=>hr a b (by simp[ha]) (by simp[hb]))]
      simp[e]
    · rw[if_neg (by simpa using e)];simp[e]
theorem ABm (v w:ApiValue) (hv:v.kind=7) (hw:w.kind=7) (hvl:v.keys.length=v.items.length) (hwl:w.keys.length=w.items.length) (hb:v.keys.length≤1000000∧w.keys.length≤1000000) (rc:ApiValue→ApiValue→Option Bool) (hr: ∀x y,x∈v.items→y∈w.items→rc x y=some (decide (CF x=CF y))): ∀(ks:List (List UInt8)),(∀k,k∈ks→k∈v.keys)→
    DI N v w rc (fun _=>some true) ks=some (decide (∀k,k∈ks→k∈w.keys∧CF (Gn v.keys v.items k).1=CF (Gn w.keys w.items k).1))
  |[],_=>by rw[DI];simp
  | k::ks,hk=>by
    have hkv:=hk k (by simp)
    have g1:Xz v k=Gn v.keys v.items k:=by unfold Xz;rw[if_pos (by simp[hv])]
    have g2:Xz w k=Gn w.keys w.items k:=by unfold Xz;rw[if_pos (by simp[hw])]
    rw[DI,Uw v k (by omega),Option.bind_some,Uw w k (by omega),Option.bind_some,g1,g2]
    simp only[AZ]
    rw[Pv hvl,Pv hwl,if_pos (by simpa using hkv)]
    by_cases e:k∈w.keys
    · obtain⟨x,h1,h2,_⟩:=MJ CF v.keys v.items k hvl hkv
      obtain⟨y,h3,h4,_⟩:=MJ CF w.keys w.items k hwl e
      rw[if_pos (by simpa using e),h2,h4,hr x y h1 h3,Option.bind_some,ABm v w hv hw hvl hwl hb rc hr ks fun q hq=>hk q (by simp[hq])]
      by_cases e2:CF x=CF y
      · rw[if_neg (by simp[e2])];simp[e,h2,h4,e2]
      · rw[if_pos (by simp[e2])];simp[e,h2,h4,e2]
    · rw[if_neg (by simpa using e)];simp[e]
theorem Q5 {B:Nat} (hN':2000≤N∧B≤10): ∀(D e:Nat) (v w:ApiValue),okB B e v→okB B e w→e≤D→E9 N v=true→E9 N w=true→Co N D v w=some (decide (CF v=CF w))
  |0,e,v,w,h,_,he,_,_=>by have:=h.pos;omega
  | D + 1, e, v,w,hv,hw,he,hs,hs2=>by
    obtain⟨hN,hB⟩:=id hN'
    obtain⟨e,rfl⟩: ∃k,e=k+1:=⟨e-1,by have:=hv.pos;omega⟩
    have hvi:=hv.items;have hwi:=hw.items;have hvk:=hv.keys;have hwk:=hw.keys
    have hvs:=hv.sub;have hws:=hw.sub
    have olen: ∀u:ApiValue,E9 N u=true→(CF u).items.length=u.items.length∧(CF u).keys.length=u.keys.length:=fun u hu=>by
      cases He hu with
      |word k hk=>rw[Cq (by omega)];exact⟨rfl,rfl⟩
      |num s _=>rw[Cq (by decide)];exact⟨rfl,rfl⟩
      |str s _=>rw[Cq (by decide)];exact⟨rfl,rfl⟩
      |arr xs _=>rw[KF];exact⟨by simp,rfl⟩
      |obj ks xs hl _ _=>rw[KE];exact⟨by simp[(D5 ks).length_eq,hl],(D5 ks).length_eq⟩
    obtain⟨ov1,ov2⟩:=olen v hs
    obtain⟨ow1,ow2⟩:=olen w hs2
    rw[Co]
    dsimp only[AZ]
    by_cases hk:v.kind=w.kind
    · by_cases hi:v.items.length=w.items.length
      · by_cases hkl:v.keys.length=w.keys.length
        · rw [if_neg (by simp[hk]),if_neg (by simp[hi]),if_neg (by simp[hkl])]
          cases He hs with
          | word k hkw=>
            cases He hs2 with
            | word k2 hk2=>
              simp only at hk;subst hk
              rcases hkw with rfl|rfl|rfl<;>(rw[decide_eq_true rfl];rfl)
            |num s _=>simp only at hk;omega
            |str s _=>simp only at hk;omega
            |arr xs _=>simp only at hk;omega
            |obj ks xs _ _ _=>simp only at hk;omega
          | num s _=>
            cases He hs2 with
            |word k2 hk2=>simp only at hk;omega
            | num s2 _=>
              rw[Cq (by decide),Cq (by decide)]
              show some (s==s2)=_
              congr 1
              by_cases q:s=s2<;>simp[q]
            |str s _=>simp at hk
            |arr xs _=>simp at hk
            |obj ks xs _ _ _=>simp at hk
          | str s _=>
            cases He hs2 with
            |word k2 hk2=>simp only at hk;omega
            |num s2 _=>simp at hk
            | str s2 _=>
              rw[Cq (by decide),Cq (by decide)]
              show some (s==s2)=_
              congr 1
              by_cases q:s=s2<;>simp[q]
            |arr xs _=>simp at hk
            |obj ks xs _ _ _=>simp at hk
          | arr xs hx=>
            cases He hs2 with
            |word k2 hk2=>simp only at hk;omega
            |num s2 _=>simp at hk
            |str s2 _=>simp at hk
            | arr ys hy=>
              simp only at hi hvi
              show grd (BX xs.length) (DD N ⟨6,[],[],ys⟩ (Co N D) (fun _=>some true) xs 0)=_
              rw[OL (by omega),show(0:Int)=(([]:List ApiValue).length:Int)from rfl,Y7 ⟨6,[],[],ys⟩ _ xs [] ys rfl hi (fun x y hxm hym=>Q5 hN' D e x y (hvs x hxm) (hws y hym) (by omega) (hx x hxm) (hy y hym)),KF,KF]
              congr 1
              simp
            |obj ks xs _ _ _=>simp at hk
          | obj ks xs hl hd hx=>
            cases He hs2 with
            |word k2 hk2=>simp only at hk;omega
            |num s2 _=>simp at hk
            |str s2 _=>simp at hk
            |arr ys hy=>simp at hk
            | obj js ys hl2 hd2 hy=>
              simp only at hi hkl hvk hwk
              show grd (BX ks.length) (DI N ⟨7,[],ks,xs⟩ ⟨7,[],js,ys⟩ (Co N D) (fun _=>some true) ks)=_
              rw[OL (by omega),ABm ⟨7,[],ks,xs⟩ ⟨7,[],js,ys⟩ rfl rfl hl hl2 ⟨by simp only[];omega,by simp only[];omega⟩ _ (fun x y hxm hym=>Q5 hN' D e x y (hvs x hxm) (hws y hym) (by omega) (hx x hxm) (hy y hym)) ks (fun k h=>h),KE,KE]
              congr 1
              have gm: ∀ {zas:List (List UInt8)}{zs:List ApiValue}{k:List UInt8},zas.length=zs.length→k∈zas→(Gn zas (zs.map CF) k).1=CF (Gn zas zs k).1:=fun {zas zs k} q1 q2=>by
                obtain⟨z,_,r2,r3⟩:=MJ CF zas zs k q1 q2
                rw[r2,r3]
              refine decide_eq_decide.2 ⟨fun h=>?_,fun h=>?_⟩
              · have hp:=X4 (JD hd) (fun k hkm=>(h k hkm).1) hkl.symm
                have hse:=Mr hp
                rw[←hse]
                congr 1
                refine List.map_congr_left fun k hkm=>?_
                have hkm2:=(D5 ks).mem_iff.1 hkm
                rw[gm hl hkm2,gm hl2 (h k hkm2).1]
                exact(h k hkm2).2
              · simp only[ApiValue.mk.injEq,true_and]at h
                obtain⟨h1,h2⟩:=h
                intro k hkm
                have hkj:k∈js:=(D5 js).mem_iff.1 (h1▸(D5 ks).mem_iff.2 hkm)
                refine⟨hkj,?_⟩
                rw[←h1]at h2
                have:=List.map_inj_left.1 h2 k ((D5 ks).mem_iff.2 hkm)
                rw[gm hl hkm,gm hl2 hkj]at this
                exact this
        · rw[if_neg (by simp[hk]),if_neg (by simp[hi]),if_pos (by simp;omega)]
          have: ¬CF v=CF w:=fun q=>by rw[q]at ov2;omega
          rw[decide_eq_false this]
      · rw[if_neg (by simp[hk]),if_pos (by simp;omega)]
        have: ¬CF v=CF w:=fun q=>by rw[q]at ov1;omega
        rw[decide_eq_false this,if_pos rfl]
    · have: ¬CF v=CF w:=fun q=>hk (by rw[←Te v,q,Te])
      rw[if_pos (by simpa using hk),decide_eq_false this,if_pos rfl]
end
end Go.VM
namespace Go.VM
section
variable{N:Nat}{l:List UInt8}
end
end Go.VM
namespace Go.VM
section
variable{N:Nat}
theorem AEq{t:List UInt8}{r n:Nat} (h:JP t=some (r,n)) (u:List UInt8):JP (t.take n++u)=some (r,n):=by
  match t,h with
  |[],h=>cases h
  | a::t,h=>
    simp only[JP]at h
    by_cases c1:a.toNat<128
    · rw[if_pos c1]at h
      simp only[Option.some.injEq,Prod.mk.injEq]at h;obtain⟨rfl,rfl⟩:=h
      simp[JP,c1]
    rw[if_neg c1]at h
    by_cases c2:a.toNat / 32=6
    · rw [if_pos c2]at h
      match t,h with
      |[],h=>cases h
      | b::t,h=>
        simp only at h
        split at h
        · rename_i hc
          simp only[Option.some.injEq,Prod.mk.injEq]at h;obtain⟨rfl,rfl⟩:=h
          simp only[List.take,List.cons_append,List.nil_append,JP]
          rw[if_neg c1,if_pos c2,if_pos hc]
        · cases h
    rw[if_neg c2]at h
    by_cases c3:a.toNat / 16=14
    · rw [if_pos c3]at h
      match t,h with
      |[],h=>cases h
      |[_],h=>cases h
      | b::c::t,h=>
        simp only at h
        split at h
        · rename_i hc
          simp only[Option.some.injEq,Prod.mk.injEq]at h;obtain⟨rfl,rfl⟩:=h
          simp only[List.take,List.cons_append,List.nil_append,JP]
          rw[if_neg c1,if_neg c2,if_pos c3,if_pos hc]
        · cases h
    rw[if_neg c3]at h
    by_cases c4:a.toNat / 8=30
    · rw [if_pos c4]at h
      match t,h with
      |[],h=>cases h
      |[_],h=>cases h
      |[_,_],h=>cases h
      | b::c::d::t,h=>
        simp only at h
        split at h
        · rename_i hc
          simp only[Option.some.injEq,Prod.mk.injEq]at h;obtain⟨rfl,rfl⟩:=h
          simp only[List.take,List.cons_append,List.nil_append,JP]
          rw[if_neg c1,if_neg c2,if_neg c3,if_pos c4,if_pos hc]
        · cases h
    · rw[if_neg c4]at h;cases h
theorem ACn{a:UInt8}{t:List UInt8}{r n:Nat} (h:JP (a::t)=some (r,n)) (ha: ¬a.toNat<128): ∀c∈(a::t).take n,¬c.toNat<128:=by
  simp only[JP]at h
  rw[if_neg ha]at h
  by_cases c2:a.toNat / 32=6
  · rw [if_pos c2]at h
    match t,h with
    |[],h=>cases h
    | b::t,h=>
      simp only at h
      split at h
      · rename_i hc
        simp only[Option.some.injEq,Prod.mk.injEq]at h;obtain⟨rfl,rfl⟩:=h
        have h1:=hc.1
        simp only[EH,decide_eq_true_eq]at h1
        simp only[List.take,List.mem_cons,List.not_mem_nil,or_false]
        rintro c (rfl|rfl)<;>omega
      · cases h
  rw[if_neg c2]at h
  by_cases c3:a.toNat / 16=14
  · rw [if_pos c3]at h
    match t,h with
    |[],h=>cases h
    |[_],h=>cases h
    | b::c::t,h=>
      simp only at h
      split at h
      · rename_i hc
        simp only[Option.some.injEq,Prod.mk.injEq]at h;obtain⟨rfl,rfl⟩:=h
        have h1:=hc.1
        have h2:=hc.2.1
        simp only[EH,decide_eq_true_eq]at h1 h2
        simp only[List.take,List.mem_cons,List.not_mem_nil,or_false]
        rintro c (rfl|rfl|rfl)<;>omega
      · cases h
  rw[if_neg c3]at h
  by_cases c4:a.toNat / 8=30
  · rw [if_pos c4]at h
    match t,h with
    |[],h=>cases h
    |[_],h=>cases h
    |[_,_],h=>cases h
    | b::c::d::t,h=>
      simp only at h
      split at h
      · rename_i hc
        simp only[Option.some.injEq,Prod.mk.injEq]at h;obtain⟨rfl,rfl⟩:=h
        have h1:=hc.1
        have h2:=hc.2.1
        have h3:=hc.2.2.1
        simp only[EH,decide_eq_true_eq]at h1 h2 h3
        simp only[List.take,List.mem_cons,List.not_mem_nil,or_false]
        rintro c (rfl|rfl|rfl|rfl)<;>omega
      · cases h
  · rw[if_neg c4]at h;cases h
theorem Y9{a:UInt8}{t:List UInt8} (ha:a.toNat<128):JP (a::t)=some (a.toNat,1):=by
  simp only[JP];rw[if_pos ha]
theorem AIh{c:UInt8} (h: ¬c.toNat<128):qB c=[c]:=by
  unfold qB qN
  rw[if_neg (by omega),if_neg (by omega),if_neg (by omega),if_neg (by omega),if_neg (by omega),if_neg (by omega),if_neg (by omega),if_neg (by omega)]
  simp
theorem AFX: ∀l:List UInt8,(∀c∈l,¬c.toNat<128)→l.flatMap qB=l
  |[],_=>rfl
  | c::l,h=>by
    rw[List.flatMap_cons,AIh (h c (by simp)),AFX l fun x hx=>h x (by simp[hx])];rfl
theorem AG2{x:UInt8}{r:List UInt8} (hx:x≠117):H6 (92::x::r)=none:=by
  cases h:H6 (92::x::r)with
  |none=>rfl
  | some n=>
    obtain⟨_,_,r',e⟩:=NU h
    simp only[List.cons.injEq]at e
    exact absurd e.2.1 hx
theorem ABB{x b:UInt8}{r:List UInt8} (hx:x≠117) (hs:Lp x.toNat=some b):JM (92::x::r)=([b],2,0):=by
  rw[OP (AG2 hx)]
  simp only[NK,hs]
theorem AF8{c:UInt8}{r:List UInt8} (hc:c.toNat<32):JM (92::117::48::48::NA.getD (c.toNat / 16) 0::NA.getD (c.toNat % 16) 0::r)=([c],6,0):=by
  have f:=Fg (f:=fun n=>if n<32 then([48,48,NA.getD (n / 16) 0,NA.getD (n % 16) 0].all LC&&decide (RV 0 [48,48,NA.getD (n / 16) 0,NA.getD (n % 16) 0]=n))else true) (g:=fun _=>true) (by kernel_rfl) c
  simp only[hc,if_true,Bool.and_eq_true,decide_eq_true_eq]at f
  have hu:H6 (92::117::48::48::NA.getD (c.toNat / 16) 0::NA.getD (c.toNat % 16) 0::r)=some c.toNat:=by
    simp only[H6]
    rw[if_pos ⟨trivial,trivial,f.1⟩,f.2]
  rw[Oo hu,if_neg (by omega),if_neg (by omega)]
  unfold MZ
  rw[if_pos (by omega)]
  simp
theorem TY{k i:Nat}{t out x:List UInt8}{n:Nat} (h:JM (92::t)=(x,n,0)):GA (k+1) (92::t) i out=GA k ((92::t).drop n) (i+n) (out++x):=by
  rw[GA,if_neg (by decide),if_pos (by decide),h,if_pos rfl]
theorem ALG{c:UInt8} (hc:c.toNat<128) (k i:Nat) (rest out:List UInt8):GA (k+1) (qB c++rest) i out=GA k rest (i+(qB c).length) (out++[c]):=by
  have ch: ∀n:Nat,n<256→c.toNat=n→c=UInt8.ofNat n:=fun n h e=>UInt8.toNat_inj.1 (by rw[e,toNat_ofNat h])
  have letter: ∀(x b:UInt8),qB c=[92,x]→x≠117→Lp x.toNat=some b→b=c→GA (k+1) (qB c++rest) i out=GA k rest (i+(qB c).length) (out++[c]):=by
    rintro x b hq hx hs rfl
    rw[hq]
    exact TY (ABB hx hs)
  by_cases h1:c.toNat=34
  · exact letter 34 34 (by unfold qB qN;rw[if_pos h1]) (by decide) (by decide) (ch 34 (by decide) h1).symm
  by_cases h2:c.toNat=92
  · exact letter 92 92 (by unfold qB qN;rw[if_neg h1,if_pos h2]) (by decide) (by decide) (ch 92 (by decide) h2).symm
  by_cases h3:c.toNat=8
  · exact letter 98 8 (by unfold qB qN;rw[if_neg h1,if_neg h2,if_pos h3]) (by decide) (by decide) (ch 8 (by decide) h3).symm
  by_cases h4:c.toNat=12
  · exact letter 102 12 (by unfold qB qN;rw[if_neg h1,if_neg h2,if_neg h3,if_pos h4]) (by decide) (by decide) (ch 12 (by decide) h4).symm
  by_cases h5:c.toNat=10
  · exact letter 110 10 (by unfold qB qN;rw[if_neg h1,if_neg h2,if_neg h3,if_neg h4,if_pos h5]) (by decide) (by decide) (ch 10 (by decide) h5).symm
  by_cases h6:c.toNat=13
  · exact letter 114 13 (by unfold qB qN;rw[if_neg h1,if_neg h2,if_neg h3,if_neg h4,if_neg h5,if_pos h6]) (by decide) (by decide) (ch 13 (by decide) h6).symm
  by_cases h7:c.toNat=9
  · exact letter 116 9 (by unfold qB qN;rw[if_neg h1,if_neg h2,if_neg h3,if_neg h4,if_neg h5,if_neg h6,if_pos h7]) (by decide) (by decide) (ch 9 (by decide) h7).symm
  by_cases h8:c.toNat<32
  · have hq:qB c=[92,117,48,48,NA.getD (c.toNat / 16) 0,NA.getD (c.toNat % 16) 0]:=by
      unfold qB qN;rw[if_neg h1,if_neg h2,if_neg h3,if_neg h4,if_neg h5,if_neg h6,if_neg h7,if_pos h8]
    rw[hq]
    exact TY (AF8 h8)
  · have hq:qB c=[c]:=by
      unfold qB qN;rw[if_neg h1,if_neg h2,if_neg h3,if_neg h4,if_neg h5,if_neg h6,if_neg h7,if_neg h8];simp
    rw[hq,List.cons_append,List.nil_append,GA,if_neg h1,if_neg h2,if_neg h8,Y9 hc]
    rfl
end
end Go.VM
namespace Go.VM
def WM (c:UInt8):Bool:=c==44||c==93||c==125||wsB c
def Stop (r:List UInt8):Prop:= ∀c t,r=c::t→WM c=true
theorem Wv:Stop []:=fun _ _ h=>by cases h
theorem Jb{c:UInt8}{t:List UInt8} (h:WM c=true):Stop (c::t):=fun c' t' e=>by cases e;exact h
def ABk (w:List UInt8):Prop:= ∀c,c∈w→wsB c=true
theorem Vl:ABk []:=fun _ h=>by cases h
theorem AB2: ∀ {w:List UInt8},ABk w→ ∀ {t:List UInt8},(∀c r,t=c::r→wsB c=false)→(w++t).takeWhile wsB=w
  |[],_,[],_=>rfl
  |[],_,c::r,h=>by rw[List.nil_append,List.takeWhile_cons,h c r rfl];rfl
  | x::w,hw,t,h=>by
    rw[List.cons_append,List.takeWhile_cons,hw x (by simp)]
    simp only[if_true]
    rw[AB2 (fun c hc=>hw c (by simp[hc])) h]
theorem Stop.ws{w t:List UInt8} (hw:ABk w) (h:Stop t):Stop (w++t):=by
  cases w with
  |nil=>exact h
  |cons c w=>exact Jb (by unfold WM;rw[hw c (by simp)];simp)
section
variable{N:Nat}{l:List UInt8}
theorem NH{i:Nat}{w t:List UInt8} (h:l.drop i=w++t) (hw:ABk w) (ht: ∀c r,t=c::r→wsB c=false):Sy N l i=Rw N (i+w.length) t:=by
  unfold Sy
  rw[h,AB2 hw ht,←List.drop_drop,h,List.drop_left]
theorem Oj{p:Nat}{c:UInt8}{r:List UInt8} (h:Nf.contains c=true):Rw N p (c::r)=(ApiToken.mk 2 [c] p,((p+1:Nat):Int),0):=by rw[Kq,if_pos h]
theorem Qg (rest:List UInt8): ∀(k':Nat) (t:List UInt8),(EN k' t).isSome=true→ ∀(k i:Nat) (out:List UInt8),t.length<k→GA k (t.flatMap qB++34::rest) i out=(out++t,i+(t.flatMap qB).length+1,0)
  |0,t,h,k,i,out,hk=>by cases h
  | k'+1,[],h,k,i,out,hk=>by
    obtain⟨k,rfl⟩: ∃j,k=j+1:=⟨k-1,by simp at hk;omega⟩
    simp[GA]
  | k'+1,c::t,h,k,i,out,hk=>by
    rw[EN]at h
    cases hd:JP (c::t)with
    |none=>rw[hd]at h;cases h
    | some p=>
      obtain⟨r,n⟩:=p
      rw[hd]at h
      simp only[Option.isSome_map]at h
      obtain⟨e1,e2,_⟩:=QK hd
      obtain⟨k,rfl⟩: ∃j,k=j+1:=⟨k-1,by simp only[List.length_cons]at hk;omega⟩
      have hsplit:c::t=(c::t).take n++(c::t).drop n:=(List.take_append_drop n _).symm
      have ih:=Qg rest k' ((c::t).drop n) h k
      have hlen:((c::t).drop n).length<k:=by rw[List.length_drop];omega
      by_cases hc:c.toNat<128
      · rw[Y9 hc]at hd
        simp only[Option.some.injEq,Prod.mk.injEq]at hd
        obtain⟨_,rfl⟩:=hd
        rw[List.flatMap_cons,List.append_assoc,ALG hc,show t=(c::t).drop 1 from rfl,ih _ _ hlen]
        simp only[List.drop_succ_cons,List.drop_zero,List.length_append,List.append_assoc,List.singleton_append]
        congr 2;omega
      · have hh:=AFX _ (ACn hd hc)
        have hq:(c::t).flatMap qB=(c::t).take n++((c::t).drop n).flatMap qB:=by
          conv=>lhs;rw[hsplit]
          rw[List.flatMap_append,hh]
        rw[hq,List.append_assoc]
        have hpre:=AEq hd (((c::t).drop n).flatMap qB++34::rest)
        have hl:((c::t).take n).length=n:=by rw[List.length_take];omega
        obtain⟨u,hu⟩: ∃u,(c::t).take n++(((c::t).drop n).flatMap qB++34::rest)=c::u:=by
          obtain⟨m,rfl⟩: ∃m,n=m+1:=⟨n-1,by omega⟩
          exact⟨_,rfl⟩
        have hdrop:(c::u).drop n=((c::t).drop n).flatMap qB++34::rest:=by
          rw[←hu,List.drop_append,List.drop_of_length_le (by omega),hl,Nat.sub_self];rfl
        have htake:(c::u).take n=(c::t).take n:=by
          rw[←hu,List.take_append,hl,Nat.sub_self,List.take_take,Nat.min_self];simp
        rw[hu]at hpre⊢
        rw[GA,if_neg (by omega),if_neg (by omega),if_neg (by omega),hpre]
        simp only[]
        rw[hdrop,htake,ih _ _ hlen,List.append_assoc,←hsplit]
        congr 2
        rw[List.length_append,hl];omega
theorem Sv{p:Nat}{s rest:List UInt8} (h:(EN N s).isSome=true) (hN:s.length<N):Rw N p (Df s++rest)=(ApiToken.mk 3 s p,((p+(Df s).length:Nat):Int),0):=by
  have e:Df s++rest=34::(s.flatMap qB++34::rest):=by simp[Df]
  rw[e,Kq,if_neg (by decide),if_pos (by decide),Qg rest N s h N (p+1) [] hN]
  simp only[if_true,List.nil_append]
  congr 2
  simp[Df];omega
theorem Je{set x rest:List UInt8} (hr: ∀c t,rest=c::t→set.contains c=false):C8 set (x++rest)=C8 set x:=by
  cases x with
  | nil=>
    cases rest with
    |nil=>rfl
    |cons c t=>simpa[C8]using hr c t rfl
  |cons c x=>rfl
theorem L9{x rest:List UInt8} (hr: ∀c t,rest=c::t→Du c=false):EZ (x++rest)=EZ x:=by
  unfold EZ
  induction x with
  | nil=>
    cases rest with
    |nil=>rfl
    |cons c t=>simp[hr c t rfl]
  | cons c x ih=>
    simp only[List.cons_append,List.takeWhile_cons]
    cases Du c
    · rfl
    · simp only[if_true,List.length_cons,ih]
theorem YT{c:UInt8} (h:WM c=true):Du c=false∧([45]:List UInt8).contains c=false∧([48]:List UInt8).contains c=false∧([46]:List UInt8).contains c=false∧([101,69]:List UInt8).contains c=false∧([43,45]:List UInt8).contains c=false∧Fw c=false:=by
  have:=Fg (f:=fun n=>if WM (UInt8.ofNat n)=true then(Du (UInt8.ofNat n)||([45]:List UInt8).contains (UInt8.ofNat n)||([48]:List UInt8).contains (UInt8.ofNat n)||([46]:List UInt8).contains (UInt8.ofNat n)||([101,69]:List UInt8).contains (UInt8.ofNat n)||([43,45]:List UInt8).contains (UInt8.ofNat n)||Fw (UInt8.ofNat n))else false) (g:=fun _=>false) (by kernel_rfl) c
  simp only[UInt8.ofNat_toNat,h,if_true,Bool.or_eq_false_iff]at this
  obtain⟨⟨⟨⟨⟨⟨a,b⟩,c⟩,d⟩,e⟩,f⟩,g⟩:=this
  exact⟨a,b,c,d,e,f,g⟩
theorem Iy{x rest:List UInt8}{a:Nat} (h:a≤x.length):(x++rest).drop a=x.drop a++rest:=by
  rw[List.drop_append,show a-x.length=0 by omega,List.drop_zero]
theorem ADp{x rest:List UInt8} (hr:Stop rest):EE (x++rest)=EE x:=by
  have hs: ∀c t,rest=c::t→_:=fun c t e=>YT (hr c t e)
  have hd:=L9 (x:=x) fun c t e=>(hs c t e).1
  have sg:A9 (x++rest)=A9 x:=by unfold A9;rw[Je fun c t e=>(hs c t e).2.1]
  have it: ∀y:List UInt8,DV (y++rest)=DV y:=fun y=>by unfold DV;rw[Je fun c t e=>(hs c t e).2.2.1,L9 fun c t e=>(hs c t e).1]
  have d1: ∀y:List UInt8,EZ ((y++rest).drop 1)=EZ (y.drop 1)∨y=[]:=fun y=>by
    cases y with
    |nil=>exact .inr rfl
    |cons a y=>exact .inl (by rw[Iy (by simp),L9 fun c t e=>(hs c t e).1])
  have fr: ∀y:List UInt8,Ef (y++rest)=Ef y:=fun y=>by
    unfold Ef
    rw[Je fun c t e=>(hs c t e).2.2.2.1]
    rcases d1 y with e|rfl
    · rw[e]
    · rw[if_neg (by simp[C8]),if_neg (by simp[C8])]
  have ex: ∀y:List UInt8,JS (y++rest)=JS y:=fun y=>by
    cases y with
    | nil=>
      unfold JS
      rw[Je fun c t e=>(hs c t e).2.2.2.2.1,if_neg (by simp[C8]),if_neg (by simp[C8])]
    | cons a y=>
      have eg:Hf (a::y++rest)=Hf (a::y):=by
        unfold Hf
        rw[Iy (by simp),Je fun c t e=>(hs c t e).2.2.2.2.2.1]
      have ele:1+Hf (a::y)≤(a::y).length∨Hf (a::y)=0:=by
        unfold Hf
        split
        · rename_i h;have:=GZ h;simp at this⊢;omega
        · exact .inr rfl
      have hr2:EZ ((a::y++rest).drop (1+Hf (a::y)))=EZ ((a::y).drop (1+Hf (a::y))):=by
        rcases ele with h|h
        · rw[Iy h,L9 fun c t e=>(hs c t e).1]
        · rw[h,Iy (by simp),L9 fun c t e=>(hs c t e).1]
      unfold JS
      rw[Je fun c t e=>(hs c t e).2.2.2.2.1,eg,hr2]
  have h1:=NP x
  have h2:=NJ (x.drop (A9 x))
  have h3:=Nh (x.drop (A9 x+DV (x.drop (A9 x))))
  simp only[List.length_drop]at h2 h3
  unfold EE
  rw[sg,Iy h1,it,Iy (by omega),fr,Iy (by omega),ex]
theorem YN{s:List UInt8} (h0:s≠ []) (hn:EE s=s.length): ∃c r,s=c::r∧(c=45∨Du c=true):=by
  obtain⟨sg,W,F,FR,P,EX,h⟩:=TU h0 hn
  rcases h.sg with e|e
  · cases hW:W with
    |nil=>exact absurd hW h.Wn
    | cons c W'=>
      have:=h.Wd
      rw[hW,List.all_cons,Bool.and_eq_true]at this
      exact⟨c,_,by rw[h.eq,e,hW];rfl,.inr this.1⟩
  · exact⟨45,_,by rw[h.eq,e];rfl,.inl rfl⟩
theorem ZX{c:UInt8} (hc:c=45∨Du c=true):wsB c=false∧Nf.contains c=false∧ ¬c.toNat=34∧(([45]:List UInt8).contains c||Du c)=true:=by
  have hcN:c.toNat=45∨(48≤c.toNat∧c.toNat≤57):=by
    rcases hc with rfl|hc
    · exact .inl rfl
    · exact .inr (KA hc)
  refine⟨?_,?_,by omega,?_⟩
  · simp only[wsB,wsN,Bool.or_eq_false_iff,decide_eq_false_iff_not];omega
  · have:=Fg (f:=fun n=>if decide (n=45∨(48≤n∧n≤57))=true then Nf.contains (UInt8.ofNat n)else false) (g:=fun _=>false) (by kernel_rfl) c
    simp only[UInt8.ofNat_toNat,decide_eq_true hcN,if_true]at this
    exact this
  · rcases hc with rfl|hc
    · rfl
    · rw[hc];simp
theorem AIZ{p:Nat}{s rest:List UInt8} (h0:s≠ []) (hn:EE s=s.length) (hr:Stop rest):Rw N p (s++rest)=(ApiToken.mk 4 s p,((p+s.length:Nat):Int),0):=by
  obtain⟨c,r,rfl,hc⟩:=YN h0 hn
  obtain⟨_,h2,h3,h4⟩:=ZX hc
  have e:=ADp (x:=c::r) hr
  rw[hn]at e
  rw[List.cons_append]at e⊢
  rw[Kq,if_neg (by rw[h2];decide),if_neg h3,if_pos h4,e,if_neg (by simp)]
  have:(c::(r++rest)).take (c::r).length=c::r:=by rw[←List.cons_append,List.take_left]
  rw[this]
theorem AAN{x rest:List UInt8} (hx:x.all Fw=true) (hr:Stop rest):(x++rest).takeWhile Fw=x:=by
  induction x with
  | nil=>
    cases rest with
    |nil=>rfl
    |cons c t=>rw[List.nil_append,List.takeWhile_cons,(YT (hr c t rfl)).2.2.2.2.2.2];rfl
  | cons c x ih=>
    rw[List.all_cons,Bool.and_eq_true]at hx
    rw[List.cons_append,List.takeWhile_cons,hx.1,if_pos rfl,ih hx.2]
theorem Qb{p:Nat}{x rest:List UInt8} (hx:isWord x=true) (hr:Stop rest):Rw N p (x++rest)=(ApiToken.mk 5 x p,((p+x.length:Nat):Int),0):=by
  have key: ∃c r,x=c::r∧x.all Fw=true∧Nf.contains c=false∧ ¬c.toNat=34∧(([45]:List UInt8).contains c||Du c)=false:=by
    unfold isWord at hx
    simp only[Bool.or_eq_true,beq_iff_eq]at hx
    rcases hx with rfl|rfl|rfl<;>exact⟨_,_,rfl,by decide,by decide,by decide,by decide⟩
  obtain⟨c,r,rfl,h1,h2,h3,h4⟩:=key
  have hw:=AAN h1 hr
  rw[List.cons_append]at hw⊢
  rw[Kq,if_neg (by rw[h2];decide),if_neg h3,if_neg (by rw[h4];decide),hw,if_pos hx]
end
end Go.VM
namespace Go.VM
open Classical
def hdT (v:ApiValue):ApiToken:=if v.kind==6 then ApiToken.mk 2 [91] 0 else if v.kind==7 then ApiToken.mk 2 [123] 0 else if v.kind==5 then ApiToken.mk 3 v.text 0 else if v.kind==4 then ApiToken.mk 4 v.text 0 else ApiToken.mk 5 (wrV v) 0
section
variable{N:Nat}
theorem wr4{s:List UInt8} {ks xs}:wrV ⟨4,s,ks,xs⟩=s:=by rw[wrV,if_neg (by decide),if_neg (by decide),if_neg (by decide),if_pos (by decide)]
theorem wr5{s:List UInt8} {ks xs}:wrV ⟨5,s,ks,xs⟩=Df s:=by rw[wrV,if_neg (by decide),if_neg (by decide),if_neg (by decide),if_neg (by decide),if_pos (by decide)]
theorem wr6{s:List UInt8} {ks xs}:wrV ⟨6,s,ks,xs⟩=91::(wrI true xs++[93]):=by rw[wrV,if_neg (by decide),if_neg (by decide),if_neg (by decide),if_neg (by decide),if_neg (by decide),if_neg (by decide)]
theorem wr7{s:List UInt8} {ks xs}:wrV ⟨7,s,ks,xs⟩=123::(wrM true ks xs++[125]):=by rw[wrV,if_neg (by decide),if_neg (by decide),if_neg (by decide),if_neg (by decide),if_neg (by decide),if_pos (by decide)]
theorem hd4{s:List UInt8} {ks xs}:hdT ⟨4,s,ks,xs⟩=ApiToken.mk 4 s 0:=rfl
theorem hd5{s:List UInt8} {ks xs}:hdT ⟨5,s,ks,xs⟩=ApiToken.mk 3 s 0:=rfl
theorem hd6{s:List UInt8} {ks xs}:hdT ⟨6,s,ks,xs⟩=ApiToken.mk 2 [91] 0:=rfl
theorem hd7{s:List UInt8} {ks xs}:hdT ⟨7,s,ks,xs⟩=ApiToken.mk 2 [123] 0:=rfl
theorem AEp (xs:List ApiValue) (r:List UInt8):Stop (wrI false xs++93::r):=by
  cases xs with
  |nil=>rw[wrI];exact Jb (by decide)
  |cons x xs=>rw[wrI];exact Jb (by decide)
theorem AJq (ks:List (List UInt8)) (xs:List ApiValue) (r:List UInt8):Stop (wrM false ks xs++125::r):=by
  cases ks with
  | nil => rw[wrM]; · exact Jb (by decide)
           · intros;simp_all
  | cons k ks=>
    cases xs with
    | nil => rw[wrM]; · exact Jb (by decide)
             · intros;simp_all
    |cons x xs=>rw[wrM];exact Jb (by decide)
end
end Go.VM
