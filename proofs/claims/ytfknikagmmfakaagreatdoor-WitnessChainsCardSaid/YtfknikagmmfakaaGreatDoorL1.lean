import GoSem.Claim
import Derived.Test.YtfknikagmmfakaaGreatDoorDefs
import Derived.Test.YtfknikagmmfakaaGreatDoorVM3
import Derived.KernelRfl
set_option linter.unusedVariables false
set_option linter.unusedSimpArgs false
set_option maxRecDepth 100000
namespace Go.VM
theorem AmF{n:Int} (h: -9223372036854775808≤n∧n≤9223372036854775807):wr .i64 n=n:=by
  grind[wr,IntKind.wrap,IntKind.bits,IntKind.signed]
theorem AFA{α:Type} (l:List α) (n:Nat):idx l (n:Int)=l[n]?:=by simp[idx]
theorem Ahp{α:Type} (pre suf:List α) (x:α):idx (pre++x::suf) (pre.length:Int)=some x:=by simp[idx]
theorem Ac4{α:Type}{l pre suf:List α}{x:α} (h:l=pre++x::suf):idx l (pre.length:Int)=some x:=by grind[Ahp]
theorem AOM{α:Type} (pre:List α) (x:α):(pre.length:Int)+1=((pre++[x]).length:Int):=by simp
theorem Agj{α:Type} (l:List α):sub l 0 (l.length:Int)=some l:=by simp[sub]
theorem AC0{α:Type} (l:List α) (a b:Nat) (h1:a≤b) (h2:b≤l.length):sub l (a:Int) (b:Int)=some ((l.drop a).take (b-a)):=by
  grind[sub]
theorem WA{α:Type}{c:Prop} [Decidable c]{x:Option α} (h:c):grd c x=x:=by grind[grd]
theorem ASd{n b:Nat} (h:n≤1000000) (hb:b≤100000):Ah n b:=by
  unfold Ah
  have:n * b≤1000000 * 100000:=Nat.mul_le_mul h hb
  omega
theorem ANv{α:Type}{n b:Nat}{x:Option α} (h:n≤1000000) (hb:b≤100000):grd (Ah n b) x=x:=WA (ASd h hb)
theorem AUE{α:Type}{n:Nat}{x:Option α} (h:n≤4611686018427387904):grd (AU n) x=x:=WA h
theorem wf_u8{n:Int} (h:(Lit.int .u8 n).wf=true):0≤n∧n≤255:=by
  simp only[Lit.wf,Bool.and_eq_true,decide_eq_true_eq]at h
  have e1:IntKind.u8.min=0:=by decide
  have e2:IntKind.u8.max=255:=by decide
  omega
end Go.VM
namespace Go.VM
def Ok{α:Type} (x:Option α) (P:α→Prop):Prop:= ∃a,x=some a∧P a
section
variable{α β:Type}{P:α→Prop}{Q:β→Prop}
theorem Ok.ret{a:α} (h:P a):Ok (some a) P:=⟨a,rfl,h⟩
theorem Ok.bind{x:Option β}{f:β→Option α} (h:Ok x Q) (k: ∀b,Q b→Ok (f b) P):Ok (Option.bind x f) P:=by
  obtain⟨b,rfl,hb⟩:=h;grind
theorem Ok.grd{c:Prop} [Decidable c]{x:Option α} (hc:c) (h:Ok x P):Ok (grd c x) P:=by grind[WA]
theorem Ok.meet (J:β→Prop){k:β→Option α}{body:(β→Option α)→Option α}{d:JD β} (hk: ∀b,J b→Ok (k b) P) (hb: ∀k':β→Option α,(∀b,J b→Ok (k' b) P)→Ok (body k') P):Ok (AA k body d) P:=hb k hk
theorem Ok.letL{x:β}{f:β→Option α} (h:Ok (f x) P):Ok (letL x f) P:=h
theorem Ok.mono{x:Option α}{P':α→Prop} (h:Ok x P) (k: ∀a,P a→P' a):Ok x P':=by obtain⟨a,e,ha⟩:=h;exact⟨a,e,k a ha⟩
theorem Ok.eq{x:Option α}{a:α} (h:x=some a):Ok x (· =a):=⟨a,h,rfl⟩
theorem Ok.idx{l:List α}{i:Int} (h0:0≤i) (h1:i<l.length):Ok (idx l i) (fun x=>l[i.toNat]?=some x):=by
  have:i.toNat<l.length:=by omega
  exact⟨l[i.toNat],by grind[VM.idx],List.getElem?_eq_getElem this⟩
theorem Ok.sub{l:List α}{a b:Int} (h0:0≤a) (h1:a≤b) (h2:b≤l.length):Ok (sub l a b) (fun x=>x=(l.drop a.toNat).take (b.toNat-a.toNat)∧x.length=(b-a).toNat):=by
  refine⟨_,by grind[VM.sub],rfl,?_⟩
  grind
end
end Go.VM
namespace Go.VM
section
variable{N:Nat}
def AKp (s:Int):Bool:=s==301||(s==302||(s==303||(s==307||s==308)))
theorem Am7 (s:Int):C8 N s=some (AKp s):=by
  unfold C8 AKp
  simp only[AA]
  by_cases h1:s=301<;>by_cases h2:s=302<;>by_cases h3:s=303<;>by_cases h4:s=307<;>by_cases h5:s=308<;>simp_all
theorem Ano (s:Int):Em N s=some (AKp s):=by
  unfold Em AKp
  by_cases h1:s≥301<;>by_cases h2:s≤303<;>by_cases h4:s=307<;>by_cases h5:s=308<;>simp[h1,h2,h4,h5]<;>grind
def Mr:List ApiExchange→List ApiExchange→List (List ApiExchange)
  |cur,[]=>if cur.length>0 then [cur]else []
  |cur,x::xs=>if AKp x.status=true then Mr (cur++[x]) xs else(cur++[x])::Mr [] xs
def WL:List ApiExchange→Option Nat
  |[]=>none
  |x::xs=>if AKp x.status=true then(WL xs).map (· +1)else some 0
theorem Yk: ∀(xs cur:List ApiExchange),WL xs=none→Mr cur xs=if(cur++xs).length>0 then [cur++xs]else []
  |[],cur,h=>by simp[Mr]
  | x::xs,cur,h=>by
    unfold WL at h
    split at h
    · rename_i hr
      have:=Yk xs (cur++[x]) (by simpa using h)
      unfold Mr
      rw[if_pos hr,this]
      simp
    · cases h
theorem Yz: ∀(xs cur:List ApiExchange) (i:Nat),WL xs=some i→i<xs.length∧Mr cur xs=(cur++xs.take (i+1))::Mr [] (xs.drop (i+1))
  |[],cur,i,h=>by cases h
  | x::xs,cur,i,h=>by
    unfold WL at h
    split at h
    · rename_i hr
      obtain⟨j,hj,rfl⟩:=Option.map_eq_some_iff.1 h
      obtain⟨h1,h2⟩:=Yz xs (cur++[x]) j hj
      refine⟨by simp;omega,?_⟩
      conv=>lhs;unfold Mr
      rw[if_pos hr,h2]
      simp
    · rename_i hr
      cases h
      refine⟨by simp,?_⟩
      conv=>lhs;unfold Mr
      rw[if_neg hr]
      simp
theorem Aj9: ∀(xs:List ApiExchange) (out cur:List ApiExchange→List (List ApiExchange)) (o:List (List ApiExchange)) (c:List ApiExchange),o.length+xs.length≤100→c.length+xs.length≤100→ ∀(k:List (List ApiExchange)×List ApiExchange→Option (List (List ApiExchange))) (R:Option (List (List ApiExchange))),(∀o' c',o'.length≤100→c'.length≤100→o'++(if c'.length>0 then [c']else [])=o++Mr c xs→k (o',c')=R)→DR N k xs o c=R
  | [],_,_,o,c,h1,h2,k,R,hk=>by
    unfold DR
    exact hk o c (by simpa using h1) (by simpa using h2) (by simp[Mr])
  | x::xs,f,g,o,c,h1,h2,k,R,hk=>by
    simp only[List.length_cons]at h1 h2
    unfold DR
    simp only[AA]
    rw[ANv (by omega) (by omega),Ano,Option.bind_some]
    cases hr:AKp x.status
    · simp only[Bool.false_eq_true,if_false]
      rw[ANv (by omega) (by omega)]
      refine Aj9 xs f g _ _ (by simp;omega) (by simp;omega) k R fun o' c' ho hc e=>hk o' c' ho hc (e.trans ?_)
      conv=>rhs;unfold Mr
      simp[hr]
    · simp only[if_true]
      refine Aj9 xs f g _ _ (by omega) (by simp;omega) k R fun o' c' ho hc e=>hk o' c' ho hc (e.trans ?_)
      conv=>rhs;unfold Mr
      simp[hr]
theorem AhM (xs:List ApiExchange) (h:xs.length≤60):KT N xs=some (Mr [] xs):=by
  unfold KT
  simp only[AA]
  rw[AUE (by omega)]
  refine Aj9 xs (fun _=>[]) (fun _=>[]) [] [] (by simp;omega) (by simp;omega) _ _ fun o' c' ho hc e=>?_
  simp only[List.nil_append]at e
  rw[←e]
  by_cases hc0:c'.length>0
  · have:decide ((c'.length:Int)>0)=true:=by simpa using hc0
    simp only[this,if_true,hc0]
    rw[ANv (by omega) (by omega)]
  · have:decide ((c'.length:Int)>0)=false:=by simpa using hc0
    simp[this,hc0]
theorem Amq: ∀(xs:List ApiExchange) (s:Int) (k:Unit→Option Int),AO N k xs s=(match WL xs with|some i=>some (s+i)|none=>k ())
  |[],s,k=>by unfold AO;rfl
  | x::xs,s,k=>by
    unfold AO JF
    rw[Am7,Option.bind_some,Option.bind_some]
    unfold WL
    cases hr:AKp x.status
    · simp
    · simp only[Bool.not_true,Bool.false_eq_true,if_false,if_true]
      rw[Amq xs (s+1) k]
      cases WL xs with
      |none=>rfl
      |some i=>simp;omega
theorem AiW (xs:List ApiExchange) (h:xs.length≤60):Ac N xs=some (match WL xs with|some i=>(i:Int)|none=> -1):=by
  unfold Ac
  simp only[AA]
  rw[AUE (by omega),Amq]
  cases WL xs<;>simp
theorem Alb: ∀(m:Nat) (xs:List ApiExchange) (o:List (List ApiExchange)) (n:Nat),xs.length≤m→xs.length≤60→o.length+xs.length≤100→m<n→ ∀k,DC N k n xs o=k (o++Mr [] xs)
  |m,xs,o,0,h0,h1,h2,h3,k=>by omega
  | m,xs,o,n+1,h0,h1,h2,h3,k=>by
    unfold DC
    by_cases hp:xs.length>0
    · have hp':decide ((xs.length:Int)>0)=true:=by simpa using hp
      rw[if_pos hp',AiW xs h1,Option.bind_some]
      simp only[AA]
      cases m with
      |zero=>omega
      |succ m=>
      cases he:WL xs with
      | none=>
        have e:(wr .i64 ((-1:Int)+1)==0)=true:=by decide
        simp only[e,if_true]
        rw[Agj,Option.bind_some]
        unfold Av
        rw[ANv (by simp;omega) (by omega),Option.bind_some,ANv (by omega) (by omega)]
        rw[AC0 xs xs.length xs.length (by omega) (by omega),Option.bind_some]
        rw[Alb m _ _ n (by simp) (by simp) (by simp;omega) (by omega) k,Yk xs [] he]
        simp[Mr,hp]
      | some i=>
        obtain⟨hi,hc⟩:=Yz xs [] i he
        have e:wr .i64 ((i:Int)+1)=((i+1:Nat):Int):=by rw[AmF (by omega)];omega
        have e0:((((i+1:Nat):Int))==0)=false:=by simp;omega
        simp only[e,e0,Bool.false_eq_true,if_false]
        rw[show(0:Int)=((0:Nat):Int)from rfl,AC0 xs 0 (i+1) (by omega) (by omega),Option.bind_some]
        unfold Av
        rw[ANv (by simp;omega) (by omega),Option.bind_some,ANv (by omega) (by omega)]
        rw[AC0 xs (i+1) xs.length (by omega) (by omega),Option.bind_some]
        have ed:(xs.drop (i+1)).take (xs.length-(i+1))=xs.drop (i+1):=List.take_of_length_le (by simp)
        rw[ed,Alb m _ _ n (by simp;omega) (by simp;omega) (by simp;omega) (by omega) k,hc]
        simp
    · have hp':decide ((xs.length:Int)>0)=false:=by simpa using hp
      have:xs=[]:=List.eq_nil_of_length_eq_zero (by omega)
      subst this
      simp[Mr]
theorem AhV (xs:List ApiExchange) (h:xs.length≤60):Ew 1099511627776 xs=some (Mr [] xs):=by
  unfold Ew
  simp only[AA]
  rw[Alb 60 xs [] _ (by omega) h (by simp;omega) (by omega)]
  simp
theorem Ajo: ∀(pre xs l:List ApiExchange) (k:Unit→Option Bool),l=pre++xs→k ()=some true→CX N l k xs (pre.length:Int)=some true
  |pre,[],l,k,h,hk=>by unfold CX;exact hk
  | pre,x::xs,l,k,h,hk=>by
    unfold CX
    rw[Ac4 h,Option.bind_some]
    simp only[beq_self_eq_true,Bool.and_self,if_true]
    rw[AOM pre x]
    exact Ajo (pre++[x]) xs l k (by simp[h]) hk
theorem Adh (l:List ApiExchange) (h:l.length≤4611686018427387904):Hf N l l=some true:=by
  unfold Hf
  simp only[AA,bne_self_eq_false,Bool.false_eq_true,if_false]
  rw[AUE h]
  exact Ajo [] l l _ rfl rfl
theorem Ajs: ∀(xs:List ApiExchange) (k:Unit→Option Bool),k ()=some true→ ∃b,EC N k xs=some b
  |[],k,hk=>⟨true,by unfold EC;exact hk⟩
  | x::xs,k,hk=>by
    unfold EC R4
    rw[Option.bind_some]
    split
    · exact Ajs xs k hk
    · exact⟨false,rfl⟩
theorem Aa0 (l:List ApiExchange): ∃b,MU N l=some b∧(b=true→l.length≤60):=by
  unfold MU
  split
  · exact⟨false,rfl,by simp⟩
  · rename_i h
    have h':l.length≤60:=by simp at h;omega
    simp only[AA]
    rw[AUE (by omega)]
    obtain⟨b,e⟩:=Ajs (N:=N) l (fun _=>some true) rfl
    exact⟨b,e,fun _=>h'⟩
theorem WJ: ∀(xs cur:List ApiExchange),cur.length+xs.length≤60→(∀l,l∈Mr cur xs→l.length≤60)∧(Mr cur xs).length≤xs.length+1
  | [],cur,h=>by
    unfold Mr
    split
    · simp at h;simp[h]
    · simp
  | x::xs,cur,h=>by
    simp only[List.length_cons]at h
    unfold Mr
    split
    · have:=WJ xs (cur++[x]) (by simp;omega)
      exact⟨this.1,by simp only[List.length_cons];omega⟩
    · have:=WJ xs [] (by simp;omega)
      refine⟨fun l hl=>?_,by simp only[List.length_cons];omega⟩
      rcases List.mem_cons.1 hl with rfl|hl
      · simp;omega
      · exact this.1 l hl
theorem Aj1: ∀(pre xs l:List (List ApiExchange)) (k:Unit→Option Bool),l=pre++xs→(∀x,x∈xs→x.length≤60)→k ()=some true→BQ N l k xs (pre.length:Int)=some true
  |pre,[],l,k,h,hx,hk=>by unfold BQ;exact hk
  | pre,x::xs,l,k,h,hx,hk=>by
    unfold BQ
    rw[Ac4 h,Option.bind_some,Adh x (by have:=hx x (by simp);omega),Option.bind_some,if_pos rfl,AOM pre x]
    exact Aj1 (pre++[x]) xs l k (by simp[h]) (fun y hy=>hx y (by simp[hy])) hk
theorem Adk (a1:List Int) (ha: ∀a,a∈a1→0≤a) (k:List ApiExchange→Option Bool): ∀(xs:List ApiExchange) (s:Nat) (bn:List ApiExchange),s+xs.length=bn.length→(∀l,l.length=bn.length→k l=some true)→BP N a1 k xs (s:Int) bn=some true
  |[],s,bn,h,hk=>by unfold BP;exact hk bn rfl
  | x::xs,s,bn,h,hk=>by
    simp only[List.length_cons]at h
    unfold BP
    simp only[AA]
    have e1:(s:Int)+1=((s+1:Nat):Int):=by omega
    by_cases hs:s<a1.length
    · have hs':decide ((s:Int)<(a1.length:Int))=true:=by simpa using hs
      rw[if_pos hs']
      unfold letL
      simp only[]
      rw[AFA,List.getElem?_eq_getElem hs,Option.bind_some]
      have h0:=ha a1[s] (List.getElem_mem _)
      have h1:=Int.tmod_nonneg 6 h0
      have h2:=Int.tmod_lt_of_pos a1[s] (b:=6) (by omega)
      have h3: ∃y,idx ([200,301,302,404,308,0]:List Int) (a1[s].tmod 6)=some y:=by
        rw[show a1[s].tmod 6=(((a1[s].tmod 6).toNat:Nat):Int) by omega,AFA]
        have:(a1[s].tmod 6).toNat<([200,301,302,404,308,0]:List Int).length:=by simp;omega
        exact⟨_,List.getElem?_eq_getElem this⟩
      obtain⟨y,hy⟩:=h3
      have hb:s<bn.length:=by omega
      rw[hy,Option.bind_some,AFA,List.getElem?_eq_getElem hb,Option.bind_some,e1]
      exact Adk a1 ha k xs (s+1) _ (by simp;omega) (fun l hl=>hk l (by simpa using hl))
    · have hs':decide ((s:Int)<(a1.length:Int))=false:=by simpa using hs
      rw[hs',if_neg (by simp),e1]
      exact Adk a1 ha k xs (s+1) _ (by omega) hk
theorem AnU:Nt 1099511627776=some true:=by kernel_rfl
theorem Ro{P:ApiExchange→Prop} (a0:List ApiExchange) (o0:a0.length≤reachBytes∧ ∀a,a∈a0→P a) (a1:List Int) (o1:a1.length≤reachBytes∧ ∀a,a∈a1→(Lit.int .u8 a).wf=true):EU 1099511627776 a0 a1=some true:=by
  obtain⟨b,hb,hl⟩:=Aa0 (N:=1099511627776) a0
  unfold EU
  rw[AnU,Option.bind_some,if_pos rfl,hb]
  simp only[AA,Option.bind_some]
  cases b with
  |false=>rfl
  | true=>
    have h60:=hl rfl
    simp only[if_true]
    split
    · rfl
    · rw[ANv (by omega) (by omega),AUE (by omega)]
      refine Adk a1 (fun a ha=>(wf_u8 (o1.2 a ha)).1) _ a0 0 a0 (by simp) fun l hl=>?_
      rw[AhV l (by omega),Option.bind_some,AhM l (by omega),Option.bind_some]
      simp only[bne_self_eq_false,Bool.false_eq_true,if_false]
      obtain⟨c1,c2⟩:=WJ l [] (by simp;omega)
      rw[AUE (by omega)]
      exact Aj1 [] _ _ _ rfl c1 rfl
end
end Go.VM
