import GoSem.Claim
import Derived.Test.YtcahkpfjpeomoaaGreatDoorDefs
import Derived.KernelRfl
import Derived.Test.YtcahkpfjpeomoaaGreatDoorVM3
set_option linter.unusedVariables false
set_option linter.unusedSimpArgs false
set_option maxRecDepth 100000
namespace Go.VM
theorem AeW{n:Int} (h: -9223372036854775808≤n∧n≤9223372036854775807):wr .i64 n=n:=by
  grind[wr,IntKind.wrap,IntKind.bits,IntKind.signed]
theorem AOD{α:Type} (l:List α) (a b:Nat) (h1:a≤b) (h2:b≤l.length):sub l (a:Int) (b:Int)=some ((l.drop a).take (b-a)):=by
  grind[sub]
theorem AGL{α:Type}{c:Prop} [Decidable c]{x:Option α} (h:c):grd c x=x:=by grind[grd]
theorem Ahm{α:Type}{n:Nat}{x:Option α} (h:n≤4611686018427387904):grd (AB n) x=x:=AGL h
theorem AYJ{α β:Type} (k:α→Option β) (body:(α→Option β)→Option β){d:JD α}:AA k body d=body k:=rfl
theorem wf_u8{n:Int} (h:(Lit.int .u8 n).wf=true):0≤n∧n≤255:=by
  simp only[Lit.wf,Bool.and_eq_true,decide_eq_true_eq]at h
  have e1:IntKind.u8.min=0:=by decide
  have e2:IntKind.u8.max=255:=by decide
  omega
end Go.VM
namespace Go.VM
def Ok{α:Type} (x:Option α) (P:α→Prop):Prop:= ∃a,x=some a∧P a
section
variable{α β:Type}{P:α→Prop}{Q:β→Prop}
theorem Ok.ret{a:α} (h:P a):Ok (some a) P:=⟨a,rfl,h⟩
theorem Ok.bind{x:Option β}{f:β→Option α} (h:Ok x Q) (k: ∀b,Q b→Ok (f b) P):Ok (Option.bind x f) P:=by
  obtain⟨b,rfl,hb⟩:=h;grind
theorem Ok.ite{c:Bool}{x y:Option α} (h1:c=true→Ok x P) (h2:c=false→Ok y P):Ok (if c=true then x else y) P:=by
  cases c
  · simpa using h2 rfl
  · simpa using h1 rfl
theorem Ok.grd{c:Prop} [Decidable c]{x:Option α} (hc:c) (h:Ok x P):Ok (grd c x) P:=by grind[AGL]
theorem Ok.meet (J:β→Prop){k:β→Option α}{body:(β→Option α)→Option α}{d:JD β} (hk: ∀b,J b→Ok (k b) P) (hb: ∀k':β→Option α,(∀b,J b→Ok (k' b) P)→Ok (body k') P):Ok (AA k body d) P:=hb k hk
theorem Ok.letL{x:β}{f:β→Option α} (h:Ok (f x) P):Ok (letL x f) P:=h
theorem Ok.mono{x:Option α}{P':α→Prop} (h:Ok x P) (k: ∀a,P a→P' a):Ok x P':=by obtain⟨a,e,ha⟩:=h;exact⟨a,e,k a ha⟩
theorem Ok.eq{x:Option α}{a:α} (h:x=some a):Ok x (· =a):=⟨a,h,rfl⟩
theorem Ok.idx{l:List α}{i:Int} (h0:0≤i) (h1:i<l.length):Ok (idx l i) (fun x=>l[i.toNat]?=some x):=by
  have:i.toNat<l.length:=by omega
  exact⟨l[i.toNat],by grind[VM.idx],List.getElem?_eq_getElem this⟩
theorem Ok.sub{l:List α}{a b:Int} (h0:0≤a) (h1:a≤b) (h2:b≤l.length):Ok (sub l a b) (fun x=>x=(l.drop a.toNat).take (b.toNat-a.toNat)∧x.length=(b-a).toNat):=by
  refine⟨_,by grind[VM.sub],rfl,?_⟩
  grind
end
end Go.VM
namespace Go.VM
section
variable{N:Nat}
def Mq (d:MadeDice):Prop:=(∀a,a∈d.l→0≤a∧a≤255)∧d.l.length≤1000
theorem AdI{d:MadeDice} (hd:Mq d){n:Nat} (h1:1≤n):Ok (Gm N d (n:Int)) fun r=>(0≤r.1∧r.1<n)∧Mq r.2:=by
  unfold Gm
  have hz:Ok (some ((0:Int),d)) fun r=>(0≤r.1∧r.1<n)∧Mq r.2:=.ret ⟨⟨Int.le_refl _,by dsimp only;omega⟩,hd⟩
  dsimp only[AYJ]
  cases hq:d.l with
  |nil=>exact hz
  | cons a t=>
    have hl:=hd.2
    rw[hq]at hl
    simp only[List.length_cons]at hl
    obtain⟨a1,a2⟩:=hd.1 a (by rw[hq];simp)
    rw[if_neg (by simp;omega)]
    refine Ok.ite (fun _=>hz) fun _=>?_
    have e1:sub (a::t) 1 ((a::t).length:Int)=some t:=by
      rw[show(1:Int)=((1:Nat):Int)from rfl,AOD _ 1 _ (by simp) (Nat.le_refl _)];simp
    rw[show idx (a::t) 0=some a from rfl,Option.bind_some,e1,Option.bind_some,AeW (by omega)]
    refine .grd (by omega) (.ret ⟨⟨?_,?_⟩,fun b hb=>hd.1 b (by rw[hq];simp[hb]),by dsimp only;omega⟩)
    · exact Int.tmod_nonneg _ a1
    · exact Int.tmod_lt_of_pos _ (by omega)
theorem oneG{d:MadeDice} (hd:Mq d){l:List (List UInt8)} (h1:1≤l.length):Ok (Cx N d l) fun r=>r.1∈l∧Mq r.2:=by
  unfold Cx
  refine .bind (AdI hd h1) fun y ⟨⟨y1,y2⟩,y3⟩=>?_
  exact .bind (Ok.idx y1 y2) fun x hx=>.ret ⟨List.mem_of_getElem? hx,y3⟩
theorem WL{α:Type}{n:Nat}{x:Option α}{P:α→Prop} (h:n≤1000000) (hx:Ok x P):Ok (grd (AB n) x) P:=by rw[Ahm (by omega)];exact hx
def AAi:List (List UInt8):=[[97,46,101,120,97,109,112,108,101],[98,46,101,120,97,109,112,108,101],[99,46,101,120,97,109,112,108,101,58,56,52,52,51],[100,46,101,120,97,109,112,108,101]]
def AMz:List (List UInt8):=[[97,46,101,120,97,109,112,108,101],[98,46,101,120,97,109,112,108,101],[99,46,101,120,97,109,112,108,101,37,51,65,56,52,52,51],[100,46,101,120,97,109,112,108,101]]
def Ou (l:List (List UInt8)) (m:List (List UInt8)):List (List UInt8):=l.flatMap fun a=>m.map fun b=>a++b
theorem IQ{l m:List (List UInt8)}{a b:List UInt8} (h1:a∈l) (h2:b∈m):a++b∈Ou l m:=List.mem_flatMap.2 ⟨a,h1,List.mem_map.2 ⟨b,h2,rfl⟩⟩
def Vk:List (List UInt8):=
  Ou (Ou (Ou [[97,99,99,116,58],[65,67,67,84,58]] [[98,111,98],[97,109,121],[120,37,50,102,121],[99,43,100]]) [[64]]) [[97,46,101,120,97,109,112,108,101],[66,46,101,120,97,109,112,108,101],[99,46,101,120,97,109,112,108,101]]++
  (Ou (Ou (Ou [[109,97,105,108,116,111,58]] [[98,111,98],[37,54,49,109,121],[99,43,100]]) [[64]]) [[97,46,101,120,97,109,112,108,101],[98,46,69,120,97,109,112,108,101]]++
  (Ou (Ou [[104,116,116,112,115,58,47,47]] AAi) [[],[47],[47,117,47,98,111,98],[47,46,47,120,63,121,61,49],[47,126,97,35,109,101]]++
  Ou (Ou [[100,105,100,58,119,101,98,58]] AMz) [[],[58,117],[58,117,58,98,111,98],[58,97,37,55,101,98]]))
def G6:List (List Int):=
  ([0,1].flatMap fun a=>[0,1,2,3].flatMap fun b=>[0,1,2].map fun c=>[0,0,a,b,c])++
  (([0,1,2].flatMap fun b=>[0,1].map fun c=>[0,2,b,c])++
  (([0,1,2,3].flatMap fun h=>[0,1,2,3,4].map fun c=>[h,3,c])++
  ([0,1,2,3].flatMap fun h=>[0,1,2,3].map fun c=>[h,4,c])))
theorem Agh{d:MadeDice} (hd:Mq d):Ok (Na N d) fun r=>r.1∈Vk:=by
  unfold Na P9 Vk
  simp only[List.mem_append]
  refine .bind (Q:=fun r=>r.1∈AAi∧Mq r.2) ?_ fun y ⟨y1,y2⟩=>?_
  · exact .letL (.bind (oneG hd (by decide)) fun r hr=>.ret hr)
  refine .bind (AdI y2 (n:=6) (by decide)) fun z ⟨_,z1⟩=>?_
  have hlen: ∀s,s∈AAi→s.length≤30:=by decide
  have hy:=hlen _ y1
  refine .meet (fun _=>True) (fun j _=>?_) fun k' hk=>.ite (fun _=>hk _ trivial) fun _=>hk _ trivial
  refine .ite (fun _=>?_) fun _=>.ite (fun _=>?_) fun _=>.ite (fun _=>?_) fun _=>?_
  · refine .letL (.bind (oneG z1 (by decide)) fun a ⟨a1,a2⟩=>?_)
    refine .letL (.bind (oneG a2 (by decide)) fun b ⟨b1,b2⟩=>?_)
    have ha:a.1.length≤30:=(show∀s,s∈([[97,99,99,116,58],[65,67,67,84,58]]:List (List UInt8))→s.length≤30 by decide) _ a1
    have hb:b.1.length≤30:=(show∀s,s∈([[98,111,98],[97,109,121],[120,37,50,102,121],[99,43,100]]:List (List UInt8))→s.length≤30 by decide) _ b1
    refine WL (by omega) (WL (by simp;omega) ?_)
    refine .letL (.bind (oneG b2 (by decide)) fun c ⟨c1,c2⟩=>?_)
    have hc:c.1.length≤30:=(show∀s,s∈([[97,46,101,120,97,109,112,108,101],[66,46,101,120,97,109,112,108,101],[99,46,101,120,97,109,112,108,101]]:List (List UInt8))→s.length≤30 by decide) _ c1
    exact WL (by simp;omega) (.ret (.inl (IQ (IQ (IQ a1 b1) (by decide)) c1)))
  · refine .letL (.bind (oneG z1 (by decide)) fun a ⟨a1,a2⟩=>?_)
    have ha:a.1.length≤30:=(show∀s,s∈([[98,111,98],[37,54,49,109,121],[99,43,100]]:List (List UInt8))→s.length≤30 by decide) _ a1
    refine WL (by simp;omega) (WL (by simp;omega) ?_)
    refine .letL (.bind (oneG a2 (by decide)) fun c ⟨c1,c2⟩=>?_)
    have hc:c.1.length≤30:=(show∀s,s∈([[97,46,101,120,97,109,112,108,101],[98,46,69,120,97,109,112,108,101]]:List (List UInt8))→s.length≤30 by decide) _ c1
    exact WL (by simp;omega) (.ret (.inr (.inl (IQ (IQ (IQ (by decide) a1) (by decide)) c1))))
  · refine WL (by simp;omega) ?_
    refine .letL (.bind (oneG z1 (by decide)) fun a ⟨a1,a2⟩=>?_)
    have ha:a.1.length≤30:=(show∀s,s∈([[],[47],[47,117,47,98,111,98],[47,46,47,120,63,121,61,49],[47,126,97,35,109,101]]:List (List UInt8))→s.length≤30 by decide) _ a1
    exact WL (by simp;omega) (.ret (.inr (.inr (.inl (IQ (IQ (by decide) y1) a1)))))
  · refine .meet (fun j=>j∈AMz∧j.length≤30) (fun j ⟨hj,hj2⟩=>?_) fun k' hk=>.ite (fun _=>hk _ (by decide)) fun hne=>hk _ ?_
    · refine WL (by simp;omega) ?_
      refine .letL (.bind (oneG z1 (by decide)) fun a ⟨a1,a2⟩=>?_)
      have ha:a.1.length≤30:=(show∀s,s∈([[],[58,117],[58,117,58,98,111,98],[58,97,37,55,101,98]]:List (List UInt8))→s.length≤30 by decide) _ a1
      exact WL (by simp;omega) (.ret (.inr (.inr (.inr (IQ (IQ (by decide) hj) a1)))))
    · refine⟨?_,hy⟩
      revert hne
      generalize y.1=h at y1
      have: ∀s,s∈AAi→(s==([99,46,101,120,97,109,112,108,101,58,56,52,52,51]:List UInt8))=false→s∈AMz:=by decide
      exact this h y1
theorem AhZ (a0:List Int) (h: ∀a,a∈a0→0≤a∧a≤255):Ok (Nb N a0) Mq:=by
  unfold Nb
  have e:(if 200<(a0.length:Int)then 200 else(a0.length:Int))=((min 200 a0.length:Nat):Int):=by split<;>omega
  rw[e,show(0:Int)=((0:Nat):Int)from rfl,AOD _ 0 _ (Nat.zero_le _) (by omega),Option.bind_some]
  refine .ret ⟨fun a ha=>h a ?_,?_⟩
  · exact List.mem_of_mem_drop (List.mem_of_mem_take ha)
  · simp only[List.length_take,List.length_drop];omega
end
end Go.VM
namespace Go.VM
section
theorem Ahg:((Vk.zip G6).all fun p=>decide (ET 1099511627776 p.2=Option.bind (K8 1099511627776 p.1) fun y=>some y.1))=true:=by kernel_rfl
theorem AeK:(((G6.take 10).all fun s=>[0,1,2].all fun k=>decide (BZ 1099511627776 s k=some true)))=true:=by kernel_rfl
theorem AeN:(((G6.drop 10).take 10).all fun s=>[0,1,2].all fun k=>decide (BZ 1099511627776 s k=some true))=true:=by kernel_rfl
theorem Aeu:(((G6.drop 20).take 10).all fun s=>[0,1,2].all fun k=>decide (BZ 1099511627776 s k=some true))=true:=by kernel_rfl
theorem Afo:(((G6.drop 30).take 10).all fun s=>[0,1,2].all fun k=>decide (BZ 1099511627776 s k=some true))=true:=by kernel_rfl
theorem Adr:(((G6.drop 40).take 10).all fun s=>[0,1,2].all fun k=>decide (BZ 1099511627776 s k=some true))=true:=by kernel_rfl
theorem Ae4:((G6.drop 50).all fun s=>[0,1,2].all fun k=>decide (BZ 1099511627776 s k=some true))=true:=by kernel_rfl
theorem AgD (s:List Int) (hs:s∈G6) (k:Int) (hk:k∈([0,1,2]:List Int)):BZ 1099511627776 s k=some true:=by
  have e:G6=G6.take 10++((G6.drop 10).take 10++((G6.drop 20).take 10++((G6.drop 30).take 10++((G6.drop 40).take 10++G6.drop 50)))):=by decide
  rw[e]at hs
  simp only[List.mem_append]at hs
  have go: ∀l:List (List Int),(l.all fun s=>[0,1,2].all fun k=>decide (BZ 1099511627776 s k=some true))=true→s∈l→BZ 1099511627776 s k=some true:=fun l h h1=>
    of_decide_eq_true (List.all_eq_true.1 (List.all_eq_true.1 h s h1) k hk)
  rcases hs with h|h|h|h|h|h
  · exact go _ AeK h
  · exact go _ AeN h
  · exact go _ Aeu h
  · exact go _ Afo h
  · exact go _ Adr h
  · exact go _ Ae4 h
end
end Go.VM
namespace Go.VM
section
theorem idG (a0:List Int) (h: ∀a,a∈a0→0≤a∧a≤255): ∃s,s∈G6∧ET 1099511627776 a0=ET 1099511627776 s:=by
  obtain⟨d,hd,hd1⟩:=AhZ (N:=1099511627776) a0 h
  obtain⟨t,ht,ht1⟩:=Agh (N:=1099511627776) hd1
  obtain⟨i,hi,e⟩:=List.mem_iff_getElem.1 ht1
  have hl:Vk.length=G6.length:=by decide
  have hp:(t.1,G6[i]'(hl▸hi))∈Vk.zip G6:=by
    rw[List.mem_iff_getElem]
    exact⟨i,by simp[hl]at hi⊢;omega,by simp[e]⟩
  have:=of_decide_eq_true (List.all_eq_true.1 Ahg _ hp)
  refine⟨G6[i]'(hl▸hi),List.getElem_mem _,?_⟩
  rw[this]
  unfold ET
  rw[hd,Option.bind_some,ht,Option.bind_some]
theorem Uw (a0:List Int) (o0:a0.length≤reachBytes∧ ∀a,a∈a0→(Lit.int .u8 a).wf=true) (a1:Int) (o1:(Lit.int .u8 a1).wf=true):BZ 1099511627776 a0 a1=some true:=by
  obtain⟨h0,h1⟩:=wf_u8 o1
  obtain⟨s,hs,hid⟩:=idG a0 fun a ha=>wf_u8 (o0.2 a ha)
  have hm:a1.tmod 3=0∨a1.tmod 3=1∨a1.tmod 3=2:=by
    have:=Int.tmod_nonneg 3 h0
    have:=Int.tmod_lt_of_pos a1 (b:=3) (by omega)
    omega
  have hk:a1.tmod 3∈([0,1,2]:List Int):=by rcases hm with e|e|e<;>rw[e]<;>decide
  have:=AgD s hs _ hk
  have e:(a1.tmod 3).tmod 3=a1.tmod 3:=by rcases hm with e|e|e<;>rw[e]<;>decide
  unfold BZ at this⊢
  rw[e]at this
  rw[hid]
  exact this
end
end Go.VM
