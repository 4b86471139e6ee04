import Derived.Laws.RangeString
import Derived.Laws.RangeAny
import Derived.Lib.OthersKept
import Derived.Lib.MakeNoZero
import Derived.Test.YtjgdhjpafjpjgaaGreatDoorVM1
import Derived.Test.YtjgdhjpafjpjgaaGreatDoorVM4
import Derived.Scope
set_option linter.unusedSimpArgs false
set_option linter.unusedVariables false
namespace Go.VM
def Ll (mv:List Tmp) (dst:Option Tmp):Bool:=match dst with|some d=>mv.contains d|none=>false
def Cm (s:List UInt8) (pos:Nat):Nat×Nat:=Utf8.decode ⟨s.toArray⟩ pos
def Vu (s:List UInt8) (pos:Nat) (t:Tmp) (d:Option Tmp) (af:List AVal):List AVal:=
  if decide (pos<s.length)=true then Av (af.set t (.iter s (pos+(Cm s pos).2))) d (.tuple [.bool true,.int .i64 pos,.int .i32 (Cm s pos).1])
  else Av af d (.tuple [.bool false])
def EE (E:Env) (mv:List Tmp) (o:Oper) (af:List AVal) (st:St):Option (List AVal×St):=
  match o.op with
  |.move x=>if Ll mv o.dst=true then some (Av (stripAt af x) o.dst (rd E af o.type x),st)else some (Av af o.dst (rd E af o.type x).strip,st)
  |.assign x=>some (Av (stripAt af x) o.dst (rd E af o.type x),st)
  |.alloc t=>(if Ll mv o.dst=true then Pj E.P t st.next else Dm E.P t st.next).map fun cs=>(Av af o.dst (.ptr st.next 0),{m:=(st.next,cs)::st.m,next:=st.next+1})
  |.box t x=>if DY (rd E af t x)=true then some (Av (stripAt af x) o.dst (.ptr st.next 0),{m:=(st.next,Aa (rd E af t x))::st.m,next:=st.next+1})else none
  |.build t ⟨ps⟩=>(OD E t (BD E (AY E.P t) af ps).2).map fun r=>(Av (BD E (AY E.P t) af ps).1 o.dst r,st)
  | .buildSlice t len ⟨ps⟩=>
    if Ll mv o.dst=true then(HZ E t len (BD E (fun _=>AY E.P t 0) af ps).2).map fun p=>(Av (BD E (fun _=>AY E.P t 0) af ps).1 o.dst (.gsl p.1 st.next len),{m:=(st.next,p.2)::st.m,next:=st.next+1})
    else(FW E t len (BD E (fun _=>AY E.P t 0) af ps).2).map fun r=>(Av af o.dst r,st)
  | .load t x=>
    if Ll mv o.dst=true then(MR E t (rd E af 0 x) st).map fun p=>(Av af o.dst p.1,p.2)
    else(NW E t (rd E af 0 x) st).map fun r=>(Av af o.dst r.strip,st)
  |.store t x y=>if o.dst.isNone=true then(MP E t (rd E af 0 x) (rd E af t y) st).map fun st'=>(stripAt af y,st')else none
  | .extract (.tmp t) n=>
    match af.getD t .any with
    |.tuple vs=>(vs[n]?).map fun r=>(Av (af.set t (.tuple (vs.set n r.strip))) o.dst r,st)
    |_=>none
  | .range t x=>
    match rd E af t x with
    |.str s=>if Cy E.P t=true then some (Av af o.dst (.iter s 0),st)else none
    |_=>none
  | .next (.tmp t) true=>
    match af.getD t .any with
    |.iter s pos=>some (Vu s pos t o.dst af,st)
    |_=>none
  | .slice t x lo hi mx=>
    match rdo E af lo,rdo E af hi,rdo E af mx with
    |some l,some h,some m=>(E5 E t (rd E af t x) l h m).map fun r=>(Av af o.dst r,st)
    |_,_,_=>none
  | .call {callee:=.builtin .append,args:=⟨[x,y]⟩,argTypes:=⟨t0::t1::_⟩}=>
    if Ll mv o.dst=true then(ME E t0 t1 (rd E af t0 x) (rd E af t1 y)).map fun r=>(Av (stripAt af x) o.dst (.sh st.next),{m:=(st.next,[r])::st.m,next:=st.next+1})
    else(FN E t0 t1 (rd E af t0 x) (rd E af t1 y)).map fun r=>(Av (stripAt af x) o.dst r,st)
  |.makeMap t none=>some (Av af o.dst (.sh st.next),{m:=(st.next,[.map [] []])::st.m,next:=st.next+1})
  |.lookup t m k ok=>(P9 E t (rd E af t m) (rd E af 0 k) ok st).map fun r=>(Av af o.dst r,st)
  |.mapUpdate t m k x=>if o.dst.isNone=true then(QB E t (rd E af t m) (rd E af 0 k) (rd E af 0 x) st).map fun st'=>(af,st')else none
  |.insert t m k x=>if o.dst.isNone=true then(QB E t (rd E af t m) (rd E af 0 k) (rd E af 0 x) st).map fun st'=>(af,st')else none
  | .indexAddr t x i=>
    match Bi E o af with
    |some r=>some (Av af o.dst r.strip,st)
    |none=>(Iz E t (rd E af t x) (rd E af 0 i) st).map fun r=>(Av af o.dst r,st)
  |.makeSlice t x y=>(if Ll mv o.dst=true then QQ E t (rd E af 0 x) (rd E af 0 y) st else QG E t (rd E af 0 x) (rd E af 0 y) st).map fun p=>(Av af o.dst p.1,p.2)
  | .convert s d x=>
    match Bi E o af with
    |some r=>some (Av af o.dst r.strip,st)
    | none=>
      match Ns E s d (rd E af s x) st with
      |some r=>some (Av af o.dst r,st)
      |none=>(Mw E s d (rd E af s x) st).map fun p=>(Av af o.dst p.1,p.2)
  |.call {callee:=.builtin .unsafeSliceData,args:=⟨[x]⟩,argTypes:=⟨t0::_⟩}=>(Nz (rd E af t0 x)).map fun r=>(Av (stripAt af x) o.dst r,st)
  |.call {callee:=.builtin .unsafeString,args:=⟨[x,y]⟩,argTypes:=⟨[t0,t1]⟩}=>(P5 E t0 (rd E af t0 x) (rd E af t1 y)).map fun r=>(Av (stripAt af x) o.dst r,st)
  |_=>(Bi E o af).map fun r=>(Av af o.dst r.strip,st)
section
variable{E:Env}{F:Nat→Nat}{Γ:Ghost}{st:St}{w:World}{af:List AVal}{a:Act}
theorem ALz (vs:List Value) (t:Nat) (d:Value):vs.set t (vs.getD t d)=vs:=by
  apply List.ext_getElem?
  intro i
  rw[List.getElem?_set]
  split
  · rename_i e
    subst e
    split
    · rename_i h;simp[List.getD,List.getElem?_eq_getElem h]
    · rename_i h;rw[List.getElem?_eq_none (Nat.le_of_not_lt h)]
  · rfl
theorem Sim.newIter (hs:Sim E F Γ st w af a.tmps.toList) (sb:ByteArray) (p:Nat):Sim E F Γ st (w.iter sb p) af a.tmps.toList∧Ext F Γ w Γ (w.iter sb p):=by
  have hold: ∀n,n<w.heap.size→(w.iter sb p).heap[n]?=w.heap[n]?:=fun n hn=>alloc_old (.stringIter sb p) hn
  have hsz:(w.iter sb p).heap.size=w.heap.size+1:=by simp[World.iter]
  refine⟨hs.elsewhere (b:=w.heap.size) (fun n hn _=>hold n hn) (by omega) (hs.com_none (Nat.le_refl _)) (fun i hi h=>?_) ?_ ?_,⟨Γ.le_refl,fun n hn=>⟨hold n (hs.F_of hn),rfl⟩,by omega,rfl,rfl,rfl⟩⟩
  · have:=hs.bx_lt _ _ h;omega
  · rcases Nat.lt_or_ge 0 (AL w.heap.size af a.tmps.toList)with h|h
    · have:=(BN _ _ hs.own h).1;omega
    · omega
  · rcases Nat.lt_or_ge 0 (Ac Γ w w.heap.size st.m)with h|h
    · have:=TH hs h;omega
    · omega
theorem Sim.iterTo (hs:Sim E F Γ st w af a.tmps.toList){t:Tmp}{s:List UInt8}{pos:Nat} (hx:af.getD t .any=.iter s pos){b:Nat}{sb:ByteArray} (hv:a.tmps.toList.getD t undef=.pointer (some ⟨b,0,none⟩))
    (hsb:sb.data.toList=s) (hh:w.heap[b]?=some (.stringIter sb pos)) (pos':Nat):Sim E F Γ st (w.iterAt b sb pos') (af.set t (.iter s pos')) a.tmps.toList∧Ext F Γ w Γ (w.iterAt b sb pos'):=by
  have e:=KP b af a.tmps.toList t undef hs.rep.length
  rw[hx,hv]at e
  have e1:cnt b (.iter s pos) (.pointer (some ⟨b,0,none⟩))=1:=by simp[cnt,Lp]
  rw[e1]at e
  have e2:(AVal.iter s pos).strip=.any:=by simp[AVal.strip]
  rw[e2]at e
  have tk:=hs.tok b
  have hlt:b<w.heap.size:=(Array.getElem?_eq_some_iff.1 hh).1
  have hold: ∀n,n≠b→(w.iterAt b sb pos').heap[n]?=w.heap[n]?:=fun n hn=>by
    simp only[World.iterAt]
    rw[Array.getElem?_setIfInBounds_ne (fun e=>hn e.symm)]
  have hsz:(w.iterAt b sb pos').heap.size=w.heap.size:=by simp[World.iterAt]
  have hnew:(w.iterAt b sb pos').heap[b]?=some (.stringIter sb pos'):=by simp[World.iterAt,hlt]
  have hs0:Sim E F Γ st w (af.set t .any) a.tmps.toList:=by
    have:=hs.stripAt (.tmp t)
    simpa only[VM.stripAt,hx,e2]using this
  have hcom:Γ.com b=none:=by
    cases hc:Γ.com b with
    |none=>rfl
    |some cs=>obtain⟨ar,e',fz,q2,_⟩:=hs.com_ok b cs hc;rw[hh]at q2;cases q2
  have s1:Sim E F Γ st (w.iterAt b sb pos') (af.set t .any) a.tmps.toList:=hs0.elsewhere (b:=b) (fun n _ hn=>hold n hn) (by omega) hcom (fun i hi h=>by
    obtain⟨p,hp,rfl⟩:=List.mem_map.1 hi
    rcases hs.box_ok p hp with⟨k,ar,e',hb⟩|⟨v,hv⟩
    rotate_left
    · have:=hv.bx;rw[h]at this;cases this
    obtain⟨lo,hh2,q3,_⟩:=hb.heap
    have:=hb.bx;rw[h]at this;cases this
    rw[hh]at q3;cases q3) (by omega) (by omega)
  refine⟨?_,⟨Γ.le_refl,fun n hn=>⟨hold n (fun e=>by subst e;omega),rfl⟩,by omega,rfl,rfl,rfl⟩⟩
  have hset:a.tmps.toList=a.tmps.toList.set t (.pointer (some ⟨b,0,none⟩)):=by rw[←hv,ALz]
  have hss:af.set t (.iter s pos')=(af.set t .any).set t (.iter s pos'):=by rw[List.set_set]
  rw[hss]
  have h5: ∀n,AL n ((af.set t .any).set t (.iter s pos')) a.tmps.toList≤AL n (af.set t .any) a.tmps.toList+cnt n (.iter s pos') (.pointer (some ⟨b,0,none⟩)):=fun n=>by
    have:=GV n (af.set t .any) a.tmps.toList t (.iter s pos') (.pointer (some ⟨b,0,none⟩))
    rw[←hset]at this
    exact this
  refine {s1 with rep:=?_,own:=?_,tok:=?_}
  · have:=s1.rep.set t (x:=.iter s pos') (v:=.pointer (some ⟨b,0,none⟩)) (.iter _ _ _)
    rwa[←hset]at this
  · have:=s1.own.set t (x:=.iter s pos') (v:=.pointer (some ⟨b,0,none⟩)) (by simp only[VM.own];exact⟨b,sb,rfl,hsb,hnew⟩)
    rwa[←hset]at this
  · intro n
    have q1:=h5 n
    have q2:=s1.tok n
    by_cases hn:n=b
    · subst hn
      have q3:Ac Γ (w.iterAt n sb pos') n st.m=0:=by
        rw[Dl (w:=w) fun p hp=>⟨rfl,fun k hk=>hold k (fun e=>by
          subst e
          rcases hs.box_ok p hp with⟨k2,ar,e',hb⟩|⟨v,hv⟩
          rotate_left
          · have:=hv.bx;rw[hk]at this;cases this
          obtain⟨lo,hh2,q3,_⟩:=hb.heap
          have:=hb.bx;rw[hk]at this;cases this
          rw[hh]at q3;cases q3)⟩]
        omega
      have q4:cnt n (.iter s pos') (.pointer (some ⟨n,0,none⟩))=1:=by simp[cnt,Lp]
      omega
    · have q4:cnt n (.iter s pos') (.pointer (some ⟨b,0,none⟩))=0:=by simp[cnt,Lp];exact fun e=>hn e.symm
      omega
theorem Sy{b:ByteArray}{s:List UInt8} (h:b.data.toList=s):b=⟨s.toArray⟩:=by
  subst h;simp
theorem AHP (hs:Sim E F Γ st w af a.tmps.toList){o:Oper}{t:TypeId}{x:Operand}{s:List UInt8} (hop:o.op=.range t x) (hx:rd E af t x=.str s) (ht:Cy E.P t=true):
    ∃nx w' a' Γ',Stepped E F Γ st w a o (Av af o.dst (.iter s 0)) st nx w' a' Γ':=by
  have hr:=hs.rd t x
  rw[hx]at hr
  generalize hv:a.eval x=v at hr
  cases hr
  rename_i sb hn
  have hrun:=run_range_string (P:=E.P) w t sb (Bv ht)
  refine⟨.value (.pointer (some ⟨w.heap.size,0,none⟩)),w.iter sb 0,a.put o.dst (.pointer (some ⟨w.heap.size,0,none⟩)),Γ,?_,fun K Q hk=>hk,put_defers _ _ _,?_,Nat.le_refl _,?_⟩
  · simp only[execOp,hop,hv];rw[Sem.run_bind,hrun];rfl
  · exact(hs.newIter sb 0).2
  · refine(hs.newIter sb 0).1.put o.dst (.iter _ _ _) ?_ ?_
    · simp only[VM.own];exact⟨_,sb,rfl,rfl,World.iter_heap w sb 0⟩
    · intro b
      have h1:=hs.tok b
      have h2:=(hs.newIter sb 0).1.tok b
      simp only[cnt,Lp]
      split
      · rename_i e
        have h3:F b=0:=hs.F_lt b (by omega)
        have h4:AL b af a.tmps.toList=0:=by
          rcases Nat.lt_or_ge 0 (AL b af a.tmps.toList)with h|h
          · have:=(BN _ _ hs.own h).1;omega
          · omega
        have h5:Ac Γ (w.iter sb 0) b st.m=0:=by
          rw[Dl (Γ:=Γ) (w:=w) (w':=w.iter sb 0) fun p hp=>⟨rfl,fun k hk=>alloc_old (.stringIter sb 0) (hs.bx_lt _ _ hk)⟩]
          rcases Nat.lt_or_ge 0 (Ac Γ w b st.m)with h|h
          · have:=TH hs h;omega
          · omega
        omega
      · omega
theorem ANv (hs:Sim E F Γ st w af a.tmps.toList){o:Oper}{t:Tmp}{s:List UInt8}{pos:Nat} (hop:o.op=.next (.tmp t) true) (hx:af.getD t .any=.iter s pos):
    ∃nx w' a' Γ',Stepped E F Γ st w a o (Vu s pos t o.dst af) st nx w' a' Γ':=by
  have ho:=hs.own.get hs.rep.length t undef
  rw[hx]at ho
  simp only[VM.own]at ho
  obtain⟨b,sb,hv,hsb,hh⟩:=ho
  have hev:a.eval (.tmp t)=.pointer (some ⟨b,0,none⟩):=by simp only[Act.eval,Array.getD_toList'];exact hv
  have hlen:sb.size=s.length:=by rw[←hsb,Array.length_toList];rfl
  unfold Vu
  split
  · rename_i hlt
    have hlt:pos<sb.size:=by rw[hlen];simpa using hlt
    have hrun:=Go.Lib.run_next_any_at (P:=E.P) w b sb pos o.type hh hlt
    have hde:Utf8.decode sb pos=Cm s pos:=by rw[Sy hsb];rfl
    rw[hde]at hrun
    obtain⟨s1,x1⟩:=hs.iterTo (t:=t) hx hv hsb hh (pos+(Cm s pos).2)
    refine⟨.value (.tuple #[.bool true,.int .i64 pos,.int .i32 (Cm s pos).1]),w.iterAt b sb (pos+(Cm s pos).2),a.put o.dst (.tuple #[.bool true,.int .i64 pos,.int .i32 (Cm s pos).1]),Γ,?_,fun K Q hk=>hk,put_defers _ _ _,x1,Nat.le_refl _,?_⟩
    · simp only[execOp,hop,hev];rw[Sem.run_bind,hrun];rfl
    · refine s1.put o.dst (r:=.tuple [.bool true,.int .i64 pos,.int .i32 (Cm s pos).1]) (.tuple (.cons (.bool _) (.cons (.int _ _) (.cons (.int _ _) .nil)))) (by simp[VM.own,ownL]) fun n=>?_
      have:=s1.tok n
      simp only[cnt,AL];omega
  · rename_i hlt
    have hlt: ¬pos<sb.size:=by rw[hlen];simpa using hlt
    have hrun:=Go.Lib.run_next_end_at (P:=E.P) w b sb pos o.type hh hlt
    refine⟨.value (.tuple #[.bool false]),w,a.put o.dst (.tuple #[.bool false]),Γ,?_,fun K Q hk=>hk,put_defers _ _ _,Ext.refl _ _ _,Nat.le_refl _,?_⟩
    · simp only[execOp,hop,hev];rw[Sem.run_bind,hrun];rfl
    · refine hs.put o.dst (r:=.tuple [.bool false]) (.tuple (.cons (.bool _) .nil)) (by simp[VM.own,ownL]) fun n=>?_
      have:=hs.tok n
      simp only[cnt,AL];omega
theorem Q6 (hs:Sim E F Γ st w af a.tmps.toList){mv:List Tmp}{o:Oper}{af':List AVal}{st':St} (h:EE E mv o af st=some (af',st')):
    ∃nx w' a' Γ',Stepped E F Γ st w a o af' st' nx w' a' Γ':=by
  unfold EE at h
  split at h
  · rename_i x hop
    split at h
    · simp only[Option.some.injEq,Prod.mk.injEq]at h;obtain⟨rfl,rfl⟩:=h
      exact WL hs (.inl hop)
    · simp only[Option.some.injEq,Prod.mk.injEq]at h;obtain⟨rfl,rfl⟩:=h
      exact⟨.value (a.eval x),w,a.put o.dst (a.eval x),Γ,by simp[execOp,hop],fun K Q hk=>hk,put_defers _ _ _,Ext.refl _ _ _,Nat.le_refl _,hs.putStrip o.dst (hs.rd o.type x)⟩
  · rename_i x hop
    simp only[Option.some.injEq,Prod.mk.injEq]at h;obtain⟨rfl,rfl⟩:=h
    exact WL hs (.inr hop)
  · rename_i t hop
    split at h
    · cases hz:Pj E.P t st.next with
      |none=>simp[hz]at h
      | some z=>
        simp only[hz,Option.map_some,Option.some.injEq,Prod.mk.injEq]at h;obtain⟨rfl,rfl⟩:=h
        exact AG3 hs hop hz
    · cases hz:Dm E.P t st.next with
      |none=>simp[hz]at h
      | some z=>
        simp only[hz,Option.map_some,Option.some.injEq,Prod.mk.injEq]at h;obtain⟨rfl,rfl⟩:=h
        exact AIL hs hop hz
  · rename_i t x hop
    split at h
    · rename_i hx
      simp only[Option.some.injEq,Prod.mk.injEq]at h;obtain⟨rfl,rfl⟩:=h
      exact AIc hs hop hx
    · cases h
  · rename_i t ps hop
    cases hz:OD E t (BD E (AY E.P t) af ps).2 with
    |none=>simp[hz]at h
    | some z=>
      simp only[hz,Option.map_some,Option.some.injEq,Prod.mk.injEq]at h;obtain⟨rfl,rfl⟩:=h
      exact AJM hs hop hz
  · rename_i t len ps hop
    split at h
    · cases hz:HZ E t len (BD E (fun _=>AY E.P t 0) af ps).2 with
      |none=>simp[hz]at h
      | some z=>
        obtain⟨z,cs⟩:=z
        simp only[hz,Option.map_some,Option.some.injEq,Prod.mk.injEq]at h;obtain⟨rfl,rfl⟩:=h
        exact RP hs hop hz
    cases hz:FW E t len (BD E (fun _=>AY E.P t 0) af ps).2 with
    |none=>simp[hz]at h
    | some z=>
      simp only[hz,Option.map_some,Option.some.injEq,Prod.mk.injEq]at h;obtain⟨rfl,rfl⟩:=h
      exact Sz hs hop hz
  · rename_i t x hop
    split at h
    · cases hz:MR E t (rd E af 0 x) st with
      |none=>simp[hz]at h
      | some z=>
        obtain⟨r,s⟩:=z
        simp only[hz,Option.map_some,Option.some.injEq,Prod.mk.injEq]at h;obtain⟨rfl,rfl⟩:=h
        exact AFQ hs hop hz
    · cases hz:NW E t (rd E af 0 x) st with
      |none=>simp[hz]at h
      | some z=>
        simp only[hz,Option.map_some,Option.some.injEq,Prod.mk.injEq]at h;obtain⟨rfl,rfl⟩:=h
        exact ANW hs hop hz
  · rename_i t x y hop
    split at h
    · rename_i hd
      cases hz:MP E t (rd E af 0 x) (rd E af t y) st with
      |none=>simp[hz]at h
      | some z=>
        simp only[hz,Option.map_some,Option.some.injEq,Prod.mk.injEq]at h;obtain⟨rfl,rfl⟩:=h
        exact AHH hs hop (by simpa using hd) hz
    · cases h
  · rename_i t n hop
    split at h
    · rename_i vs hv
      cases hz:vs[n]? with
      |none=>simp[hz]at h
      | some z=>
        simp only[hz,Option.map_some,Option.some.injEq,Prod.mk.injEq]at h;obtain⟨rfl,rfl⟩:=h
        exact ABz hs hop hv hz
    · cases h
  · rename_i t x hop
    split at h
    · rename_i s hx
      split at h
      · rename_i ht
        simp only[Option.some.injEq,Prod.mk.injEq]at h;obtain⟨rfl,rfl⟩:=h
        exact AHP hs hop hx ht
      · cases h
    · cases h
  · rename_i t hop
    split at h
    · rename_i s pos hx
      simp only[Option.some.injEq,Prod.mk.injEq]at h;obtain⟨rfl,rfl⟩:=h
      exact ANv hs hop hx
    · cases h
  · rename_i t x lo hi mx hop
    split at h
    · rename_i l hh m h1 h2 h3
      cases hz:E5 E t (rd E af t x) l hh m with
      |none=>simp[hz]at h
      | some z=>
        simp only[hz,Option.map_some,Option.some.injEq,Prod.mk.injEq]at h;obtain⟨rfl,rfl⟩:=h
        exact AHa hs hop h1 h2 h3 hz
    · cases h
  · rename_i x y t0 t1 ts hop
    split at h
    · cases hz:ME E t0 t1 (rd E af t0 x) (rd E af t1 y)with
      |none=>simp[hz]at h
      | some z=>
        simp only[hz,Option.map_some,Option.some.injEq,Prod.mk.injEq]at h;obtain⟨rfl,rfl⟩:=h
        exact Y1 hs hop hz
    cases hz:FN E t0 t1 (rd E af t0 x) (rd E af t1 y)with
    |none=>simp[hz]at h
    | some z=>
      simp only[hz,Option.map_some,Option.some.injEq,Prod.mk.injEq]at h;obtain⟨rfl,rfl⟩:=h
      exact AC3 hs hop hz
  · rename_i t hop
    simp only[Option.some.injEq,Prod.mk.injEq]at h;obtain⟨rfl,rfl⟩:=h
    exact ABu hs hop
  · rename_i t m k ok hop
    cases hz:P9 E t (rd E af t m) (rd E af 0 k) ok st with
    |none=>simp[hz]at h
    | some z=>
      simp only[hz,Option.map_some,Option.some.injEq,Prod.mk.injEq]at h;obtain⟨rfl,rfl⟩:=h
      exact AER hs hop hz
  · rename_i t m k x hop
    split at h
    · rename_i hd
      cases hz:QB E t (rd E af t m) (rd E af 0 k) (rd E af 0 x) st with
      |none=>simp[hz]at h
      | some z=>
        simp only[hz,Option.map_some,Option.some.injEq,Prod.mk.injEq]at h;obtain⟨rfl,rfl⟩:=h
        exact Sk hs (.inl hop) (by simpa using hd) hz
    · cases h
  · rename_i t m k x hop
    split at h
    · rename_i hd
      cases hz:QB E t (rd E af t m) (rd E af 0 k) (rd E af 0 x) st with
      |none=>simp[hz]at h
      | some z=>
        simp only[hz,Option.map_some,Option.some.injEq,Prod.mk.injEq]at h;obtain⟨rfl,rfl⟩:=h
        exact Sk hs (.inr hop) (by simpa using hd) hz
    · cases h
  · rename_i t x i hop
    split at h
    · rename_i r hz
      simp only[Option.some.injEq,Prod.mk.injEq]at h;obtain⟨rfl,rfl⟩:=h
      exact Rb hs hz
    · cases hz:Iz E t (rd E af t x) (rd E af 0 i) st with
      |none=>simp[hz]at h
      | some z=>
        simp only[hz,Option.map_some,Option.some.injEq,Prod.mk.injEq]at h;obtain⟨rfl,rfl⟩:=h
        exact Sw hs hop hz
  · rename_i t x y hop
    split at h
    · cases hz:QQ E t (rd E af 0 x) (rd E af 0 y) st with
      |none=>simp[hz]at h
      | some z=>
        simp only[hz,Option.map_some,Option.some.injEq,Prod.mk.injEq]at h;obtain⟨rfl,rfl⟩:=h
        exact AJG hs hop hz
    · cases hz:QG E t (rd E af 0 x) (rd E af 0 y) st with
      |none=>simp[hz]at h
      | some z=>
        simp only[hz,Option.map_some,Option.some.injEq,Prod.mk.injEq]at h;obtain⟨rfl,rfl⟩:=h
        exact ALV hs hop hz
  · rename_i s d x hop
    split at h
    · rename_i r hz
      simp only[Option.some.injEq,Prod.mk.injEq]at h;obtain⟨rfl,rfl⟩:=h
      exact Rb hs hz
    · split at h
      · rename_i r hz
        simp only[Option.some.injEq,Prod.mk.injEq]at h;obtain⟨rfl,rfl⟩:=h
        exact AH8 hs hop hz
      · cases hz:Mw E s d (rd E af s x) st with
        |none=>simp[hz]at h
        | some z=>
          simp only[hz,Option.map_some,Option.some.injEq,Prod.mk.injEq]at h;obtain⟨rfl,rfl⟩:=h
          exact AHL hs hop hz
  · rename_i x t0 ts hop
    cases hz:Nz (rd E af t0 x)with
    |none=>simp[hz]at h
    | some z=>
      simp only[hz,Option.map_some,Option.some.injEq,Prod.mk.injEq]at h;obtain⟨rfl,rfl⟩:=h
      exact AHs hs hop hz
  · rename_i x y t0 t1 hop
    cases hz:P5 E t0 (rd E af t0 x) (rd E af t1 y)with
    |none=>simp[hz]at h
    | some z=>
      simp only[hz,Option.map_some,Option.some.injEq,Prod.mk.injEq]at h;obtain⟨rfl,rfl⟩:=h
      exact AMj hs hop hz
  · cases hz:Bi E o af with
    |none=>simp[hz]at h
    | some z=>
      simp only[hz,Option.map_some,Option.some.injEq,Prod.mk.injEq]at h;obtain⟨rfl,rfl⟩:=h
      exact Rb hs hz
end
def rdL (E:Env) (af:List AVal):List Operand→List TypeId→List AVal
  |[],_=>[]
  |x::xs,[]=>rd E af 0 x::rdL E af xs []
  |x::xs,t::ts=>rd E af t x::rdL E af xs ts
def callable (P:Program) (g:FuncId):Bool:=
  match P.funcs[g]? with
  | some fn => fn.name != "runtime.NumGoroutine" && fn.body.isSome
  |none=>false
def AZI (E:Env) (g:FuncId) (args:List AVal) (st:St) (Q:AVal→St→Prop):Prop:=
  ∃ fn e r, E.P.funcs[g]? = some fn ∧ (fn.name == "runtime.NumGoroutine") = false ∧ fn.body.isNone = true ∧ Extern.findNext fn = none ∧ Extern.find fn = some e ∧
    (∀Γ vs w,RepL Γ args vs→ ∃v,(e vs.toArray).run E.P w=.ok v w∧Rep Γ r v)∧Q r.strip st
def AZ0 (E:Env) (g:FuncId) (args:List AVal) (st:St) (Q:AVal→St→Prop):Prop:=
  ∃ fn ps t el, ∃ n : Nat, E.P.funcs[g]? = some fn ∧ (fn.name == "runtime.NumGoroutine") = false ∧ fn.body.isNone = true ∧ Extern.findNext fn = none ∧ Extern.find fn = some (Extern.BytealgMakeNoZero.makeNoZero ps #[t]) ∧
    E.P.underlying t=some (.slice el)∧1≤n∧n≤140737488355328∧args=[.int .i64 n]∧Q (.trow el st.next n) {m:=(st.next,[.any])::st.m,next:=st.next+1}
def Wz (E:Env) (g:FuncId) (args:List AVal) (st:St) (Q:AVal→St→Prop):Prop:=AZI E g args st Q∨AZ0 E g args st Q
theorem UY: ∀(n t:Nat) (acc:Array Value),(∀v,v∈acc.toList→v.oneCell'=true)→ ∀v,v∈(Extern.BytealgMakeNoZero.digits n t acc).toList→v.oneCell'=true
  |0,_,_,h=>h
  | n+1,t,acc,h=>by
    rw[Extern.BytealgMakeNoZero.digits]
    refine UY n _ _ fun v hv=>?_
    rw[Array.toList_push,List.mem_append]at hv
    rcases hv with hv|hv
    · exact h v hv
    · rw[List.mem_singleton]at hv;subst hv;rfl
theorem AWB{P:Program} (w:World) (ps:Array TypeId) (t e:TypeId) (ht:P.underlying t=some (.slice e)) (n:Nat) (hn:n≤281474976710656):
    ∃cs:Array Value,(Extern.BytealgMakeNoZero.makeNoZero ps #[t] #[.int .i64 n]).run P w=.ok (.slice (some ⟨w.heap.size,0,none⟩) n cs.size) (w.drew.drew.alloc (.cells cs e))∧n≤cs.size∧ ∀v,v∈cs.toList→v.oneCell'=true:=by
  have h1: ¬(n:Int)<0:=by omega
  have h2: ¬(281474976710656:Int)<(n:Int):=by omega
  refine ⟨Extern.BytealgMakeNoZero.digits (grownCap w n 0 e) ((Question.extern "internal/bytealg.MakeNoZero.bytes" 0).cut (w.tape (w.drawn + 1) (.extern "internal/bytealg.MakeNoZero.bytes" 0))) #[], ?_, ?_, UY _ _ _ (by simp)⟩
  · show Sem.run P (do
        let TypeDesc.slice el←underlying t|stuck _
        if(n:Int)<0||(n:Int)>2^48 then runtimePanic _
        let c←choose (.appendCap (n:Int).toNat 0 el)
        askRoom c
        let bs←choose (.extern _ 0)
        let a←newRow el (Extern.BytealgMakeNoZero.digits c bs #[])
        pure (Value.slice (some a) (n:Int).toNat c):Sem Value) w=_
    simp[run_underlying ht,h1,h2,Question.forced,newRow,Go.Lib.size_digits,grownCap]
  · rw[Go.Lib.size_digits]
    simpa using grownCap_ge w n 0 e
def CallX (E:Env) (g:FuncId) (args:List AVal) (st:St) (Q:AVal→St→Prop):Prop:=if callable E.P g=true then ACall E g args st Q else Wz E g args st Q
theorem CallX.mono{E:Env}{st:St}{g:FuncId}{args:List AVal}{Q Q':AVal→St→Prop} (h:CallX E g args st Q) (k: ∀r st',st.next≤st'.next→Q r st'→Q' r st'):CallX E g args st Q':=by
  unfold CallX at *
  split
  · rename_i hc;rw[if_pos hc]at h;exact h.mono k
  · rename_i hc;rw[if_neg hc]at h
    rcases h with h|h
    · obtain⟨fn,e,r,h1,h2,h3,h4,h5,h6,h7⟩:=h
      exact .inl ⟨fn,e,r,h1,h2,h3,h4,h5,h6,k _ _ (Nat.le_refl _) h7⟩
    · obtain⟨fn,ps,t,el,n,h1,h2,h3,h4,h5,h6,h7,h8,h9,h10⟩:=h
      exact .inr ⟨fn,ps,t,el,n,h1,h2,h3,h4,h5,h6,h7,h8,h9,k _ _ (Nat.le_succ _) h10⟩
def PN:AVal→Bool
  |.gsl _ _ _=>true
  |_=>false
def AAY (x y:AVal):Bool:=PN y||PN x
def Cq (E:Env) (mv:List Tmp) (o:Oper) (af:List AVal) (st:St) (K:List AVal→St→Prop):Prop:=
  match o.op with
  | .call {callee:=.value f,args,argTypes}=>
    match rd E af 0 f with
    |.fn (.func g) p q=>CallX E g (stripL (p++rdL E af args.toList argTypes.toList++q)) st fun r st'=>K (Av af o.dst r) st'
    |_=>False
  | .call {callee:=.builtin .append,args:=⟨[x,y]⟩,argTypes:=⟨t0::t1::_⟩}=>
    if AAY (rd E af t0 x) (rd E af t1 y)=true then
      match appG E t0 t1 (rd E af t0 x) (rd E af t1 y) st with
      |some (wd,l,cs,rest,jo)=> ∀i,i=st.next∨jo=some i→K (Av af o.dst (.gsl wd i l)) {m:=(i,cs)::rest,next:=st.next+1}
      |none=>False
    else
      match EE E mv o af st with
      |some (af',st')=>K af' st'
      |none=>False
  | _=>
    match EE E mv o af st with
    |some (af',st')=>K af' st'
    |none=>False
def AbQ (E:Env) (o:Oper) (af:List AVal) (st:St) (K:List AVal→St→Prop):Prop:=
  ∀(F:Nat→Nat) (Γ:Ghost) (w:World) (a:Act),a.defers=[]→Sim E F Γ st w af a.tmps.toList→ ∀(K':Act→World→Prop) (Qx:Exit→Act→World→Prop),
    (∀Γ' af' st' a' w',Ext F Γ w Γ' w'→st.next≤st'.next→a'.defers=[]→Sim E F Γ' st' w' af' a'.tmps.toList→K af' st'→K' a' w')→o.wp E.P a w K' Qx
section
variable{E:Env}{F:Nat→Nat}{Γ:Ghost}{st:St}{w:World}{af:List AVal}{a:Act}
theorem RepL.append{xs ys:List AVal}{us vs:List Value} (h:RepL Γ xs us) (k:RepL Γ ys vs):RepL Γ (xs++ys) (us++vs):=by
  induction xs generalizing us with
  |nil=>cases h;exact k
  |cons x xs ih=>cases h with|cons h t=>exact .cons h (ih t)
theorem AAx (hs:Sim E F Γ st w af a.tmps.toList): ∀(xs:List Operand) (ts:List TypeId),RepL Γ (rdL E af xs ts) (xs.map a.eval)
  |[],_=>.nil
  |x::xs,[]=>.cons (hs.rd _ x) (AAx hs xs [])
  |x::xs,t::ts=>.cons (hs.rd _ x) (AAx hs xs ts)
theorem Sim.aside (hs:Sim E F Γ st w af a.tmps.toList){xs:List AVal}{vs:List Value} (hr:RepL Γ xs vs):Sim E (fun b=>F b+AL b af a.tmps.toList) Γ st w (stripL xs) vs:=by
  refine {hs with bx_F:=?_,F_lt:=?_,rep:=hr.strip,own:=Hl _ _ _ _,tok:=?_}
  · intro p b hp hb
    have h1:=hs.bx_F p b hp hb
    have h2:AL b af a.tmps.toList=0:=by
      rcases Nat.lt_or_ge 0 (AL b af a.tmps.toList)with h|h
      · rcases hs.box_ok p hp with⟨b',arr,e,hk⟩|⟨v,hv⟩
        rotate_left
        · have:=hv.bx;rw[hb]at this;cases this
        have:=hk.bx;rw[hb]at this;cases this
        rcases (BN _ _ hs.own h).2 with⟨c,hc⟩|⟨s0,p0,hc⟩|⟨s0,p0,hc⟩
        · rw[hk.com]at hc;cases hc
        · obtain⟨lo,hi,hh,_⟩:=hk.heap;rw[hh]at hc;cases hc
        · obtain⟨lo,hi,hh,_⟩:=hk.heap;rw[hh]at hc;cases hc
      · omega
    show F b+AL b af a.tmps.toList=0
    omega
  · intro b hb
    have h1:=hs.F_lt b hb
    have h2:AL b af a.tmps.toList=0:=by
      rcases Nat.lt_or_ge 0 (AL b af a.tmps.toList)with h|h
      · have:=(BN _ _ hs.own h).1;omega
      · omega
    show F b+AL b af a.tmps.toList=0
    omega
  · intro b
    have:=hs.tok b
    rw[Gc]
    omega
theorem Sim.back (hs:Sim E F Γ st w af a.tmps.toList){Γ':Ghost}{st':St}{w':World}{r:AVal}{v:Value} (hx:Ext (fun b=>F b+AL b af a.tmps.toList) Γ w Γ' w') (h:Sim E (fun b=>F b+AL b af a.tmps.toList) Γ' st' w' [r] [v]) (dst:Option Tmp):
    Sim E F Γ' st' w' (Av af dst r) (a.put dst v).tmps.toList:=by
  have hown:ownL Γ' w' af a.tmps.toList:=BK hx.le _ _ hs.own fun b hb=>hx.keep b (by show 1≤F b+AL b af a.tmps.toList;omega)
  have hmid:Sim E F Γ' st' w' af a.tmps.toList:=by
    refine {h with bx_F:=?_,F_lt:=?_,rep:=hs.rep.mono hx.le,own:=hown,tok:=?_}
    · intro p b hp hb;have:=h.bx_F p b hp hb;omega
    · intro b hb;have:=h.F_lt b hb;omega
    · intro b;have:=h.tok b;omega
  have hr:Rep Γ' r v:=by have:=h.rep;cases this;assumption
  have ho:VM.own Γ' w' r v:=by have:=h.own;rw[ownL]at this;exact this.1
  refine hmid.put dst hr ho fun b=>?_
  have:=h.tok b
  have e:AL b [r] [v]=cnt b r v:=by simp[AL]
  rw[e]at this
  omega
theorem PZ {mv:List Tmp}{o:Oper}{K:List AVal→St→Prop} (h:Cq E mv o af st K):AbQ E o af st K:=by
  intro F Γ w a hd hs K' Qx hK
  unfold Cq at h
  split at h
  · rename_i f args ts hop
    have hf:=hs.rd 0 f
    split at h
    · rename_i g p q e
      rw[e]at hf
      generalize hfv:a.eval f=fv at hf
      cases hf with
      | fn hp hq=>
        rename_i vp vq
        have hargs:=AAx hs args.toList ts.toList
        have hall:=hp.append (hargs.append hq)
        rw[←List.append_assoc]at hall
        unfold CallX at h
        split at h
        rotate_left
        · rcases h with h|h
          · obtain⟨fn,e2,r,h1,h2,h3,h4,h5,h6,h7⟩:=h
            obtain⟨v,hv,hr⟩:=h6 Γ (vp.toList++args.toList.map a.eval++vq.toList) w (by
              have:=hall.strip
              simpa using this)
            have harr:(vp.toList++args.toList.map a.eval++vq.toList).toArray=vp++args.map a.eval++vq:=by
              apply Array.ext';simp
            rw[harr]at hv
            have hrun:(execOp a.eval o).run E.P w=.ok (.value v) w:=by
              have hcf:=run_callFunc_extern (P:=E.P) h1 h2 h3 h4 h5 (vp++args.map a.eval++vq) w
              rw[hv]at hcf
              simp only[execOp,hop,resolve,hfv,Deferred.ofValue,Sem.run_bind,Sem.run_pure,Result.andThen_ok,invoke]
              rw[hcf];rfl
            unfold Oper.wp
            rw[hrun]
            exact hK Γ _ st (a.put o.dst v) w (Ext.refl _ _ _) (Nat.le_refl _) (by rw[put_defers];exact hd) (hs.putStrip o.dst hr) h7
          · obtain⟨fn,ps,t,el,n,h1,h2,h3,h4,h5,h6,h7,h8,h9,h10⟩:=h
            have hst:=hall.strip
            have harr:(vp.toList++args.toList.map a.eval++vq.toList).toArray=vp++args.map a.eval++vq:=by
              apply Array.ext';simp
            obtain⟨v0,hv0,hrv⟩: ∃v0,vp.toList++args.toList.map a.eval++vq.toList=[v0]∧Rep Γ (.int .i64 n) v0:=by
              have hst':RepL Γ [.int .i64 n] (vp.toList++args.toList.map a.eval++vq.toList):=by rw[←h9];simpa using hst
              generalize vp.toList++args.toList.map a.eval++vq.toList=vs at hst'
              cases hst' with
              |cons q t=>cases t;exact⟨_,rfl,q⟩
            cases hrv
            rw[hv0]at harr
            obtain⟨cs,r1,r2,r3⟩:=AWB (P:=E.P) w ps t el h6 n (by omega)
            have hrun:(execOp a.eval o).run E.P w=.ok (.value (.slice (some ⟨w.drew.drew.heap.size,0,none⟩) n cs.size)) (w.drew.drew.alloc (.cells cs el (0,0))):=by
              have hcf:=run_callFunc_extern (P:=E.P) h1 h2 h3 h4 h5 (vp++args.map a.eval++vq) w
              rw[←harr]at hcf
              rw[r1]at hcf
              simp only[execOp,hop,resolve,hfv,Deferred.ofValue,Sem.run_bind,Sem.run_pure,Result.andThen_ok,invoke]
              rw[←harr,hcf];rfl
            have hx:Ext F Γ w Γ w.drew.drew:=⟨Γ.le_refl,fun _ _=>⟨rfl,rfl⟩,Nat.le_refl _,rfl,rfl,rfl⟩
            obtain⟨nx,w',a',Γ',hp⟩:=SE (o:=o) (r:=.trow el st.next n) (w1:=w.drew.drew) (cells:=cs) (e:=el) (cs:=[.any]) (fz:=(0,0)) (cap:=cs.size) (len:=n) hs hs.drew.drew hx (by simp)
              (by
                have hl:1≤cs.toList.length:=by rw[Array.length_toList];omega
                match hc:cs.toList,hl with
                |v::vs,_=>exact .cons (.any v) .nil)
              (fun v hv=>r3 v (List.mem_of_mem_take hv)) (fun x hx=>by simp only[List.mem_singleton]at hx;subst hx;exact⟨fun v=>by simp[VM.own],fun b v=>by simp[cnt]⟩) (fun Γ' q1 q2=>.trow q1 q2 ⟨r2,by unfold Dk;omega⟩ rfl) (fun _ _ _=>by simp[VM.own]) (fun _ _=>by simp[cnt]) hrun
            unfold Oper.wp
            rw[hp.run]
            exact hp.upon _ _ (hK Γ' _ _ a' w' hp.ext hp.next (by rw[hp.defers];exact hd) hp.sim h10)
        rename_i hcall
        have hac:=h
        have hrun:(execOp a.eval o).run E.P w=.ok (.enter g (vp++args.map a.eval++vq)) w:=by
          unfold callable at hcall
          split at hcall
          · rename_i fn hfn
            simp only[Bool.and_eq_true,bne_iff_ne,ne_eq]at hcall
            have hb:fn.body.isNone=false:=by have:=hcall.2;cases hfb:fn.body<;>simp_all
            simp only[execOp,hop,resolve,hfv,Deferred.ofValue,Sem.run_bind,Sem.run_pure,Result.andThen_ok,invoke,callFunc,run_program,hfn]
            have hname : (fn.name == "runtime.NumGoroutine") = false := by simpa using hcall.1
            simp only[hname,hb,Bool.false_eq_true,if_false]
            rfl
          · cases hcall
        have key:=hac.go (fun b=>F b+AL b af a.tmps.toList) Γ w (vp++args.map a.eval++vq) (by
          have e2:(vp++args.map a.eval++vq).toList=vp.toList++(args.toList.map a.eval++vq.toList):=by simp
          rw[e2,←List.append_assoc]
          refine hs.aside ?_
          rw[←List.append_assoc]at hall
          exact hall)
        unfold Oper.wp
        rw[hrun,Oper.upon_enter]
        refine key.mono ?_
        rintro e' w' ⟨v,rfl,Γ',r,st',x1,n1,s1,q1⟩
        exact hK Γ' _ st' (a.put o.dst v) w' (x1.less fun b=>by omega) n1 (by rw[put_defers];exact hd) (hs.back x1 s1 o.dst) q1
    · cases h
  · rename_i x y t0 t1 ts hop
    split at h
    · split at h
      · rename_i wd l cs rest jo hab
        obtain⟨i,hi,nx,w',a',Γ',hp⟩:=AN3 hs hop hab
        unfold Oper.wp
        rw[hp.run]
        exact hp.upon _ _ (hK Γ' _ _ a' w' hp.ext hp.next (by rw[hp.defers];exact hd) hp.sim (h i hi))
      · cases h
    · split at h
      · rename_i af' st' hst
        obtain⟨nx,w',a',Γ',hp⟩:=Q6 hs hst
        unfold Oper.wp
        rw[hp.run]
        exact hp.upon _ _ (hK Γ' af' st' a' w' hp.ext hp.next (by rw[hp.defers];exact hd) hp.sim h)
      · cases h
  · split at h
    · rename_i af' st' hst
      obtain⟨nx,w',a',Γ',hp⟩:=Q6 hs hst
      unfold Oper.wp
      rw[hp.run]
      exact hp.upon _ _ (hK Γ' af' st' a' w' hp.ext hp.next (by rw[hp.defers];exact hd) hp.sim h)
    · cases h
def gd (x:AVal) (want:Bool):Option Bool:=
  match x with
  |.bool b=>some (b==want)
  |.tuple []=>some false
  |_=>none
def gdA (ops:Array Oper) (af:List AVal) (j:Nat) (want:Bool):Option Bool:=
  match(ops[j]?).bind (·.dst)with
  |some d=>gd (af.getD d .any) want
  |none=>none
def IP (E:Env) (mv:List Tmp) (ops:Array Oper):List Oper→(List AVal→St→Prop)→List AVal→St→Prop
  |[],K,af,st=>K af st
  | o::rest,K,af,st=>
    match o.guard with
    |none=>Cq E mv o af st (IP E mv ops rest K)
    | some (j,want)=>
      match gdA ops af j want with
      |some true=>Cq E mv o af st (IP E mv ops rest K)
      |some false=>IP E mv ops rest K (Av af o.dst (.tuple [])) st
      |none=>False
theorem Oc (hs:Sim E F Γ st w af a.tmps.toList){ops:Array Oper}{j:Nat}{want t:Bool} (h:gdA ops af j want=some t):(yielded ops a.tmps j==some want)=t:=by
  unfold gdA at h
  split at h
  · rename_i d hd
    have hr:=hs.rep.get d undef
    unfold yielded
    rw[hd]
    simp only[Option.bind_some]
    unfold gd at h
    have hlt:d<a.tmps.size:=by
      rcases Nat.lt_or_ge d a.tmps.size with h'|h'
      · exact h'
      · have:af.length=a.tmps.size:=by rw[hs.rep.length,Array.length_toList]
        rw[List.getD,List.getElem?_eq_none (by omega)]at h
        simp at h
    have e:a.tmps.toList.getD d undef=a.tmps[d]:=by simp[List.getD,hlt]
    rw[e]at hr
    rw[Array.getElem?_eq_getElem hlt]
    generalize a.tmps[d]=v at hr
    split at h
    · rename_i b hb
      rw[hb]at hr
      cases hr
      simp only[Option.some.injEq]at h
      simpa using h
    · rename_i hb
      rw[hb]at hr
      cases hr
      simp only[Option.some.injEq]at h
      subst h
      rfl
    · cases h
  · cases h
theorem Kv{ops:Array Oper}{o:Oper}{tmps:Array Value}{j:Nat}{want:Bool} (hg:o.guard=some (j,want)):Region.wanted o (yielded ops tmps)=(yielded ops tmps j==some want):=by
  simp[Region.wanted,hg]
theorem Sim.skipped (hs:Sim E F Γ st w af a.tmps.toList) (d:Option Tmp):Sim E F Γ st w (Av af d (.tuple [])) (a.put d undef).tmps.toList:=
  hs.put d (r:=.tuple []) (v:=undef) (.tuple .nil) (by simp[VM.own,undef,ownL]) fun n=>by
    have:=hs.tok n
    simp only[cnt,undef,AL];omega
theorem AFp{mv:List Tmp}{ops:Array Oper}{Qc:Exit→Act→World→Prop}: ∀(rest:List Oper) (i:Nat),ops.toList.drop i=rest→ ∀ {K:List AVal→St→Prop}{F:Nat→Nat}{Γ:Ghost}{st:St}{w:World}{af:List AVal}{a:Act},
    a.defers=[]→Sim E F Γ st w af a.tmps.toList→IP E mv ops rest K af st→
    (∀Γ' af' st' a' w',Ext F Γ w Γ' w'→st.next≤st'.next→a'.defers=[]→Sim E F Γ' st' w' af' a'.tmps.toList→K af' st'→Qc .normal a' w')→
    wpOps E.P ops Qc (List.range' i rest.length) a w:=by
  intro rest
  induction rest with
  |nil=>intro i hi K F Γ st w af a hd hs h hK;exact hK Γ af st a w (Ext.refl _ _ _) (Nat.le_refl _) hd hs h
  | cons o rest ih=>
    intro i hi K F Γ st w af a hd hs h hK
    have hoi:ops[i]?=some o:=by
      have:ops.toList[i]?=some o:=by
        have:=congrArg (·[0]?) hi
        simpa using this
      simpa using this
    have hi':ops.toList.drop (i+1)=rest:=by
      rw[←List.tail_drop,hi];rfl
    rw[List.length_cons,List.range'_succ]
    simp only[wpOps,hoi]
    have go:Cq E mv o af st (IP E mv ops rest K)→o.wp E.P a w (wpOps E.P ops Qc (List.range' (i+1) rest.length)) Qc:=fun h=>
      PZ h F Γ w a hd hs _ _ fun Γ' af' st' a' w' x1 n1 d1 s1 k1=>
        ih (i+1) hi' d1 s1 k1 fun Γ2 af2 st2 a2 w2 x2 n2 d2 s2 k2=>hK Γ2 af2 st2 a2 w2 (x1.trans x2) (Nat.le_trans n1 n2) d2 s2 k2
    simp only[IP]at h
    split at h
    · rename_i hg
      rw[if_pos (by simp[Region.wanted,hg])]
      exact .inl (go h)
    · rename_i j want hg
      split at h
      · rename_i hgd
        rw[if_pos (by rw[Kv hg,Oc hs hgd])]
        exact .inl (go h)
      · rename_i hgd
        rw[if_neg (by rw[Kv hg,Oc hs hgd];simp)]
        exact ih (i+1) hi' (by rw[put_defers];exact hd) (hs.skipped o.dst) h fun Γ2 af2 st2 a2 w2 x2 n2 d2 s2 k2=>hK Γ2 af2 st2 a2 w2 x2 n2 d2 s2 k2
      · cases h
theorem PY{Q:APost}{id:Nat}{ops:Array Oper} (mv:List Tmp) (h:IP E mv ops ops.toList (fun af st=>Q .normal af st) af st):AWp E (.region id ops false) Q af st:=by
  constructor
  intro F Γ w a hd hs
  refine wp_region ?_
  have key:=AFp (Qc:=lift E F Γ w st.next Q) ops.toList 0 rfl hd hs h fun Γ' af' st' a' w' x1 n1 d1 s1 k1=>⟨trivial,d1,Γ',af',st',x1,n1,s1,k1⟩
  rw[Array.length_toList,←List.range_eq_range']at key
  exact key
theorem AEK{Q:APost}{c:Operand}{x y:Code} (b:Bool) (hb:rd E af 0 c=.bool b) (h:if b=true then AWp E x Q af st else AWp E y Q af st):AWp E (.cond c x y) Q af st:=by
  constructor
  intro F Γ w a hd hs
  have hr:=hs.rd 0 c
  rw[hb]at hr
  generalize hv:a.eval c=v at hr
  cases hr
  refine wp_cond hv ?_
  cases b
  · exact h.go F Γ w a hd hs
  · exact h.go F Γ w a hd hs
theorem Vx{Q:APost}{c:Code}{m:List (Nat×List AVal)} (hm:m.Sublist st.m) (h:AWp E c Q af {st with m:=m}):AWp E c Q af st:=
  ⟨fun F Γ w a hd hs=>h.go F Γ w a hd (hs.fewer hm)⟩
def QZ (E:Env) (t:TypeId) (addr:AVal) (st:St):Option (AVal×St):=
  match addr with
  | .ptr i 0=>
    match Bd st.m i with
    | some cs=>
      if A7 E.P t=true then
        if Bu E.P t=true then(if Cc E.P t=some cs.length then some (.agg cs,{st with m:=Bl st.m i (stripL cs)})else none)
        else match cs with
          |[c]=>some (c,{st with m:=Bl st.m i (stripL cs)})
          |_=>none
      else none
    |none=>none
  |_=>none
def Ma (E:Env):List ResultVar→List AVal→St→Option (List AVal×St)
  |[],af,st=>some ([],st)
  |.tmp t::rs,af,st=>(Ma E rs (stripAt af (.tmp t)) st).map fun p=>(af.getD t .any::p.1,p.2)
  | .cell i t::rs,af,st=>
    match QZ E t (af.getD i .any) st with
    |some (r,st')=>(Ma E rs af st').map fun p=>(r::p.1,p.2)
    |none=>none
def Iu (E:Env) (fn:Func) (Q:AVal→St→Prop):APost:=fun e af st=>
  match e with
  | .normal|.ret=>
    match Ma E fn.results.toList af st with
    |some (rs,st')=> ∃m,m.Sublist st'.m∧Q (match rs with|[r]=>r|rs=>.tuple rs) {st' with m:=m}
    |none=>False
  |_=>False
end
end Go.VM
set_option linter.unusedVariables false
namespace Go.VM
section
variable{E:Env}{F:Nat→Nat}{Γ:Ghost}{st:St}{w:World}{af:List AVal}{a:Act}
theorem VB (hs:Sim E F Γ st w af a.tmps.toList){t:TypeId}{x:AVal}{v:Value}{r:AVal}{st':St} (hx:Rep Γ x v) (h:QZ E t x st=some (r,st')):
    ∃u,(do loadVar t (←asAddr v):Sem Value).run E.P w=.ok u w∧Rep Γ r u∧VM.own Γ w r u∧Sim E F Γ st' w af a.tmps.toList∧st'.next=st.next∧ ∀b,cnt b r u+Ac Γ w b st'.m=Ac Γ w b st.m:=by
  unfold QZ at h
  split at h
  · rename_i i
    cases hx with
    |ptr hbx=>
    rename_i b
    split at h
    · rename_i cs hg
      split at h
      · rename_i hk
        obtain⟨b',arr,e,hb⟩:=hs.box hg hbx
        have:b'=b:=by have:=hb.bx;rw[hbx]at this;exact(Option.some.inj this).symm
        subst this
        obtain⟨lo,hi,hh,hf⟩:=hb.heap
        obtain⟨L,hL⟩: ∃L,L=arr.toList.take cs.length:=⟨_,rfl⟩
        have hrepL:RepL Γ cs L:=by rw[hL];exact hb.rep
        have hone: ∀v,v∈L→v.oneCell'=true:=by rw[hL];exact hb.one
        have hownL:VM.ownL Γ w cs L:=by rw[hL];exact(KE Γ w cs arr.toList).2 hb.own
        have hcntL: ∀n,AL n cs L=AL n cs arr.toList:=fun n=>by rw[hL];exact KJ n cs arr.toList
        obtain⟨s1,x1⟩:=hs.setBox (w':=w) (cs':=stripL cs) (arr':=arr) (lo:=lo) (hi:=hi) hg hb hh hf (fun _ _=>rfl) rfl rfl rfl rfl (by rw[MK];exact hb.rep.strip) (Hl _ _ _ _) (by rw[MK];exact hb.one)
          (fun n=>by rw[Gc];have:=hs.tok n;omega)
        have hcnt: ∀n,AL n cs arr.toList+Ac Γ w n (Bl st.m i (stripL cs))=Ac Γ w n st.m:=by
          intro n
          have e1:=JM (Γ:=Γ) (Γ':=Γ) (w:=w) (w':=w) (b:=n) (x:=stripL cs) hs.keys hg (fun p hp hne=>rfl)
          have e2:DN Γ w n (i,cs)=AL n cs arr.toList:=by simp only[DN,hb.bx,hcells,hh]
          have e3:DN Γ w n (i,stripL cs)=0:=by simp only[DN,hb.bx,hcells,hh,Gc]
          omega
        have hcell: ∀j u,L[j]?=some u→w.cell? ⟨b',0+j,none⟩=some u:=by
          intro j u hj
          rw[hL]at hj
          have hj:=List.getElem?_take_some hj
          simp only[World.cell?,hh,Nat.zero_add];simpa using hj
        have ha:=M6 (w:=w) hk
        split at h
        · rename_i hag
          rw[hag]at ha
          split at h
          · rename_i hz
            simp only[Option.some.injEq,Prod.mk.injEq]at h;obtain⟨rfl,rfl⟩:=h
            have key:=run_loadCells_list (P:=E.P) w ⟨b',0,none⟩ L (fun j v hj=>by rw[addr_add];exact hcell j v hj)
            rw[←hrepL.length]at key
            refine⟨.agg L.toArray,?_,.agg (by simpa using hrepL) (by simpa using hone),by simpa[VM.own]using hownL,s1,rfl,fun n=>by have:=hcnt n;rw[←hcntL]at this;simpa[cnt]using this⟩
            simp[asAddr,loadVar,ha,EG hz,key]
          · cases h
        · rename_i hag
          rw[Bool.not_eq_true]at hag
          rw[hag]at ha
          split at h
          · rename_i c
            simp only[Option.some.injEq,Prod.mk.injEq]at h;obtain⟨rfl,rfl⟩:=h
            obtain⟨u,hu,hrep⟩:=hrepL.get? (i:=0) (x:=c) rfl
            have h1:L=[u]:=by
              have:L.length=1:=by rw[←hrepL.length];rfl
              clear hL hcell
              match L,this,hu with
              |[x],_,hu=>simpa using hu
            refine⟨u,?_,hrep,?_,s1,rfl,fun n=>?_⟩
            · have:=hcell 0 u hu
              simp only[Nat.add_zero]at this
              simp[asAddr,loadVar,ha,run_load,this]
            · have:=hownL;rw[h1,VM.ownL]at this;exact this.1
            · have:=hcnt n
              rw[←hcntL,h1]at this
              simpa[AL]using this
          · cases h
      · cases h
    · cases h
  · cases h
theorem AFD{m m':List (Nat×List AVal)} (h:m.Sublist m') (n:Nat):Ac Γ w n m≤Ac Γ w n m':=by
  induction h with
  |slnil=>exact Nat.le_refl _
  |cons p _ ih=>rw[Ac];omega
  |cons_cons p _ ih=>rw[Ac,Ac];omega
def ABc (tmps:Array Value) (r:ResultVar):Sem Value:=
  match r with
  |.tmp t=>pure (tmps.getD t undef)
  |.cell i t=>do loadVar t (←asAddr (tmps.getD i undef))
theorem AIp (rs:List ResultVar): ∀ {af:List AVal}{st:St}{xs:List AVal}{st':St},Sim E F Γ st w af a.tmps.toList→Ma E rs af st=some (xs,st')→
    ∃vs,(rs.mapM (ABc a.tmps)).run E.P w=.ok vs w∧RepL Γ xs vs∧ownL Γ w xs vs∧st'.next=st.next∧
      ∃af',Sim E F Γ st' w af' a.tmps.toList∧ ∀b,AL b af' a.tmps.toList+AL b xs vs+Ac Γ w b st'.m=AL b af a.tmps.toList+Ac Γ w b st.m:=by
  induction rs with
  | nil=>
    intro af st xs st' hs h
    simp only[Ma,Option.some.injEq,Prod.mk.injEq]at h;obtain⟨rfl,rfl⟩:=h
    exact⟨[],by simp,.nil,by simp[ownL],rfl,af,hs,fun b=>by simp[AL]⟩
  | cons x rs ih=>
    intro af st xs st' hs h
    cases x with
    | tmp t=>
      simp only[Ma]at h
      cases hr:Ma E rs (stripAt af (.tmp t)) st with
      |none=>simp[hr]at h
      | some p=>
        simp only[hr,Option.map_some,Option.some.injEq,Prod.mk.injEq]at h;obtain⟨rfl,rfl⟩:=h
        obtain⟨vs,r1,r2,r3,r4,af',r5,r6⟩:=ih (hs.stripAt (.tmp t)) hr
        refine⟨a.tmps.getD t undef::vs,?_,.cons (hs.rd 0 (.tmp t)) r2,?_,r4,af',r5,fun b=>?_⟩
        · rw[List.mapM_cons,Sem.run_bind];simp only[ABc,Sem.run_pure,Result.andThen_ok];rw[Sem.run_bind,r1];rfl
        · rw[ownL];exact⟨hs.rd_own 0 (.tmp t),r3⟩
        · have:=r6 b
          have:=hs.rd_cnt 0 (.tmp t) b
          simp only[rd,Act.eval]at this
          rw[AL]
          omega
    | cell i t=>
      simp only[Ma]at h
      split at h
      · rename_i r st1 hc
        cases hr:Ma E rs af st1 with
        |none=>simp[hr]at h
        | some p=>
          simp only[hr,Option.map_some,Option.some.injEq,Prod.mk.injEq]at h;obtain⟨rfl,rfl⟩:=h
          obtain⟨u,c1,c2,c3,c4,c5,c6⟩:=VB hs (hs.rd 0 (.tmp i)) hc
          obtain⟨vs,r1,r2,r3,r4,af',r5,r6⟩:=ih c4 hr
          refine⟨u::vs,?_,.cons c2 r2,by rw[ownL];exact⟨c3,r3⟩,by omega,af',r5,fun b=>?_⟩
          · rw[List.mapM_cons,Sem.run_bind]
            simp only[Act.eval]at c1
            simp only[ABc]
            rw[c1];simp only[Result.andThen_ok];rw[Sem.run_bind,r1];rfl
          · have:=r6 b
            have:=c6 b
            rw[AL]
            omega
      · cases h
theorem Lg {f:FuncId}{fn:Func}{c:Code}{args:List AVal}{Q:AVal→St→Prop} (hf:E.P.funcs[f]?=some fn) (hb:fn.body=some c)
    (h:AWp E c (Iu E fn Q) (args++List.replicate (fn.ntmps-args.length) .any) st):ACall E f args st Q:=by
  constructor
  intro F Γ w cargs hs
  have hlen:args.length=cargs.size:=by rw[hs.rep.length,Array.length_toList]
  have hrepl: ∀n,RepL Γ (List.replicate n .any) (List.replicate n undef)∧ownL Γ w (List.replicate n .any) (List.replicate n undef)∧ ∀b,AL b (List.replicate n .any) (List.replicate n undef)=0:=by
    intro n
    induction n with
    |zero=>exact⟨.nil,by simp[ownL],fun b=>by simp[AL]⟩
    |succ n ih=>exact⟨.cons (.any _) ih.1,by rw[List.replicate_succ,List.replicate_succ,ownL];exact⟨by simp[VM.own],ih.2.1⟩,fun b=>by rw[List.replicate_succ,List.replicate_succ,AL,ih.2.2 b];simp[cnt]⟩
  have happ: ∀(xs:List AVal) (vs:List Value),xs.length=vs.length→ownL Γ w xs vs→ ∀n,ownL Γ w (xs++List.replicate n .any) (vs++List.replicate n undef)∧ ∀b,AL b (xs++List.replicate n .any) (vs++List.replicate n undef)=AL b xs vs:=by
    intro xs
    induction xs with
    | nil=>intro vs hl _ n;cases vs with
      |nil=>exact⟨(hrepl n).2.1,fun b=>by rw[List.nil_append,List.nil_append,(hrepl n).2.2 b];simp[AL]⟩
      |cons _ _=>simp at hl
    | cons x xs ih=>intro vs hl ho n;cases vs with
      |nil=>simp at hl
      | cons v vs=>
        rw[ownL]at ho
        obtain⟨i1,i2⟩:=ih vs (by simpa using hl) ho.2 n
        exact⟨by rw[List.cons_append,List.cons_append,ownL];exact⟨ho.1,i1⟩,fun b=>by rw[List.cons_append,List.cons_append,AL,AL,i2 b]⟩
  have htm:(cargs++Array.replicate (fn.ntmps-cargs.size) undef).toList=cargs.toList++List.replicate (fn.ntmps-args.length) undef:=by
    rw[Array.toList_append,Array.toList_replicate,hlen]
  refine calls_of_wp hf hb (wp_mono (h.go F Γ w {tmps:=cargs++Array.replicate (fn.ntmps-cargs.size) undef,defers:=[]} rfl ?_) ?_)
  · simp only
    rw[htm]
    obtain⟨o1,o2⟩:=happ args cargs.toList hs.rep.length hs.own (fn.ntmps-args.length)
    exact {hs with rep:=hs.rep.append (hrepl _).1,own:=o1,tok:=fun b=>by rw[o2 b];exact hs.tok b}
  · intro e a' w' hq
    obtain⟨h0,hd,Γ',af',st',x1,n1,s1,q1⟩:=hq
    have fin:(match Ma E fn.results.toList af' st' with
        |some (rs,st')=> ∃m,m.Sublist st'.m∧Q (match rs with|[r]=>r|rs=>.tuple rs) {st' with m:=m}
        |none=>False)→ ∃v,(results fn a'.tmps).run E.P w'=.ok v w'∧ ∃v1,Ending.returned v=.returned v1∧ ∃Γ' r st',Ext F Γ w Γ' w'∧st.next≤st'.next∧Sim E F Γ' st' w' [r] [v1]∧Q r st':=by
      intro q
      split at q
      · rename_i rs st2 hres
        obtain⟨m,hm,hQ⟩:=q
        obtain⟨vs,r1,r2,r3,r4,af2,r5,r6⟩:=AIp fn.results.toList s1 hres
        have hrun:(results fn a'.tmps).run E.P w'=.ok (if h:vs.toArray.size=1 then vs.toArray[0]else .tuple vs.toArray) w':=by
          have e:results fn a'.tmps=(do
            let vs←fn.results.mapM (ABc a'.tmps)
            pure (if h:vs.size=1 then vs[0]else .tuple vs)):=rfl
          rw[e,Array.mapM_eq_mapM_toList,Sem.run_bind,Sem.run_map,r1]
          rfl
        refine⟨_,hrun,_,rfl,Γ',_,{st2 with m:=m},x1,by show st.next≤st2.next;omega,?_,hQ⟩
        have s2:=r5.fewer hm
        have hcm: ∀n,Ac Γ' w' n m≤Ac Γ' w' n st2.m:=fun n=>AFD hm n
        have htok: ∀b,F b+AL b rs vs+Ac Γ' w' b m≤1:=by
          intro b
          have:=r6 b
          have:=s1.tok b
          have:=hcm b
          omega
        cases r2 with
        | nil=>
          simp only[List.size_toArray,List.length_nil]
          exact {s2 with rep:=.cons (.tuple .nil) .nil,own:=by simp[ownL,VM.own],tok:=fun b=>by have:=htok b;simpa[AL,cnt]using this}
        | cons hr t=>
          cases t with
          | nil=>
            simp only[List.size_toArray,List.length_cons,List.length_nil,Nat.zero_add,dite_true]
            exact {s2 with rep:=.cons hr .nil,own:=r3,tok:=htok}
          | cons hy t=>
            rename_i x v y u xs us
            have hne: ¬((v::u::us:List Value).toArray.size=1):=by simp
            rw[dif_neg hne]
            have hrp:RepL Γ' (x::y::xs) (v::u::us):=.cons hr (.cons hy t)
            exact {s2 with rep:=.cons (.tuple (by simpa using hrp)) .nil,own:=by rw[ownL];exact⟨by simpa[VM.own]using r3,by simp[ownL]⟩,tok:=fun b=>by have:=htok b;simpa[AL,cnt]using this}
      · cases q
    cases e with
    |normal=>obtain⟨v,hr,hR⟩:=fin q1;exact⟨hd,v,hr,hR⟩
    |ret=>obtain⟨v,hr,hR⟩:=fin q1;exact⟨hd,v,hr,hR⟩
    |exit id=>exact q1.elim
    |goto l=>exact h0.elim
    |panic c=>exact h0.elim
    |outgrown=>exact h0.elim
end
end Go.VM
set_option linter.unusedVariables false
namespace Go.VM
section
variable{E:Env}{st:St}{af:List AVal}{Q:APost}
inductive kPost (K:List AVal→St→Prop) (Q:APost):APost
  |nrm{af:List AVal}{st:St} (h:K af st):kPost K Q .normal af st
  |oth{e:Exit}{af:List AVal}{st:St} (hne:e≠ .normal) (h:Q e af st):kPost K Q e af st
theorem kPost.get{K:List AVal→St→Prop} (h:kPost K Q .normal af st):K af st:=by
  cases h with
  |nrm h=>exact h
  |oth hne h=>exact absurd rfl hne
theorem kPost.out{K:List AVal→St→Prop}{e:Exit} (h:kPost K Q e af st) (hne:e≠ .normal):Q e af st:=by
  cases h with
  |nrm h=>exact absurd rfl hne
  |oth hne h=>exact h
theorem NA{K:List AVal→St→Prop} (h:K af st):kPost K Q .normal af st:=.nrm h
end
end Go.VM
set_option linter.unusedVariables false
namespace Go.VM
def slots (o:Oper):List Tmp:=o.op.operands.toList.filterMap fun|.tmp t=>some t|_=>none
theorem Ls{o:Oper}{d:Tmp} (h:d∉slots o){x:Operand} (hx:x∈o.op.operands):x≠ .tmp d:=by
  intro e;subst e
  exact h (List.mem_filterMap.2 ⟨.tmp d,by simpa using hx,rfl⟩)
section
variable{E:Env}{af:List AVal}{st:St}{d:Tmp}{v:AVal}
theorem A8{t:TypeId}{x:Operand} (h:x≠ .tmp d):rd E (af.set d v) t x=rd E af t x:=by
  cases x with
  | tmp i=>
    have:d≠i:=fun e=>h (by rw[e])
    simp[rd,List.getD,List.getElem?_set_ne this]
  |_=>rfl
theorem GX{x:Operand} (h:x≠ .tmp d):stripAt (af.set d v) x=(stripAt af x).set d v:=by
  cases x with
  | tmp i=>
    have:d≠i:=fun e=>h (by rw[e])
    simp only[stripAt]
    rw[List.set_comm _ _ this]
    congr 2
    simp[List.getD,List.getElem?_set_ne this]
  |_=>rfl
theorem Bg{dst:Option Tmp} (h:dst≠some d) (r:AVal):Av (af.set d v) dst r=(Av af dst r).set d v:=by
  cases dst with
  |none=>rfl
  | some e=>
    have:d≠e:=fun he=>h (by rw[he])
    simp only[Av]
    exact List.set_comm _ _ this
theorem OV{x:Option Operand} (h: ∀y,x=some y→y≠ .tmp d):rdo E (af.set d v) x=rdo E af x:=by
  cases x with
  |none=>rfl
  |some y=>simp only[rdo,A8 (h y rfl)]
theorem AAW: ∀(xs:List Operand) (ts:List TypeId),(∀x,x∈xs→x≠ .tmp d)→rdL E (af.set d v) xs ts=rdL E af xs ts
  |[],_,_=>rfl
  |x::xs,[],h=>by simp only[rdL,A8 (h x (by simp)),AAW xs [] (fun y hy=>h y (List.mem_cons_of_mem _ hy))]
  |x::xs,t::ts,h=>by simp only[rdL,A8 (h x (by simp)),AAW xs ts (fun y hy=>h y (List.mem_cons_of_mem _ hy))]
theorem L9{ty:Nat→TypeId}: ∀(ps:List (Nat×Operand)){af:List AVal},(∀p,p∈ps→p.2≠ .tmp d)→(BD E ty (af.set d v) ps).1=(BD E ty af ps).1.set d v∧(BD E ty (af.set d v) ps).2=(BD E ty af ps).2
  |[],_,_=>⟨rfl,rfl⟩
  | (i,x)::ps,af,h=>by
    have hx:=h (i,x) (by simp)
    obtain⟨h1,h2⟩:=L9 ps (af:=stripAt af x) (fun p hp=>h p (List.mem_cons_of_mem _ hp))
    simp only[BD,GX hx,A8 hx]
    exact⟨h1,by rw[h2]⟩
theorem Lr{o:Oper} (h:d∉slots o):Bi E o (af.set d v)=Bi E o af:=by
  have hx:=fun x=>Ls h (x:=x)
  unfold Bi
  split
  · rename_i c x y hop
    simp only[hop,Op.operands]at hx
    rw[A8 (hx c (by simp)),A8 (hx x (by simp)),A8 (hx y (by simp))]
  · rename_i x hop
    simp only[hop,Op.operands]at hx
    rw[A8 (hx x (by simp))]
  · rename_i op t x y u hop
    simp only[hop,Op.operands]at hx
    rw[A8 (hx x (by simp)),A8 (hx y (by simp))]
  · rename_i op t x hop
    simp only[hop,Op.operands]at hx
    rw[A8 (hx x (by simp))]
  · rename_i s e x hop
    simp only[hop,Op.operands]at hx
    rw[A8 (hx x (by simp))]
  · rename_i f p q hop
    simp only[hop,Op.operands]at hx
    have e1:p.toList.map (rd E (af.set d v) 0)=p.toList.map (rd E af 0):=List.map_congr_left fun y hy=>A8 (hx y (by simp;exact .inl (by simpa using hy)))
    have e2:q.toList.map (rd E (af.set d v) 0)=q.toList.map (rd E af 0):=List.map_congr_left fun y hy=>A8 (hx y (by simp;exact .inr (by simpa using hy)))
    rw[e1,e2]
  · rename_i s x f hop
    simp only[hop,Op.operands]at hx
    rw[A8 (hx x (by simp))]
  · rename_i s x f hop
    simp only[hop,Op.operands]at hx
    rw[A8 (hx x (by simp))]
  · rename_i t x i hop
    simp only[hop,Op.operands]at hx
    rw[A8 (hx x (by simp)),A8 (hx i (by simp))]
  · rename_i t x i hop
    simp only[hop,Op.operands]at hx
    rw[A8 (hx x (by simp)),A8 (hx i (by simp))]
  · rename_i x t ts hop
    simp only[hop,Op.operands,Call.operands]at hx
    rw[A8 (hx x (by simp))]
  · rename_i x y ts hop
    simp only[hop,Op.operands,Call.operands]at hx
    rw[A8 (hx x (by simp)),A8 (hx y (by simp))]
  · rename_i x y ts hop
    simp only[hop,Op.operands,Call.operands]at hx
    rw[A8 (hx x (by simp)),A8 (hx y (by simp))]
  · rename_i x t ts hop
    simp only[hop,Op.operands,Call.operands]at hx
    rw[A8 (hx x (by simp))]
  · rename_i x y t s hop
    simp only[hop,Op.operands,Call.operands]at hx
    rw[A8 (hx x (by simp)),A8 (hx y (by simp))]
  · rfl
theorem UD{mv:List Tmp}{o:Oper} (h:d∉slots o) (hd:o.dst≠some d):EE E mv o (af.set d v) st=(EE E mv o af st).map fun p=>(p.1.set d v,p.2):=by
  have hx:=fun x=>Ls h (x:=x)
  unfold EE
  split
  · rename_i x hop
    simp only[hop,Op.operands]at hx
    split<;>simp[A8 (hx x (by simp)),GX (hx x (by simp)),Bg hd]
  · rename_i x hop
    simp only[hop,Op.operands]at hx
    simp[A8 (hx x (by simp)),GX (hx x (by simp)),Bg hd]
  · rename_i t hop
    split
    · cases Pj E.P t st.next<;>simp[Bg hd]
    · cases Dm E.P t st.next<;>simp[Bg hd]
  · rename_i t x hop
    simp only[hop,Op.operands]at hx
    rw[A8 (hx x (by simp)),GX (hx x (by simp))]
    split<;>simp[Bg hd]
  · rename_i t ps hop
    simp only[hop,Op.operands]at hx
    obtain⟨h1,h2⟩:=L9 (E:=E) (v:=v) (ty:=AY E.P t) ps (af:=af) (fun p hp=>hx p.2 (by simp;exact⟨p.1,hp⟩))
    rw[h1,h2]
    cases OD E t (BD E (AY E.P t) af ps).2<;>simp[Bg hd]
  · rename_i t len ps hop
    simp only[hop,Op.operands]at hx
    obtain⟨h1,h2⟩:=L9 (E:=E) (v:=v) (ty:=fun _=>AY E.P t 0) ps (af:=af) (fun p hp=>hx p.2 (by simp;exact⟨p.1,hp⟩))
    rw[h2,h1]
    split
    · cases HZ E t len (BD E (fun _=>AY E.P t 0) af ps).2<;>simp[Bg hd]
    · cases FW E t len (BD E (fun _=>AY E.P t 0) af ps).2<;>simp[Bg hd]
  · rename_i t x hop
    simp only[hop,Op.operands]at hx
    rw[A8 (hx x (by simp))]
    split
    · cases MR E t (rd E af 0 x) st<;>simp[Bg hd]
    · cases NW E t (rd E af 0 x) st<;>simp[Bg hd]
  · rename_i t x y hop
    simp only[hop,Op.operands]at hx
    rw[A8 (hx x (by simp)),A8 (hx y (by simp)),GX (hx y (by simp))]
    split
    · cases MP E t (rd E af 0 x) (rd E af t y) st<;>simp
    · simp
  · rename_i t n hop
    simp only[hop,Op.operands]at hx
    have ht:d≠t:=fun e=>hx (.tmp t) (by simp) (by rw[e])
    have hg:(af.set d v).getD t .any=af.getD t .any:=by simp[List.getD,List.getElem?_set_ne ht]
    rw[hg]
    split
    · rename_i vs hvs
      cases vs[n]? with
      |none=>simp
      |some r=>simp[List.set_comm _ _ ht,Bg hd]
    · simp
  · rename_i t x hop
    simp only[hop,Op.operands]at hx
    rw[A8 (hx x (by simp))]
    split
    · split<;>simp[Bg hd]
    · simp
  · rename_i t hop
    simp only[hop,Op.operands]at hx
    have ht:d≠t:=fun e=>hx (.tmp t) (by simp) (by rw[e])
    have hg:(af.set d v).getD t .any=af.getD t .any:=by simp[List.getD,List.getElem?_set_ne ht]
    rw[hg]
    split
    · unfold Vu
      split<;>simp[List.set_comm _ _ ht,Bg hd]
    · simp
  · rename_i t x lo hi mx hop
    simp only[hop,Op.operands]at hx
    rw[A8 (hx x (by simp)),OV (fun y hy=>hx y (by simp[hy])),OV (fun y hy=>hx y (by simp[hy])),OV (fun y hy=>hx y (by simp[hy]))]
    split
    · rename_i l hh m h1 h2 h3
      cases E5 E t (rd E af t x) l hh m<;>simp[Bg hd]
    · simp
  · rename_i x y t0 t1 ts hop
    simp only[hop,Op.operands,Call.operands]at hx
    rw[A8 (hx x (by simp)),A8 (hx y (by simp)),GX (hx x (by simp))]
    split
    · cases ME E t0 t1 (rd E af t0 x) (rd E af t1 y)<;>simp[Bg hd]
    · cases FN E t0 t1 (rd E af t0 x) (rd E af t1 y)<;>simp[Bg hd]
  · rename_i t hop
    simp[Bg hd]
  · rename_i t m k ok hop
    simp only[hop,Op.operands]at hx
    rw[A8 (hx m (by simp)),A8 (hx k (by simp))]
    cases P9 E t (rd E af t m) (rd E af 0 k) ok st<;>simp[Bg hd]
  · rename_i t m k x hop
    simp only[hop,Op.operands]at hx
    rw[A8 (hx m (by simp)),A8 (hx k (by simp)),A8 (hx x (by simp))]
    split
    · cases QB E t (rd E af t m) (rd E af 0 k) (rd E af 0 x) st<;>simp
    · simp
  · rename_i t m k x hop
    simp only[hop,Op.operands]at hx
    rw[A8 (hx m (by simp)),A8 (hx k (by simp)),A8 (hx x (by simp))]
    split
    · cases QB E t (rd E af t m) (rd E af 0 k) (rd E af 0 x) st<;>simp
    · simp
  · rename_i t x i hop
    simp only[hop,Op.operands]at hx
    rw[Lr h]
    cases Bi E o af with
    |some r=>simp[Bg hd]
    | none=>
      rw[A8 (hx x (by simp)),A8 (hx i (by simp))]
      cases Iz E t (rd E af t x) (rd E af 0 i) st<;>simp[Bg hd]
  · rename_i t x y hop
    simp only[hop,Op.operands]at hx
    rw[A8 (hx x (by simp)),A8 (hx y (by simp))]
    split
    · cases QQ E t (rd E af 0 x) (rd E af 0 y) st<;>simp[Bg hd]
    · cases QG E t (rd E af 0 x) (rd E af 0 y) st<;>simp[Bg hd]
  · rename_i s e x hop
    simp only[hop,Op.operands]at hx
    rw[Lr h]
    cases Bi E o af with
    |some r=>simp[Bg hd]
    | none=>
      rw[A8 (hx x (by simp))]
      cases Ns E s e (rd E af s x) st with
      |some r=>simp[Bg hd]
      |none=>cases Mw E s e (rd E af s x) st<;>simp[Bg hd]
  · rename_i x t0 ts hop
    simp only[hop,Op.operands,Call.operands]at hx
    rw[A8 (hx x (by simp)),GX (hx x (by simp))]
    cases Nz (rd E af t0 x)<;>simp[Bg hd]
  · rename_i x y t0 t1 hop
    simp only[hop,Op.operands,Call.operands]at hx
    rw[A8 (hx x (by simp)),A8 (hx y (by simp)),GX (hx x (by simp))]
    cases P5 E t0 (rd E af t0 x) (rd E af t1 y)<;>simp[Bg hd]
  · rw[Lr h]
    cases Bi E o af<;>simp[Bg hd]
theorem ADd{mv:List Tmp}{o:Oper}{K:List AVal→St→Prop} (h:d∉slots o) (hd:o.dst≠some d) (hw:Cq E mv o (af.set d v) st K):Cq E mv o af st fun af' st'=>K (af'.set d v) st':=by
  have hx:=fun x=>Ls h (x:=x)
  unfold Cq at *
  split at hw
  · rename_i f args ts hop
    simp only[hop,Op.operands,Call.operands]at hx
    rw[A8 (hx f (by simp))]at hw
    split at hw
    · rename_i g p q e
      have hw2:=hw
      rw[AAW _ _ (fun x hxm=>hx x (by simp;exact .inr (by simpa using hxm)))]at hw2
      exact hw2.mono fun r st' _ q=>by rw[Bg hd]at q;exact q
    · cases hw
  · rename_i x y t0 t1 ts hop
    simp only[hop,Op.operands,Call.operands]at hx
    rw[A8 (hx x (by simp)),A8 (hx y (by simp)),UD h hd]at hw
    split at hw
    · split at hw
      · rename_i wd l cs rest jo hab
        rw[if_pos (by assumption)]
        intro i hi
        have:=hw i hi
        rw[Bg hd]at this
        exact this
      · cases hw
    · rw[if_neg (by assumption)]
      cases hs:EE E mv o af st with
      |none=>rw[hs]at hw;exact hw.elim
      |some p=>rw[hs]at hw;exact hw
  · rw[UD h hd]at hw
    cases hs:EE E mv o af st with
    |none=>rw[hs]at hw;exact hw.elim
    |some p=>rw[hs]at hw;exact hw
end
def EB (E:Env) (o:Oper) (af:List AVal) (st:St):Option AVal:=
  match o.op with
  |.move x=>some (rd E af o.type x).strip
  |.load t x=>(NW E t (rd E af 0 x) st).map AVal.strip
  | .slice t x lo hi mx=>
    match rdo E af lo,rdo E af hi,rdo E af mx with
    |some l,some h,some m=>E5 E t (rd E af t x) l h m
    |_,_,_=>none
  |.buildSlice t len ⟨ps⟩=>FW E t len (BD E (fun _=>AY E.P t 0) af ps).2
  |.assign _=>none
  |.alloc _=>none
  |.box _ _=>none
  |.build _ _=>none
  |.store _ _ _=>none
  |.extract _ _=>none
  |.range _ _=>none
  |.next _ _=>none
  |.call {callee:=.builtin .append,args:=_,argTypes:=_}=>none
  |_=>(Bi E o af).map AVal.strip
theorem ADI{E:Env}{o:Oper}{af:List AVal}{st:St}{r:AVal} (h:EB E o af st=some r):EE E [] o af st=some (Av af o.dst r,st):=by
  have hm: ∀dst,Ll [] dst=false:=fun dst=>by cases dst<;>rfl
  unfold EB at h
  unfold EE
  split at h
  · rename_i x hop
    simp only[Option.some.injEq]at h;subst h
    simp[hop,hm]
  · rename_i t x hop
    simp only[hop,hm,Bool.false_eq_true,if_false]
    cases hl:NW E t (rd E af 0 x) st with
    |none=>simp[hl]at h
    |some z=>simp[hl]at h;subst h;simp
  · rename_i t x lo hi mx hop
    simp only[hop]
    split at h
    · rename_i l hh m h1 h2 h3
      simp[h1,h2,h3,h]
    · cases h
  · rename_i t len ps hop
    simp[hop,h,hm]
  all_goals (try (cases h;done))
  rename_i h1 h2 h3 h4 h5 h6 h7 h8 h9 h10 h12 h13 h11
  split
  · rename_i x hop;exact absurd hop (h1 x)
  · rename_i x hop;exact absurd hop (h5 x)
  · rename_i x hop;exact absurd hop (h6 x)
  · rename_i t x hop;exact absurd hop (h7 t x)
  · rename_i t x hop;exact absurd hop (h8 t _)
  · rename_i t len ps hop;exact absurd hop (h4 t len ps)
  · rename_i t x hop;exact absurd hop (h2 t x)
  · rename_i t x y hop;exact absurd hop (h9 t x y)
  · rename_i t n hop;exact absurd hop (h10 _ n)
  · rename_i t x hop;exact absurd hop (h12 t x)
  · rename_i t hop;exact absurd hop (h13 _ _)
  · rename_i t x lo hi mx hop;exact absurd hop (h3 t x lo hi mx)
  · rename_i x y t0 t1 ts hop;exact absurd hop (h11 _ _)
  · rename_i t hop
    have:Bi E o af=none:=by unfold Bi;simp only[hop]
    simp[this]at h
  · rename_i t m k ok hop
    have:Bi E o af=none:=by unfold Bi;simp only[hop]
    simp[this]at h
  · rename_i t m k x hop
    have:Bi E o af=none:=by unfold Bi;simp only[hop]
    simp[this]at h
  · rename_i t m k x hop
    have:Bi E o af=none:=by unfold Bi;simp only[hop]
    simp[this]at h
  · rename_i t x i hop
    cases hp:Bi E o af with
    |none=>simp[hp]at h
    |some z=>simp[hp]at h;subst h;simp
  · rename_i t x y hop
    have:Bi E o af=none:=by unfold Bi;simp only[hop]
    simp[this]at h
  · rename_i s e x hop
    cases hp:Bi E o af with
    |none=>simp[hp]at h
    |some z=>simp[hp]at h;subst h;simp
  · rename_i x t0 ts hop
    have:Bi E o af=none:=by unfold Bi;simp only[hop]
    simp[this]at h
  · rename_i x y t0 t1 hop
    have:Bi E o af=none:=by unfold Bi;simp only[hop]
    simp[this]at h
  · cases hp:Bi E o af with
    |none=>simp[hp]at h
    |some z=>simp[hp]at h;subst h;simp
theorem UW{E:Env}{o:Oper}{af:List AVal}{st:St}{d:Tmp}{v:AVal} (h:d∉slots o):EB E o (af.set d v) st=EB E o af st:=by
  have hx:=fun x=>Ls h (x:=x)
  unfold EB
  split
  · rename_i x hop
    simp only[hop,Op.operands]at hx
    rw[A8 (hx x (by simp))]
  · rename_i t x hop
    simp only[hop,Op.operands]at hx
    rw[A8 (hx x (by simp))]
  · rename_i t x lo hi mx hop
    simp only[hop,Op.operands]at hx
    rw[A8 (hx x (by simp)),OV (fun y hy=>hx y (by simp[hy])),OV (fun y hy=>hx y (by simp[hy])),OV (fun y hy=>hx y (by simp[hy]))]
  · rename_i t len ps hop
    simp only[hop,Op.operands]at hx
    rw[(L9 (E:=E) (v:=v) (ty:=fun _=>AY E.P t 0) ps (af:=af) (fun p hp=>hx p.2 (by simp;exact⟨p.1,hp⟩))).2]
  all_goals (first|rfl|rw[Lr h])
def Jt (E:Env) (ops:Array Oper) (o:Oper) (af:List AVal) (st:St):Option AVal:=
  match o.guard with
  |none=>EB E o af st
  | some (j,want)=>
    match gdA ops af j want with
    |some true=>EB E o af st
    |some false=>some (.tuple [])
    |none=>none
def gWp (E:Env) (mv:List Tmp) (ops:Array Oper) (o:Oper) (af:List AVal) (st:St) (K:List AVal→St→Prop):Prop:=
  match o.guard with
  |none=>Cq E mv o af st K
  | some (j,want)=>
    match gdA ops af j want with
    |some true=>Cq E mv o af st K
    |some false=>K (Av af o.dst (.tuple [])) st
    |none=>False
theorem L8{ops:Array Oper}{o:Oper}{d:Tmp} (h:d∉o.looksAt ops):d∉slots o:=fun hm=>h (List.mem_append_left _ hm)
theorem guard_looks{ops:Array Oper}{o:Oper}{d g j:Nat}{want:Bool} (h:d∉o.looksAt ops) (hg:o.guard=some (j,want)) (hd:(ops[j]?).bind (·.dst)=some g):d≠g:=fun e=>by
  subst e
  exact h (List.mem_append_right _ (by simp[hg,hd]))
theorem AJp{ops:Array Oper}{o:Oper}{af:List AVal}{d j:Nat}{want:Bool}{v:AVal} (h:d∉o.looksAt ops) (hg:o.guard=some (j,want)):gdA ops (af.set d v) j want=gdA ops af j want:=by
  unfold gdA
  split
  · rename_i g hgd
    have:=guard_looks h hg hgd
    have e:(af.set d v).getD g .any=af.getD g .any:=by simp[List.getD,List.getElem?_set_ne this]
    rw[e]
  · rfl
theorem RI{E:Env}{ops:Array Oper}{o:Oper}{af:List AVal}{st:St}{d:Tmp}{v:AVal} (h:d∉o.looksAt ops):Jt E ops o (af.set d v) st=Jt E ops o af st:=by
  unfold Jt
  split
  · exact UW (L8 h)
  · rename_i j want hg
    rw[AJp h hg,UW (L8 h)]
theorem AVH{E:Env}{mv:List Tmp}{ops:Array Oper}{o:Oper}{af:List AVal}{st:St}{d:Tmp}{v:AVal}{K:List AVal→St→Prop} (h:d∉o.looksAt ops) (hd:o.dst≠some d) (hw:gWp E mv ops o (af.set d v) st K):
    gWp E mv ops o af st fun af' st'=>K (af'.set d v) st':=by
  unfold gWp at *
  split at hw
  · exact ADd (L8 h) hd hw
  · rename_i j want hg
    rw[AJp h hg]at hw
    split at hw
    · exact ADd (L8 h) hd hw
    · rw[Bg hd]at hw;exact hw
    · exact hw.elim
section
variable{E:Env}{F:Nat→Nat}{Γ:Ghost}{st:St}{w:World}{af:List AVal}{a:Act}
theorem WH{mv:List Tmp}{ops:Array Oper}{i:Nat}{o:Oper} (ho:ops[i]?=some o){K:List AVal→St→Prop}{K':Act→World→Prop}{Qc:Exit→Act→World→Prop} (hd:a.defers=[]) (hs:Sim E F Γ st w af a.tmps.toList) (h:gWp E mv ops o af st K)
    (hK: ∀Γ' af' st' a' w',Ext F Γ w Γ' w'→st.next≤st'.next→a'.defers=[]→Sim E F Γ' st' w' af' a'.tmps.toList→K af' st'→K' a' w'):wpOp E.P ops Qc i K' a w:=by
  unfold wpOp
  simp only[ho]
  unfold gWp at h
  split at h
  · rename_i hg
    rw[if_pos (by simp[Region.wanted,hg])]
    exact .inl (PZ h F Γ w a hd hs K' Qc hK)
  · rename_i j want hg
    split at h
    · rename_i hgd
      rw[if_pos (by rw[Kv hg,Oc hs hgd])]
      exact .inl (PZ h F Γ w a hd hs K' Qc hK)
    · rename_i hgd
      rw[if_neg (by rw[Kv hg,Oc hs hgd];simp)]
      exact hK Γ _ st _ w (Ext.refl _ _ _) (Nat.le_refl _) (by rw[put_defers];exact hd) (hs.skipped o.dst) h
    · cases h
theorem ANj{mv:List Tmp}{ops:Array Oper}{o:Oper}{r:AVal} (h:Jt E ops o af st=some r):gWp E [] ops o af st fun af' st'=>af'=Av af o.dst r∧st'=st:=by
  have key: ∀r,EB E o af st=some r→Cq E [] o af st fun af' st'=>af'=Av af o.dst r∧st'=st:=by
    intro r hr
    have hst:=ADI hr
    unfold Cq
    split
    · rename_i f args ts hop
      simp[EB,hop,Bi]at hr
    · rename_i x y t0 t1 ts hop
      simp[EB,hop]at hr
    · rw[hst];exact⟨rfl,rfl⟩
  unfold Jt at h
  unfold gWp
  split at h
  · exact key r h
  · split at h
    · exact key r h
    · simp only[Option.some.injEq]at h;subst h;exact⟨rfl,rfl⟩
    · cases h
end
end Go.VM
set_option linter.unusedVariables false
namespace Go.VM
inductive Plan where
  |done
  |take (i:Nat) (p:Plan)
  |alt (i:Nat) (chk:List Nat) (p rest:Plan)
  |stop
def Plan.alts:Plan→List Nat
  |.alt i _ _ rest=>i::rest.alts
  |_=>[]
def Plan.sub (j:Nat):Plan→Option (List Nat×Plan)
  |.alt i chk p rest=>if i=j then some (chk,p)else rest.sub j
  |_=>none
def AZN (o:Oper) (k:Nat):Bool:=o.after.any fun e=>Region.binds .any e&&e.on==k
def AIh (ops:Array Oper) (listed:Array Bool) (taken:List Nat) (i:Nat):Bool:=
  match ops[i]? with
  | some o=>
    match o.dst with
    |some d=>Region.free .any ops listed i&&!(o.looksAt ops).contains d&&taken.all fun j=>match ops[j]? with|some oj=>!(oj.looksAt ops).contains d&&oj.dst !=some d|none=>false
    |none=>false
  |none=>false
def AJ0 (ops:Array Oper) (taken:List Nat) (i:Nat) (chk:List Nat):Bool:=
  match ops[i]? with
  |some o=>taken.all fun k=>chk.contains k||AZN o k
  |none=>false
def GN (ops:Array Oper):Plan→Bool→Array Bool→List Nat→Bool
  |.done,mode,listed,_=>!mode&&(Region.ready .any ops listed).isEmpty
  |.take i p,mode,listed,taken=>!mode&&(Region.ready .any ops listed).contains i&&AIh ops listed taken i&&GN ops p false (listed.setIfInBounds i true) (i::taken)
  | .alt i chk p rest,mode,listed,taken=>
    (mode||(Region.ready .any ops listed).all fun j=>(i::rest.alts).contains j)&&(Region.ready .any ops listed).contains i&&AJ0 ops taken i chk&&GN ops p false (listed.setIfInBounds i true) taken&&GN ops rest true listed taken
  |.stop,mode,_,_=>mode
def QF:List (Nat×AVal)→Nat→Option AVal
  |[],_=>none
  |(j,r)::tv,k=>if k=j then some r else QF tv k
def MV (E:Env) (ops:Array Oper) (tv:List (Nat×AVal)) (af:List AVal) (st:St):List Nat→Prop
  |[]=>True
  |k::ks=>(match QF tv k,ops[k]? with|some r,some o=>Jt E ops o af st=some r|_,_=>False)∧MV E ops tv af st ks
def FO (E:Env) (mv:List Tmp) (ops:Array Oper):Plan→List (Nat×AVal)→(List AVal→St→Prop)→List AVal→St→Prop
  |.done,_,K,af,st=>K af st
  | .take i p,tv,K,af,st=>
    match ops[i]? with
    | some o=>
      match Jt E ops o af st with
      |some r=>FO E mv ops p ((i,r)::tv) K (Av af o.dst r) st
      |none=>False
    |none=>False
  | .alt i chk p rest,tv,K,af,st=>
    (match ops[i]? with
      |some o=>gWp E mv ops o af st fun af' st'=>MV E ops tv af' st' chk∧FO E mv ops p tv K af' st'
      |none=>False)∧FO E mv ops rest tv K af st
  |.stop,_,_,_,_=>True
def GY (ops:Array Oper) (i:Nat):Option Tmp:=(ops[i]?).bind (·.dst)
def Fp (ops:Array Oper) (af:List AVal):List (Nat×AVal)→List AVal
  |[]=>af
  |(i,r)::pend=>Fp ops (Av af (GY ops i) r) pend
theorem OC (ops:Array Oper) (pend:List (Nat×AVal)) (i:Nat) (r:AVal): ∀af,Fp ops af (pend++[(i,r)])=Av (Fp ops af pend) (GY ops i) r:=by
  induction pend with
  |nil=>intro af;rfl
  |cons p pend ih=>intro af;exact ih _
theorem X4{E:Env}{ops:Array Oper}{o:Oper}{st:St} (pend:List (Nat×AVal)): ∀af,(∀p,p∈pend→ ∀d,GY ops p.1=some d→d∉o.looksAt ops)→Jt E ops o (Fp ops af pend) st=Jt E ops o af st:=by
  induction pend with
  |nil=>intro af _;rfl
  | cons p pend ih=>
    intro af h
    obtain⟨i,r⟩:=p
    simp only[Fp]
    rw[ih _ (fun q hq=>h q (List.mem_cons_of_mem _ hq))]
    cases hd:GY ops i with
    |none=>rfl
    |some d=>exact RI (h (i,r) (by simp) d hd)
theorem AJO{E:Env}{mv:List Tmp}{ops:Array Oper}{o:Oper}{st:St} (pend:List (Nat×AVal)): ∀ {af:List AVal}{K:List AVal→St→Prop},(∀p,p∈pend→ ∀d,GY ops p.1=some d→d∉o.looksAt ops∧o.dst≠some d)→gWp E mv ops o (Fp ops af pend) st K→gWp E mv ops o af st fun af' st'=>K (Fp ops af' pend) st':=by
  induction pend with
  |nil=>intro af K _ h;exact h
  | cons p pend ih=>
    intro af K h hw
    obtain⟨i,r⟩:=p
    simp only[Fp]at hw⊢
    have h1:=ih (fun q hq=>h q (List.mem_cons_of_mem _ hq)) hw
    cases hd:GY ops i with
    |none=>rw[hd]at h1;exact h1
    | some d=>
      rw[hd]at h1
      obtain⟨a1,a2⟩:=h (i,r) (by simp) d hd
      exact AVH (K:=fun af' st'=>K (Fp ops af' pend) st') a1 a2 h1
theorem AKl{af:List AVal}{d e:Option Tmp}{x y:AVal} (h: ∀t,d=some t→e≠some t):Av (Av af d x) e y=Av (Av af e y) d x:=by
  cases d with
  |none=>rfl
  | some d=>
    cases e with
    |none=>rfl
    | some e=>
      have:d≠e:=fun he=>h d rfl (by rw[he])
      simp only[Av]
      exact List.set_comm _ _ this
theorem Qr{ops:Array Oper}{i:Nat}{r:AVal} (pend:List (Nat×AVal)): ∀af,(i,r)∈pend→(pend.map (·.1)).Nodup→(∀p q,p∈pend→q∈pend→p.1≠q.1→ ∀t,GY ops p.1=some t→GY ops q.1≠some t)→
    Fp ops af pend=Fp ops (Av af (GY ops i) r) (pend.filter fun p=>p.1 !=i):=by
  induction pend with
  |nil=>intro af h _ _;cases h
  | cons p pend ih=>
    intro af h hn hd
    obtain⟨j,s⟩:=p
    simp only[List.map_cons,List.nodup_cons]at hn
    by_cases hij:j=i
    · subst hij
      have hsr:s=r:=by
        rcases List.mem_cons.1 h with e|e
        · cases e;rfl
        · exact absurd (List.mem_map.2 ⟨(j,r),e,rfl⟩) hn.1
      subst hsr
      have hf:pend.filter (fun p=>p.1 !=j)=pend:=List.filter_eq_self.2 fun q hq=>by
        simp only[bne_iff_ne,ne_eq]
        intro e
        exact hn.1 (List.mem_map.2 ⟨q,hq,e⟩)
      simp[Fp,hf]
    · have hm:(i,r)∈pend:=by
        rcases List.mem_cons.1 h with e|e
        · cases e;exact absurd rfl hij
        · exact e
      have hne:(j !=i)=true:=by simpa using hij
      rw[List.filter_cons,if_pos hne]
      simp only[Fp]
      rw[ih _ hm hn.2 (fun p q hp hq=>hd p q (List.mem_cons_of_mem _ hp) (List.mem_cons_of_mem _ hq))]
      rw[AKl (fun t ht=>hd (j,s) (i,r) (by simp) h (by simpa using hij) t ht)]
def OrdP (ops:Array Oper):(Nat→Prop)→List (Nat×AVal)→Prop
  |_,[]=>True
  |P,(i,_)::rest=>(∀o,ops[i]?=some o→ ∀e,e∈o.after→Region.binds .any e=true→P e.on)∧OrdP ops (fun k=>P k∨k=i) rest
theorem OrdP.mono{ops:Array Oper}: ∀ {pend:List (Nat×AVal)}{P P':Nat→Prop},(∀k,P k→P' k)→OrdP ops P pend→OrdP ops P' pend
  |[],_,_,_,_=>trivial
  |(i,_)::rest,_,_,h,⟨h1,h2⟩=>⟨fun o ho e he hb=>h _ (h1 o ho e he hb),OrdP.mono (fun k hk=>hk.imp (h k) id) h2⟩
theorem OrdP.snoc{ops:Array Oper}{i:Nat}{r:AVal}: ∀ {pend:List (Nat×AVal)}{P:Nat→Prop},OrdP ops P pend→(∀o,ops[i]?=some o→ ∀e,e∈o.after→Region.binds .any e=true→P e.on∨e.on∈pend.map (·.1))→OrdP ops P (pend++[(i,r)])
  |[],P,_,h=>⟨fun o ho e he hb=>(h o ho e he hb).resolve_right (by simp),trivial⟩
  | (j, _)::rest,P,⟨h1,h2⟩,h=>⟨h1,OrdP.snoc h2 fun o ho e he hb=>by
      rcases h o ho e he hb with h|h
      · exact .inl (.inl h)
      · rcases List.mem_cons.1 h with h|h
        · exact .inl (.inr h)
        · exact .inr h⟩
theorem OrdP.erase{ops:Array Oper}{k:Nat}: ∀ {pend:List (Nat×AVal)}{P:Nat→Prop},OrdP ops P pend→OrdP ops (fun j=>P j∨j=k) (pend.filter fun p=>p.1 !=k)
  |[],_,_=>trivial
  | (i,s)::rest,P,⟨h1,h2⟩=>by
    have ih:=OrdP.erase (k:=k) h2
    by_cases hik:i=k
    · subst hik
      have hne:(i !=i)=false:=by simp
      rw[List.filter_cons,hne]
      exact ih.mono fun j hj=>by rcases hj with(h|h)|h;exact .inl h;exact .inr h;exact .inr h
    · have hne:(i !=k)=true:=by simpa using hik
      rw[List.filter_cons,if_pos hne]
      exact⟨fun o ho e he hb=>.inl (h1 o ho e he hb),ih.mono fun j hj=>by rcases hj with(h|h)|h;exact .inl (.inl h);exact .inr h;exact .inl (.inr h)⟩
def KZ (n:Nat) (listed:Array Bool):Nat:=(List.range n).countP fun k=>!listed.getD k true
theorem UK{i:Nat}{f g:Nat→Bool} (hf:f i=false) (hg:g i=true) (h: ∀k,k≠i→f k=g k): ∀l:List Nat,l.countP f+l.count i=l.countP g
  |[]=>rfl
  | k::l=>by
    have ih:=UK hf hg h l
    rw[List.countP_cons,List.countP_cons,List.count_cons]
    by_cases hk:k=i
    · subst hk;rw[hf,hg];simp;omega
    · have:(k==i)=false:=by simpa using hk
      rw[h k hk,this];simp;omega
theorem Qh{n i:Nat}{listed:Array Bool} (hi:listed.getD i true=false) (hn:i<n):KZ n (listed.setIfInBounds i true)+1≤KZ n listed:=by
  have hlt:i<listed.size:=by
    rcases Nat.lt_or_ge i listed.size with h|h
    · exact h
    · simp[Array.getElem?_eq_none h]at hi
  have hset:(listed.setIfInBounds i true).getD i true=true:=by simp[hlt]
  have hother: ∀k,k≠i→(listed.setIfInBounds i true).getD k true=listed.getD k true:=fun k hk=>getD_set_ne true (Ne.symm hk)
  unfold KZ
  have key:=fun l=>UK (i:=i) (f:=fun k=>!(listed.setIfInBounds i true).getD k true) (g:=fun k=>!listed.getD k true) (by simp only[hset,Bool.not_true]) (by simp only[hi,Bool.not_false]) (fun k hk=>by simp only[hother k hk]) l
  have hc:1≤(List.range n).count i:=List.count_pos_iff.2 (List.mem_range.2 hn)
  have:=key (List.range n)
  omega
theorem PL{n:Nat}{listed:Array Bool} (h:KZ n listed=0){k:Nat} (hk:k<n):listed.getD k true=true:=by
  have:=List.countP_eq_zero.1 h k (List.mem_range.2 hk)
  simpa using this
structure Inv (E:Env) (ops:Array Oper) (act asap:Array Bool) (taken:List Nat) (pend tv:List (Nat×AVal)) (af:List AVal) (st:St):Prop where
  sz1:act.size=ops.size
  sz2:asap.size=ops.size
  list: ∀k,k<ops.size→(asap.getD k true=true↔act.getD k true=true∨k∈pend.map (·.1))
  notin: ∀p,p∈pend→act.getD p.1 true=false∧p.1<ops.size∧p.1∈taken
  nodup:(pend.map (·.1)).Nodup
  tvl: ∀p,p∈pend→QF tv p.1=some p.2
  val: ∀p,p∈pend→ ∀o,ops[p.1]?=some o→Jt E ops o (Fp ops af pend) st=some p.2
  free: ∀p,p∈pend→ ∀d,GY ops p.1=some d→ ∀j oj,ops[j]?=some oj→asap.getD j true=false→(∀e,e∈oj.after→Region.binds .any e=true→e.on≠p.1)→d∉oj.looksAt ops∧oj.dst≠some d
  self: ∀p,p∈pend→ ∀d o,GY ops p.1=some d→ops[p.1]?=some o→d∉o.looksAt ops
  pair: ∀p q,p∈pend→q∈pend→p.1≠q.1→ ∀d,GY ops p.1=some d→GY ops q.1≠some d∧ ∀oq,ops[q.1]?=some oq→(∀e,e∈oq.after→Region.binds .any e=true→e.on≠p.1)→d∉oq.looksAt ops
  ord:OrdP ops (fun k=>act.getD k false=true) pend
theorem KR{l:Array Bool}{k:Nat} (h:k<l.size):l.getD k false=l.getD k true:=by
  simp[Array.getD,h]
section
variable{E:Env}{ops:Array Oper}
theorem Inv.ready_sub{act asap:Array Bool}{taken:List Nat}{pend tv:List (Nat×AVal)}{af:List AVal}{st:St} (I:Inv E ops act asap taken pend tv af st){j:Nat} (hj:j∈Region.ready .any ops act) (hp:j∉pend.map (·.1)):j∈Region.ready .any ops asap:=by
  obtain⟨h0,o,ho,h1⟩:=mem_ready.1 hj
  have hlt:j<ops.size:=(Array.getElem?_eq_some_iff.1 ho).1
  refine mem_ready.2 ⟨?_,o,ho,fun e he hb=>?_⟩
  · cases h:asap.getD j true with
    |false=>rfl
    | true=>
      rcases (I.list j hlt).1 h with h|h
      · rw[h0]at h;cases h
      · exact absurd h hp
  · have:=h1 e he hb
    have hlt':e.on<act.size:=by
      rcases Nat.lt_or_ge e.on act.size with h|h
      · exact h
      · simp[Array.getElem?_eq_none h]at this
    rw[KR hlt']at this
    rw[KR (by rw[I.sz2,←I.sz1];exact hlt')]
    exact(I.list e.on (by rw[←I.sz1];exact hlt')).2 (.inl this)
theorem Inv.some_ready{act asap:Array Bool}{taken:List Nat}{pend tv:List (Nat×AVal)}{af:List AVal}{st:St} (I:Inv E ops act asap taken pend tv af st) (h:Region.ready .any ops act=[]):pend=[]:=by
  cases hp:pend with
  |nil=>rfl
  | cons p rest=>
    exfalso
    obtain⟨i,r⟩:=p
    have hm:(i,r)∈pend:=by rw[hp];simp
    obtain⟨h0,hlt,_⟩:=I.notin _ hm
    have hord:=I.ord
    rw[hp]at hord
    obtain⟨o,ho⟩: ∃o,ops[i]?=some o:=⟨ops[i],Array.getElem?_eq_getElem hlt⟩
    have:i∈Region.ready .any ops act:=mem_ready.2 ⟨h0,o,ho,fun e he hb=>hord.1 o ho e he hb⟩
    rw[h]at this;cases this
theorem Inv.asap_ready{act asap:Array Bool}{taken:List Nat}{tv:List (Nat×AVal)}{af:List AVal}{st:St} (I:Inv E ops act asap taken [] tv af st){j:Nat} (hj:j∈Region.ready .any ops asap):j∈Region.ready .any ops act:=by
  obtain⟨h0,o,ho,h1⟩:=mem_ready.1 hj
  have hlt:j<ops.size:=(Array.getElem?_eq_some_iff.1 ho).1
  refine mem_ready.2 ⟨?_,o,ho,fun e he hb=>?_⟩
  · cases h:act.getD j true with
    |false=>rfl
    |true=>have:=(I.list j hlt).2 (.inl h);rw[h0]at this;cases this
  · have:=h1 e he hb
    have hlt':e.on<asap.size:=by
      rcases Nat.lt_or_ge e.on asap.size with h|h
      · exact h
      · simp[Array.getElem?_eq_none h]at this
    rw[KR hlt']at this
    rw[KR (by rw[I.sz1,←I.sz2];exact hlt')]
    rcases (I.list e.on (by rw[←I.sz2];exact hlt')).1 this with h|h
    · exact h
    · simp at h
theorem Uh{tv:List (Nat×AVal)}{af:List AVal}{st:St}: ∀ {chk:List Nat},MV E ops tv af st chk→ ∀ {k:Nat},k∈chk→ ∃r o,QF tv k=some r∧ops[k]?=some o∧Jt E ops o af st=some r
  |[],_,_,h=>by cases h
  | x::xs,⟨h1,h2⟩,k,h=>by
    rcases List.mem_cons.1 h with rfl|h
    · split at h1
      · rename_i r o e1 e2;exact⟨r,o,e1,e2,h1⟩
      · cases h1
    · exact Uh h2 h
theorem ADL{mv:List Tmp}{listed:Array Bool}{taken:List Nat}{tv:List (Nat×AVal)}{K:List AVal→St→Prop}{af:List AVal}{st:St}: ∀ {p:Plan},GN ops p true listed taken=true→FO E mv ops p tv K af st→ ∀ {j:Nat},j∈p.alts→
    ∃chk q o,ops[j]?=some o∧AJ0 ops taken j chk=true∧GN ops q false (listed.setIfInBounds j true) taken=true∧gWp E mv ops o af st fun af' st'=>MV E ops tv af' st' chk∧FO E mv ops q tv K af' st'
  | .alt i chk p rest,hok,hw,j,hj=>by
    simp only[GN,Bool.and_eq_true]at hok
    simp only[FO]at hw
    rcases List.mem_cons.1 hj with rfl|hj
    · have h1:=hw.1
      split at h1
      · rename_i o ho
        exact⟨chk,p,o,ho,hok.1.1.2,hok.1.2,h1⟩
      · cases h1
    · exact ADL hok.2 hw.2 hj
  |.done,_,_,_,h=>by cases h
  |.take _ _,_,_,_,h=>by cases h
  |.stop,_,_,_,h=>by cases h
theorem Inv.take{act asap:Array Bool}{taken:List Nat}{pend tv:List (Nat×AVal)}{af:List AVal}{st:St} (I:Inv E ops act asap taken pend tv af st){i:Nat}{o:Oper}{r:AVal}
    (hr:i∈Region.ready .any ops asap) (hok:AIh ops asap taken i=true) (ho:ops[i]?=some o) (hv:Jt E ops o (Fp ops af pend) st=some r):
    Inv E ops act (asap.setIfInBounds i true) (i::taken) (pend++[(i,r)]) ((i,r)::tv) af st:=by
  obtain⟨h0,o',ho',hw⟩:=mem_ready.1 hr
  rw[ho]at ho';cases ho'
  have hlt:i<ops.size:=(Array.getElem?_eq_some_iff.1 ho).1
  have hact:act.getD i true=false:=by
    cases h:act.getD i true with
    |false=>rfl
    |true=>have:=(I.list i hlt).2 (.inl h);rw[h0]at this;cases this
  have hnp:i∉pend.map (·.1):=fun h=>by have:=(I.list i hlt).2 (.inr h);rw[h0]at this;cases this
  unfold AIh at hok
  rw[ho]at hok
  simp only at hok
  split at hok
  · rename_i d hd
    simp only[Bool.and_eq_true,Bool.not_eq_true',List.all_eq_true]at hok
    obtain⟨⟨hfree,hself⟩,htk⟩:=hok
    have hself':d∉o.looksAt ops:=by simpa using hself
    have hdst:GY ops i=some d:=by simp[GY,ho,hd]
    have hfr:=fun j oj hj hne hun hno=>Oper.apart_spec (Region.free_spec ho hfree j oj hj hne hun hno)
    have htk': ∀j,j∈taken→ ∀oj,ops[j]?=some oj→d∉oj.looksAt ops∧oj.dst≠some d:=by
      intro j hj oj hoj
      have:=htk j hj
      rw[hoj]at this
      simp only[Bool.and_eq_true,Bool.not_eq_true',bne_iff_ne,ne_eq]at this
      exact⟨by simpa using this.1,this.2⟩
    have hset: ∀k,k≠i→(asap.setIfInBounds i true).getD k true=asap.getD k true:=fun k hk=>getD_set_ne true (Ne.symm hk)
    have hseti:(asap.setIfInBounds i true).getD i true=true:=by simp[I.sz2,hlt]
    have hpne: ∀p,p∈pend→p.1≠i:=fun p hp e=>hnp (List.mem_map.2 ⟨p,hp,e⟩)
    refine {sz1:=I.sz1,sz2:=by simp[I.sz2],list:=?_,notin:=?_,nodup:=?_,tvl:=?_,val:=?_,free:=?_,self:=?_,pair:=?_,ord:=?_}
    · intro k hk
      rw[List.map_append,List.mem_append]
      by_cases hki:k=i
      · subst hki;rw[hseti];simp
      · rw[hset k hki,I.list k hk];simp[hki]
    · intro p hp
      rcases List.mem_append.1 hp with hp|hp
      · obtain⟨a,b,c⟩:=I.notin p hp;exact⟨a,b,List.mem_cons_of_mem _ c⟩
      · simp only[List.mem_singleton]at hp;subst hp;exact⟨hact,hlt,by simp⟩
    · rw[List.map_append,List.nodup_append]
      refine⟨I.nodup,by simp,?_⟩
      intro x hx y hy
      simp only[List.map_cons,List.map_nil,List.mem_singleton]at hy
      subst hy
      exact fun e=>hnp (e▸hx)
    · intro p hp
      rcases List.mem_append.1 hp with hp|hp
      · simp only[QF];rw[if_neg (hpne p hp)];exact I.tvl p hp
      · simp only[List.mem_singleton]at hp;subst hp;simp[QF]
    · intro p hp op hop
      rw[OC,hdst]
      rcases List.mem_append.1 hp with hp|hp
      · rw[show Av (Fp ops af pend) (some d) r=(Fp ops af pend).set d r from rfl,RI (htk' p.1 (I.notin p hp).2.2 op hop).1]
        exact I.val p hp op hop
      · simp only[List.mem_singleton]at hp;subst hp
        rw[ho]at hop;cases hop
        rw[show Av (Fp ops af pend) (some d) r=(Fp ops af pend).set d r from rfl,RI hself']
        exact hv
    · intro p hp dd hdd j oj hoj hun hno
      have hji:j≠i:=fun e=>by subst e;rw[hseti]at hun;cases hun
      rw[hset j hji]at hun
      rcases List.mem_append.1 hp with hp|hp
      · exact I.free p hp dd hdd j oj hoj hun hno
      · simp only[List.mem_singleton]at hp;subst hp
        simp only at hdd hno
        rw[hdst]at hdd;cases hdd
        obtain⟨a,b,c⟩:=hfr j oj hoj hji hun hno
        exact⟨a d hd,b d hd⟩
    · intro p hp dd op hdd hop
      rcases List.mem_append.1 hp with hp|hp
      · exact I.self p hp dd op hdd hop
      · simp only[List.mem_singleton]at hp;subst hp
        simp only at hdd hop
        rw[hdst]at hdd;cases hdd
        rw[ho]at hop;cases hop
        exact hself'
    · intro p q hp hq hne dd hdd
      rcases List.mem_append.1 hp with hp|hp<;>rcases List.mem_append.1 hq with hq|hq
      · exact I.pair p q hp hq hne dd hdd
      · simp only[List.mem_singleton]at hq;subst hq
        simp only at hne⊢
        refine⟨?_,fun oq hoq hno=>?_⟩
        · rw[hdst]
          intro e
          simp only[Option.some.injEq]at e
          have hpo: ∃op,ops[p.1]?=some op:=⟨_,Array.getElem?_eq_getElem (I.notin p hp).2.1⟩
          obtain⟨op,hop⟩:=hpo
          have:=(htk' p.1 (I.notin p hp).2.2 op hop).2
          have hdd':op.dst=some dd:=by simpa[GY,hop]using hdd
          rw[hdd',e]at this;exact this rfl
        · rw[ho]at hoq;cases hoq
          exact(I.free p hp dd hdd i o ho h0 hno).1
      · simp only[List.mem_singleton]at hp;subst hp
        simp only at hne hdd⊢
        rw[hdst]at hdd;cases hdd
        obtain⟨oq,hoq⟩: ∃oq,ops[q.1]?=some oq:=⟨_,Array.getElem?_eq_getElem (I.notin q hq).2.1⟩
        have hh:=htk' q.1 (I.notin q hq).2.2
        refine⟨?_,fun oq hoq _=>(hh oq hoq).1⟩
        simp only[GY,hoq,Option.bind_some]
        exact(hh oq hoq).2
      · simp only[List.mem_singleton]at hp hq;subst hp;subst hq;exact absurd rfl hne
    · refine I.ord.snoc fun o'' ho'' e he hb=>?_
      rw[ho]at ho'';cases ho''
      have:=hw e he hb
      have hlt':e.on<asap.size:=by
        rcases Nat.lt_or_ge e.on asap.size with h|h
        · exact h
        · simp[Array.getElem?_eq_none h]at this
      rw[KR hlt']at this
      rcases (I.list e.on (by rw[←I.sz2];exact hlt')).1 this with h|h
      · exact .inl (by rw[KR (by rw[I.sz1,←I.sz2];exact hlt')];exact h)
      · exact .inr h
  · cases hok
theorem Inv.come{act asap:Array Bool}{taken:List Nat}{pend tv:List (Nat×AVal)}{af:List AVal}{st:St} (I:Inv E ops act asap taken pend tv af st){i:Nat}{r:AVal} (hm:(i,r)∈pend):
    Inv E ops (act.setIfInBounds i true) asap taken (pend.filter fun p=>p.1 !=i) tv (Av af (GY ops i) r) st:=by
  obtain⟨h0,hlt,htk⟩:=I.notin _ hm
  have hmem: ∀p,p∈pend.filter (fun p=>p.1 !=i)→p∈pend∧p.1≠i:=fun p hp=>by
    obtain⟨a,b⟩:=List.mem_filter.1 hp;exact⟨a,by simpa using b⟩
  have hset: ∀k,k≠i→(act.setIfInBounds i true).getD k true=act.getD k true:=fun k hk=>getD_set_ne true (Ne.symm hk)
  have hseti:(act.setIfInBounds i true).getD i true=true:=by simp[I.sz1,hlt]
  have herase:=Qr pend af hm I.nodup (fun p q hp hq hne t ht=>(I.pair p q hp hq hne t ht).1)
  refine {sz1:=by simp[I.sz1],sz2:=I.sz2,list:=?_,notin:=?_,nodup:=?_,tvl:=fun p hp=>I.tvl p (hmem p hp).1,val:=?_,free:=fun p hp=>I.free p (hmem p hp).1,self:=fun p hp=>I.self p (hmem p hp).1,pair:=fun p q hp hq=>I.pair p q (hmem p hp).1 (hmem q hq).1,ord:=?_}
  · intro k hk
    by_cases hki:k=i
    · subst hki
      rw[hseti]
      simp only[true_or,iff_true]
      exact(I.list k hk).2 (.inr (List.mem_map.2 ⟨_,hm,rfl⟩))
    · rw[hset k hki,I.list k hk]
      have:k∈(pend.filter fun p=>p.1 !=i).map (·.1)↔k∈pend.map (·.1):=by
        simp only[List.mem_map]
        constructor
        · rintro⟨p,hp,rfl⟩;exact⟨p,(hmem p hp).1,rfl⟩
        · rintro⟨p,hp,rfl⟩;exact⟨p,List.mem_filter.2 ⟨hp,by simpa using hki⟩,rfl⟩
      rw[this]
  · intro p hp
    obtain⟨a,b⟩:=hmem p hp
    obtain⟨c,d,e⟩:=I.notin p a
    exact⟨by rw[hset p.1 b];exact c,d,e⟩
  · exact(List.filter_sublist.map _).nodup I.nodup
  · intro p hp o ho
    rw[←herase]
    exact I.val p (hmem p hp).1 o ho
  · refine(I.ord.erase (k:=i)).mono fun k hk=>?_
    rcases hk with hk|hk
    · exact getD_set_true hk
    · subst hk;rw[KR (by simp[I.sz1,hlt])];exact hseti
theorem Inv.step{act asap:Array Bool}{taken:List Nat}{pend tv:List (Nat×AVal)}{af af':List AVal}{st st':St} (I:Inv E ops act asap taken pend tv af st){i:Nat}{chk:List Nat}{o:Oper} (hr:i∈Region.ready .any ops act) (hp:i∉pend.map (·.1)) (ho:ops[i]?=some o)
    (hchk:AJ0 ops taken i chk=true) (hall:MV E ops tv (Fp ops af' pend) st' chk):Inv E ops (act.setIfInBounds i true) (asap.setIfInBounds i true) taken pend tv af' st':=by
  obtain⟨h0,o',ho',hw⟩:=mem_ready.1 hr
  rw[ho]at ho';cases ho'
  have hlt:i<ops.size:=(Array.getElem?_eq_some_iff.1 ho).1
  have hset: ∀(l:Array Bool) k,k≠i→(l.setIfInBounds i true).getD k true=l.getD k true:=fun l k hk=>getD_set_ne true (Ne.symm hk)
  have hseti: ∀(l:Array Bool),l.size=ops.size→(l.setIfInBounds i true).getD i true=true:=fun l hl=>by simp[hl,hlt]
  have hpne: ∀p,p∈pend→p.1≠i:=fun p hpm e=>hp (List.mem_map.2 ⟨p,hpm,e⟩)
  refine {sz1:=by simp[I.sz1],sz2:=by simp[I.sz2],list:=?_,notin:=?_,nodup:=I.nodup,tvl:=I.tvl,val:=?_,free:=?_,self:=I.self,pair:=I.pair,ord:=?_}
  · intro k hk
    by_cases hki:k=i
    · subst hki;rw[hseti act I.sz1,hseti asap I.sz2];simp
    · rw[hset act k hki,hset asap k hki];exact I.list k hk
  · intro p hpm
    obtain⟨a,b,c⟩:=I.notin p hpm
    exact⟨by rw[hset act p.1 (hpne p hpm)];exact a,b,c⟩
  · intro p hpm op hop
    unfold AJ0 at hchk
    rw[ho]at hchk
    simp only[List.all_eq_true,Bool.or_eq_true]at hchk
    obtain⟨a,b,c⟩:=I.notin p hpm
    rcases hchk p.1 c with h|h
    · obtain⟨r,o2,e1,e2,e3⟩:=Uh hall (by simpa using h)
      rw[I.tvl p hpm]at e1;cases e1
      rw[hop]at e2;cases e2
      exact e3
    · exfalso
      obtain⟨e,he,hb⟩:=Array.any_eq_true'.1 h
      simp only[Bool.and_eq_true,beq_iff_eq]at hb
      have:=hw e he hb.1
      rw[hb.2,KR (by rw[I.sz1];exact b),a]at this
      cases this
  · intro p hpm d hd j oj hoj hun hno
    have hji:j≠i:=fun e=>by subst e;rw[hseti asap I.sz2]at hun;cases hun
    rw[hset asap j hji]at hun
    exact I.free p hpm d hd j oj hoj hun hno
  · exact I.ord.mono fun k hk=>getD_set_true hk
theorem AIU{mv:List Tmp}{K:List AVal→St→Prop}{Qc:Exit→Act→World→Prop}{F:Nat→Nat} (fuel:Nat): ∀(plan:Plan){act asap:Array Bool}{taken:List Nat}{pend tv:List (Nat×AVal)}{af:List AVal}{st:St}{a:Act}{w:World}{Γ:Ghost},
    GN ops plan false asap taken=true→KZ ops.size act≤fuel→Inv E ops act asap taken pend tv af st→a.defers=[]→Sim E F Γ st w af a.tmps.toList→FO E mv ops plan tv K (Fp ops af pend) st→
    (∀Γ' af' st' a' w',Ext F Γ w Γ' w'→st.next≤st'.next→a'.defers=[]→Sim E F Γ' st' w' af' a'.tmps.toList→K af' st'→Qc .normal a' w')→
    wpAny E.P .any ops Qc fuel act a w:=by
  induction fuel with
  | zero=>
    intro plan
    induction plan with
    | done=>
      intro act asap taken pend tv af st a w Γ hok hn I hd hs hw hK
      have hrd:Region.ready .any ops act=[]:=List.eq_nil_iff_forall_not_mem.2 fun j hj=>by
        obtain⟨h0,o,ho,_⟩:=mem_ready.1 hj
        rw[PL (Nat.le_zero.1 hn) (Array.getElem?_eq_some_iff.1 ho).1]at h0;cases h0
      have:=I.some_ready hrd
      subst this
      exact⟨hrd,hK Γ af st a w (Ext.refl _ _ _) (Nat.le_refl _) hd hs hw⟩
    | take i p ih=>
      intro act asap taken pend tv af st a w Γ hok hn I hd hs hw hK
      simp only[GN,Bool.and_eq_true]at hok
      simp only[FO]at hw
      split at hw
      · rename_i o ho
        split at hw
        · rename_i r hr
          have I2:=I.take (by simpa using hok.1.1.2) hok.1.2 ho hr
          refine ih hok.2 hn I2 hd hs ?_ hK
          rw[OC,show GY ops i=o.dst by simp[GY,ho]]
          exact hw
        · cases hw
      · cases hw
    | alt i chk p rest _ _=>
      intro act asap taken pend tv af st a w Γ hok hn I hd hs hw hK
      exfalso
      simp only[GN,Bool.and_eq_true]at hok
      have hi:i∈Region.ready .any ops asap:=by simpa using hok.1.1.1.2
      obtain⟨h0,o,ho,_⟩:=mem_ready.1 hi
      have hlt:=(Array.getElem?_eq_some_iff.1 ho).1
      have:=(I.list i hlt).2 (.inl (PL (Nat.le_zero.1 hn) hlt))
      rw[h0]at this;cases this
    |stop=>intro act asap taken pend tv af st a w Γ hok;simp[GN]at hok
  | succ fuel ihf=>
    have come: ∀(plan:Plan){act asap:Array Bool}{taken:List Nat}{pend tv:List (Nat×AVal)}{af:List AVal}{st:St}{a:Act}{w:World}{Γ:Ghost},
        GN ops plan false asap taken=true→KZ ops.size act≤fuel+1→Inv E ops act asap taken pend tv af st→a.defers=[]→Sim E F Γ st w af a.tmps.toList→FO E mv ops plan tv K (Fp ops af pend) st→
        (∀Γ' af' st' a' w',Ext F Γ w Γ' w'→st.next≤st'.next→a'.defers=[]→Sim E F Γ' st' w' af' a'.tmps.toList→K af' st'→Qc .normal a' w')→
        ∀j,j∈Region.ready .any ops act→j∈pend.map (·.1)→wpOp E.P ops Qc j (wpAny E.P .any ops Qc fuel (act.setIfInBounds j true)) a w:=by
      intro plan act asap taken pend tv af st a w Γ hok hn I hd hs hw hK j hj hjp
      obtain⟨p,hp,rfl⟩:=List.mem_map.1 hjp
      obtain⟨h0,o,ho,hwt⟩:=mem_ready.1 hj
      have hlt:=(Array.getElem?_eq_some_iff.1 ho).1
      have hlooks: ∀q,q∈pend→ ∀d,GY ops q.1=some d→d∉o.looksAt ops:=by
        intro q hq d hdd
        by_cases hqp:q.1=p.1
        · exact I.self q hq d o hdd (by rw[hqp];exact ho)
        · refine(I.pair q p hq hp hqp d hdd).2 o ho fun e he hb heq=>?_
          have:=hwt e he hb
          obtain⟨a1,b1,_⟩:=I.notin q hq
          rw[heq,KR (by rw[I.sz1];exact b1),a1]at this
          cases this
      have hval:=I.val p hp o ho
      rw[X4 pend af hlooks]at hval
      refine WH ho hd hs (ANj (mv:=mv) hval) fun Γ' af' st' a' w' x1 n1 d1 s1 k1=>?_
      obtain⟨rfl,rfl⟩:=k1
      have hdst:GY ops p.1=o.dst:=by simp[GY,ho]
      have hpm:(p.1,p.2)∈pend:=hp
      have I2:=I.come hpm
      rw[hdst]at I2
      refine ihf plan hok (by have:=Qh h0 hlt;omega) I2 d1 s1 ?_ fun Γ2 af2 st2 a2 w2 x2 n2 d2 s2 k2=>hK Γ2 af2 st2 a2 w2 (x1.trans x2) (Nat.le_trans n1 n2) d2 s2 k2
      rw[Qr pend af hpm I.nodup (fun p q hp hq hne t ht=>(I.pair p q hp hq hne t ht).1),hdst]at hw
      exact hw
    intro plan
    induction plan with
    | done=>
      intro act asap taken pend tv af st a w Γ hok hn I hd hs hw hK
      refine⟨fun hrd=>?_,fun j hj=>?_⟩
      · have:=I.some_ready hrd
        subst this
        exact hK Γ af st a w (Ext.refl _ _ _) (Nat.le_refl _) hd hs hw
      · by_cases hjp:j∈pend.map (·.1)
        · exact come .done hok hn I hd hs hw hK j hj hjp
        · exfalso
          have:=I.ready_sub hj hjp
          simp only[GN,Bool.not_false,Bool.true_and,List.isEmpty_iff]at hok
          rw[hok]at this;cases this
    | take i p ih=>
      intro act asap taken pend tv af st a w Γ hok hn I hd hs hw hK
      simp only[GN,Bool.and_eq_true]at hok
      simp only[FO]at hw
      split at hw
      · rename_i o ho
        split at hw
        · rename_i r hr
          have I2:=I.take (by simpa using hok.1.1.2) hok.1.2 ho hr
          refine ih hok.2 hn I2 hd hs ?_ hK
          rw[OC,show GY ops i=o.dst by simp[GY,ho]]
          exact hw
        · cases hw
      · cases hw
    | alt i chk p rest _ _=>
      intro act asap taken pend tv af st a w Γ hok hn I hd hs hw hK
      have hok0:=hok
      simp only[GN,Bool.and_eq_true]at hok
      have hi:i∈Region.ready .any ops asap:=by simpa using hok.1.1.1.2
      refine⟨fun hrd=>?_,fun j hj=>?_⟩
      · exfalso
        have:=I.some_ready hrd
        subst this
        have:=I.asap_ready hi
        rw[hrd]at this;cases this
      · by_cases hjp:j∈pend.map (·.1)
        · exact come _ hok0 hn I hd hs hw hK j hj hjp
        · have hja:=I.ready_sub hj hjp
          have hall:=hok.1.1.1.1
          simp only[Bool.false_or,List.all_eq_true]at hall
          have hjm:j∈(Plan.alt i chk p rest).alts:=by simpa[Plan.alts]using hall j hja
          have hok':GN ops (.alt i chk p rest) true asap taken=true:=by
            simp only[GN,Bool.true_or,Bool.true_and,Bool.and_eq_true]
            exact⟨⟨⟨hok.1.1.1.2,hok.1.1.2⟩,hok.1.2⟩,hok.2⟩
          obtain⟨chk',q,o,ho,hc,hq,hg⟩:=ADL hok' hw hjm
          obtain⟨h0,o',ho',hwt⟩:=mem_ready.1 hj
          rw[ho]at ho';cases ho'
          have hlt:=(Array.getElem?_eq_some_iff.1 ho).1
          have hun:asap.getD j true=false:=(mem_ready.1 hja).1
          have hlooks: ∀p,p∈pend→ ∀d,GY ops p.1=some d→d∉o.looksAt ops∧o.dst≠some d:=by
            intro p hp d hdd
            refine I.free p hp d hdd j o ho hun fun e he hb heq=>?_
            have:=hwt e he hb
            obtain⟨a1,b1,_⟩:=I.notin p hp
            rw[heq,KR (by rw[I.sz1];exact b1),a1]at this
            cases this
          refine WH ho hd hs (AJO pend hlooks hg) fun Γ' af' st' a' w' x1 n1 d1 s1 k1=>?_
          have I2:=I.step hj hjp ho hc k1.1
          exact ihf q hq (by have:=Qh h0 hlt;omega) I2 d1 s1 k1.2 fun Γ2 af2 st2 a2 w2 x2 n2 d2 s2 k2=>hK Γ2 af2 st2 a2 w2 (x1.trans x2) (Nat.le_trans n1 n2) d2 s2 k2
    |stop=>intro act asap taken pend tv af st a w Γ hok;simp[GN]at hok
end
theorem NZ{E:Env}{Q:APost}{af:List AVal}{st:St}{id:Nat}{ops:Array Oper} (mv:List Tmp) (plan:Plan) (hm:E.P.follows .mixedOrders=true) (hok:GN ops plan false (Array.replicate ops.size false) []=true)
    (h:FO E mv ops plan [] (fun af st=>Q .normal af st) af st):AWp E (.region id ops true) Q af st:=by
  constructor
  intro F Γ w a hd hs
  refine wp_region_any hm ?_
  have I:Inv E ops (Array.replicate ops.size false) (Array.replicate ops.size false) [] [] [] af st:=by
    have hno: ∀p:Nat×AVal,p∈([]:List (Nat×AVal))→False:=fun p hp=>by cases hp
    exact {sz1:=(by simp),sz2:=(by simp),list:=(fun k hk=>by simp),notin:=(fun p hp=>(hno p hp).elim),nodup:=(by simp),tvl:=(fun p hp=>(hno p hp).elim),val:=(fun p hp=>(hno p hp).elim),free:=(fun p hp=>(hno p hp).elim),self:=(fun p hp=>(hno p hp).elim),pair:=(fun p q hp=>(hno p hp).elim),ord:=trivial}
  have hun:KZ ops.size (Array.replicate ops.size false)≤ops.size:=by
    unfold KZ
    have:=List.countP_le_length (p:=fun k=>!(Array.replicate ops.size false).getD k true) (l:=List.range ops.size)
    simpa using this
  exact AIU ops.size plan hok hun I hd hs.drew h fun Γ' af' st' a' w' x1 n1 d1 s1 k1=>⟨trivial,d1,Γ',af',st',⟨x1.le,x1.keep,x1.size,x1.os,x1.output,x1.tape⟩,n1,s1,k1⟩
end Go.VM
set_option linter.unusedVariables false
namespace Go.VM
def Ai:List Tmp→List AVal→List AVal
  |[],af=>af
  |j::js,af=>Ai js (af.set j .any)
def Dt:List AVal→List Tmp→List AVal→List AVal
  |af,c::cs,v::vs=>Dt (af.set c v) cs vs
  |af,_,_=>af
def CW (af:List AVal) (cs:List Tmp):List AVal:=cs.map fun c=>af.getD c .any
section
variable{E:Env}{F:Nat→Nat}{Γ:Ghost}{st:St}{w:World}{af:List AVal}{a:Act}{Q:APost}
theorem Sim.setAny (hs:Sim E F Γ st w af a.tmps.toList) (j:Tmp):Sim E F Γ st w (af.set j .any) a.tmps.toList:=by
  have key: ∀ {xs:List AVal}{vs:List Value} (j:Nat),RepL Γ xs vs→RepL Γ (xs.set j .any) vs:=by
    intro xs
    induction xs with
    |nil=>intro vs j h;cases h;simpa using RepL.nil
    | cons x xs ih=>intro vs j h;cases h with
      | cons h t=>cases j with
        |zero=>exact .cons (.any _) t
        |succ j=>exact .cons h (ih j t)
  have keyo: ∀ {xs:List AVal}{vs:List Value} (j:Nat),ownL Γ w xs vs→ownL Γ w (xs.set j .any) vs:=by
    intro xs
    induction xs with
    |nil=>intro vs j h;simp[ownL]
    | cons x xs ih=>intro vs j h;cases vs with
      |nil=>cases j<;>simp[ownL]
      | cons v vs=>
        rw[ownL]at h
        cases j with
        |zero=>simp only[List.set_cons_zero,ownL];exact⟨by simp[VM.own],h.2⟩
        |succ j=>simp only[List.set_cons_succ,ownL];exact⟨h.1,ih j h.2⟩
  have keyc: ∀(xs:List AVal) (vs:List Value) (j b:Nat),AL b (xs.set j .any) vs≤AL b xs vs:=by
    intro xs
    induction xs with
    |nil=>intro vs j b;simp
    | cons x xs ih=>intro vs j b;cases vs with
      |nil=>cases j<;>simp[AL]
      | cons v vs=>cases j with
        |zero=>simp only[List.set_cons_zero,AL,cnt];omega
        |succ j=>simp only[List.set_cons_succ,AL];have:=ih vs j b;omega
  exact {hs with rep:=key j hs.rep,own:=keyo j hs.own,tok:=fun b=>by have:=keyc af a.tmps.toList j b;have:=hs.tok b;omega}
theorem Sim.mask (js:List Tmp): ∀ {af:List AVal},Sim E F Γ st w af a.tmps.toList→Sim E F Γ st w (Ai js af) a.tmps.toList:=by
  induction js with
  |nil=>intro af hs;exact hs
  |cons j js ih=>intro af hs;exact ih (hs.setAny j)
theorem UR{c:Code} (js:List Tmp) (h:AWp E c Q (Ai js af) st):AWp E c Q af st:=⟨fun F Γ w a hd hs=>h.go F Γ w a hd (hs.mask js)⟩
theorem Nu (js:List Tmp): ∀(af:List AVal) (j:Tmp),Ai js (af.set j .any)=(Ai js af).set j .any:=by
  induction js with
  |nil=>intro af j;rfl
  | cons k js ih=>
    intro af j
    simp only[Ai]
    by_cases hk:j=k
    · subst hk;rw[List.set_set,ih];simp
    · rw[List.set_comm _ _ hk,ih]
theorem Lu: ∀(cs:List Tmp) (af af0:List AVal),Ai cs af=Ai cs af0→af=Dt af0 cs (CW af cs):=by
  intro cs
  induction cs with
  |nil=>intro af af0 h;exact h
  | cons c cs ih=>
    intro af af0 h
    simp only[Ai]at h
    simp only[CW,List.map_cons,Dt]
    have h2:Ai cs af=Ai cs (af0.set c (af.getD c .any)):=by
      have hl:af.length=af0.length:=by
        have hlen: ∀(l:List Tmp) (x:List AVal),(Ai l x).length=x.length:=by
          intro l
          induction l with
          |nil=>intro x;rfl
          |cons j l ih=>intro x;simp[Ai,ih]
        have:=congrArg List.length h
        simpa[hlen]using this
      rw[Nu,Nu]at h
      apply List.ext_getElem?
      intro i
      have hi:=congrArg (·[i]?) h
      simp only[List.getElem?_set]at hi
      have hmask: ∀(l:List Tmp) (x:List AVal) (k:Nat),(Ai l x)[k]?=if k∈l then(if k<x.length then some .any else none)else x[k]?:=by
        intro l
        induction l with
        |nil=>intro x k;simp[Ai]
        | cons j l ih=>
          intro x k
          simp only[Ai,ih,List.length_set,List.mem_cons]
          by_cases hkl:k∈l
          · simp[hkl]
          · by_cases hkj:k=j
            · subst hkj
              simp only[hkl,if_false,true_or,if_true,List.getElem?_set]
            · simp only[hkl,if_false,hkj,or_false,List.getElem?_set]
              rw[if_neg (fun e=>hkj e.symm)]
      rw[hmask,hmask]
      rw[hmask,hmask]at hi
      by_cases hic:i∈cs
      · simp[hic,hl]
      · simp only[hic,if_false]at hi⊢
        rw[List.getElem?_set]
        by_cases hci:c=i
        · subst hci
          simp only[if_true]
          by_cases hlt:c<af.length
          · have hlt0:c<af0.length:=by rw[←hl];exact hlt
            rw[if_pos hlt0]
            simp[List.getD,List.getElem?_eq_getElem hlt]
          · have hlt0: ¬c<af0.length:=by rw[←hl];exact hlt
            rw[if_neg hlt0,List.getElem?_eq_none (Nat.le_of_not_lt hlt)]
        · rw[if_neg hci]at hi
          rw[if_neg hci]at hi
          rw[if_neg hci];exact hi
    exact ih af _ h2
theorem Pw{c:Code} (js cs:List Tmp) (I:Nat→List AVal→St→Prop) (n₀:Nat) (h₀:I n₀ (CW (Ai js af) cs) st)
    (round: ∀n vs st',I n vs st'→ ∀J:List AVal→St→Prop,
      (∀n' af' st' m,n'<n→m.Sublist st'.m→Ai cs (Ai js af')=Ai cs (Ai js af)→I n' (CW (Ai js af') cs) {st' with m:=m}→J af' st')→
      AWp E c (kPost J Q) (Dt (Ai js af) cs vs) st'):AWp E (.loop c) Q af st:=by
  refine UR js ?_
  constructor
  intro F Γ w a hd hs
  refine wp_loop_ghost (fun n a' w'=>a'.defers=[]∧ ∃Γ' vs st',Ext F Γ w Γ' w'∧st.next≤st'.next∧Sim E F Γ' st' w' (Dt (Ai js af) cs vs) a'.tmps.toList∧I n vs st') n₀
    ⟨hd,Γ,CW (Ai js af) cs,st,Ext.refl _ _ _,Nat.le_refl _,by rw[←Lu cs _ _ rfl];exact hs,h₀⟩ ?_
  intro n a₁ w₁ ⟨hd1,Γ₁,vs₁,st₁,h2,h3,h4,h5⟩
  refine wp_mono ((round n vs₁ st₁ h5 (fun af' st'=> ∃n' m,n'<n∧m.Sublist st'.m∧Ai cs (Ai js af')=Ai cs (Ai js af)∧I n' (CW (Ai js af') cs) {st' with m:=m}) (fun n' af' st' m k1 k2 k3 k4=>⟨n',m,k1,k2,k3,k4⟩)).go F Γ₁ w₁ a₁ hd1 h4) ?_
  intro e a' w' hq
  have hq:=Tc h2 h3 hq
  cases e with
  | normal=>
    obtain⟨_,k1,Γ',af',st',k2,k3,k4,kk⟩:=hq
    obtain⟨n',m,k5,k6,k7,k8⟩:=kk.get
    refine⟨n',k5,k1,Γ',CW (Ai js af') cs,{st' with m:=m},k2,k3,?_,k8⟩
    rw[←Lu cs _ _ k7]
    exact(k4.mask js).fewer k6
  | _=>
    obtain⟨k0,k1,Γ',af',st',k2,k3,k4,kk⟩:=hq
    exact⟨k0,k1,Γ',af',st',k2,k3,k4,kk.out (by simp)⟩
theorem ACall.strip{f:FuncId}{args:List AVal}{Q:AVal→St→Prop} (h:ACall E f args st fun r st'=>Q r.strip st'):ACall E f args st Q:=
  ⟨fun F Γ w cargs hs=>(h.go F Γ w cargs hs).mono fun e w' ⟨v,he,Γ',r,st',h1,h2,h3,h4⟩=>⟨v,he,Γ',r.strip,st',h1,h2,by
    have hr:Rep Γ' r v:=by have:=h3.rep;cases this;assumption
    have ht: ∀b,F b+AL b [r.strip] [v]+Ac Γ' w' b st'.m≤1:=fun b=>by
      have:=h3.tok b
      have e:AL b [r.strip] [v]=0:=by simp[AL,JQ]
      rw[e];omega
    exact {h3 with rep:=.cons hr.strip .nil,own:=(by rw[ownL];exact⟨J9 _ _ _ _,by simp[ownL]⟩),tok:=ht},h4⟩⟩
end
end Go.VM
set_option linter.unusedVariables false
namespace Go.VM
mutual
def bnd:AVal→Prop
  |.agg cs=>bndL cs
  |.tuple cs=>bndL cs
  |.slice _ xs _=>xs.length≤Dk
  |.str s=>s.length≤Dk
  |.buf _ l _=>l.length≤Dk
  |_=>True
def bndL:List AVal→Prop
  |[]=>True
  |x::xs=>bnd x∧bndL xs
end
mutual
theorem Rep.bnd{Γ:Ghost}: {x:AVal}→ {v:Value}→Rep Γ x v→VM.bnd x
  |_,_,.any v=>by simp[VM.bnd]
  |_,_,.bool b=>by simp[VM.bnd]
  |_,_,.int k n=>by simp[VM.bnd]
  |_,_,.str b h=>by simp only[VM.bnd];exact h
  |_,_,.agg h o=>by simp only[VM.bnd];exact RepL.bndL h
  |_,_,.tuple h=>by simp only[VM.bnd];exact RepL.bndL h
  |_,_,.snil w o a=>by simp[VM.bnd]
  |_,_,.slice o hb hl hc h _=>by simp only[VM.bnd];omega
  |_,_,.ptr h=>by simp[VM.bnd]
  |_,_,.nilp=>by simp[VM.bnd]
  |_,_,.cptr hb hd h _=>by simp[VM.bnd]
  |_,_,.fn h k=>by simp[VM.bnd]
  |_,_,.nilFn=>by simp[VM.bnd]
  |_,_,.iface h=>by simp[VM.bnd]
  |_,_,.nilIface=>by simp[VM.bnd]
  |_,_,.iter _ _ _=>by simp[VM.bnd]
  |_,_,.bsl _ _ _=>by simp[VM.bnd]
  |_,_,.nself _=>by simp[VM.bnd]
  | _,_,.buf _ h _=>by
    have:=Rep.bnd h
    simp only[VM.bnd,u8s,List.length_map]at this⊢
    exact this
  |_,_,.bnil _ _=>by simp[VM.bnd]
  |_,_,.bufp _ _ _ _ _=>by simp[VM.bnd]
  |_,_,.map _ _ _=>by simp[VM.bnd]
  |_,_,.slop _ _ _ _=>by simp[VM.bnd]
  |_,_,.sh _ _=>by simp[VM.bnd]
  |_,_,.sptr _=>by simp[VM.bnd]
  |_,_,.gsl _ _ _ _=>by simp[VM.bnd]
  |_,_,.nmap=>by simp[VM.bnd]
  |_,_,.nbuf _=>by simp[VM.bnd]
  |_,_,.trow _ _ _ _=>by simp[VM.bnd]
theorem RepL.bndL{Γ:Ghost}: {xs:List AVal}→ {vs:List Value}→RepL Γ xs vs→VM.bndL xs
  |_,_,.nil=>by simp[VM.bndL]
  |_,_,.cons h t=>by simp only[VM.bndL];exact⟨Rep.bnd h,RepL.bndL t⟩
end
theorem RepS.bndL{Γ:Ghost}{w:Nat}{xs:List AVal}{cs:List Value} (h:RepS Γ w xs cs):VM.bndL xs:=by
  induction xs generalizing cs with
  |nil=>simp[VM.bndL]
  | cons x xs ih=>cases h with
    |cons h hw t=>simp only[VM.bndL];exact⟨h.bnd,ih t⟩
def keysLt (n:Nat) (m:List (Nat×List AVal)):Prop:= ∀i,n≤i→Bd m i=none
theorem Sim.keysLt{E:Env}{F:Nat→Nat}{Γ:Ghost}{st:St}{w:World}{af:List AVal}{tm:List Value} (hs:Sim E F Γ st w af tm):keysLt st.next st.m:=by
  intro i hi
  cases hm:Bd st.m i with
  |none=>rfl
  | some c=>
    have:=hs.key_lt (La hm)
    have h2:i<st.next:=this
    omega
theorem AWp.known{E:Env}{c:Code}{Q:APost}{af:List AVal}{st:St} (h:bndL af→keysLt st.next st.m→AWp E c Q af st):AWp E c Q af st:=
  ⟨fun F Γ w a hd hs=>(h hs.rep.bndL hs.keysLt).go F Γ w a hd hs⟩
theorem ACall.known{E:Env}{f:FuncId}{args:List AVal}{st:St}{Q:AVal→St→Prop} (h:bndL args→keysLt st.next st.m→ACall E f args st Q):ACall E f args st Q:=
  ⟨fun F Γ w cargs hs=>(h hs.rep.bndL hs.keysLt).go F Γ w cargs hs⟩
inductive Deep:AVal→Prop
  |leaf{x:AVal} (h:bnd x) (hc:match x with|.agg _|.tuple _|.slice _ _ _=>False|_=>True):Deep x
  |agg{cs:List AVal} (h: ∀x,x∈cs→Deep x):Deep (.agg cs)
  |tuple{cs:List AVal} (h: ∀x,x∈cs→Deep x):Deep (.tuple cs)
  |slice{w:Nat}{xs:List AVal}{o:Bool} (hl:xs.length≤Dk) (h: ∀x,x∈xs→Deep x):Deep (.slice w xs o)
theorem Deep.bnd{x:AVal} (h:Deep x):VM.bnd x:=by
  induction h with
  |leaf h hc=>exact h
  | agg h ih=>
    rename_i cs
    simp only[VM.bnd]
    clear h
    induction cs with
    |nil=>simp[VM.bndL]
    |cons x xs ih2=>simp only[VM.bndL];exact⟨ih x (by simp),ih2 fun y hy=>ih y (by simp[hy])⟩
  | tuple h ih=>
    rename_i cs
    simp only[VM.bnd]
    clear h
    induction cs with
    |nil=>simp[VM.bndL]
    |cons x xs ih2=>simp only[VM.bndL];exact⟨ih x (by simp),ih2 fun y hy=>ih y (by simp[hy])⟩
  |slice hl h ih=>simp only[VM.bnd];exact hl
end Go.VM
set_option linter.unusedVariables false
namespace Go.VM
section
variable{E:Env}{mv:List Tmp}{ops:Array Oper}{K:List AVal→St→Prop}{af:List AVal}{st:St}
def Lm (x:Option AVal) (d:Option Tmp) (K:List AVal→St→Prop) (af:List AVal) (st:St):Prop:=
  match x with|some r=>K (Av af d r) st|none=>False
def JN (x:Option AVal) (d:Option Tmp) (K:List AVal→St→Prop) (af:List AVal) (st:St):Prop:=
  match x with|some r=>K (Av af d r.strip) st|none=>False
def NY (x:Option (AVal×St)) (d:Option Tmp) (K:List AVal→St→Prop) (af:List AVal):Prop:=
  match x with|some p=>K (Av af d p.1) p.2|none=>False
def ANz (b:Bool) (x:AVal) (d:Option Tmp) (K:List AVal→St→Prop) (af:List AVal) (st:St):Prop:=
  if b=true then K (Av af d (.ptr st.next 0)) {m:=(st.next,Aa x)::st.m,next:=st.next+1}else False
def TV (x:Option (List AVal)) (d:Option Tmp) (K:List AVal→St→Prop) (af:List AVal) (st:St):Prop:=
  match x with|some cs=>K (Av af d (.ptr st.next 0)) {m:=(st.next,cs)::st.m,next:=st.next+1}|none=>False
def AHM (x u:Option AVal) (y:Option (AVal×St)) (st:St):Option (AVal×St):=
  match x with
  |some r=>some (r.strip,st)
  |none=>match u with|some r=>some (r,st)|none=>y
def M3 (x:Option St) (K:List AVal→St→Prop) (af:List AVal):Prop:=
  match x with|some st=>K af st|none=>False
def AIf (x:AVal) (n:Nat):Option AVal:=match x with|.tuple vs=>vs[n]?|_=>none
def AJL (x:AVal) (n:Nat):AVal:=match x with|.tuple vs=>.tuple (vs.set n ((vs.getD n .any).strip))|x=>x
def UV (E:Env) (t:TypeId) (x:AVal) (lo hi mx:Option (Option Int)) (d:Option Tmp) (K:List AVal→St→Prop) (af:List AVal) (st:St):Prop:=
  match lo,hi,mx with
  |some l,some h,some m=>Lm (E5 E t x l h m) d K af st
  |_,_,_=>False
def AN4 (d:Option Tmp) (K:List AVal→St→Prop) (af:List AVal):AVal→St→Prop:=fun r st=>K (Av af d r) st
def ADk (E:Env) (f:AVal) (xs:List AVal) (d:Option Tmp) (K:List AVal→St→Prop) (af:List AVal) (st:St):Prop:=
  match f with
  |.fn (.func g) p q=>CallX E g (stripL (p++xs++q)) st (AN4 d K af)
  |_=>False
theorem AKp{r:AVal}{d:Option Tmp}:Lm (some r) d K af st=K (Av af d r) st:=rfl
theorem AHc{r:AVal}{d:Option Tmp}:JN (some r) d K af st=K (Av af d r.strip) st:=rfl
theorem AI5{r:AVal}{s:St}{d:Option Tmp}:NY (some (r,s)) d K af=K (Av af d r) s:=rfl
theorem ALQ{x:AVal}{d:Option Tmp}:ANz true x d K af st=K (Av af d (.ptr st.next 0)) {m:=(st.next,Aa x)::st.m,next:=st.next+1}:=by simp[ANz]
theorem AFC{cs:List AVal}{d:Option Tmp}:TV (some cs) d K af st=K (Av af d (.ptr st.next 0)) {m:=(st.next,cs)::st.m,next:=st.next+1}:=rfl
theorem AZt{r:AVal}{u:Option AVal}{y:Option (AVal×St)}:AHM (some r) u y st=some (r.strip,st):=rfl
theorem AYH{r:AVal}{y:Option (AVal×St)}:AHM none (some r) y st=some (r,st):=rfl
theorem AZX{y:Option (AVal×St)}:AHM none none y st=y:=rfl
theorem AE3:M3 (some st) K af=K af st:=rfl
theorem YJ{n:Nat}{vs:List AVal}:AIf (.tuple vs) n=vs[n]?:=rfl
theorem ZF{n:Nat}{vs:List AVal}:AJL (.tuple vs) n=.tuple (vs.set n ((vs.getD n .any).strip)):=rfl
theorem AE5{t:TypeId}{x:AVal}{lo hi mx:Option Int}{d:Option Tmp}:UV E t x (some lo) (some hi) (some mx) d K af st=Lm (E5 E t x lo hi mx) d K af st:=rfl
theorem ATD{d:Option Tmp}{r:AVal}:AN4 d K af r st=K (Av af d r) st:=rfl
theorem AQD{g:FuncId}{p q xs:List AVal}{d:Option Tmp}:ADk E (.fn (.func g) p q) xs d K af st=if callable E.P g=true then ACall E g (stripL (p++xs++q)) st (AN4 d K af)else Wz E g (stripL (p++xs++q)) st (AN4 d K af):=rfl
theorem ATP{d:Option Tmp}:Ll [] d=false:=by cases d<;>rfl
section ops
variable{d:Option Tmp}{ty:TypeId}{pos:String}{aft:Array Edge}{g:Option (Nat×Bool)}
def mvK (b:Bool) (x:Operand) (ty:TypeId) (E:Env) (d:Option Tmp) (K:List AVal→St→Prop) (af:List AVal) (st:St):Prop:=
  if b=true then K (Av (stripAt af x) d (rd E af ty x)) st else K (Av af d (rd E af ty x).strip) st
theorem AR4{x:Operand}:mvK true x ty E d K af st=K (Av (stripAt af x) d (rd E af ty x)) st:=by simp[mvK]
theorem ALD{x:Operand}:mvK false x ty E d K af st=K (Av af d (rd E af ty x).strip) st:=by simp[mvK]
def ldK (b:Bool) (t:TypeId) (x:AVal) (E:Env) (d:Option Tmp) (K:List AVal→St→Prop) (af:List AVal) (st:St):Prop:=
  if b=true then NY (MR E t x st) d K af else JN (NW E t x st) d K af st
theorem AQZ{t:TypeId}{x:AVal}:ldK true t x E d K af st=NY (MR E t x st) d K af:=by simp[ldK]
theorem ANF{t:TypeId}{x:AVal}:ldK false t x E d K af st=JN (NW E t x st) d K af st:=by simp[ldK]
theorem AV7{x:Operand}:Cq E mv ⟨d,.move x,ty,pos,aft,g⟩ af st K=mvK (Ll mv d) x ty E d K af st:=by
  simp only[Cq,EE,mvK];cases Ll mv d<;>simp
theorem AMo{x:Operand}:Cq E mv ⟨d,.assign x,ty,pos,aft,g⟩ af st K=K (Av (stripAt af x) d (rd E af ty x)) st:=rfl
def alG{α:Type} (b:Bool) (x y:Option α):Option α:=if b=true then x else y
theorem Aai{α:Type}{x y:Option α}:alG false x y=y:=rfl
theorem Aar{α:Type}{x y:Option α}:alG true x y=x:=rfl
theorem ASw{t:TypeId}:Cq E mv ⟨d,.alloc t,ty,pos,aft,g⟩ af st K=TV (alG (Ll mv d) (Pj E.P t st.next) (Dm E.P t st.next)) d K af st:=by
  simp only[Cq,EE,TV,alG];cases Ll mv d<;>simp only[if_true,if_false,Bool.false_eq_true]
  · cases Dm E.P t st.next<;>rfl
  · cases Pj E.P t st.next<;>rfl
theorem AZ3{t:TypeId}{x:Operand}:Cq E mv ⟨d,.box t x,ty,pos,aft,g⟩ af st K=ANz (DY (rd E af t x)) (rd E af t x) d K (stripAt af x) st:=by
  simp only[Cq,EE,ANz];cases DY (rd E af t x)<;>simp
theorem AQN{t:TypeId}{ps:List (Nat×Operand)}:Cq E mv ⟨d,.build t ⟨ps⟩,ty,pos,aft,g⟩ af st K=Lm (OD E t (BD E (AY E.P t) af ps).2) d K (BD E (AY E.P t) af ps).1 st:=by
  simp only[Cq,EE,Lm];cases OD E t (BD E (AY E.P t) af ps).2<;>rfl
def bsK (b:Bool) (u:Option (Nat×List AVal)) (v:Option AVal) (n:Nat) (d:Option Tmp) (K:List AVal→St→Prop) (af1 af:List AVal) (st:St):Prop:=
  if b=true then(match u with|some p=>K (Av af1 d (.gsl p.1 st.next n)) {m:=(st.next,p.2)::st.m,next:=st.next+1}|none=>False)else Lm v d K af st
theorem AOX{u:Option (Nat×List AVal)}{v:Option AVal}{n:Nat}{af1:List AVal}:bsK false u v n d K af1 af st=Lm v d K af st:=by simp[bsK]
theorem AQH{v:Option AVal}{n w:Nat}{cs af1:List AVal}:bsK true (some (w,cs)) v n d K af1 af st=K (Av af1 d (.gsl w st.next n)) {m:=(st.next,cs)::st.m,next:=st.next+1}:=by simp[bsK]
theorem VG{t:TypeId}{n:Nat}{ps:List (Nat×Operand)}:Cq E mv ⟨d,.buildSlice t n ⟨ps⟩,ty,pos,aft,g⟩ af st K=bsK (Ll mv d) (HZ E t n (BD E (fun _=>AY E.P t 0) af ps).2) (FW E t n (BD E (fun _=>AY E.P t 0) af ps).2) n d K (BD E (fun _=>AY E.P t 0) af ps).1 af st:=by
  simp only[Cq,EE,Lm,bsK]
  cases Ll mv d
  · simp only[Bool.false_eq_true,if_false];cases FW E t n (BD E (fun _=>AY E.P t 0) af ps).2<;>rfl
  · simp only[if_true];cases HZ E t n (BD E (fun _=>AY E.P t 0) af ps).2<;>rfl
theorem AUg{t:TypeId}{x:Operand}:Cq E mv ⟨d,.load t x,ty,pos,aft,g⟩ af st K=ldK (Ll mv d) t (rd E af 0 x) E d K af st:=by
  simp only[Cq,EE,ldK,NY,JN]
  cases Ll mv d
  · simp only[Bool.false_eq_true,if_false];cases NW E t (rd E af 0 x) st<;>rfl
  · simp only[if_true];cases MR E t (rd E af 0 x) st<;>rfl
theorem AS1{t:TypeId}{x y:Operand}:Cq E mv ⟨none,.store t x y,ty,pos,aft,g⟩ af st K=M3 (MP E t (rd E af 0 x) (rd E af t y) st) K (stripAt af y):=by
  simp only[Cq,EE,M3,Option.isNone_none,if_true];cases MP E t (rd E af 0 x) (rd E af t y) st<;>rfl
theorem AJf{t n:Nat}:Cq E mv ⟨d,.extract (.tmp t) n,ty,pos,aft,g⟩ af st K=Lm (AIf (af.getD t .any) n) d K (af.set t (AJL (af.getD t .any) n)) st:=by
  simp only[Cq,EE]
  cases af.getD t .any with
  | tuple vs=>
    simp only[AIf,AJL,Lm,List.getD]
    cases vs[n]?<;>rfl
  |_=>rfl
theorem ARA{t:TypeId}{x:Operand}{lo hi mx:Option Operand}:Cq E mv ⟨d,.slice t x lo hi mx,ty,pos,aft,g⟩ af st K=UV E t (rd E af t x) (rdo E af lo) (rdo E af hi) (rdo E af mx) d K af st:=by
  simp only[Cq,EE,UV]
  cases rdo E af lo<;>cases rdo E af hi<;>cases rdo E af mx<;>(try rfl)
  simp only[Lm]
  cases E5 E t (rd E af t x) _ _ _<;>rfl
def Tg (g:Bool) (x:AVal) (d:Option Tmp) (K:List AVal→St→Prop) (af:List AVal) (st:St):Prop:=match x with|.str s=>if g=true then K (Av af d (.iter s 0)) st else False|_=>False
theorem AQT{t:TypeId}{x:Operand}:Cq E mv ⟨d,.range t x,ty,pos,aft,g⟩ af st K=Tg (Cy E.P t) (rd E af t x) d K af st:=by
  simp only[Cq,EE,Tg]
  cases rd E af t x with
  |str s=>simp only[];cases Cy E.P t<;>simp
  |_=>rfl
theorem AIj{s:List UInt8}:Tg true (.str s) d K af st=K (Av af d (.iter s 0)) st:=rfl
def Tq (x:AVal) (t:Tmp) (d:Option Tmp) (K:List AVal→St→Prop) (af:List AVal) (st:St):Prop:=match x with|.iter s pos=>K (Vu s pos t d af) st|_=>False
theorem AVU{t:Tmp}:Cq E mv ⟨d,.next (.tmp t) true,ty,pos,aft,g⟩ af st K=Tq (af.getD t .any) t d K af st:=by
  simp only[Cq,EE,Tq]
  cases af.getD t .any<;>rfl
theorem AJY{t:Tmp}{s:List UInt8}{p:Nat}:Tq (.iter s p) t d K af st=if decide (p<s.length)=true then K (Av (af.set t (.iter s (p+(Cm s p).2))) d (.tuple [.bool true,.int .i64 p,.int .i32 (Cm s p).1])) st else K (Av af d (.tuple [.bool false])) st:=by
  simp only[Tq,Vu];split<;>rfl
theorem AUS:J5 (.any)=false:=rfl
theorem ATY{b:Bool}:J5 (.bool b)=false:=rfl
theorem AWq{k:IntKind}{n:Int}:J5 (.int k n)=false:=rfl
theorem AWr{s:List UInt8}:J5 (.str s)=false:=rfl
theorem AXC{c:List AVal}:J5 (.agg c)=false:=rfl
theorem ANl{c:List AVal}:J5 (.tuple c)=false:=rfl
theorem ANN{w:Nat}{c:List AVal}{o:Bool}:J5 (.slice w c o)=false:=rfl
theorem AV4{i f:Nat}:J5 (.ptr i f)=false:=rfl
theorem AQg:J5 (.nilp)=false:=rfl
theorem ARq{c:List AVal}:J5 (.cptr c)=false:=rfl
theorem AYC{f:Fn}{p q:List AVal}:J5 (.fn f p q)=false:=rfl
theorem AKs:J5 (.nilFn)=false:=rfl
theorem AON{t:TypeId}{v:AVal}:J5 (.iface t v)=false:=rfl
theorem ACK:J5 (.nilIface)=false:=rfl
theorem AWk{w i f n:Nat}:J5 (.bsl w i f n)=false:=rfl
theorem ANk{i:Nat}{T:TypeId}{n:Nat}:J5 (.nself i T n)=false:=rfl
theorem AWO{e:TypeId}{l:List UInt8}{o:Bool}:J5 (.buf e l o)=false:=rfl
theorem AR5{e:TypeId}{l:List UInt8}{o:Bool}:J5 (.bufp e l o)=false:=rfl
def shS (b:Bool) (x y:Option St):Option St:=if b=true then x else y
theorem Aal{x y:Option St}:shS false x y=y:=by simp[shS]
theorem Aak{x y:Option St}:shS true x y=x:=by simp[shS]
def AI3 (E:Env) (t:TypeId) (addr v:AVal) (st:St):Option St:=
  match v with
  | .sh i=>
    match Bd st.m i with
    |some [.slice w xs o]=>if J5 addr=false then NU E t addr (.slice w xs o) {st with m:=Bl st.m i [.slice w xs false]}else none
    |_=>NU E t addr (.sh i) st
  |v=>NU E t addr v st
theorem V9{t:TypeId}{x v:AVal}:MP E t x v st=shS (J5 v) (AI3 E t x v st) (NU E t x v st):=by
  cases v<;>first|rfl|(simp only[shS,J5,if_true];rfl)
theorem AYh{t:TypeId}{i f:Nat}{v:AVal}:MP E t (.ptr i f) v st=shS (J5 v) (AI3 E t (.ptr i f) v st) (UL E t (.ptr i f) v st):=V9
theorem AW4{t:TypeId}{i w n:Nat}{v:AVal}:MP E t (.sptr i w n) v st=shS (J5 v) (AI3 E t (.sptr i w n) v st) (Zg E t (.sptr i w n) v st):=V9
def agK (b:Bool) (u:Option (Nat×Nat×List AVal×List (Nat×List AVal)×Option Nat)) (X:Prop) (d:Option Tmp) (K:List AVal→St→Prop) (af:List AVal) (st:St):Prop:=
  if b=true then(match u with|some (wd,l,cs,rest,jo)=> ∀i,i=st.next∨jo=some i→K (Av af d (.gsl wd i l)) {m:=(i,cs)::rest,next:=st.next+1}|none=>False)else X
theorem AMM{u:Option (Nat×Nat×List AVal×List (Nat×List AVal)×Option Nat)}{X:Prop}:agK false u X d K af st=X:=by simp[agK]
theorem ANw{w:Nat}{l:List AVal}{o:Bool}:PN (.slice w l o)=false:=rfl
theorem AWm{l:List UInt8}:PN (.str l)=false:=rfl
theorem AUW{w i n:Nat}:PN (.gsl w i n)=true:=rfl
theorem ARW{w:Nat}{l:List AVal}{o:Bool}{y:AVal}:AAY (.slice w l o) y=PN y:=by simp[AAY,PN]
theorem AYe{e:TypeId}{l:List UInt8}{o:Bool}{y:AVal}:AAY (.buf e l o) y=PN y:=by simp[AAY,PN]
theorem AYQ{w i n:Nat}{y:AVal}:AAY (.gsl w i n) y=true:=by simp[AAY,PN]
theorem AYg{t0 t1:TypeId}{x:AVal}{w i n:Nat}:appG E t0 t1 x (.gsl w i n) st=AVz E t0 t1 x (.gsl w i n) st:=rfl
theorem AUk{wd l:Nat}{cs:List AVal}{rest:List (Nat×List AVal)}{jo:Option Nat}{X:Prop}{d:Option Tmp}{K:List AVal→St→Prop}{af:List AVal}{st:St} (h: ∀i,i=st.next∨jo=some i→K (Av af d (.gsl wd i l)) {m:=(i,cs)::rest,next:=st.next+1}):agK true (some (wd,l,cs,rest,jo)) X d K af st:=by simpa[agK]using h
theorem AZq{t0 t1:TypeId}{x:AVal}{l:List UInt8}:appG E t0 t1 x (.str l) st=AL4 E t0 t1 x (.str l) st:=rfl
def apK (b:Bool) (u v:Option AVal) (d:Option Tmp) (K:List AVal→St→Prop) (af:List AVal) (st:St):Prop:=
  if b=true then(match u with|some r=>K (Av af d (.sh st.next)) {m:=(st.next,[r])::st.m,next:=st.next+1}|none=>False)else Lm v d K af st
theorem AKu{u v:Option AVal}:apK false u v d K af st=Lm v d K af st:=by simp[apK]
theorem APZ{v:Option AVal}{r:AVal}:apK true (some r) v d K af st=K (Av af d (.sh st.next)) {m:=(st.next,[r])::st.m,next:=st.next+1}:=by simp[apK]
theorem AHO{t:TypeId}:Cq E mv ⟨d,.makeMap t none,ty,pos,aft,g⟩ af st K=K (Av af d (.sh st.next)) {m:=(st.next,[.map [] []])::st.m,next:=st.next+1}:=rfl
theorem ANi{t:TypeId}{m k:Operand}{ok:Bool}:Cq E mv ⟨d,.lookup t m k ok,ty,pos,aft,g⟩ af st K=Lm (P9 E t (rd E af t m) (rd E af 0 k) ok st) d K af st:=by
  simp only[Cq,EE,Lm];cases P9 E t (rd E af t m) (rd E af 0 k) ok st<;>rfl
theorem AA6{t:TypeId}{m k x:Operand}:Cq E mv ⟨none,.mapUpdate t m k x,ty,pos,aft,g⟩ af st K=M3 (QB E t (rd E af t m) (rd E af 0 k) (rd E af 0 x) st) K af:=by
  simp only[Cq,EE,M3,Option.isNone_none,if_true];cases QB E t (rd E af t m) (rd E af 0 k) (rd E af 0 x) st<;>rfl
theorem AMp{t:TypeId}{m k x:Operand}:Cq E mv ⟨none,.insert t m k x,ty,pos,aft,g⟩ af st K=M3 (QB E t (rd E af t m) (rd E af 0 k) (rd E af 0 x) st) K af:=by
  simp only[Cq,EE,M3,Option.isNone_none,if_true];cases QB E t (rd E af t m) (rd E af 0 k) (rd E af 0 x) st<;>rfl
theorem AL7{x y:Operand}{t0 t1:TypeId}{ts:List TypeId}:Cq E mv ⟨d,.call {callee:=.builtin .append,args:=⟨[x,y]⟩,argTypes:=⟨t0::t1::ts⟩},ty,pos,aft,g⟩ af st K=agK (AAY (rd E af t0 x) (rd E af t1 y)) (appG E t0 t1 (rd E af t0 x) (rd E af t1 y) st) (apK (Ll mv d) (ME E t0 t1 (rd E af t0 x) (rd E af t1 y)) (FN E t0 t1 (rd E af t0 x) (rd E af t1 y)) d K (stripAt af x) st) d K af st:=by
  simp only[Cq,EE,Lm,apK,agK]
  cases AAY (rd E af t0 x) (rd E af t1 y)
  rotate_left
  · first|rfl|(simp only[if_true];done)|(simp only[if_true];rfl)
  simp only[Bool.false_eq_true,if_false]
  cases Ll mv d
  · simp only[Bool.false_eq_true,if_false];cases FN E t0 t1 (rd E af t0 x) (rd E af t1 y)<;>rfl
  · simp only[if_true];cases ME E t0 t1 (rd E af t0 x) (rd E af t1 y)<;>rfl
theorem AVJ{f:Operand}{xs:List Operand}{ts:List TypeId}:Cq E mv ⟨d,.call {callee:=.value f,args:=⟨xs⟩,argTypes:=⟨ts⟩},ty,pos,aft,g⟩ af st K=ADk E (rd E af 0 f) (rdL E af xs ts) d K af st:=by
  simp only[Cq,ADk]
  rfl
theorem H6{o:Oper} (h:Cq E mv o af st K=(match(Bi E o af).map fun r=>(Av af o.dst r.strip,st)with|some (af',st')=>K af' st'|none=>False)):Cq E mv o af st K=JN (Bi E o af) o.dst K af st:=by
  rw[h];simp only[JN];cases Bi E o af<;>rfl
def APs (c x y:AVal):Option AVal:=match c with|.bool t=>some (if t=true then x else y)|_=>none
theorem AIw{b:Bool}{x y:AVal}:APs (.bool b) x y=some (if b=true then x else y):=rfl
theorem AV6{c x y:Operand}:Cq E mv ⟨d,.pick c x y,ty,pos,aft,g⟩ af st K=JN (APs (rd E af 0 c) (rd E af ty x) (rd E af ty y)) d K af st:=H6 rfl
theorem AEl{x:Operand}:Cq E mv ⟨d,.nilCheck x,ty,pos,aft,g⟩ af st K=JN (JL (rd E af 0 x)) d K af st:=H6 rfl
theorem AQj{op:BinOp}{t u:TypeId}{x y:Operand}:Cq E mv ⟨d,.binOp op t x y u,ty,pos,aft,g⟩ af st K=JN (Ei E op t (rd E af t x) (rd E af t y)) d K af st:=H6 rfl
theorem AVP{op:UnOp}{t:TypeId}{x:Operand}:Cq E mv ⟨d,.unOp op t x,ty,pos,aft,g⟩ af st K=JN (unA op (rd E af 0 x)) d K af st:=H6 rfl
theorem AHV{s t:TypeId}{x:Operand}:Cq E mv ⟨d,.convert s t x,ty,pos,aft,g⟩ af st K=NY (AHM (Mg E s t (rd E af s x)) (Ns E s t (rd E af s x) st) (Mw E s t (rd E af s x) st) st) d K af:=by
  have h:Bi E ⟨d,.convert s t x,ty,pos,aft,g⟩ af=Mg E s t (rd E af s x):=rfl
  simp only[Cq,EE,NY,h]
  cases Mg E s t (rd E af s x)with
  |some r=>rfl
  | none=>
    simp only[AHM]
    cases Ns E s t (rd E af s x) st with
    |some r=>rfl
    |none=>simp only[];cases Mw E s t (rd E af s x) st<;>rfl
theorem ABR{t:TypeId}{x y:Operand}:Cq E mv ⟨d,.makeSlice t x y,ty,pos,aft,g⟩ af st K=NY (alG (Ll mv d) (QQ E t (rd E af 0 x) (rd E af 0 y) st) (QG E t (rd E af 0 x) (rd E af 0 y) st)) d K af:=by
  simp only[Cq,EE,NY,alG];cases Ll mv d<;>simp only[if_true,if_false,Bool.false_eq_true]
  · cases QG E t (rd E af 0 x) (rd E af 0 y) st<;>rfl
  · cases QQ E t (rd E af 0 x) (rd E af 0 y) st<;>rfl
theorem ARr{x:Operand}{t0:TypeId}{ts:List TypeId}:Cq E mv ⟨d,.call {callee:=.builtin .unsafeSliceData,args:=⟨[x]⟩,argTypes:=⟨t0::ts⟩},ty,pos,aft,g⟩ af st K=Lm (Nz (rd E af t0 x)) d K (stripAt af x) st:=by
  simp only[Cq,EE,Lm];cases Nz (rd E af t0 x)<;>rfl
theorem AWC{x y:Operand}{t0 t1:TypeId}:Cq E mv ⟨d,.call {callee:=.builtin .unsafeString,args:=⟨[x,y]⟩,argTypes:=⟨[t0,t1]⟩},ty,pos,aft,g⟩ af st K=Lm (P5 E t0 (rd E af t0 x) (rd E af t1 y)) d K (stripAt af x) st:=by
  simp only[Cq,EE,Lm];cases P5 E t0 (rd E af t0 x) (rd E af t1 y)<;>rfl
theorem AET{f:Fn}{p q:List Operand}:Cq E mv ⟨d,.makeFunc f ⟨p⟩ ⟨q⟩,ty,pos,aft,g⟩ af st K=K (Av af d (AVal.fn f (p.map (rd E af 0)) (q.map (rd E af 0))).strip) st:=H6 rfl
theorem Zk{s:TypeId}{x:Operand}{f:Nat}:Cq E mv ⟨d,.fieldAddr s x f,ty,pos,aft,g⟩ af st K=JN (KG E s (rd E af 0 x) f) d K af st:=H6 rfl
theorem ATS{s:TypeId}{x:Operand}{f:Nat}:Cq E mv ⟨d,.field s x f,ty,pos,aft,g⟩ af st K=JN (PW E s (rd E af s x) f) d K af st:=H6 rfl
theorem Ze{t:TypeId}{x i:Operand}:Cq E mv ⟨d,.indexAddr t x i,ty,pos,aft,g⟩ af st K=NY (AHM (ED E t (rd E af t x) (rd E af 0 i)) (Iz E t (rd E af t x) (rd E af 0 i) st) none st) d K af:=by
  have h:Bi E ⟨d,.indexAddr t x i,ty,pos,aft,g⟩ af=ED E t (rd E af t x) (rd E af 0 i):=rfl
  simp only[Cq,EE,NY,h]
  cases ED E t (rd E af t x) (rd E af 0 i)with
  |some r=>rfl
  | none=>
    simp only[AHM]
    cases Iz E t (rd E af t x) (rd E af 0 i) st<;>rfl
theorem AQB{t:TypeId}{x i:Operand}:Cq E mv ⟨d,.index t x i,ty,pos,aft,g⟩ af st K=JN (Px E t (rd E af t x) (rd E af 0 i)) d K af st:=H6 rfl
theorem AZc{x:Operand}{t:TypeId}{ts:List TypeId}:Cq E mv ⟨d,.call {callee:=.builtin .len,args:=⟨[x]⟩,argTypes:=⟨t::ts⟩},ty,pos,aft,g⟩ af st K=JN (VS E t (rd E af t x)) d K af st:=H6 rfl
theorem AYu{x:Operand}{t:TypeId}{ts:List TypeId}:Cq E mv ⟨d,.call {callee:=.builtin .cap,args:=⟨[x]⟩,argTypes:=⟨t::ts⟩},ty,pos,aft,g⟩ af st K=JN (AQ6 E t (rd E af t x)) d K af st:=H6 rfl
theorem AXZ{x y:Operand}{t s:TypeId}:Cq E mv ⟨d,.call {callee:=.builtin .copy,args:=⟨[x,y]⟩,argTypes:=⟨[t,s]⟩},ty,pos,aft,g⟩ af st K=JN (AKQ E t (rd E af t x) (rd E af s y)) d K af st:=H6 rfl
theorem AX9{x y:Operand}{ts:Array TypeId}:Cq E mv ⟨d,.call {callee:=.builtin .min,args:=⟨[x,y]⟩,argTypes:=ts},ty,pos,aft,g⟩ af st K=JN (AMA (rd E af 0 x) (rd E af 0 y)) d K af st:=H6 rfl
theorem AYF{x y:Operand}{ts:Array TypeId}:Cq E mv ⟨d,.call {callee:=.builtin .max,args:=⟨[x,y]⟩,argTypes:=ts},ty,pos,aft,g⟩ af st K=JN (AMn (rd E af 0 x) (rd E af 0 y)) d K af st:=H6 rfl
def gdD (d:Option Tmp) (af:List AVal) (want:Bool):Option Bool:=match d with|some i=>gd (af.getD i .any) want|none=>none
def Kr:List Oper→Nat→Option Tmp
  |[],_=>none
  |o::_,0=>o.dst
  |_::os,n+1=>Kr os n
theorem ASP (os:List Oper) (j:Nat):Kr os j=((List.toArray os)[j]?).bind (·.dst):=by
  rw[List.getElem?_toArray]
  induction os generalizing j with
  |nil=>simp[Kr]
  | cons o os ih=>cases j with
    |zero=>simp[Kr]
    |succ j=>simp[Kr,ih]
theorem AHI (os:List Oper) (j:Nat) (want:Bool):gdA ⟨os⟩ af j want=gdD (Kr os j) af want:=by
  rw[ASP];rfl
theorem AUX:IP E mv ops [] K af st=K af st:=rfl
theorem AO8{op:Op}{os:List Oper}:IP E mv ops (⟨d,op,ty,pos,aft,none⟩::os) K af st=Cq E mv ⟨d,op,ty,pos,aft,none⟩ af st (IP E mv ops os K):=rfl
theorem ALm{op:Op}:Jt E ops ⟨d,op,ty,pos,aft,none⟩ af st=EB E ⟨d,op,ty,pos,aft,none⟩ af st:=rfl
theorem AWX{op:Op}{os':List Oper}{j:Nat}{want:Bool}:Jt E ⟨os'⟩ ⟨d,op,ty,pos,aft,some (j,want)⟩ af st=
    if gdD (Kr os' j) af want=some true then EB E ⟨d,op,ty,pos,aft,some (j,want)⟩ af st else if gdD (Kr os' j) af want=some false then some (.tuple [])else none:=by
  simp only[Jt,AHI]
  cases gdD (Kr os' j) af want with
  |none=>simp
  |some b=>cases b<;>simp
def Iy (x:Option AVal):Option AVal:=x.map AVal.strip
theorem AGh{r:AVal}:Iy (some r)=some r.strip:=rfl
theorem AUi{x:Operand}:EB E ⟨d,.move x,ty,pos,aft,g⟩ af st=some (rd E af ty x).strip:=rfl
theorem AVS{t:TypeId}{x:Operand}:EB E ⟨d,.load t x,ty,pos,aft,g⟩ af st=Iy (NW E t (rd E af 0 x) st):=rfl
def AH5 (E:Env) (t:TypeId) (x:AVal) (lo hi mx:Option (Option Int)):Option AVal:=match lo,hi,mx with|some l,some h,some m=>E5 E t x l h m|_,_,_=>none
theorem AEc{t:TypeId}{x:AVal}{lo hi mx:Option Int}:AH5 E t x (some lo) (some hi) (some mx)=E5 E t x lo hi mx:=rfl
theorem APt{t:TypeId}{x:Operand}{lo hi mx:Option Operand}:EB E ⟨d,.slice t x lo hi mx,ty,pos,aft,g⟩ af st=AH5 E t (rd E af t x) (rdo E af lo) (rdo E af hi) (rdo E af mx):=by
  simp only[EB,AH5]
  all_goals (cases rdo E af lo<;>cases rdo E af hi<;>cases rdo E af mx<;>rfl)
theorem VX{t:TypeId}{n:Nat}{ps:List (Nat×Operand)}:EB E ⟨d,.buildSlice t n ⟨ps⟩,ty,pos,aft,g⟩ af st=FW E t n (BD E (fun _=>AY E.P t 0) af ps).2:=rfl
theorem AVW{c x y:Operand}:EB E ⟨d,.pick c x y,ty,pos,aft,g⟩ af st=Iy (APs (rd E af 0 c) (rd E af ty x) (rd E af ty y)):=rfl
theorem ACx{x:Operand}:EB E ⟨d,.nilCheck x,ty,pos,aft,g⟩ af st=Iy (JL (rd E af 0 x)):=rfl
theorem ARy{op:BinOp}{t u:TypeId}{x y:Operand}:EB E ⟨d,.binOp op t x y u,ty,pos,aft,g⟩ af st=Iy (Ei E op t (rd E af t x) (rd E af t y)):=rfl
theorem AWZ{op:UnOp}{t:TypeId}{x:Operand}:EB E ⟨d,.unOp op t x,ty,pos,aft,g⟩ af st=Iy (unA op (rd E af 0 x)):=rfl
theorem AHK{s t:TypeId}{x:Operand}:EB E ⟨d,.convert s t x,ty,pos,aft,g⟩ af st=Iy (Mg E s t (rd E af s x)):=rfl
theorem AFO{f:Fn}{p q:List Operand}:EB E ⟨d,.makeFunc f ⟨p⟩ ⟨q⟩,ty,pos,aft,g⟩ af st=some (AVal.fn f (p.map (rd E af 0)) (q.map (rd E af 0))).strip:=rfl
theorem AB6{s:TypeId}{x:Operand}{f:Nat}:EB E ⟨d,.fieldAddr s x f,ty,pos,aft,g⟩ af st=Iy (KG E s (rd E af 0 x) f):=rfl
theorem ASE{s:TypeId}{x:Operand}{f:Nat}:EB E ⟨d,.field s x f,ty,pos,aft,g⟩ af st=Iy (PW E s (rd E af s x) f):=rfl
theorem AA2{t:TypeId}{x i:Operand}:EB E ⟨d,.indexAddr t x i,ty,pos,aft,g⟩ af st=Iy (ED E t (rd E af t x) (rd E af 0 i)):=rfl
theorem AP3{t:TypeId}{x i:Operand}:EB E ⟨d,.index t x i,ty,pos,aft,g⟩ af st=Iy (Px E t (rd E af t x) (rd E af 0 i)):=rfl
theorem AYT{x:Operand}{t:TypeId}{ts:List TypeId}:EB E ⟨d,.call {callee:=.builtin .len,args:=⟨[x]⟩,argTypes:=⟨t::ts⟩},ty,pos,aft,g⟩ af st=Iy (VS E t (rd E af t x)):=rfl
theorem AZZ{x:Operand}{t:TypeId}{ts:List TypeId}:EB E ⟨d,.call {callee:=.builtin .cap,args:=⟨[x]⟩,argTypes:=⟨t::ts⟩},ty,pos,aft,g⟩ af st=Iy (AQ6 E t (rd E af t x)):=rfl
theorem AZT{x y:Operand}{ts:Array TypeId}:EB E ⟨d,.call {callee:=.builtin .min,args:=⟨[x,y]⟩,argTypes:=ts},ty,pos,aft,g⟩ af st=Iy (AMA (rd E af 0 x) (rd E af 0 y)):=rfl
theorem AY2{x y:Operand}{ts:Array TypeId}:EB E ⟨d,.call {callee:=.builtin .max,args:=⟨[x,y]⟩,argTypes:=ts},ty,pos,aft,g⟩ af st=Iy (AMn (rd E af 0 x) (rd E af 0 y)):=rfl
theorem AZA{op:Op}:gWp E mv ops ⟨d,op,ty,pos,aft,none⟩ af st K=Cq E mv ⟨d,op,ty,pos,aft,none⟩ af st K:=rfl
theorem AaX:gd (.bool true) true=some true:=rfl
theorem Aax:gd (.bool true) false=some false:=rfl
theorem AaA:gd (.bool false) true=some false:=rfl
theorem Aaj:gd (.bool false) false=some true:=rfl
theorem APn{want:Bool}:gd (.tuple []) want=some false:=rfl
theorem ATs{i:Nat}{want:Bool}:gdD (some i) af want=gd (af.getD i .any) want:=rfl
def opAt:List Oper→Nat→Option Oper
  |[],_=>none
  |o::_,0=>some o
  |_::os,n+1=>opAt os n
theorem Zl (os:List Oper) (j:Nat):opAt os j=(List.toArray os)[j]?:=by
  rw[List.getElem?_toArray]
  induction os generalizing j with
  |nil=>simp[opAt]
  | cons o os ih=>cases j with
    |zero=>simp[opAt]
    |succ j=>simp[opAt,ih]
def tkR (E:Env) (mv:List Tmp) (os:List Oper) (x:Option AVal) (i:Nat) (d:Option Tmp) (p:Plan) (tv:List (Nat×AVal)) (K:List AVal→St→Prop) (af:List AVal) (st:St):Prop:=
  match x with|some r=>FO E mv ⟨os⟩ p ((i,r)::tv) K (Av af d r) st|none=>False
def tkO (E:Env) (mv:List Tmp) (os:List Oper) (x:Option Oper) (i:Nat) (p:Plan) (tv:List (Nat×AVal)) (K:List AVal→St→Prop) (af:List AVal) (st:St):Prop:=
  match x with|some o=>tkR E mv os (Jt E ⟨os⟩ o af st) i o.dst p tv K af st|none=>False
def ASb (E:Env) (mv:List Tmp) (os:List Oper) (chk:List Nat) (p:Plan) (tv:List (Nat×AVal)) (K:List AVal→St→Prop) (af:List AVal) (st:St):Prop:=
  MV E ⟨os⟩ tv af st chk∧FO E mv ⟨os⟩ p tv K af st
def AXQ (E:Env) (mv:List Tmp) (os:List Oper) (x:Option Oper) (chk:List Nat) (p:Plan) (tv:List (Nat×AVal)) (K:List AVal→St→Prop) (af:List AVal) (st:St):Prop:=
  match x with|some o=>gWp E mv ⟨os⟩ o af st (ASb E mv os chk p tv K)|none=>False
def AaY (E:Env) (os:List Oper) (x:Option AVal) (o:Option Oper) (af:List AVal) (st:St):Prop:=
  match x,o with|some r,some o=>Jt E ⟨os⟩ o af st=some r|_,_=>False
variable{os:List Oper}{tv:List (Nat×AVal)}{p rest:Plan}{chk:List Nat}{i:Nat}
theorem AQp{op:Op}:tkO E mv os (some ⟨d,op,ty,pos,aft,g⟩) i p tv K af st=tkR E mv os (Jt E ⟨os⟩ ⟨d,op,ty,pos,aft,g⟩ af st) i d p tv K af st:=rfl
theorem APG{r:AVal}:tkR E mv os (some r) i d p tv K af st=FO E mv ⟨os⟩ p ((i,r)::tv) K (Av af d r) st:=rfl
theorem AOQ{o:Oper}:AXQ E mv os (some o) chk p tv K af st=gWp E mv ⟨os⟩ o af st (ASb E mv os chk p tv K):=rfl
theorem AQw:ASb E mv os chk p tv K af st=(MV E ⟨os⟩ tv af st chk∧FO E mv ⟨os⟩ p tv K af st):=rfl
theorem ANq:FO E mv ⟨os⟩ .done tv K af st=K af st:=rfl
theorem ALq:FO E mv ⟨os⟩ .stop tv K af st=True:=rfl
theorem AOI:FO E mv ⟨os⟩ (.take i p) tv K af st=tkO E mv os (opAt os i) i p tv K af st:=by
  rw[Zl];rfl
theorem ATV:FO E mv ⟨os⟩ (.alt i chk p rest) tv K af st=(AXQ E mv os (opAt os i) chk p tv K af st∧FO E mv ⟨os⟩ rest tv K af st):=by
  rw[Zl];rfl
theorem AUc:MV E ⟨os⟩ tv af st []=True:=rfl
theorem AQ4{k:Nat}{ks:List Nat}:MV E ⟨os⟩ tv af st (k::ks)=(AaY E os (QF tv k) (opAt os k) af st∧MV E ⟨os⟩ tv af st ks):=by
  rw[Zl];rfl
theorem AM9{r:AVal}{o:Oper}:AaY E os (some r) (some o) af st=(Jt E ⟨os⟩ o af st=some r):=rfl
end ops
end
end Go.VM
set_option linter.unusedVariables false
namespace Go.VM
def grd{α:Type} (c:Prop) [Decidable c] (x:Option α):Option α:=if c then x else none
inductive BX where
  |k
  |d
  |s (c:List AVal)
inductive JD (α:Type) where
  |z
  |a (id:Nat×Nat) (js:List (Nat×Nat)) (cs:List Tmp) (V:α→List AVal)
  |b (id:Nat×Nat) (js:List (Nat×Nat)) (cs:List Tmp) (V:α→List AVal) (Ms:α→List BX)
def AA{α β:Type} (k:α→Option β) (body:(α→Option β)→Option β) (d:JD α:=.z):Option β:=body k
theorem APi{α:Type}{c:Prop} [Decidable c]{x:Option α}{r:α} (h:grd c x=some r):c∧x=some r:=by
  unfold grd at h;split at h
  · exact⟨by assumption,h⟩
  · cases h
theorem bind_some{α β:Type}{x:Option α}{f:α→Option β}{r:β} (h:Option.bind x f=some r): ∃y,x=some y∧f y=some r:=by
  cases x with
  |none=>cases h
  |some y=>exact⟨y,rfl,h⟩
def letL{α β:Type} (x:α) (f:α→Option β):Option β:=f x
def idx{α:Type} (l:List α) (i:Int):Option α:=if 0≤i then l[i.toNat]? else none
def sub{α:Type} (l:List α) (a b:Int):Option (List α):=if 0≤a∧a≤b∧b≤l.length then some ((l.drop a.toNat).take (b.toNat-a.toNat))else none
theorem AV8{α β:Type} (f:α→β) (l:List α) (i:Int):idx (l.map f) i=(idx l i).map f:=by
  unfold idx;split<;>simp
theorem AVe{α β:Type} (f:α→β) (l:List α) (a b:Int):sub (l.map f) a b=(sub l a b).map (List.map f):=by
  unfold sub;simp only[List.length_map];split<;>simp[List.map_take,List.map_drop]
def Cg (n b:Nat):Prop:=n * b≤140737488355328∧n≤4611686018427387904
instance (n b:Nat):Decidable (Cg n b):=by unfold Cg;infer_instance
def AO (n:Nat):Prop:=n≤4611686018427387904
instance (n:Nat):Decidable (AO n):=by unfold AO;infer_instance
def wr (k:IntKind) (n:Int):Int:=k.wrap n
def Jq (k:IntKind) (a b:Int):Int:=k.wrap (BitVec.ofInt k.bits a&&&BitVec.ofInt k.bits b).toNat
def Li (k:IntKind) (a b:Int):Int:=k.wrap (BitVec.ofInt k.bits a|||BitVec.ofInt k.bits b).toNat
def AXc (k:IntKind) (a b:Int):Int:=k.wrap (BitVec.ofInt k.bits a^^^BitVec.ofInt k.bits b).toNat
def Lc (k:IntKind) (a b:Int):Int:=k.wrap (BitVec.ofInt k.bits a&&& ~~~ BitVec.ofInt k.bits b).toNat
def AIZ (k:IntKind) (x y:Int):Int:=k.wrap (x * 2^min y.toNat k.bits)
def Uc (k:IntKind) (x y:Int):Int:=x.fdiv (2^min y.toNat k.bits)
section
variable{E:Env}{st:St}{af:List AVal}
def AY4 (e:Option Nat) (w:Nat) (y:Option AVal):Option AVal:=
  match y with
  |some y=>if e=some w∧(Aa y).length=w then some (.cptr (Aa y))else none
  |none=>none
theorem AQL{t:TypeId}{w:Nat}{xs:List AVal}{o:Bool}{k:IntKind}{n:Int}:ED E t (.slice w xs o) (.int k n)=AY4 (C8 E.P t) w (idx xs n):=by
  simp only[ED,AY4,idx]
  by_cases h1:C8 E.P t=some w<;>by_cases h2:0≤n<;>simp[h1,h2]<;>cases xs[n.toNat]?<;>simp
theorem ALO{e:Option Nat}{w:Nat}{y:AVal}:AY4 e w (some y)=if e=some w∧(Aa y).length=w then some (.cptr (Aa y))else none:=rfl
def AX2 (b:Bool) (x:Option UInt8):Option AVal:=match x with|some c=>if b=true then some (.int .u8 c.toNat)else none|none=>none
theorem AZ1{t:TypeId}{s:List UInt8}{k:IntKind}{n:Int}:Px E t (.str s) (.int k n)=AX2 (Cy E.P t) (idx s n):=by
  simp only[Px,AX2,idx]
  cases Cy E.P t<;>by_cases h2:0≤n<;>simp[h2]<;>cases s[n.toNat]?<;>simp
theorem AMa{c:UInt8}:AX2 true (some c)=some (.int .u8 (AJ c)):=rfl
def AYx (b:Bool) (x:Option (List UInt8)):Option AVal:=match x with|some s=>if b=true then some (.str s)else none|none=>none
theorem AZl{t:TypeId}{s:List UInt8}{lo hi:Option Int}:E5 E t (.str s) lo hi none=AYx (Cy E.P t) (sub s (lo.getD 0) (hi.getD s.length)):=by
  simp only[E5,AYx,sub]
  by_cases h:0≤lo.getD 0∧lo.getD 0≤hi.getD s.length∧hi.getD s.length≤s.length
  · rw[if_pos h]
    cases Cy E.P t
    · rw[if_neg (by simp)];rfl
    · rw[if_pos ⟨rfl,trivial,h⟩];rfl
  · rw[if_neg h,if_neg (fun k=>h k.2.2)]
theorem ANE{s:List UInt8}:AYx true (some s)=some (.str s):=rfl
def ALZ (e:Option Nat) (w:Nat) (o:Bool) (x:Option (List AVal)):Option AVal:=match x with|some s=>if e=some w then some (.slice w s o)else none|none=>none
theorem ATf{t:TypeId}{w:Nat}{xs:List AVal}{o:Bool}{lo hi:Option Int}:E5 E t (.slice w xs o) lo hi none=ALZ (C8 E.P t) w false (sub xs (lo.getD 0) (hi.getD xs.length)):=by
  simp only[E5,ALZ,sub]
  by_cases h1:C8 E.P t=some w
  · simp[h1]
    by_cases h:0≤lo.getD 0∧lo.getD 0≤hi.getD xs.length∧hi.getD xs.length≤xs.length<;>simp[h]
  · simp[h1];split<;>simp_all
theorem ALt{t:TypeId}{w:Nat}{xs:List AVal}{o:Bool}{lo:Option Int}{h:Int}:E5 E t (.slice w xs o) lo (some h) (some h)=ALZ (C8 E.P t) w true (sub xs (lo.getD 0) h):=by
  simp only[E5,ALZ,sub]
  by_cases h1:C8 E.P t=some w
  · simp[h1]
    by_cases hh:0≤lo.getD 0∧lo.getD 0≤h∧h≤xs.length<;>simp[hh]
  · simp[h1];split<;>simp_all
theorem AN9{w:Nat}{o:Bool}{s:List AVal}:ALZ (some w) w o (some s)=some (.slice w s o):=by simp[ALZ]
def AVd (e:Option (Nat×Nat)) (i:Option IntKind) (b:Bool) (wd:Nat) (xs:List AVal) (ys:Option (List AVal)):Option AVal:=
  match e,ys with
  |some (z,by_),some ys=>if z=wd∧i=none∧b=true∧Cg (xs.length+ys.length) by_ then some (.slice wd (xs++ys) true)else none
  |_,_=>none
set_option linter.unusedSimpArgs false in
theorem ASG{t0 t1:TypeId}{wd:Nat}{xs:List AVal}{y:AVal}:FN E t0 t1 (.slice wd xs true) y=AVd (Kk E.P t0) (IV E.P t1) (A7 E.P t1) wd xs (ND wd y):=by
  simp only[FN,IA,AVd]
  rcases Kk E.P t0 with _|⟨z,b⟩<;>rcases ND wd y with _|ys<;>try rfl
theorem AM0{wd by_:Nat}{xs ys:List AVal}:AVd (some (wd,by_)) none true wd xs (some ys)=if Cg (xs.length+ys.length) by_ then some (.slice wd (xs++ys) true)else none:=by simp[AVd]
theorem AJW{wd:Nat}{ys:List AVal}{o:Bool}:ND wd (.slice wd ys o)=some ys:=by simp[ND]
theorem ARP{l:List UInt8}:ND 1 (.str l)=some ((l.map AJ).map (.int .u8)):=by simp[ND,AJ]
def apB (i:Bool) (e:Option (Nat×Nat)) (n:Option IntKind) (b:Bool) (el:TypeId) (l m:List UInt8):Option AVal:=
  match i,e,n,b with
  |true,some (1,by_),none,true=>if Cg (l.length+m.length) by_ then some (.buf el (l++m) true)else none
  |_,_,_,_=>none
theorem APw{by_:Nat}{el:TypeId}{l m:List UInt8}:apB true (some (1,by_)) none true el l m=if Cg (l.length+m.length) by_ then some (.buf el (l++m) true)else none:=rfl
theorem AZB{t0 t1 el:TypeId}{l m:List UInt8}:FN E t0 t1 (.buf el l true) (.str m)=apB (UM E.P t0 el) (Kk E.P t0) (IV E.P t1) (A7 E.P t1) el l m:=by
  have hl:(u8s l).length=l.length:=by simp[u8s]
  cases h1:UM E.P t0 el
  · simp[FN,h1,apB]
  rcases h2:Kk E.P t0 with _|⟨z,by_⟩
  · simp[FN,IA,h2,apB]
  cases h3:IV E.P t1
  · cases h4:A7 E.P t1
    · by_cases hz:z=1
      · subst hz;simp[FN,IA,h2,h3,h4,ND,apB]
      · simp[FN,IA,h2,h3,h4,ND,apB]
    · by_cases hz:z=1
      · subst hz
        rw[APw]
        by_cases hf:Cg (l.length+m.length) by_
        · have hf':=hf
          unfold Cg at hf'
          simp[FN,IA,h1,h2,h3,h4,ND,hl,hf,Dk]
          exact hf'
        · have hf':=hf
          unfold Cg at hf'
          simp[FN,IA,h1,h2,h3,h4,ND,hl,hf,Dk]
          intro k1
          have:=fun k2=>hf' ⟨k1,k2⟩
          omega
      · have:apB true (some (z,by_)) none true el l m=none:=by
          unfold apB
          split
          · rename_i e1 e2 e3 e4;cases e2;exact absurd rfl hz
          · rfl
        rw[this]
        simp[FN,IA,h2,h3,h4,ND,hz]
  · by_cases hz:z=1
    · subst hz;simp[FN,IA,h2,h3,ND,apB]
    · simp[FN,IA,h2,h3,ND,apB]
theorem AUf{a b:List UInt8}:Us .add a b=if AO (a.length+b.length)then some (.str (a++b))else none:=by simp only[Us,Dk];by_cases h:a.length+b.length≤4611686018427387904<;>simp[h,AO]
theorem AWi{i:Nat}{c:List AVal}{m:List (Nat×List AVal)}:Bd ((i,c)::m) i=some c:=by simp[Bd]
theorem AKa{i j:Nat}{c:List AVal}{m:List (Nat×List AVal)} (h:i≠j):Bd ((j,c)::m) i=Bd m i:=by simp[Bd,h]
theorem AV0{i:Nat}{c x:List AVal}{m:List (Nat×List AVal)}:Bl ((i,c)::m) i x=(i,x)::m:=by simp[Bl]
theorem AWe{i j:Nat}{c x:List AVal}{m:List (Nat×List AVal)} (h:i≠j):Bl ((j,c)::m) i x=(j,c)::Bl m i x:=by simp[Bl,h]
theorem GZ{n i:Nat}{c:List AVal}{m:List (Nat×List AVal)} (h:keysLt n ((i,c)::m)):i<n∧keysLt n m:=by
  have h1:i<n:=by
    rcases Nat.lt_or_ge i n with h'|h'
    · exact h'
    · have:=h i h';simp[Bd]at this
  refine⟨h1,fun j hj=>?_⟩
  have:=h j hj
  rwa[AKa (by omega)]at this
theorem ACall.of{f:FuncId}{args args':List AVal}{Q Q':AVal→St→Prop} (hc:ACall E f args' st Q') (ha:args=args') (hq: ∀r st',st.next≤st'.next→Q' r st'→Q r st'):ACall E f args st Q:=by
  subst ha;exact hc.mono hq
def Nt:List AVal→AVal
  |[r]=>r
  |rs=>.tuple rs
theorem KH{fn:Func}{Q:AVal→St→Prop}{xs:List AVal}{st':St}{m:List (Nat×List AVal)} (h:Ma E fn.results.toList af st=some (xs,st')) (hm:m.Sublist st'.m)
    (hq:Q (Nt xs) {st' with m:=m}):Iu E fn Q .ret af st:=by
  unfold Iu;rw[h];exact⟨m,hm,hq⟩
theorem KA{fn:Func}{Q:AVal→St→Prop}{xs:List AVal}{st':St}{m:List (Nat×List AVal)} (h:Ma E fn.results.toList af st=some (xs,st')) (hm:m.Sublist st'.m)
    (hq:Q (Nt xs) {st' with m:=m}):Iu E fn Q .normal af st:=by
  unfold Iu;rw[h];exact⟨m,hm,hq⟩
theorem AWp.congr{c:Code}{Q:APost}{af':List AVal} (h:af=af') (k:AWp E c Q af' st):AWp E c Q af st:=h▸k
def Cz:List Bool→List AVal→List AVal
  |true::bs,x::xs=>x.strip::Cz bs xs
  |false::bs,x::xs=>x::Cz bs xs
  |[],xs=>xs
  |_::_,[]=>[]
theorem NP: ∀(bs:List Bool) (xs:List AVal),(Cz bs xs).length=xs.length
  |[],xs=>by rw[Cz]
  |_::_,[]=>by rw[Cz]
  |true::bs,x::xs=>by rw[Cz,List.length_cons,List.length_cons,NP bs xs]
  |false::bs,x::xs=>by rw[Cz,List.length_cons,List.length_cons,NP bs xs]
theorem M9{Γ:Ghost}: ∀(bs:List Bool) (xs:List AVal) (vs:List Value),RepL Γ xs vs→RepL Γ (Cz bs xs) vs
  |[],xs,vs,h=>by rw[Cz];exact h
  |_::_,[],vs,h=>by rw[Cz];exact h
  | true::bs,x::xs,vs,h=>by
    cases h with
    |cons h t=>rw[Cz];exact .cons h.strip (M9 bs _ _ t)
  | false::bs,x::xs,vs,h=>by
    cases h with
    |cons h t=>rw[Cz];exact .cons h (M9 bs _ _ t)
theorem NI{Γ:Ghost}{w:World}: ∀(bs:List Bool) (xs:List AVal) (vs:List Value),ownL Γ w xs vs→ownL Γ w (Cz bs xs) vs
  |[],xs,vs,h=>by rw[Cz];exact h
  |_::_,[],vs,h=>by rw[Cz];exact h
  |true::bs,x::xs,[],h=>by rw[Cz];simp[ownL]
  |false::bs,x::xs,[],h=>by rw[Cz];simp[ownL]
  |true::bs,x::xs,v::vs,h=>by rw[ownL]at h;rw[Cz,ownL];exact⟨J9 _ _ _ _,NI bs xs vs h.2⟩
  |false::bs,x::xs,v::vs,h=>by rw[ownL]at h;rw[Cz,ownL];exact⟨h.1,NI bs xs vs h.2⟩
theorem NN (b:Nat): ∀(bs:List Bool) (xs:List AVal) (vs:List Value),AL b (Cz bs xs) vs≤AL b xs vs
  |[],xs,vs=>by rw[Cz];exact Nat.le_refl _
  |_::_,[],vs=>by rw[Cz];exact Nat.le_refl _
  |true::bs,x::xs,[]=>by rw[Cz];simp[AL]
  |false::bs,x::xs,[]=>by rw[Cz];simp[AL]
  | true::bs,x::xs,v::vs=>by
    have:=NN b bs xs vs
    rw[Cz,AL,AL,JQ];omega
  | false::bs,x::xs,v::vs=>by
    have:=NN b bs xs vs
    rw[Cz,AL,AL];omega
theorem Sim.stripCells{F:Nat→Nat}{Γ:Ghost}{w:World}{a:Act}{i:Nat}{cs:List AVal} (bs:List Bool) (hs:Sim E F Γ st w af a.tmps.toList) (hg:Bd st.m i=some cs):Sim E F Γ {st with m:=Bl st.m i (Cz bs cs)} w af a.tmps.toList:=by
  rcases hs.box_ok _ (La hg)with⟨b,arr,e,hb⟩|⟨v,hv⟩
  rotate_left
  · exact hs.setSh hg hv (M9 bs _ _ hv.rep) (NI bs _ _ hv.own) fun n=>by
      have h1:=NN n bs cs [v]
      have h2:=hs.tok n
      omega
  obtain⟨lo,hi,hh,hf⟩:=hb.heap
  exact(hs.setBox (w':=w) (cs':=Cz bs cs) (arr':=arr) (lo:=lo) (hi:=hi) hg hb hh hf (fun _ _=>rfl) rfl rfl rfl rfl (by rw[NP];exact M9 bs _ _ hb.rep) (NI bs _ _ hb.own) (by rw[NP];exact hb.one)
          (fun n=>by
            have h1:=NN n bs cs arr.toList
            have h2:=hs.tok n
            omega)).1
theorem Lb{c:Code}{Q:APost} (bs:List Bool){i:Nat}{cs:List AVal} (hg:Bd st.m i=some cs) (h:AWp E c Q af {st with m:=Bl st.m i (Cz bs cs)}):AWp E c Q af st:=
  ⟨fun F Γ w a hd hs=>h.go F Γ w a hd (hs.stripCells bs hg)⟩
theorem ACall.perm{f:FuncId}{args:List AVal}{Q:AVal→St→Prop}{m m':List (Nat×List AVal)}{n:Nat} (hp:m.Perm m') (h:ACall E f args ⟨m',n⟩ Q):ACall E f args ⟨m,n⟩ Q:=
  ⟨fun F Γ w cargs hs=>h.go F Γ w cargs (hs.perm hp)⟩
theorem AWp.nodup{c:Code}{Q:APost} (h:(st.m.map (·.1)).Nodup→AWp E c Q af st):AWp E c Q af st:=
  ⟨fun F Γ w a hd hs=>(h hs.keys).go F Γ w a hd hs⟩
theorem Vl: ∀ {m:List (Nat×List AVal)}{i:Nat}{c x:List AVal},Bd m i=some c→((i,x)::Eh m i).Perm (Bl m i x)
  |[],_,_,_,h=>by simp[Bd]at h
  | (j,d)::m,i,c,x,h=>by
    simp only[Bd]at h
    simp only[Eh,Bl]
    split at h
    · rename_i e;subst e;simp
    · rename_i e
      rw[if_neg e,if_neg e]
      exact(List.Perm.swap _ _ _).trans ((Vl h).cons _)
theorem ACall.front{f:FuncId}{args:List AVal}{m:List (Nat×List AVal)}{n i:Nat}{c:List AVal}{Q:AVal→St→Prop} (hi:Bd m i=some c)
    (h:i<n→ACall E f args ⟨(i,c)::Eh m i,n⟩ fun r st'=> ∃c',st'.m=(i,c')::Eh m i∧Q r ⟨Bl m i c',st'.next⟩):ACall E f args ⟨m,n⟩ Q:=by
  refine ACall.known fun _ hk=>?_
  have hin:i<n:=by
    rcases Nat.lt_or_ge i n with h'|h'
    · exact h'
    · have:=hk i h';simp only at this;rw[this]at hi;cases hi
  constructor
  intro F Γ w cargs hs
  refine((h hin).go F Γ w cargs (hs.perm (KM hi))).mono ?_
  rintro e w' ⟨v,he,Γ',r,⟨m',n'⟩,h1,h2,h3,c',hm,hq⟩
  simp only at hm
  subst hm
  exact⟨v,he,Γ',r,⟨Bl m i c',n'⟩,h1,h2,h3.perm (Vl hi),hq⟩
end
end Go.VM
set_option linter.unusedVariables false
set_option linter.defProp false
set_option maxRecDepth 100000
namespace Go.VM
section
variable{E:Env}{t:TypeId}{k:IntKind}{a b:Int}
theorem AZx:Ei E .add t (.int k a) (.int k b)=some (.int k (wr k (a+b))):=by simp[Ei,G8,wr]
theorem AY0:Ei E .sub t (.int k a) (.int k b)=some (.int k (wr k (a-b))):=by simp[Ei,G8,wr]
theorem AYb:Ei E .mul t (.int k a) (.int k b)=some (.int k (wr k (a * b))):=by simp[Ei,G8,wr]
theorem AYI:Ei E .quo t (.int k a) (.int k b)=if b=0 then none else some (.int k (wr k (a.tdiv b))):=by simp[Ei,G8,wr]
theorem AYY:Ei E .rem t (.int k a) (.int k b)=if b=0 then none else some (.int k (a.tmod b)):=by simp[Ei,G8]
theorem AYw:Ei E .and t (.int k a) (.int k b)=some (.int k (Jq k a b)):=by simp[Ei,G8,Jq]
theorem AaK:Ei E .or t (.int k a) (.int k b)=some (.int k (Li k a b)):=by simp[Ei,G8,Li]
theorem AZk:Ei E .xor t (.int k a) (.int k b)=some (.int k (AXc k a b)):=by simp[Ei,G8,AXc]
theorem ALk:Ei E .andNot t (.int k a) (.int k b)=some (.int k (Lc k a b)):=by simp[Ei,G8,Lc]
theorem AY7:Ei E .eql t (.int k a) (.int k b)=some (.bool (a==b)):=by simp[Ei,G8]
theorem AZG:Ei E .neq t (.int k a) (.int k b)=some (.bool (a !=b)):=by simp[Ei,G8]
theorem AZK:Ei E .lss t (.int k a) (.int k b)=some (.bool (decide (a<b))):=by simp[Ei,G8]
theorem AZO:Ei E .leq t (.int k a) (.int k b)=some (.bool (decide (a≤b))):=by simp[Ei,G8]
theorem AYW:Ei E .gtr t (.int k a) (.int k b)=some (.bool (decide (a>b))):=by simp[Ei,G8]
theorem AZb:Ei E .geq t (.int k a) (.int k b)=some (.bool (decide (a≥b))):=by simp[Ei,G8]
theorem AYd{j:IntKind}:Ei E .shl t (.int k a) (.int j b)=if b<0 then none else some (.int k (AIZ k a b)):=by simp[Ei,UN,AIZ]
theorem AYS{j:IntKind}:Ei E .shr t (.int k a) (.int j b)=if b<0 then none else some (.int k (Uc k a b)):=by simp[Ei,UN,Uc]
variable{x y:List UInt8}{p q:Bool}
theorem AVA:Ei E .add t (.str x) (.str y)=if AO (x.length+y.length)then some (.str (x++y))else none:=AUf
theorem AVD:Ei E .eql t (.str x) (.str y)=some (.bool (x==y)):=rfl
theorem AU3:Ei E .neq t (.str x) (.str y)=some (.bool (!(x==y))):=rfl
theorem AWc:Ei E .lss t (.str x) (.str y)=some (.bool (Op.bytesLess x y)):=rfl
theorem AV5:Ei E .leq t (.str x) (.str y)=some (.bool (Op.bytesLess x y||x==y)):=rfl
theorem AVX:Ei E .gtr t (.str x) (.str y)=some (.bool (!(Op.bytesLess x y||x==y))):=rfl
theorem AVx:Ei E .geq t (.str x) (.str y)=some (.bool (!(Op.bytesLess x y))):=rfl
theorem AXS:Ei E .eql t (.bool p) (.bool q)=if Qi E.P t=true then some (.bool (p==q))else none:=rfl
theorem AUu:Ei E .neq t (.bool p) (.bool q)=if Qi E.P t=true then some (.bool (!(p==q)))else none:=rfl
def ARQ (op:BinOp) (g:Bool) (e:Option Bool):Option AVal:=
  if g=true then none else
    match op,e with
    |.eql,some b=>some (.bool b)
    |.neq,some b=>some (.bool (!b))
    |_,_=>none
theorem AX7{op:BinOp}{xs ys:List AVal}:Ei E op t (.agg xs) (.agg ys)=ARQ op (E.P.eqGuardType E.P.depth t) (eqA E.P 10000 t (.agg xs) (.agg ys)):=rfl
theorem ALN:ARQ .eql false (some p)=some (.bool p):=rfl
theorem AMY:ARQ .neq false (some p)=some (.bool (!p)):=rfl
def cvI (g:Bool) (st:Bool) (k:Option IntKind) (n:Int):Option AVal:=if(g&&st)=true then some (.str (G5 n))else if g=true then(match k with|some k=>some (.int k (wr k n))|none=>none)else none
theorem AYj{s d:TypeId}{n:Int}:Mg E s d (.int k n)=cvI (A7 E.P s) (Cy E.P d) (IV E.P d) n:=rfl
theorem APW{n:Int}:cvI true false (some k) n=some (.int k (wr k n)):=rfl
theorem AV1{n:Int}{j:Option IntKind}:cvI true true j n=some (.str (G5 n)):=rfl
def cvS (g h:Bool) (l:List UInt8):Option AVal:=if(g&&h)=true then some (.str l)else none
theorem AYv{s d:TypeId}{l:List UInt8}:Mg E s d (.str l)=cvS (A7 E.P s) (Cy E.P d) l:=rfl
theorem APB{l:List UInt8}:cvS true true l=some (.str l):=rfl
theorem ATl{s d:TypeId}{w:Nat}{xs:List AVal}{o:Bool}:Mg E s d (.slice w xs o)=strOf (u8T E.P s&&Cy E.P d) (bytesOf xs):=rfl
theorem AH6{l:List UInt8}:strOf true (some l)=some (.str l):=rfl
theorem bytesOf_map{l:List Int}:bytesOf (l.map (AVal.int .u8))=some (l.map Fx):=by
  induction l with
  |nil=>rfl
  |cons x l ih=>simp[bytesOf,ih]
theorem NB{n:Int}{xs:List AVal}:bytesOf (.int .u8 n::xs)=(bytesOf xs).map (Fx n:: ·):=rfl
theorem AGW:bytesOf []=some []:=rfl
theorem AF9{xs ys:List AVal}:bytesOf (xs++ys)=(bytesOf xs).bind fun a=>(bytesOf ys).map (a++ ·):=by
  induction xs with
  |nil=>cases h:bytesOf ys<;>simp[bytesOf,h]
  | cons x xs ih=>
    rw[List.cons_append]
    cases x with
    | int k n=>
      cases k<;>try rfl
      rw[NB,NB,ih]
      cases bytesOf xs<;>cases bytesOf ys<;>simp
    |_=>rfl
theorem AZY{l:List UInt8}:cvS true false l=none:=rfl
theorem AY9{s d:TypeId}{w i l:Nat}:Mg E s d (.gsl w i l)=none:=rfl
theorem AYo{s d:TypeId}{w i o l:Nat}:Mg E s d (.bsl w i o l)=none:=rfl
theorem AZr{s d:TypeId}{i o:Nat}:Mg E s d (.ptr i o)=none:=rfl
section
variable{s d:TypeId}{st:St}
theorem AZh{l:List UInt8}:Ns E s d (.str l) st=none:=rfl
theorem AZo{w i l:Nat}:Ns E s d (.gsl w i l) st=none:=rfl
theorem AZj{w i o l:Nat}:Ns E s d (.bsl w i o l) st=none:=rfl
def cuB (b:Bool) (i:Nat):Option AVal:=if b=true then some (.ptr i 0)else none
theorem AP9{i:Nat}:cuB true i=some (.ptr i 0):=rfl
def cuR (E:Env) (s d:TypeId) (i:Nat) (x:Option (List AVal)):Option AVal:=
  match x with
  |some (.nself j T n::_)=>if j=i then cuB (Qt E.P s d T n) i else none
  |_=>none
theorem AS8{i n:Nat}{T:TypeId}{cs:List AVal}:cuR E s d i (some (.nself i T n::cs))=cuB (Qt E.P s d T n) i:=by simp[cuR]
theorem AZf{i:Nat}:Ns E s d (.ptr i 0) st=cuR E s d i (Bd st.m i):=by
  simp only[Ns]
  generalize Bd st.m i=x
  unfold cuR
  split
  · rename_i j T n rest
    simp only[cuB]
    by_cases h1:j=i<;>by_cases h2:Qt E.P s d T n=true<;>simp[h1,h2]
  · rename_i h
    split
    · rename_i j T n rest;exact absurd rfl (h j T n rest)
    · rfl
def Fj (i:Nat) (T:TypeId) (n:Nat) (b:Bool):AVal:=if b=true then .ptr i 0 else .nself i T n
theorem AUt{i n:Nat}{T:TypeId}:Fj i T n true=.ptr i 0:=rfl
theorem AUq{i n:Nat}{T:TypeId}:Fj i T n false=.nself i T n:=rfl
theorem ALv{i n:Nat}{T:TypeId}{b:Bool}:(Fj i T n b).strip=Fj i T n b:=by cases b<;>simp[Fj,AVal.strip]
theorem AMd{i n:Nat}{T:TypeId}{b:Bool}:Aa (Fj i T n b)=[Fj i T n b]:=by cases b<;>rfl
theorem ALs{i n:Nat}{T:TypeId}{b:Bool}:J5 (Fj i T n b)=false:=by cases b<;>rfl
theorem ANP{i n:Nat}{T:TypeId}{b:Bool}:DY (Fj i T n b)=true:=by cases b<;>rfl
def cmS (a b:Bool) (l:List UInt8) (st:St):Option (AVal×St):=if a=true∧b=true then some (.bsl 1 st.next 0 l.length,{m:=(st.next,List.map (AVal.int .u8) (List.map AJ l))::st.m,next:=st.next+1})else none
theorem AZE{l:List UInt8}:Mw E s d (.str l) st=cmS (u8T E.P d) (Cy E.P s) l st:=by
  simp only[Mw,cmS,List.map_map];rfl
theorem AQz{l:List UInt8}:cmS true true l st=some (.bsl 1 st.next 0 l.length,{m:=(st.next,List.map (AVal.int .u8) (List.map AJ l))::st.m,next:=st.next+1}):=by simp[cmS]
def cmB (b:Bool) (off n:Nat) (st:St) (x:Option (List AVal)):Option (AVal×St):=
  match x with
  |some cs=>if b=true then(match bytesOf ((cs.drop off).take n)with|some l=>if l.length=n∧AO n then some (.str l,st)else none|none=>none)else none
  |none=>none
theorem AZm{i off n:Nat}:Mw E s d (.bsl 1 i off n) st=cmB (u8T E.P s&&Cy E.P d) off n st (Bd st.m i):=by
  simp only[Mw,cmB,true_and,Dk,AO]
  cases (u8T E.P s&&Cy E.P d)<;>cases Bd st.m i<;>simp
  all_goals rfl
theorem AQa{q:List Int}{off n:Nat}:cmB true off n st (some (List.map (AVal.int .u8) q))=if n≤q.length-off∧AO n then some (.str (List.map Fx (List.take n (List.drop off q))),st)else none:=by
  simp only[cmB,if_true,←List.map_take,←List.map_drop,bytesOf_map,List.length_map,List.length_take,List.length_drop]
  by_cases h:n≤q.length-off
  · simp[h]
  · have: ¬min n (q.length-off)=n:=by omega
    simp[h,this]
def Q7 (n:Int) (b:Nat):Prop:=0≤n∧n≤4611686018427387904∧n * b≤140737488355328
instance (n:Int) (b:Nat):Decidable (Q7 n b):=by unfold Q7;infer_instance
def mkR (e:Option (Nat×AVal)) (n:Int) (st:St):Option (AVal×St):=
  match e with
  |some (b,z)=>if 0≤n∧n≤Dk∧n * b≤140737488355328 then some (.bsl 1 st.next 0 n.toNat,{m:=(st.next,List.replicate n.toNat z)::st.m,next:=st.next+1})else none
  |none=>none
theorem AVO{b:Nat}{k:IntKind}{z n:Int}:mkR (some (b,.int k z)) n st=if Q7 n b then some (.bsl 1 st.next 0 n.toNat,{m:=(st.next,List.map (AVal.int k) (List.replicate n.toNat z))::st.m,next:=st.next+1})else none:=by
  simp only[mkR,Q7,Dk,List.map_replicate]
  rfl
theorem AXI{b:Nat}{n:Int}:mkR (some (b,.str [])) n st=if Q7 n b then some (.bsl 1 st.next 0 n.toNat,{m:=(st.next,List.map AVal.str (List.replicate n.toNat []))::st.m,next:=st.next+1})else none:=by
  simp only[mkR,Q7,Dk,List.map_replicate]
  rfl
def SH (n n':Int) (b:Nat):Prop:=0≤n∧n≤n'∧n'≤4611686018427387904∧n' * b≤140737488355328
instance (n n':Int) (b:Nat):Decidable (SH n n' b):=by unfold SH;infer_instance
def mkG (e:Option (Nat×AVal)) (n n':Int) (st:St):Option (AVal×St):=
  match e with
  |some (b,z)=>if 0≤n∧n≤n'∧n'≤Dk∧n' * b≤140737488355328 then some (.gsl 1 st.next n.toNat,{m:=(st.next,List.replicate n.toNat z)::st.m,next:=st.next+1})else none
  |none=>none
theorem AVM{b:Nat}{k:IntKind}{z n n':Int}:mkG (some (b,.int k z)) n n' st=if SH n n' b then some (.gsl 1 st.next n.toNat,{m:=(st.next,List.map (AVal.int k) (List.replicate n.toNat z))::st.m,next:=st.next+1})else none:=by
  simp only[mkG,SH,Dk,List.map_replicate]
  rfl
theorem AVc{b:Nat}{n n':Int}:mkG (some (b,.str [])) n n' st=if SH n n' b then some (.gsl 1 st.next n.toNat,{m:=(st.next,List.map AVal.str (List.replicate n.toNat []))::st.m,next:=st.next+1})else none:=by
  simp only[mkG,SH,Dk,List.map_replicate]
  rfl
theorem Aa9{k k':IntKind}{n n':Int}:QQ E t (.int k n) (.int k' n') st=mkG (PR E.P t) n n' st:=by
  simp only[QQ,mkG]
  rcases PR E.P t with _|⟨b,z⟩<;>simp
theorem AZH{i n:Nat}:Mw E s d (.gsl 1 i n) st=cmB (u8T E.P s&&Cy E.P d) 0 n st (Bd st.m i):=by
  simp only[Mw,cmB,true_and,Dk,AO,List.drop_zero]
  cases (u8T E.P s&&Cy E.P d)<;>cases Bd st.m i<;>simp
  all_goals rfl
theorem AbO{k k':IntKind}{n:Int}:QG E t (.int k n) (.int k' n) st=mkR (PR E.P t) n st:=by
  simp only[QG,mkR]
  rcases PR E.P t with _|⟨b,z⟩<;>simp
end
theorem AX4{e:TypeId}{l:List UInt8}{o:Bool}:Nz (.buf e l o)=some (.bufp e l o):=rfl
def usB (b:Bool) (l:List UInt8):Option AVal:=if b=true then some (.str l)else none
theorem ARD{l:List UInt8}:usB true l=some (.str l):=rfl
theorem AZd{t0 e:TypeId}{l:List UInt8}:P5 E t0 (.bufp e l true) (.int .i64 (l.length:Int))=usB (ptrTo E.P t0 e) l:=by
  simp[P5,usB]
theorem AZR{op:BinOp}:Ei E op t .nilp .nilp=NF op (NK E.P t) (some true):=rfl
theorem AY3{op:BinOp}{i n:Nat}{T:TypeId}:Ei E op t (.nself i T n) .nilp=NF op (NK E.P t) (some true):=rfl
theorem AZ2{op:BinOp}{i o:Nat}:Ei E op t (.ptr i o) .nilp=NF op (NK E.P t) (some false):=rfl
theorem AYf{op:BinOp}{i o:Nat}:Ei E op t (.ptr i o) (.ptr i o)=NF op (NK E.P t) (some true):=by simp[Ei,AFu]
theorem AYB:NF .eql true (some p)=some (.bool p):=rfl
theorem AZJ:NF .neq true (some p)=some (.bool (!p)):=rfl
theorem AQI{e:TypeId}:VS E t (.nbuf e)=if Cn E.P t=true then some (.int .i64 0)else none:=rfl
theorem ART{e:TypeId}:AQ6 E t (.nbuf e)=if Cn E.P t=true then some (.int .i64 0)else none:=rfl
theorem AWI{T:TypeId}{i:Nat}{e:TypeId}:AKQ E t (.trow T i 0) (.nbuf e)=if C8 E.P t=some 1 then some (.int .i64 0)else none:=rfl
theorem AXP{T:TypeId}{i len:Nat}{h:Int}:E5 E t (.trow T i len) none (some h) none=if C8 E.P t=some 1 then(if 0≤h∧h≤len then some (.trow T i h.toNat)else none)else none:=by
  simp only[E5]
  by_cases h1:C8 E.P t=some 1<;>by_cases h2:0≤h<;>by_cases h3:h≤len<;>simp[h1,h2,h3]
theorem ARH{T:TypeId}{i l:Nat}:(AVal.trow T i l).strip=.trow T i l:=rfl
theorem ASn{T:TypeId}{i l:Nat}:Aa (.trow T i l)=[.trow T i l]:=rfl
theorem AST{T:TypeId}{i l:Nat}:DY (.trow T i l)=true:=rfl
theorem APl{T:TypeId}{i l:Nat}:J5 (.trow T i l)=false:=rfl
theorem ATU{e:TypeId}:(AVal.nbuf e).strip=.nbuf e:=rfl
theorem ATo{e:TypeId}:Aa (.nbuf e)=[.nbuf e]:=rfl
theorem ASQ{e:TypeId}:DY (.nbuf e)=true:=rfl
theorem ATR{e:TypeId}:J5 (.nbuf e)=false:=rfl
theorem AV2{e:TypeId}{l:List UInt8}{o:Bool}:VS E t (.buf e l o)=if Cn E.P t=true then some (.int .i64 l.length)else none:=rfl
theorem AWx{w i o l:Nat}:VS E t (.bsl w i o l)=if Cn E.P t=true then some (.int .i64 l)else none:=rfl
theorem BR{w i len:Nat}{k:IntKind}{n:Int}:ED E t (.gsl w i len) (.int k n)=if C8 E.P t=some w then(if 0≤n∧n<len then some (.ptr i (n.toNat * w))else none)else none:=by
  simp only[ED]
  by_cases h1:C8 E.P t=some w<;>by_cases h2:0≤n<;>by_cases h3:n<len<;>simp[h1,h2,h3]
theorem BS{w i len:Nat}{h:Int}:E5 E t (.gsl w i len) none (some h) none=if C8 E.P t=some w then(if 0≤h∧h≤len then some (.gsl w i h.toNat)else none)else none:=by
  simp only[E5]
  by_cases h1:C8 E.P t=some w<;>by_cases h2:0≤h<;>by_cases h3:h≤len<;>simp[h1,h2,h3]
theorem AX1{w i len:Nat}{h:Int}:E5 E t (.bsl w i 0 len) none (some h) none=if C8 E.P t=some w then(if 0≤h∧h≤len then some (.bsl w i 0 h.toNat)else none)else none:=by
  simp only[E5]
  by_cases h1:C8 E.P t=some w<;>by_cases h2:0≤h<;>by_cases h3:h≤len<;>simp[h1,h2,h3]
def apT (e:Option (Nat×Nat)) (g:Bool) (x:Option (List AVal)) (m:List (Nat×List AVal)) (j len:Nat) (s:List UInt8):Option (Nat×Nat×List AVal×List (Nat×List AVal)×Option Nat):=
  match x,e with
  |some cs,some (z,by_)=>if z=1∧len≤cs.length∧(len+s.length) * by_≤140737488355328∧len+s.length≤Dk∧g=true then some (1,len+s.length,cs.take len++u8s s,Eh m j,some j)else none
  |_,_=>none
theorem FJ{t0 t1:TypeId}{j len:Nat}{s:List UInt8}{st:St}:AL4 E t0 t1 (.gsl 1 j len) (.str s) st=apT (Kk E.P t0) ((IV E.P t1).isNone&&A7 E.P t1) (Bd st.m j) st.m j len s:=by
  simp only[AL4,apT]
  rcases Bd st.m j with _|cs<;>rcases Kk E.P t0 with _|⟨z,b⟩<;>simp
theorem Ag{b j len:Nat}{q:List Int}{m:List (Nat×List AVal)}{s:List UInt8}:apT (some (1,b)) true (some (List.map (AVal.int .u8) q)) m j len s=if len≤q.length∧Cg (len+s.length) b then some (1,len+s.length,List.map (AVal.int .u8) (List.take len q++List.map AJ s),Eh m j,some j)else none:=by
  have e:u8s s=List.map (AVal.int .u8) (List.map AJ s):=by simp[u8s,AJ]
  simp only[apT,Cg,Dk,List.length_map,e,List.map_append,←List.map_take,true_and,and_true]
theorem Ah{w i l:Nat}:(AVal.gsl w i l).strip=.gsl w i l:=rfl
theorem Ay{i:Nat}{c:List AVal}{m:List (Nat×List AVal)}:Eh ((i,c)::m) i=m:=by simp[Eh]
def lkV:List (List UInt8)→List AVal→List UInt8→AVal→AVal
  |k::ks,v::vs,s,z=>if(s==k)=true then v.strip else lkV ks vs s z
  |_,_,_,z=>z.strip
theorem ASD{k s:List UInt8}{ks:List (List UInt8)}{v z:AVal}{vs:List AVal}:lkV (k::ks) (v::vs) s z=if(s==k)=true then v.strip else lkV ks vs s z:=rfl
theorem AVu{s:List UInt8}{z:AVal}:lkV [] [] s z=z.strip:=rfl
def lkR (z:Option AVal) (x:Option (List AVal)) (s:List UInt8):Option AVal:=
  match z,x with
  |some z,some [.map ks vs]=>some (lkV ks vs s z)
  |_,_=>none
theorem AIT{s:List UInt8}{z:AVal}: ∀(ks:List (List UInt8)) (vs:List AVal),(match J7 ks vs s with|some x=>x.strip|none=>z.strip)=lkV ks vs s z
  |[],_=>by simp[J7,lkV]
  |_::_,[]=>by simp[J7,lkV]
  | k::ks,v::vs=>by
    simp only[J7,lkV,beq_iff_eq]
    split
    · rename_i x hx
      split at hx
      · rename_i e;cases hx;rw[if_pos e]
      · rename_i e;rw[if_neg e,←AIT ks vs,hx]
    · rename_i hx
      split at hx
      · cases hx
      · rename_i e;rw[if_neg e,←AIT ks vs,hx]
theorem Aag{i:Nat}{s:List UInt8}{st:St}:P9 E t (.sh i) (.str s) false st=lkR ((Vg E.P t).bind (Ff E.P)) (Bd st.m i) s:=by
  unfold P9 Vk lkR
  cases Vg E.P t with
  |none=>simp
  | some e=>
    simp only[Option.bind_some]
    cases hm:Bd st.m i with
    |none=>cases Ff E.P e<;>simp
    | some cs=>
      cases hz:Ff E.P e with
      | none=>
        match cs with
        |[]=>simp
        |[.map _ _]=>simp[hz]
        |x::y::_=>cases x<;>simp
        |[.any]|[.bool _]|[.int _ _]|[.str _]|[.agg _]|[.tuple _]|[.slice _ _ _]|[.ptr _ _]|[.nilp]|[.cptr _]|[.fn _ _ _]|[.nilFn]|[.iface _ _]|[.nilIface]|[.iter _ _]|[.bsl _ _ _ _]|[.nself _ _ _]|[.buf _ _ _]|[.bufp _ _ _]|[.slop _ _]|[.sh _]|[.sptr _ _ _]|[.gsl _ _ _]|[.nmap]|[.nbuf _]|[.trow _ _ _]=>simp
      | some z=>
        match cs with
        |[]=>simp
        |[.map ks vs]=>simp[hz];exact AIT ks vs
        |x::y::_=>cases x<;>simp
        |[.any]|[.bool _]|[.int _ _]|[.str _]|[.agg _]|[.tuple _]|[.slice _ _ _]|[.ptr _ _]|[.nilp]|[.cptr _]|[.fn _ _ _]|[.nilFn]|[.iface _ _]|[.nilIface]|[.iter _ _]|[.bsl _ _ _ _]|[.nself _ _ _]|[.buf _ _ _]|[.bufp _ _ _]|[.slop _ _]|[.sh _]|[.sptr _ _ _]|[.gsl _ _ _]|[.nmap]|[.nbuf _]|[.trow _ _ _]=>simp
theorem APa{s:List UInt8}{z:AVal}{ks:List (List UInt8)}{vs:List AVal}:lkR (some z) (some [.map ks vs]) s=some (lkV ks vs s z):=rfl
def upR (b:Bool) (y:Option (List AVal)) (i:Nat) (s:List UInt8) (x:AVal) (st:St):Option St:=
  match b,y with
  |true,some [.map ks vs]=>some {st with m:=Bl st.m i [.map (Na ks s) (Nc ks vs s x)]}
  |_,_=>none
theorem AaJ{i:Nat}{s:List UInt8}{x:AVal}{st:St}:QB E t (.sh i) (.str s) x st=upR (Vg E.P t).isSome (Bd st.m i) i s x st:=by
  simp only[QB,Vk,upR]
  rcases Vg E.P t with _|e
  · rfl
  simp only[Option.isSome_some]
  rcases Bd st.m i with _|cs
  · rfl
  rcases cs with _|⟨y,cs⟩
  · rfl
  rcases cs with _|⟨z,cs⟩
  · cases y<;>rfl
  · cases y<;>rfl
theorem AP2{i:Nat}{s:List UInt8}{x:AVal}{st:St}{ks:List (List UInt8)}{vs:List AVal}:upR true (some [.map ks vs]) i s x st=some {st with m:=Bl st.m i [.map (Na ks s) (Nc ks vs s x)]}:=rfl
theorem AaH{op:BinOp}{f:Fn}{x y:List AVal}:Ei E op t (.fn f x y) .nilFn=R8 op (U4 E.P t) false:=rfl
theorem AaC{op:BinOp}:Ei E op t .nilFn .nilFn=R8 op (U4 E.P t) true:=rfl
theorem AYc{b:Bool}:R8 .eql true b=some (.bool b):=rfl
theorem AYL{b:Bool}:R8 .neq true b=some (.bool (!b)):=rfl
theorem AX8{w i off len:Nat}{k:IntKind}{n:Int}:ED E t (.bsl w i off len) (.int k n)=if C8 E.P t=some w then(if 0≤n∧n<len then some (.ptr i (off+n.toNat * w))else none)else none:=by
  simp only[ED]
  by_cases h1:C8 E.P t=some w<;>by_cases h2:0≤n<;>by_cases h3:n<len<;>simp[h1,h2,h3]
def iaP (e:Option (Nat×Nat×Bool)) (j o:Nat) (n:Int):Option AVal:=
  match e with
  |some (len,z,_)=>if 0≤n∧n<len then some (.ptr j (o+n.toNat * z))else none
  |none=>none
theorem AYO{j o:Nat}{k:IntKind}{n:Int}:ED E t (.ptr j o) (.int k n)=iaP (Jw E.P t) j o n:=by
  simp only[ED,iaP]
  rcases Jw E.P t with _|⟨len,z,g⟩<;>rfl
theorem ARK{len z j o:Nat}{g:Bool}{n:Int}:iaP (some (len,z,g)) j o n=if 0≤n∧n<(len:Int)then some (.ptr j (o+n.toNat * z))else none:=rfl
def slP (e:Option (Nat×Nat×Bool)) (i o:Nat) (l:Int) (h:Option Int):Option AVal:=
  match e with
  |some (len,z,_)=>if 0≤l∧l≤h.getD len∧h.getD len≤len∧len≤Dk then some (.bsl z i (o+l.toNat * z) ((h.getD len).toNat-l.toNat))else none
  |none=>none
theorem AYG{i o:Nat}{lo hi:Option Int}:E5 E t (.ptr i o) lo hi none=slP (Jw E.P t) i o (lo.getD 0) hi:=by
  simp only[E5,slP]
  rcases Jw E.P t with _|⟨len,z,g⟩<;>simp
theorem AP7{len z i o:Nat}{g:Bool}{l:Int}:slP (some (len,z,g)) i o l none=if 0≤l∧l≤(len:Int)∧len≤Dk then some (.bsl z i (o+l.toNat * z) (len-l.toNat))else none:=by
  simp[slP]
theorem AUQ{α:Type}{l:List α}{n:Int} (h:0≤n):l[n.toNat]?=idx l n:=by simp[idx,h]
theorem AUz{α β:Type}{f:α→β}{l:List α}{k:Nat}{v:α}:(List.map f l).set k (f v)=List.map f (l.set k v):=List.map_set.symm
theorem AYi:unA .not (.bool p)=some (.bool (!p)):=rfl
theorem AYq:unA .neg (.int k a)=some (.int k (wr k (0-a))):=rfl
end
def AHQ (n:Nat):List Bool:=List.replicate n false
theorem Ul{n:Nat}:(AHQ n).length=n:=by simp[AHQ]
theorem ALI{l:List Bool}:stripL (List.map AVal.bool l)=List.map AVal.bool l:=by
  induction l with
  |nil=>simp[stripL]
  |cons x l ih=>simp[stripL,AVal.strip,ih]
theorem ALF{k:IntKind}{l:List Int}:stripL (List.map (AVal.int k) l)=List.map (AVal.int k) l:=by
  induction l with
  |nil=>simp[stripL]
  |cons x l ih=>simp[stripL,AVal.strip,ih]
theorem AMV{l:List Bool}{n:Nat} (h:l.length=n):List.take n (List.map AVal.bool l)=List.map AVal.bool l:=by
  subst h;rw[List.take_of_length_le];simp
theorem AOC{k:IntKind}{l:List Int}{n:Nat} (h:l.length=n):List.take n (List.map (AVal.int k) l)=List.map (AVal.int k) l:=by
  subst h;rw[List.take_of_length_le];simp
theorem M8: ∀(l q p:List AVal),q.length=l.length→putCells (p++q) p.length l=p++l
  |[],q,p,h=>by simp at h;subst h;simp[putCells]
  | x::l,q,p,h=>by
    cases q with
    |nil=>simp at h
    | cons y q=>
      rw[putCells]
      have e:(p++y::q).set p.length x=(p++[x])++q:=by simp
      have e2:p.length+1=(p++[x]).length:=by simp
      rw[e,e2,M8 l q (p++[x]) (by simpa using h)];simp
theorem ARF{l q:List Bool} (h:q.length=l.length):putCells (List.map AVal.bool q) 0 (List.map AVal.bool l)=List.map AVal.bool l:=by
  have:=M8 (List.map AVal.bool l) (List.map AVal.bool q) [] (by simpa using h)
  simpa using this
theorem ARm{k:IntKind}{l q:List Int} (h:q.length=l.length):putCells (List.map (AVal.int k) q) 0 (List.map (AVal.int k) l)=List.map (AVal.int k) l:=by
  have:=M8 (List.map (AVal.int k) l) (List.map (AVal.int k) q) [] (by simpa using h)
  simpa using this
theorem AU5:AVal.strip (.any)=.any:=by simp[AVal.strip]
theorem ARY{b:Bool}:AVal.strip (.bool b)=.bool b:=by simp[AVal.strip]
theorem AUm{k:IntKind}{n:Int}:AVal.strip (.int k n)=.int k n:=by simp[AVal.strip]
theorem AUj{l:List UInt8}:AVal.strip (.str l)=.str l:=by simp[AVal.strip]
theorem AWs{w i o l:Nat}:AVal.strip (.bsl w i o l)=.bsl w i o l:=by simp[AVal.strip]
theorem AMB{i n:Nat}{T:TypeId}:AVal.strip (.nself i T n)=.nself i T n:=by simp[AVal.strip]
theorem AXM{e:TypeId}{l:List UInt8}{o:Bool}:AVal.strip (.buf e l o)=.buf e l false:=by simp[AVal.strip]
theorem ASj{e:TypeId}{l:List UInt8}{o:Bool}:AVal.strip (.bufp e l o)=.bufp e l false:=by simp[AVal.strip]
theorem AVL{w i o l:Nat}:Aa (.bsl w i o l)=[.bsl w i o l]:=rfl
theorem AL3{i n:Nat}{T:TypeId}:Aa (.nself i T n)=[.nself i T n]:=rfl
theorem AWb{e:TypeId}{l:List UInt8}{o:Bool}:Aa (.buf e l o)=[.buf e l o]:=rfl
theorem AZz{i:Nat}:(AVal.sh i).strip=.sh i:=rfl
theorem AS3{i w n:Nat}:(AVal.sptr i w n).strip=.sptr i w n:=rfl
theorem AYP{i:Nat}:Aa (.sh i)=[.sh i]:=rfl
theorem ARi{i w n:Nat}:Aa (.sptr i w n)=[.sptr i w n]:=rfl
theorem AZy{i:Nat}:DY (.sh i)=true:=rfl
theorem AQW{i w n:Nat}:DY (.sptr i w n)=true:=rfl
theorem AUZ{w i o l:Nat}:DY (.bsl w i o l)=true:=rfl
theorem ANG{i n:Nat}{T:TypeId}:DY (.nself i T n)=true:=rfl
theorem AWn{e:TypeId}{l:List UInt8}{o:Bool}:DY (.buf e l o)=true:=rfl
theorem AVV{i o:Nat}:AVal.strip (.ptr i o)=.ptr i o:=by simp[AVal.strip]
theorem AO7:AVal.strip (.nilp)=.nilp:=by simp[AVal.strip]
theorem APM{l:List AVal}:AVal.strip (.cptr l)=.cptr l:=by simp[AVal.strip]
theorem AYk{f:Fn}{p q:List AVal}:AVal.strip (.fn f p q)=.fn f p q:=by simp[AVal.strip]
theorem AMu:AVal.strip (.nilFn)=.nilFn:=by simp[AVal.strip]
theorem AN7{t:TypeId}{x:AVal}:AVal.strip (.iface t x)=.iface t x:=by simp[AVal.strip]
theorem XP:AVal.strip (.nilIface)=.nilIface:=by simp[AVal.strip]
theorem AXH:Aa (.any)=[.any]:=rfl
theorem AQ5{b:Bool}:Aa (.bool b)=[.bool b]:=rfl
theorem AUO{k:IntKind}{n:Int}:Aa (.int k n)=[.int k n]:=rfl
theorem AXF{l:List UInt8}:Aa (.str l)=[.str l]:=rfl
theorem AV9{i o:Nat}:Aa (.ptr i o)=[.ptr i o]:=rfl
theorem ATb:Aa (.nilp)=[.nilp]:=rfl
theorem ARz{l:List AVal}:Aa (.cptr l)=[.cptr l]:=rfl
theorem AYX{f:Fn}{p q:List AVal}:Aa (.fn f p q)=[.fn f p q]:=rfl
theorem ALx:Aa (.nilFn)=[.nilFn]:=rfl
theorem ALi{t:TypeId}{x:AVal}:Aa (.iface t x)=[.iface t x]:=rfl
theorem AAR:Aa (.nilIface)=[.nilIface]:=rfl
theorem AK4{l:List AVal}:Aa (.tuple l)=[.tuple l]:=rfl
theorem AMK{w:Nat}{l:List AVal}{o:Bool}:Aa (.slice w l o)=[.slice w l o]:=rfl
theorem AR6{b:Bool}:DY (.bool b)=true:=rfl
theorem AUh{k:IntKind}{n:Int}:DY (.int k n)=true:=rfl
theorem AUe{l:List UInt8}:DY (.str l)=true:=rfl
theorem AXU{i o:Nat}:DY (.ptr i o)=true:=rfl
theorem AS9:DY (.nilp)=true:=rfl
theorem ASc{l:List AVal}:DY (.cptr l)=true:=rfl
theorem AYt{f:Fn}{p q:List AVal}:DY (.fn f p q)=true:=rfl
theorem ANm:DY (.nilFn)=true:=rfl
theorem ANr{t:TypeId}{x:AVal}:DY (.iface t x)=true:=rfl
theorem XY:DY (.nilIface)=true:=rfl
theorem AU4{l:List AVal}:DY (.agg l)=true:=rfl
theorem AMS{w:Nat}{l:List AVal}{o:Bool}:DY (.slice w l o)=true:=rfl
theorem AN6{af:List AVal}{v:Value}:stripAt af (.const v)=af:=rfl
theorem ARw{af:List AVal}{v:Nat}:stripAt af (.global v)=af:=rfl
theorem AO1{af:List AVal}{v:FuncId}:stripAt af (.func v)=af:=rfl
end Go.VM
set_option linter.unusedVariables false
namespace Go.VM
abbrev MS:=List (Nat×List AVal)
abbrev PQ:=AVal→St→Prop
structure Gl (P:Prop):Prop where
  go:P
inductive An where
  |z
  |q (a b:An)
  |c (a b:An)
  |r (mv:List Tmp)
def GL (F:List AVal→St→Prop) (K:APost):APost:=fun e af st=>
  match e with
  |.normal=>F af st
  |e=>K e af st
def Sn (id:Nat) (K:APost):APost:=fun e af st=>
  match e with
  |.exit id'=>if id'=id then K .normal af st else K (.exit id') af st
  |e=>K e af st
def nK (K:APost) (af:List AVal) (st:St):Prop:=K .normal af st
def N9 (x:AVal) (X Y:List AVal→St→Prop) (af:List AVal) (st:St):Prop:=
  match x with
  |.bool b=>if b=true then X af st else Y af st
  |_=>False
theorem Vw{E:Env}{c:Code}{Q:APost}{af:List AVal}{st:St} (h:AWp E c Q af st):AWp E (.scope c) Q af st:=
  ⟨fun F Γ w a hd hs=>wp_scope_straight (wp_mono (h.go F Γ w a hd hs) fun e a' w' q=>by cases e<;>first|exact q|exact q.1.elim)⟩
def wpc (E:Env):Code→An→APost→List AVal→St→Prop
  |.skip,_,K=>fun af st=>K .normal af st
  |.ret,_,K=>fun af st=>K .ret af st
  |.exit id,_,K=>fun af st=>K (.exit id) af st
  |.seq x y,.q a b,K=>wpc E x a (GL (wpc E y b K) K)
  |.cond c x y,.c a b,K=>fun af st=>N9 (rd E af 0 c) (wpc E x a K) (wpc E y b K) af st
  |.block id c,a,K=>wpc E c a (Sn id K)
  |.scope c,a,K=>wpc E c a K
  |.region _ os false,.r mv,K=>IP E mv os os.toList (nK K)
  |c,_,K=>AWp E c K
section
variable{E:Env}{K:APost}{af:List AVal}{st:St}{x y:Code}{a b:An}{F:List AVal→St→Prop}
theorem ATe:wpc E .skip a K af st=K .normal af st:=by rw[wpc]
theorem AUP:wpc E .ret a K af st=K .ret af st:=by rw[wpc]
theorem AP8{id:Nat}:wpc E (.exit id) a K af st=K (.exit id) af st:=by rw[wpc]
theorem AXN:wpc E (.seq x y) (.q a b) K af st=wpc E x a (GL (wpc E y b K) K) af st:=by rw[wpc]
theorem APS{c:Operand}:wpc E (.cond c x y) (.c a b) K af st=N9 (rd E af 0 c) (wpc E x a K) (wpc E y b K) af st:=by rw[wpc]
theorem AMG{id:Nat}:wpc E (.block id x) a K af st=wpc E x a (Sn id K) af st:=by rw[wpc]
theorem AMx:wpc E (.scope x) a K af st=wpc E x a K af st:=by rw[wpc]
theorem AH7{id:Nat}{os:List Oper}{mv:List Tmp}:wpc E (.region id (List.toArray os) false) (.r mv) K af st=IP E mv ⟨os⟩ os (nK K) af st:=by rw[wpc]
theorem AaV:wpc E (.seq x y) .z K af st=AWp E (.seq x y) K af st:=by rw[wpc]<;>simp
theorem ASR:wpc E (.loop x) a K af st=AWp E (.loop x) K af st:=by rw[wpc]<;>simp
theorem ASS{id:Nat}{os:Array Oper}:wpc E (.region id os true) a K af st=AWp E (.region id os true) K af st:=by rw[wpc]<;>simp
theorem AU8:GL F K .normal af st=F af st:=rfl
theorem AVq:GL F K .ret af st=K .ret af st:=rfl
theorem AVE{id:Nat}:GL F K (.exit id) af st=K (.exit id) af st:=rfl
theorem AYN{id:Nat}:Sn id K .normal af st=K .normal af st:=rfl
theorem AYE{id:Nat}:Sn id K .ret af st=K .ret af st:=rfl
theorem AZL{id:Nat}:Sn id K (.exit id) af st=K .normal af st:=by simp[Sn]
theorem AYa{id id':Nat} (h:id'≠id):Sn id K (.exit id') af st=K (.exit id') af st:=by simp[Sn,h]
theorem AY1:nK K af st=K .normal af st:=rfl
theorem AJl{X Y:List AVal→St→Prop}:N9 (.bool true) X Y af st=X af st:=rfl
theorem AKA{X Y:List AVal→St→Prop}:N9 (.bool false) X Y af st=Y af st:=rfl
theorem Mr: ∀ {c:Code} (a:An){K:APost}{af:List AVal}{st:St},wpc E c a K af st→AWp E c K af st:=by
  intro c
  induction c with
  |skip=>intro a K af st h;rw[wpc]at h;exact AEe h
  |ret=>intro a K af st h;rw[wpc]at h;exact AKd h
  |exit id=>intro a K af st h;rw[wpc]at h;exact AGe h
  | seq x y ihx ihy=>
    intro a K af st h
    cases a with
    | q a b=>
      rw[wpc]at h
      refine Qn ((ihx a h).mono fun e af' st' _ q=>?_)
      cases e with
      |normal=>exact ihy b q
      |_=>exact q
    |_=>(rw[wpc]at h;exact h)<;>(intros;simp_all)
  | cond c x y ihx ihy=>
    intro a K af st h
    cases a with
    | c a b=>
      rw[wpc]at h
      unfold N9 at h
      split at h
      · rename_i b' hb
        refine AEK b' hb ?_
        cases b' with
        |true=>simp only[if_true]at h⊢;exact ihx a h
        |false=>simp only[Bool.false_eq_true,if_false]at h⊢;exact ihy b h
      · exact h.elim
    |_=>(rw[wpc]at h;exact h)<;>(intros;simp_all)
  | block id c ih=>
    intro a K af st h
    rw[wpc]at h
    exact WW ((ih a h).mono fun e af' st' _ q=>by cases e<;>exact q)
  | region id os d=>
    intro a K af st h
    cases d with
    |true=>(rw[wpc]at h;exact h)<;>(intros;simp_all)
    | false=>
      cases a with
      |r mv=>rw[wpc]at h;exact PY mv h
      |_=>(rw[wpc]at h;exact h)<;>(intros;simp_all)
  |loop c ih=>intro a K af st h;(rw[wpc]at h;exact h)<;>(intros;simp_all)
  |rangeFunc f ps x y ihx ihy=>intro a K af st h;(rw[wpc]at h;exact h)<;>(intros;simp_all)
  |scope c ih=>intro a K af st h;rw[wpc]at h;exact Vw (ih a h)
  |label l=>intro a K af st h;(rw[wpc]at h;exact h)<;>(intros;simp_all)
  |goto l=>intro a K af st h;(rw[wpc]at h;exact h)<;>(intros;simp_all)
  |refuse w=>intro a K af st h;(rw[wpc]at h;exact h)<;>(intros;simp_all)
end
def gK (g:Option Bool) (X Y:Prop):Prop:=match g with|some true=>X|some false=>Y|none=>False
theorem Abg{X Y:Prop}:gK (some true) X Y=X:=rfl
theorem AbJ{X Y:Prop}:gK (some false) X Y=Y:=rfl
def nxK (b:Bool) (X Y:Prop):Prop:=if b=true then X else Y
theorem AaB{X Y:Prop}:nxK true X Y=X:=by simp[nxK]
theorem Aas{X Y:Prop}:nxK false X Y=Y:=by simp[nxK]
section
variable{E:Env}{mv:List Tmp}{ops:Array Oper}{K:List AVal→St→Prop}{af:List AVal}{st:St}{d:Option Tmp}{ty:TypeId}{pos:String}{aft:Array Edge}{g:Option (Nat×Bool)}
theorem AZe{op:Op}{os' os:List Oper}{j:Nat}{want:Bool}:IP E mv ⟨os'⟩ (⟨d,op,ty,pos,aft,some (j,want)⟩::os) K af st=
    gK (gdD (Kr os' j) af want) (Cq E mv ⟨d,op,ty,pos,aft,some (j,want)⟩ af st (IP E mv ⟨os'⟩ os K)) (IP E mv ⟨os'⟩ os K (Av af d (.tuple [])) st):=by
  simp only[IP,AHI,gK]
  all_goals (rcases gdD (Kr os' j) af want with _|(_|_)<;>simp)
theorem AbP{op:Op}{os':List Oper}{j:Nat}{want:Bool}:gWp E mv ⟨os'⟩ ⟨d,op,ty,pos,aft,some (j,want)⟩ af st K=
    gK (gdD (Kr os' j) af want) (Cq E mv ⟨d,op,ty,pos,aft,some (j,want)⟩ af st K) (K (Av af d (.tuple [])) st):=by
  simp only[gWp,AHI,gK]
  all_goals (rcases gdD (Kr os' j) af want with _|(_|_)<;>simp)
theorem AW6{t:Tmp}{s:List UInt8}{p:Nat}:Tq (.iter s p) t d K af st=nxK (decide (p<s.length)) (K (Av (af.set t (.iter s (p+(Cm s p).2))) d (.tuple [.bool true,.int .i64 p,.int .i32 (Cm s p).1])) st) (K (Av af d (.tuple [.bool false])) st):=by
  rw[AJY];rfl
end
section cong
@[congr] theorem Aah {E : Env} {mv : List Tmp} {ops : Array Oper} {os : List Oper} {K : List AVal → St → Prop} {af : List AVal} {st : St} {af' : List AVal} {st' : St} (h0 : af = af') (h1 : st = st') : IP E mv ops os K af st = IP E mv ops os K af' st' := by subst h0; subst h1; rfl
@[congr] theorem Aa0 {E : Env} {mv : List Tmp} {o : Oper} {af : List AVal} {st : St} {K : List AVal → St → Prop} {af' : List AVal} {st' : St} (h0 : af = af') (h1 : st = st') : Cq E mv o af st K = Cq E mv o af' st' K := by subst h0; subst h1; rfl
@[congr] theorem Aa5 {x : Option AVal} {d : Option Tmp} {K : List AVal → St → Prop} {af : List AVal} {st : St} {x' : Option AVal} {af' : List AVal} {st' : St} (h0 : x = x') (h1 : af = af') (h2 : st = st') : Lm x d K af st = Lm x' d K af' st' := by subst h0; subst h1; subst h2; rfl
@[congr] theorem AaS {x : Option AVal} {d : Option Tmp} {K : List AVal → St → Prop} {af : List AVal} {st : St} {x' : Option AVal} {af' : List AVal} {st' : St} (h0 : x = x') (h1 : af = af') (h2 : st = st') : JN x d K af st = JN x' d K af' st' := by subst h0; subst h1; subst h2; rfl
@[congr] theorem Aaa {z : Option (AVal × St)} {d : Option Tmp} {K : List AVal → St → Prop} {af : List AVal} {z' : Option (AVal × St)} {af' : List AVal} (h0 : z = z') (h1 : af = af') : NY z d K af = NY z' d K af' := by subst h0; subst h1; rfl
@[congr] theorem Aa3 {b : Bool} {v : AVal} {d : Option Tmp} {K : List AVal → St → Prop} {af : List AVal} {st : St} {b' : Bool} {v' : AVal} {af' : List AVal} {st' : St} (h0 : b = b') (h1 : v = v') (h2 : af = af') (h3 : st = st') : ANz b v d K af st = ANz b' v' d K af' st' := by subst h0; subst h1; subst h2; subst h3; rfl
@[congr] theorem AZ8 {x : Option (List AVal)} {d : Option Tmp} {K : List AVal → St → Prop} {af : List AVal} {st : St} {x' : Option (List AVal)} {af' : List AVal} {st' : St} (h0 : x = x') (h1 : af = af') (h2 : st = st') : TV x d K af st = TV x' d K af' st' := by subst h0; subst h1; subst h2; rfl
@[congr] theorem AZ9 {s : Option St} {K : List AVal → St → Prop} {af : List AVal} {s' : Option St} {af' : List AVal} (h0 : s = s') (h1 : af = af') : M3 s K af = M3 s' K af' := by subst h0; subst h1; rfl
@[congr] theorem AZ7 {E : Env} {t : TypeId} {v : AVal} {lo : Option (Option Int)} {hi : Option (Option Int)} {mx : Option (Option Int)} {d : Option Tmp} {K : List AVal → St → Prop} {af : List AVal} {st : St} {v' : AVal} {lo' : Option (Option Int)} {hi' : Option (Option Int)} {mx' : Option (Option Int)} {af' : List AVal} {st' : St} (h0 : v = v') (h1 : lo = lo') (h2 : hi = hi') (h3 : mx = mx') (h4 : af = af') (h5 : st = st') : UV E t v lo hi mx d K af st = UV E t v' lo' hi' mx' d K af' st' := by subst h0; subst h1; subst h2; subst h3; subst h4; subst h5; rfl
@[congr] theorem AZ6 {b : Bool} {v : AVal} {d : Option Tmp} {K : List AVal → St → Prop} {af : List AVal} {st : St} {b' : Bool} {v' : AVal} {af' : List AVal} {st' : St} (h0 : b = b') (h1 : v = v') (h2 : af = af') (h3 : st = st') : Tg b v d K af st = Tg b' v' d K af' st' := by subst h0; subst h1; subst h2; subst h3; rfl
@[congr] theorem AaF {v : AVal} {tm : Tmp} {d : Option Tmp} {K : List AVal → St → Prop} {af : List AVal} {st : St} {v' : AVal} {af' : List AVal} {st' : St} (h0 : v = v') (h1 : af = af') (h2 : st = st') : Tq v tm d K af st = Tq v' tm d K af' st' := by subst h0; subst h1; subst h2; rfl
@[congr] theorem Aad {E : Env} {v : AVal} {l : List AVal} {d : Option Tmp} {K : List AVal → St → Prop} {af : List AVal} {st : St} {v' : AVal} {l' : List AVal} {af' : List AVal} {st' : St} (h0 : v = v') (h1 : l = l') (h2 : af = af') (h3 : st = st') : ADk E v l d K af st = ADk E v' l' d K af' st' := by subst h0; subst h1; subst h2; subst h3; rfl
@[congr] theorem AbU {b : Bool} {u : Operand} {t : TypeId} {E : Env} {d : Option Tmp} {K : List AVal → St → Prop} {af : List AVal} {st : St} {b' : Bool} {af' : List AVal} {st' : St} (h0 : b = b') (h1 : af = af') (h2 : st = st') : mvK b u t E d K af st = mvK b' u t E d K af' st' := by subst h0; subst h1; subst h2; rfl
@[congr] theorem AbC {b : Bool} {t : TypeId} {v : AVal} {E : Env} {d : Option Tmp} {K : List AVal → St → Prop} {af : List AVal} {st : St} {b' : Bool} {v' : AVal} {af' : List AVal} {st' : St} (h0 : b = b') (h1 : v = v') (h2 : af = af') (h3 : st = st') : ldK b t v E d K af st = ldK b' t v' E d K af' st' := by subst h0; subst h1; subst h2; subst h3; rfl
@[congr] theorem Aaq {F : List AVal → St → Prop} {L : APost} {e : Exit} {af : List AVal} {st : St} {e' : Exit} {af' : List AVal} {st' : St} (h0 : e = e') (h1 : af = af') (h2 : st = st') : GL F L e af st = GL F L e' af' st' := by subst h0; subst h1; subst h2; rfl
@[congr] theorem Aa6 {id : Nat} {L : APost} {e : Exit} {af : List AVal} {st : St} {e' : Exit} {af' : List AVal} {st' : St} (h0 : e = e') (h1 : af = af') (h2 : st = st') : Sn id L e af st = Sn id L e' af' st' := by subst h0; subst h1; subst h2; rfl
@[congr] theorem Abl {L : APost} {af : List AVal} {st : St} {af' : List AVal} {st' : St} (h0 : af = af') (h1 : st = st') : nK L af st = nK L af' st' := by subst h0; subst h1; rfl
@[congr] theorem Aay {v : AVal} {F : List AVal → St → Prop} {G : List AVal → St → Prop} {af : List AVal} {st : St} {v' : AVal} {af' : List AVal} {st' : St} (h0 : v = v') (h1 : af = af') (h2 : st = st') : N9 v F G af st = N9 v' F G af' st' := by subst h0; subst h1; subst h2; rfl
@[congr] theorem Abb {E : Env} {c : Code} {a : An} {L : APost} {af : List AVal} {st : St} {af' : List AVal} {st' : St} (h0 : af = af') (h1 : st = st') : wpc E c a L af st = wpc E c a L af' st' := by subst h0; subst h1; rfl
@[congr] theorem AbK {E : Env} {c : Code} {L : APost} {af : List AVal} {st : St} {af' : List AVal} {st' : St} (h0 : af = af') (h1 : st = st') : AWp E c L af st = AWp E c L af' st' := by subst h0; subst h1; rfl
@[congr] theorem AaR {E : Env} {f : FuncId} {l : List AVal} {st : St} {Q : AVal → St → Prop} {l' : List AVal} {st' : St} (h0 : l = l') (h1 : st = st') : ACall E f l st Q = ACall E f l' st' Q := by subst h0; subst h1; rfl
@[congr] theorem AZ5 {E : Env} {mv : List Tmp} {ops : Array Oper} {p : Plan} {tv : List (Nat × AVal)} {K : List AVal → St → Prop} {af : List AVal} {st : St} {tv' : List (Nat × AVal)} {af' : List AVal} {st' : St} (h0 : tv = tv') (h1 : af = af') (h2 : st = st') : FO E mv ops p tv K af st = FO E mv ops p tv' K af' st' := by subst h0; subst h1; subst h2; rfl
@[congr] theorem Abh {E : Env} {mv : List Tmp} {os : List Oper} {x : Option AVal} {i : Nat} {d : Option Tmp} {p : Plan} {tv : List (Nat × AVal)} {K : List AVal → St → Prop} {af : List AVal} {st : St} {x' : Option AVal} {tv' : List (Nat × AVal)} {af' : List AVal} {st' : St} (h0 : x = x') (h1 : tv = tv') (h2 : af = af') (h3 : st = st') : tkR E mv os x i d p tv K af st = tkR E mv os x' i d p tv' K af' st' := by subst h0; subst h1; subst h2; subst h3; rfl
@[congr] theorem AbX {E : Env} {mv : List Tmp} {os : List Oper} {w : Option Oper} {i : Nat} {p : Plan} {tv : List (Nat × AVal)} {K : List AVal → St → Prop} {af : List AVal} {st : St} {w' : Option Oper} {tv' : List (Nat × AVal)} {af' : List AVal} {st' : St} (h0 : w = w') (h1 : tv = tv') (h2 : af = af') (h3 : st = st') : tkO E mv os w i p tv K af st = tkO E mv os w' i p tv' K af' st' := by subst h0; subst h1; subst h2; subst h3; rfl
@[congr] theorem Aa2 {E : Env} {mv : List Tmp} {os : List Oper} {chk : List Nat} {p : Plan} {tv : List (Nat × AVal)} {K : List AVal → St → Prop} {af : List AVal} {st : St} {tv' : List (Nat × AVal)} {af' : List AVal} {st' : St} (h0 : tv = tv') (h1 : af = af') (h2 : st = st') : ASb E mv os chk p tv K af st = ASb E mv os chk p tv' K af' st' := by subst h0; subst h1; subst h2; rfl
@[congr] theorem Aa1 {E : Env} {mv : List Tmp} {os : List Oper} {w : Option Oper} {chk : List Nat} {p : Plan} {tv : List (Nat × AVal)} {K : List AVal → St → Prop} {af : List AVal} {st : St} {w' : Option Oper} {tv' : List (Nat × AVal)} {af' : List AVal} {st' : St} (h0 : w = w') (h1 : tv = tv') (h2 : af = af') (h3 : st = st') : AXQ E mv os w chk p tv K af st = AXQ E mv os w' chk p tv' K af' st' := by subst h0; subst h1; subst h2; subst h3; rfl
@[congr] theorem AbY {E : Env} {mv : List Tmp} {ops : Array Oper} {o : Oper} {af : List AVal} {st : St} {K : List AVal → St → Prop} {af' : List AVal} {st' : St} (h0 : af = af') (h1 : st = st') : gWp E mv ops o af st K = gWp E mv ops o af' st' K := by subst h0; subst h1; rfl
@[congr] theorem Abk {g : Option Bool} {X : Prop} {Y : Prop} {g' : Option Bool} (h0 : g = g') : gK g X Y = gK g' X Y := by subst h0; rfl
@[congr] theorem Aa4 {d : Option Tmp} {K : List AVal → St → Prop} {af : List AVal} {r : AVal} {sx : St} {af' : List AVal} {r' : AVal} {sx' : St} (h0 : af = af') (h1 : r = r') (h2 : sx = sx') : AN4 d K af r sx = AN4 d K af' r' sx' := by subst h0; subst h1; subst h2; rfl
@[congr] theorem AbH {b : Bool} {X : Prop} {Y : Prop} {b' : Bool} (h0 : b = b') : nxK b X Y = nxK b' X Y := by subst h0; rfl
end cong
section rules
variable{E:Env}{K Q:APost}{af:List AVal}{st:St}{x y c:Code}
theorem ent{f:FuncId}{fn:Func}{nt:Nat}{rs:List ResultVar}{args:List AVal}{m m':MS}{n:Nat}{r':AVal}{Q:PQ} (hQ: ∀n',n≤n'→Gl (Q r' ⟨m',n'⟩)) (hf:E.P.funcs[f]?=some fn) (hb:fn.body=some c)
    (hn:fn.ntmps=nt) (hr:fn.results=rs.toArray) (a:An)
    (h: ∀R:APost,(∀af st xs m0 m1 n',Ma E rs af st=some (xs,⟨m1,n'⟩)→m0.Sublist m1→m0=m'→n≤n'→Nt xs=r'→R .ret af st∧R .normal af st)→Gl (wpc E c a R (args++List.replicate (nt-args.length) .any) ⟨m,n⟩)):ACall E f args ⟨m,n⟩ Q:=by
  refine Lg hf hb ?_
  have hw:=Mr a (h (Iu E fn Q) ?_).go
  · subst hn;exact hw
  · intro af st xs m0 m1 n' h1 h2 h0 h3 h4
    subst h0
    have e:fn.results.toList=rs:=by rw[hr]
    subst h4
    exact⟨KH (by rw[e];exact h1) h2 (hQ n' h3).go,KA (by rw[e];exact h1) h2 (hQ n' h3).go⟩
theorem ARL{f:FuncId}{fn:Func}{nt:Nat}{rs:List ResultVar}{args:List AVal}{m m':MS}{n:Nat}{r':AVal}{Q:PQ} (hQ: ∀n',n≤n'→Gl (Q r' ⟨m',n'⟩)) (hf:E.P.funcs[f]?=some fn) (hb:fn.body=some c)
    (hn:fn.ntmps=nt) (hr:fn.results=rs.toArray) (a:An)
    (h: ∀R:APost,(∀af st xs m0 m1 n',Ma E rs af st=some (xs,⟨m1,n'⟩)→m0.Sublist m1→m0=m'→n≤n'→(Nt xs).strip=r'→R .ret af st∧R .normal af st)→Gl (wpc E c a R (args++List.replicate (nt-args.length) .any) ⟨m,n⟩)):ACall E f args ⟨m,n⟩ Q:=by
  refine ACall.strip (Lg hf hb ?_)
  have hw:=Mr a (h (Iu E fn fun r st'=>Q r.strip st') ?_).go
  · subst hn;exact hw
  · intro af st xs m0 m1 n' h1 h2 h0 h3 h4
    subst h0
    have e:fn.results.toList=rs:=by rw[hr]
    subst h4
    exact⟨KH (by rw[e];exact h1) h2 (hQ n' h3).go,KA (by rw[e];exact h1) h2 (hQ n' h3).go⟩
theorem Ji{id:Nat}{os:List Oper} (mv:List Tmp) (plan:Plan) (hm:E.P.follows .mixedOrders=true) (hok:GN (List.toArray os) plan false (Array.replicate (List.toArray os).size false) []=true)
    (h:Gl (FO E mv ⟨os⟩ plan [] (nK Q) af st)):AWp E (.region id (List.toArray os) true) Q af st:=
  NZ mv plan hm hok h.go
theorem Gn{α β γ:Type}{k0:α→Option β}{body:(α→Option β)→Option β}{r:β}{m:MS}{n:Nat}{T:Prop}{d:JD α} (h:T∧AA k0 body d=some r) (js cs:List Tmp) (V:α→γ→List AVal) (M:α→γ→MS) (a:An)
    (rest: ∀j g n',n≤n'→keysLt n' (M j g)→((M j g).map (·.1)).Nodup→T∧k0 j=some r→AWp E y Q (Dt (Ai js af) cs (V j g)) ⟨M j g,n'⟩)
    (first: ∀(k:α→Option β) (J:List AVal→St→Prop),(∀j g af' m0 m1 n',k j=some r→m0.Sublist m1→m0=M j g→Ai cs (Ai js af')=Ai cs (Ai js af)→CW (Ai js af') cs=V j g→n≤n'→J af' ⟨m1,n'⟩)→T∧body k=some r→Gl (wpc E x a (GL J Q) af ⟨m,n⟩)):
    AWp E (.seq x y) Q af ⟨m,n⟩:=by
  refine Qn ?_
  have key:=Mr a (first k0 (fun af' st'=>AWp E y Q af' ⟨st'.m,st'.next⟩) ?_ h).go
  · exact key.mono fun e af' st' _ q=>by cases e<;>exact q
  · intro j g af' m0 m1 n' h1 h2 h3 h4 h5 h6
    subst h3
    refine UR js (Vx (m:=M j g) h2 ?_)
    refine AWp.known fun _ hk=>AWp.nodup fun hd=>?_
    have:=rest j g n' h6 hk hd ⟨h.1,h1⟩
    rw[Lu cs _ _ h4,h5]
    exact this
theorem ARd{σ β γ:Type}{r:β}{m:MS}{n:Nat}{T:Prop} (G:Nat→σ→Option β) (V:σ→γ→List AVal) (M:σ→γ→MS) (js cs:List Tmp) (s0:σ) (g0:γ){k0:Nat} (h:T∧G k0 s0=some r) (hz: ∀s,G 0 s=none)
    (hm:m=M s0 g0) (hv:CW (Ai js af) cs=V s0 g0)
    (round: ∀k s g n',n≤n'→keysLt n' (M s g)→T∧G (k+1) s=some r→ ∀J:List AVal→St→Prop,(∀s' g' af' m0 m1 n'',G k s'=some r→m0.Sublist m1→m0=M s' g'→Ai cs (Ai js af')=Ai cs (Ai js af)→CW (Ai js af') cs=V s' g'→n'≤n''→J af' ⟨m1,n''⟩)→
      AWp E c (GL J Q) (Dt (Ai js af) cs (V s g)) ⟨M s g,n'⟩):AWp E (.loop c) Q af ⟨m,n⟩:=by
  refine Pw js cs (fun k vs st'=> ∃s g,vs=V s g∧st'.m=M s g∧n≤st'.next∧G k s=some r) k0 ⟨s0,g0,hv,hm,Nat.le_refl _,h.2⟩ ?_
  rintro k vs ⟨m',n'⟩ ⟨s,g,rfl,hm',hn,hG⟩ J hJ
  simp only at hm' hn
  subst hm'
  cases k with
  |zero=>rw[hz]at hG;cases hG
  | succ k=>
    refine AWp.known fun _ hk=>?_
    refine(round k s g n' hn hk ⟨h.1,hG⟩ J ?_).mono fun e af' st' _ q=>by cases e<;>first|exact NA q|exact .oth (by simp) q
    intro s' g' af' m0 m1 n'' h1 h2 h3 h4 h5 h6
    exact hJ k af' ⟨m1,n''⟩ m0 (Nat.lt_succ_self _) h2 h4 ⟨s',g',h5,h3,Nat.le_trans hn h6,h1⟩
theorem AMf{α:Type}{L pre suf:List α}{x:α} (h:L=pre++x::suf) (hL:AO L.length):decide ((pre.length:Int)<(L.length:Int))=true∧idx L (pre.length:Int)=some x∧wr .i64 ((pre.length:Int)+1)=(pre.length:Int)+1:=by
  subst h
  unfold AO at hL
  simp only[List.length_append,List.length_cons]at hL
  refine⟨by simp only[decide_eq_true_eq,List.length_append,List.length_cons];omega,by simp[idx],?_⟩
  simp[wr,IntKind.wrap,IntKind.bits,IntKind.signed];omega
theorem Ro{α σ β γ:Type}{r:β}{m:MS}{n:Nat}{T:Prop} (L:List α) (hL:AO L.length) (G:List α→Int→σ→Option β) (V:Int→σ→γ→List AVal) (M:Int→σ→γ→MS) (js cs:List Tmp) (s0:σ) (g0:γ) (h:T∧G L 0 s0=some r)
    (hm:m=M 0 s0 g0) (hv:CW (Ai js af) cs=V 0 s0 g0)
    (rnil: ∀i s g n',n≤n'→keysLt n' (M i s g)→(decide (i<(L.length:Int))=false∧T)∧G [] i s=some r→AWp E c (GL (fun _ _=>False) Q) (Dt (Ai js af) cs (V i s g)) ⟨M i s g,n'⟩)
    (rcons: ∀x xs i s g n',n≤n'→keysLt n' (M i s g)→(decide (i<(L.length:Int))=true∧idx L i=some x∧wr .i64 (i+1)=i+1∧T)∧G (x::xs) i s=some r→ ∀J:List AVal→St→Prop,(∀s' g' af' m0 m1 n'',G xs (i+1) s'=some r→m0.Sublist m1→m0=M (i+1) s' g'→Ai cs (Ai js af')=Ai cs (Ai js af)→CW (Ai js af') cs=V (i+1) s' g'→n'≤n''→J af' ⟨m1,n''⟩)→
      AWp E c (GL J Q) (Dt (Ai js af) cs (V i s g)) ⟨M i s g,n'⟩):AWp E (.loop c) Q af ⟨m,n⟩:=by
  refine Pw js cs (fun k vs st'=> ∃pre suf s g,L=pre++suf∧k=suf.length∧vs=V pre.length s g∧st'.m=M pre.length s g∧n≤st'.next∧G suf pre.length s=some r) L.length ⟨[],L,s0,g0,rfl,rfl,hv,hm,Nat.le_refl _,h.2⟩ ?_
  rintro k vs ⟨m',n'⟩ ⟨pre,suf,s,g,hp,rfl,rfl,hm',hn,hG⟩ J hJ
  simp only at hm' hn
  subst hm'
  cases suf with
  | nil=>
    refine AWp.known fun _ hk=>?_
    refine(rnil _ s g n' hn hk ⟨⟨by rw[hp];simp,h.1⟩,hG⟩).mono fun e af' st' _ q=>by cases e<;>first|exact q.elim|exact .oth (by simp) q
  | cons x xs=>
    refine AWp.known fun _ hk=>?_
    obtain⟨f1,f2,f3⟩:=AMf hp hL
    refine(rcons x xs _ s g n' hn hk ⟨⟨f1,f2,f3,h.1⟩,hG⟩ J ?_).mono fun e af' st' _ q=>by cases e<;>first|exact NA q|exact .oth (by simp) q
    intro s' g' af' m0 m1 n'' h1 h2 h3 h4 h5 h6
    have e1:((pre.length:Int)+1)=((pre++[x]).length:Int):=by simp
    rw[e1]at h1 h3 h5
    exact hJ xs.length af' ⟨m1,n''⟩ m0 (by simp) h2 h4 ⟨pre++[x],xs,s',g',by rw[hp];simp,rfl,h5,h3,Nat.le_trans hn h6,h1⟩
theorem Zh{σ β γ:Type}{r:β}{m:MS}{n:Nat}{T:Prop} (i0 b:Int) (hL: -4611686018427387904≤i0∧b≤4611686018427387904) (G:Nat→Int→σ→Option β) (V:Int→σ→γ→List AVal) (M:Int→σ→γ→MS) (js cs:List Tmp) (s0:σ) (g0:γ) (h:T∧G (b-i0).toNat i0 s0=some r)
    (hm:m=M i0 s0 g0) (hv:CW (Ai js af) cs=V i0 s0 g0)
    (rnil: ∀i s g n',n≤n'→keysLt n' (M i s g)→(decide (i<b)=false∧T)∧G 0 i s=some r→AWp E c (GL (fun _ _=>False) Q) (Dt (Ai js af) cs (V i s g)) ⟨M i s g,n'⟩)
    (rcons: ∀k i s g n',n≤n'→keysLt n' (M i s g)→(decide (i<b)=true∧wr .i64 (i+1)=i+1∧T)∧G (k+1) i s=some r→ ∀J:List AVal→St→Prop,(∀s' g' af' m0 m1 n'',G k (i+1) s'=some r→m0.Sublist m1→m0=M (i+1) s' g'→Ai cs (Ai js af')=Ai cs (Ai js af)→CW (Ai js af') cs=V (i+1) s' g'→n'≤n''→J af' ⟨m1,n''⟩)→
      AWp E c (GL J Q) (Dt (Ai js af) cs (V i s g)) ⟨M i s g,n'⟩):AWp E (.loop c) Q af ⟨m,n⟩:=by
  refine Pw js cs (fun k vs st'=> ∃i s g,i0≤i∧k=(b-i).toNat∧vs=V i s g∧st'.m=M i s g∧n≤st'.next∧G k i s=some r) (b-i0).toNat ⟨i0,s0,g0,Int.le_refl _,rfl,hv,hm,Nat.le_refl _,h.2⟩ ?_
  rintro k vs ⟨m',n'⟩ ⟨i,s,g,hi,hk',rfl,hm',hn,hG⟩ J hJ
  simp only at hm' hn
  subst hm'
  cases k with
  | zero=>
    refine AWp.known fun _ hk=>?_
    refine(rnil _ s g n' hn hk ⟨⟨by simp only[decide_eq_false_iff_not];omega,h.1⟩,hG⟩).mono fun e af' st' _ q=>by cases e<;>first|exact q.elim|exact .oth (by simp) q
  | succ k=>
    refine AWp.known fun _ hk=>?_
    have hw:wr .i64 (i+1)=i+1:=by
      simp[wr,IntKind.wrap,IntKind.bits,IntKind.signed];omega
    refine(rcons k i s g n' hn hk ⟨⟨by simp only[decide_eq_true_eq];omega,hw,h.1⟩,hG⟩ J ?_).mono fun e af' st' _ q=>by cases e<;>first|exact NA q|exact .oth (by simp) q
    intro s' g' af' m0 m1 n'' h1 h2 h3 h4 h5 h6
    exact hJ k af' ⟨m1,n''⟩ m0 (by simp) h2 h4 ⟨i+1,s',g',by omega,by omega,h5,h3,Nat.le_trans hn h6,h1⟩
theorem BI (a:An) (h:Gl (wpc E c a K af st)):AWp E c K af st:=Mr a h.go
end rules
theorem Pg{A B:Prop} (a:Gl A) (b:Gl B):Gl (A∧B):=⟨a.go,b.go⟩
theorem D9{α:Type}{c:Bool}{x y:Option α}{r:α}{T:Prop} (h:T∧(if c=true then x else y)=some r):((c=true∧T)∧x=some r)∨((c=false∧T)∧y=some r):=by
  cases c
  · exact .inr ⟨⟨rfl,h.1⟩,h.2⟩
  · exact .inl ⟨⟨rfl,h.1⟩,h.2⟩
theorem Ad{α β:Type}{x:Option α}{f:α→Option β}{r:β}{T:Prop} (h:T∧Option.bind x f=some r): ∃y,(x=some y∧T)∧f y=some r:=by
  obtain⟨y,h1,h2⟩:=bind_some h.2;exact⟨y,⟨h1,h.1⟩,h2⟩
theorem GJ{α:Type}{c:Prop} [Decidable c]{x:Option α}{r:α}{T:Prop} (h:T∧grd c x=some r):c∧T∧x=some r:=by
  obtain⟨h1,h2⟩:=APi h.2;exact⟨h1,h.1,h2⟩
theorem G6{A B C:Prop} (a:A) (h:B∧C):(A∧B)∧C:=⟨⟨a,h.1⟩,h.2⟩
end Go.VM
set_option linter.unusedVariables false
set_option linter.defProp false
set_option maxRecDepth 100000
namespace Go.VM
section
variable{E:Env}{af:List AVal}{t:TypeId}
theorem AVw{r:AVal}:Nt [r]=r:=rfl
theorem AUl:Nt []=.tuple []:=rfl
theorem AWo{a b:AVal}{l:List AVal}:Nt (a::b::l)=.tuple (a::b::l):=rfl
theorem ATB:Ai [] af=af:=rfl
theorem AK7{j:Tmp}{js:List Tmp}:Ai (j::js) af=Ai js (af.set j .any):=rfl
theorem AYs{vs:List AVal}:Dt af [] vs=af:=by cases vs<;>rfl
theorem AUb{c:Tmp}{cs:List Tmp}{v:AVal}{vs:List AVal}:Dt af (c::cs) (v::vs)=Dt (af.set c v) cs vs:=rfl
theorem AZg:CW af []=[]:=rfl
theorem AXO{c:Tmp}{cs:List Tmp}:CW af (c::cs)=af.getD c .any::CW af cs:=rfl
theorem AQu{r:AVal}:Av af none r=af:=rfl
theorem APj{d:Tmp}{r:AVal}:Av af (some d) r=af.set d r:=rfl
theorem AWT{i:Tmp}:stripAt af (.tmp i)=af.set i (af.getD i .any).strip:=rfl
theorem AWu{l:List AVal}:AVal.strip (.agg l)=.agg (stripL l):=by rw[AVal.strip]
theorem AMF{l:List AVal}:AVal.strip (.tuple l)=.tuple (stripL l):=by rw[AVal.strip]
theorem AMH{w:Nat}{l:List AVal}{o:Bool}:AVal.strip (.slice w l o)=.slice w l false:=by rw[AVal.strip]
theorem AQR{s:List UInt8}{p:Nat}:AVal.strip (.iter s p)=.any:=by rw[AVal.strip]
theorem API:stripL []=[]:=by rw[stripL]
theorem AYR{x:AVal}{bs:List Bool}{xs:List AVal}:Cz (true::bs) (x::xs)=x.strip::Cz bs xs:=by rw[Cz]
theorem AY8{x:AVal}{bs:List Bool}{xs:List AVal}:Cz (false::bs) (x::xs)=x::Cz bs xs:=by rw[Cz]
theorem AZw{xs:List AVal}:Cz [] xs=xs:=by rw[Cz]
theorem AOT{x:AVal}{l:List AVal}:stripL (x::l)=x.strip::stripL l:=by rw[stripL]
theorem AZQ{i:Tmp}:rd E af t (.tmp i)=af.getD i .any:=rfl
theorem ATE{v:Value}:rd E af t (.const v)=Ha (Gm E.P t) v:=rfl
theorem AWy{g:FuncId}:rd E af t (.func g)=.fn (.func g) [] []:=rfl
end
def vmC:=And.intro (And.intro (And.intro (And.intro (And.intro (And.intro (And.intro (And.intro (And.intro (@AKp) (@AHc)) (And.intro (@AI5) (@ALQ))) (And.intro (And.intro (@AFC) (@AE3)) (And.intro (@YJ) (@ZF)))) (And.intro (And.intro (And.intro (@AE5) (@ATD)) (And.intro (@AQD) (@ATP))) (And.intro (And.intro (@AR4) (@ALD)) (And.intro (@AQZ) (@ANF))))) (And.intro (And.intro (And.intro (And.intro (@AV7) (@AMo)) (And.intro (@ASw) (@AZ3))) (And.intro (And.intro (@AQN) (@VG)) (And.intro (@AUg) (@AS1)))) (And.intro (And.intro (And.intro (@AJf) (@ARA)) (And.intro (@AL7) (@AQT))) (And.intro (And.intro (@AIj) (@AVU)) (And.intro (@AVJ) (And.intro (@AIw) (@AV6))))))) (And.intro (And.intro (And.intro (And.intro (And.intro (@AEl) (@AQj)) (And.intro (@AVP) (@AHV))) (And.intro (And.intro (@AET) (@Zk)) (And.intro (@ATS) (@Ze)))) (And.intro (And.intro (And.intro (@AQB) (@AZc)) (And.intro (@AX9) (@AYF))) (And.intro (And.intro (@AUX) (@AO8)) (And.intro (@ALm) (@AWX))))) (And.intro (And.intro (And.intro (And.intro (@AGh) (@AUi)) (And.intro (@AVS) (@AEc))) (And.intro (And.intro (@APt) (@VX)) (And.intro (@AVW) (@ACx)))) (And.intro (And.intro (And.intro (@ARy) (@AWZ)) (And.intro (@AHK) (@AFO))) (And.intro (And.intro (@AB6) (@ASE)) (And.intro (@AA2) (And.intro (@AP3) (@AYT)))))))) (And.intro (And.intro (And.intro (And.intro (And.intro (And.intro (@AZT) (@AY2)) (And.intro (@AZA) (@AQp))) (And.intro (And.intro (@APG) (@AOQ)) (And.intro (@AQw) (@ANq)))) (And.intro (And.intro (And.intro (@ALq) (@AOI)) (And.intro (@ATV) (@AUc))) (And.intro (And.intro (@AQ4) (@AM9)) (And.intro (@AaX) (@Aax))))) (And.intro (And.intro (And.intro (And.intro (@AaA) (@Aaj)) (And.intro (@APn) (@ATs))) (And.intro (And.intro (@AV8) (@AVe)) (And.intro (@AQL) (@ALO)))) (And.intro (And.intro (And.intro (@AZ1) (@AMa)) (And.intro (@AZl) (@ANE))) (And.intro (And.intro (@ATf) (@ALt)) (And.intro (@AN9) (And.intro (@ASG) (@AM0))))))) (And.intro (And.intro (And.intro (And.intro (And.intro (@AJW) (@ARP)) (And.intro (@AWi) (@AKa))) (And.intro (And.intro (@AV0) (@AWe)) (And.intro (@Ov) (@AZx)))) (And.intro (And.intro (And.intro (@AY0) (@AYb)) (And.intro (@AYI) (@AYY))) (And.intro (And.intro (@AYw) (@AaK)) (And.intro (@AZk) (And.intro (@ALk) (@AY7)))))) (And.intro (And.intro (And.intro (And.intro (@AZG) (@AZK)) (And.intro (@AZO) (@AYW))) (And.intro (And.intro (@AZb) (@AYd)) (And.intro (@AYS) (@AVA)))) (And.intro (And.intro (And.intro (@AVD) (@AU3)) (And.intro (@AWc) (@AV5))) (And.intro (And.intro (@AVX) (@AVx)) (And.intro (@AXS) (And.intro (@AUu) (@AX7))))))))) (And.intro (And.intro (And.intro (And.intro (And.intro (And.intro (And.intro (@ALN) (@AMY)) (And.intro (@AYj) (@APW))) (And.intro (And.intro (@AV1) (@AYv)) (And.intro (@APB) (@ATl)))) (And.intro (And.intro (And.intro (@AH6) (@bytesOf_map)) (And.intro (@NB) (@AGW))) (And.intro (And.intro (@AF9) (@AYi)) (And.intro (@AYq) (@List.append_eq.{0}))))) (And.intro (And.intro (And.intro (And.intro (@List.map_append.{0,0}) (@List.length_append.{0})) (And.intro (@Int.le_refl) (@Int.natCast_nonneg))) (And.intro (And.intro (@List.take_length.{0}) (@List.take_zero.{0})) (And.intro (@Nat.sub_zero) (@Int.toNat_zero)))) (And.intro (And.intro (And.intro (@Bool.true_and) (@Bool.not_true)) (And.intro (@Bool.not_false) (@List.length_map.{0,0}))) (And.intro (And.intro (@Nat.left_eq_add) (@Nat.add_eq_left)) (And.intro (@Nat.one_ne_zero) (And.intro (@Nat.succ_ne_self) (@Nat.add_left_cancel_iff))))))) (And.intro (And.intro (And.intro (And.intro (And.intro (@Nat.add_assoc) (@List.length_cons.{0})) (And.intro (@List.length_nil.{0}) (@List.replicate_succ.{0}))) (And.intro (And.intro (@List.replicate_zero.{0}) (@List.cons_append.{0})) (And.intro (@List.nil_append.{0}) (@List.append_nil.{0})))) (And.intro (And.intro (And.intro (@List.getD_cons_zero.{0}) (@List.getD_cons_succ.{0})) (And.intro (@List.set_cons_zero.{0}) (@List.set_cons_succ.{0}))) (And.intro (And.intro (@Option.map_some.{0,0}) (@Option.map_none.{0,0})) (And.intro (@Option.bind_some.{0,0}) (And.intro (@Option.bind_none.{0,0}) (@List.contains_nil.{0})))))) (And.intro (And.intro (And.intro (And.intro (@List.contains_cons.{0}) (@List.elem_nil.{0})) (And.intro (@List.elem_cons.{0}) (@if_true.{1}))) (And.intro (And.intro (@if_false.{1}) (@Bool.false_eq_true)) (And.intro (@Bool.true_eq_false) (@List.drop_zero.{0})))) (And.intro (And.intro (And.intro (@List.drop_succ_cons.{0}) (@List.take_succ_cons.{0})) (And.intro (@Nat.add_zero) (@Nat.zero_add))) (And.intro (And.intro (@List.getElem?_cons_zero.{0}) (@List.getElem?_cons_succ.{0})) (And.intro (@beq_self_eq_true.{0}) (And.intro (@Bool.or_true) (@Bool.true_or)))))))) (And.intro (And.intro (And.intro (And.intro (And.intro (And.intro (@Bool.or_false) (@Bool.false_or)) (And.intro (@Option.isNone_none.{0}) (@Option.isNone_some.{0}))) (And.intro (And.intro (@Option.isSome_none.{0}) (@Option.isSome_some.{0})) (And.intro (@decide_true) (@decide_false)))) (And.intro (And.intro (And.intro (@and_self) (@true_and)) (And.intro (@and_true) (@Nat.le_refl))) (And.intro (And.intro (@List.getElem?_toArray.{0}) (@Option.getD_some.{0})) (And.intro (@Option.getD_none.{0}) (@ite_self.{1}))))) (And.intro (And.intro (And.intro (And.intro (@List.map_cons.{0,0}) (@List.map_nil.{0,0})) (And.intro (@List.range_succ) (@List.range_zero))) (And.intro (And.intro (@List.all_cons.{0}) (@List.all_nil.{0})) (And.intro (@Bool.and_true) (@Bool.and_self)))) (And.intro (And.intro (And.intro (@Option.some.injEq.{0}) (@Int.toNat_natCast)) (And.intro (@true_or) (@or_true))) (And.intro (And.intro (@false_or) (@or_false)) (And.intro (@not_true_eq_false) (And.intro (@not_false_eq_true) (@ne_eq.{1}))))))) (And.intro (And.intro (And.intro (And.intro (And.intro (@rdL.eq_1) (@rdL.eq_2)) (And.intro (@rdL.eq_3) (@rdo.eq_1))) (And.intro (And.intro (@rdo.eq_2) (@BD.eq_1)) (And.intro (@BD.eq_2) (@Ll.eq_1)))) (And.intro (And.intro (And.intro (@Ll.eq_2) (@Kr.eq_1)) (And.intro (@Kr.eq_2) (@Kr.eq_3))) (And.intro (And.intro (@opAt.eq_1) (@opAt.eq_2)) (And.intro (@opAt.eq_3) (And.intro (@QF.eq_1) (@QF.eq_2)))))) (And.intro (And.intro (And.intro (And.intro (@Aa.eq_1) (@DY.eq_1)) (And.intro (@DY.eq_2) (@DY.eq_3))) (And.intro (And.intro (@putCells.eq_1) (@putCells.eq_2)) (And.intro (@R3.eq_1) (@NW.eq_1)))) (And.intro (And.intro (And.intro (@MR.eq_1) (@MR.eq_2)) (And.intro (@OZ.eq_1) (@OZ.eq_2))) (And.intro (And.intro (@OZ.eq_3) (@KG.eq_1)) (And.intro (@PW.eq_1) (And.intro (@PW.eq_2) (@JL.eq_1)))))))))) (And.intro (And.intro (And.intro (And.intro (And.intro (And.intro (And.intro (And.intro (@JL.eq_2) (@JL.eq_3)) (And.intro (@JL.eq_4) (@Ha.eq_1))) (And.intro (And.intro (@Ha.eq_2) (@Ha.eq_3)) (And.intro (@Ha.eq_4) (@Ha.eq_5)))) (And.intro (And.intro (And.intro (@Ha.eq_6) (@Ha.eq_7)) (And.intro (@Ha.eq_8) (@OD.eq_1))) (And.intro (And.intro (@SX.eq_1) (@SX.eq_2)) (And.intro (@FW.eq_1) (@VS.eq_1))))) (And.intro (And.intro (And.intro (And.intro (@VS.eq_2) (@AMA.eq_1)) (And.intro (@AMA.eq_2) (@AMn.eq_1))) (And.intro (And.intro (@AMn.eq_2) (@Dk.eq_1)) (And.intro (@Ma.eq_1) (@Ma.eq_2)))) (And.intro (And.intro (And.intro (@Ma.eq_3) (@QZ.eq_1)) (And.intro (@QZ.eq_2) (@AXH))) (And.intro (And.intro (@AQ5) (@AUO)) (And.intro (@AXF) (And.intro (@AV9) (@ATb))))))) (And.intro (And.intro (And.intro (And.intro (And.intro (@ARz) (@AYX)) (And.intro (@ALx) (@ALi))) (And.intro (And.intro (@AAR) (@AK4)) (And.intro (@AMK) (@AR6)))) (And.intro (And.intro (And.intro (@AUh) (@AUe)) (And.intro (@AXU) (@AS9))) (And.intro (And.intro (@ASc) (@AYt)) (And.intro (@ANm) (@ANr))))) (And.intro (And.intro (And.intro (And.intro (@XY) (@AU4)) (And.intro (@AMS) (@AZe))) (And.intro (And.intro (@AbP) (@AW6)) (And.intro (@Abg) (@AbJ)))) (And.intro (And.intro (And.intro (@AaB) (@Aas)) (And.intro (@ATe) (@AUP))) (And.intro (And.intro (@AP8) (@AXN)) (And.intro (@APS) (And.intro (@AMG) (@AMx)))))))) (And.intro (And.intro (And.intro (And.intro (And.intro (And.intro (@AH7) (@AaV)) (And.intro (@ASR) (@ASS))) (And.intro (And.intro (@AU8) (@AVq)) (And.intro (@AVE) (@AYN)))) (And.intro (And.intro (And.intro (@AYE) (@AZL)) (And.intro (@AYa) (@AY1))) (And.intro (And.intro (@AJl) (@AKA)) (And.intro (@AVw) (@AUl))))) (And.intro (And.intro (And.intro (And.intro (@AWo) (@ATB)) (And.intro (@AK7) (@AYs))) (And.intro (And.intro (@AUb) (@AZg)) (And.intro (@AXO) (@AQu)))) (And.intro (And.intro (And.intro (@APj) (@AWT)) (And.intro (@AN6) (@ARw))) (And.intro (And.intro (@AO1) (@AU5)) (And.intro (@ARY) (And.intro (@AUm) (@AUj))))))) (And.intro (And.intro (And.intro (And.intro (And.intro (@AVV) (@AO7)) (And.intro (@APM) (@AYk))) (And.intro (And.intro (@AMu) (@AN7)) (And.intro (@XP) (@AWu)))) (And.intro (And.intro (And.intro (@AMF) (@AMH)) (And.intro (@AQR) (@API))) (And.intro (And.intro (@AOT) (@AYR)) (And.intro (@AY8) (And.intro (@AZw) (@AZQ)))))) (And.intro (And.intro (And.intro (And.intro (@ATE) (@AWy)) (And.intro (@AUt) (@AUq))) (And.intro (And.intro (@ALv) (@AMd)) (And.intro (@ANP) (@ABR)))) (And.intro (And.intro (And.intro (@ARr) (@AWC)) (And.intro (@AZt) (@AYH))) (And.intro (And.intro (@AZX) (@AZY)) (And.intro (@AYo) (And.intro (@AZr) (@AZh))))))))) (And.intro (And.intro (And.intro (And.intro (And.intro (And.intro (And.intro (@AZj) (@AZf)) (And.intro (@AS8) (@AP9))) (And.intro (And.intro (@AZE) (@AQz)) (And.intro (@AZm) (@AQa)))) (And.intro (And.intro (And.intro (@AVO) (@AYO)) (And.intro (@ARK) (@AYG))) (And.intro (And.intro (@AP7) (@AbO)) (And.intro (@AX4) (@AZd))))) (And.intro (And.intro (And.intro (And.intro (@ARD) (@AZR)) (And.intro (@AY3) (@AZ2))) (And.intro (And.intro (@AYf) (@AYB)) (And.intro (@AZJ) (@AV2)))) (And.intro (And.intro (And.intro (@AWx) (@AX8)) (And.intro (@AUQ) (@AUz))) (And.intro (And.intro (@AZB) (@APw)) (And.intro (@AWs) (And.intro (@AMB) (@AXM))))))) (And.intro (And.intro (And.intro (And.intro (And.intro (@ASj) (@AVL)) (And.intro (@AL3) (@AWb))) (And.intro (And.intro (@AUZ) (@ANG)) (And.intro (@AWn) (@Ul)))) (And.intro (And.intro (And.intro (@ALI) (@ALF)) (And.intro (@AMV) (@AOC))) (And.intro (And.intro (@ARF) (@ARm)) (And.intro (@AOX) (And.intro (@AQH) (@AMM)))))) (And.intro (And.intro (And.intro (And.intro (@ANw) (@AWm)) (And.intro (@AUW) (@AKu))) (And.intro (And.intro (@APZ) (@AHO)) (And.intro (@ANi) (@AA6)))) (And.intro (And.intro (And.intro (@AMp) (@Aal)) (And.intro (@Aak) (@AYh))) (And.intro (And.intro (@AW4) (@UL.eq_1)) (And.intro (@AUS) (And.intro (@ATY) (@AWq)))))))) (And.intro (And.intro (And.intro (And.intro (And.intro (And.intro (@AWr) (@AXC)) (And.intro (@ANl) (@ANN))) (And.intro (And.intro (@AV4) (@AQg)) (And.intro (@ARq) (@AYC)))) (And.intro (And.intro (And.intro (@AKs) (@AON)) (And.intro (@ACK) (@AWk))) (And.intro (And.intro (@ANk) (@AWO)) (And.intro (@AR5) (@ALs))))) (And.intro (And.intro (And.intro (And.intro (@AZz) (@AS3)) (And.intro (@AYP) (@ARi))) (And.intro (And.intro (@AZy) (@AQW)) (And.intro (@AYu) (@AXZ)))) (And.intro (And.intro (And.intro (@AZZ) (@ART)) (And.intro (@AQI) (@AWI))) (And.intro (And.intro (@AXP) (@ARH)) (And.intro (@ASn) (And.intro (@AST) (@APl))))))) (And.intro (And.intro (And.intro (And.intro (And.intro (@ATU) (@ATo)) (And.intro (@ASQ) (@ATR))) (And.intro (And.intro (@Aag) (@APa)) (And.intro (@ASD) (@AVu)))) (And.intro (And.intro (And.intro (@AaJ) (@AP2)) (And.intro (@AX1) (@AaH))) (And.intro (And.intro (@AaC) (@AYc)) (And.intro (@AYL) (And.intro (@Aai) (@Aar)))))) (And.intro (And.intro (And.intro (And.intro (@ARW) (@AYe)) (And.intro (@AYQ) (@AYg))) (And.intro (And.intro (@AZq) (@AY9)) (And.intro (@AZo) (@AZH)))) (And.intro (And.intro (And.intro (@AXI) (@Aa9)) (And.intro (@AVM) (@AVc))) (And.intro (And.intro (@List.getElem?_drop.{0}) (@List.getElem?_map.{0,0})) (And.intro (@List.length_set.{0}) (And.intro (@Nat.mul_one) (@List.length_replicate.{0}))))))))))
def liE:=And.intro (And.intro (And.intro (And.intro (And.intro (And.intro (@List.append_eq.{0}) (@List.map_append.{0,0})) (And.intro (@List.length_append.{0}) (And.intro (@Int.le_refl) (@Int.natCast_nonneg)))) (And.intro (And.intro (@List.take_length.{0}) (@List.take_zero.{0})) (And.intro (@Nat.sub_zero) (And.intro (@Int.toNat_zero) (@Bool.true_and))))) (And.intro (And.intro (And.intro (@Bool.not_true) (@Bool.not_false)) (And.intro (@List.length_map.{0,0}) (And.intro (@Nat.left_eq_add) (@Nat.add_eq_left)))) (And.intro (And.intro (@Nat.one_ne_zero) (And.intro (@Nat.succ_ne_self) (@Nat.add_left_cancel_iff))) (And.intro (@Nat.add_assoc) (And.intro (@List.length_cons.{0}) (@List.length_nil.{0})))))) (And.intro (And.intro (And.intro (And.intro (@List.replicate_succ.{0}) (@List.replicate_zero.{0})) (And.intro (@List.cons_append.{0}) (And.intro (@List.nil_append.{0}) (@List.append_nil.{0})))) (And.intro (And.intro (@List.getD_cons_zero.{0}) (@List.getD_cons_succ.{0})) (And.intro (@List.set_cons_zero.{0}) (And.intro (@List.set_cons_succ.{0}) (@Option.map_some.{0,0}))))) (And.intro (And.intro (And.intro (@Option.map_none.{0,0}) (@Option.bind_some.{0,0})) (And.intro (@Option.bind_none.{0,0}) (And.intro (@List.contains_nil.{0}) (@List.contains_cons.{0})))) (And.intro (And.intro (@List.elem_nil.{0}) (And.intro (@List.elem_cons.{0}) (@if_true.{1}))) (And.intro (@if_false.{1}) (And.intro (@Bool.false_eq_true) (@Bool.true_eq_false))))))) (And.intro (And.intro (And.intro (And.intro (And.intro (@List.drop_zero.{0}) (@List.drop_succ_cons.{0})) (And.intro (@List.take_succ_cons.{0}) (And.intro (@Nat.add_zero) (@Nat.zero_add)))) (And.intro (And.intro (@List.getElem?_cons_zero.{0}) (@List.getElem?_cons_succ.{0})) (And.intro (@beq_self_eq_true.{0}) (And.intro (@Bool.or_true) (@Bool.true_or))))) (And.intro (And.intro (And.intro (@Bool.or_false) (@Bool.false_or)) (And.intro (@Option.isNone_none.{0}) (And.intro (@Option.isNone_some.{0}) (@Option.isSome_none.{0})))) (And.intro (And.intro (@Option.isSome_some.{0}) (And.intro (@decide_true) (@decide_false))) (And.intro (@and_self) (And.intro (@true_and) (@and_true)))))) (And.intro (And.intro (And.intro (And.intro (@Nat.le_refl) (@List.getElem?_toArray.{0})) (And.intro (@Option.getD_some.{0}) (And.intro (@Option.getD_none.{0}) (@ite_self.{1})))) (And.intro (And.intro (@List.map_cons.{0,0}) (And.intro (@List.map_nil.{0,0}) (@List.range_succ))) (And.intro (@List.range_zero) (And.intro (@List.all_cons.{0}) (@List.all_nil.{0}))))) (And.intro (And.intro (And.intro (@Bool.and_true) (@Bool.and_self)) (And.intro (@Option.some.injEq.{0}) (And.intro (@Int.toNat_natCast) (@true_or)))) (And.intro (And.intro (@or_true) (And.intro (@false_or) (@or_false))) (And.intro (@not_true_eq_false) (And.intro (@not_false_eq_true) (@ne_eq.{1})))))))
end Go.VM
set_option linter.unusedVariables false
set_option linter.unusedSimpArgs false
namespace Go.VM
abbrev DT:=List (Nat×List Tmp×Plan)
def Tz:DT→Nat→List Tmp
  |[],_=>[]
  |(i,m,_)::D,j=>if i=j then m else Tz D j
def AXJ:DT→Nat→Plan
  |[],_=>.done
  |(i,_,p)::D,j=>if i=j then p else AXJ D j
inductive DD (D:DT):Prop
  |mk
def AId (l:List Tmp) (F:List Tmp→Prop):Prop:=F l
def RG:Plan→Bool
  |.stop=>true
  |_=>false
def ALj:DT→Nat→Bool
  |[],_=>false
  |(i,_,p)::D,j=>if i=j then RG p else ALj D j
def AAV (b:Bool) (X Y:Prop):Prop:=if b=true then X else Y
def wpd (E:Env) (D:DT):Code→APost→List AVal→St→Prop
  |.skip,K=>fun af st=>K .normal af st
  |.ret,K=>fun af st=>K .ret af st
  |.exit id,K=>fun af st=>K (.exit id) af st
  |.seq (.region id os false) y,K=>fun af st=>AAV (ALj D id) (AWp E (.seq (.region id os false) y) K af st) (AId (Tz D id) fun mv=>IP E mv os os.toList (nK (GL (wpd E D y K) K)) af st)
  |.cond c x y,K=>fun af st=>N9 (rd E af 0 c) (wpd E D x K) (wpd E D y K) af st
  |.block id c,K=>wpd E D c (Sn id K)
  |.scope c,K=>wpd E D c K
  |.region id os false,K=>fun af st=>AId (Tz D id) fun mv=>IP E mv os os.toList (nK K) af st
  |c,K=>AWp E c K
section
variable{E:Env}{D:DT}{K:APost}{af:List AVal}{st:St}{x y:Code}{F:List AVal→St→Prop}
theorem AR0:wpd E D .skip K af st=K .normal af st:=by rw[wpd]
theorem AVi:wpd E D .ret K af st=K .ret af st:=by rw[wpd]
theorem APK{id:Nat}:wpd E D (.exit id) K af st=K (.exit id) af st:=by rw[wpd]
theorem AR7{id:Nat}{os:List Oper}:wpd E D (.seq (.region id (List.toArray os) false) y) K af st=AAV (ALj D id) (AWp E (.seq (.region id (List.toArray os) false) y) K af st) (AId (Tz D id) fun mv=>IP E mv ⟨os⟩ os (nK (GL (wpd E D y K) K)) af st):=by rw[wpd]
theorem AYm{X Y:Prop}:AAV true X Y=X:=by simp[AAV]
theorem AXw{X Y:Prop}:AAV false X Y=Y:=by simp[AAV]
theorem AQU{j:Nat}:ALj [] j=false:=rfl
theorem AK9{i j:Nat}{m:List Tmp}{p:Plan}:ALj ((i,m,p)::D) j=if i=j then RG p else ALj D j:=rfl
theorem APX:RG .stop=true:=rfl
theorem AQr:RG .done=false:=rfl
theorem AQs{i:Nat}{p:Plan}:RG (.take i p)=false:=rfl
theorem AVG{i:Nat}{c:List Nat}{p q:Plan}:RG (.alt i c p q)=false:=rfl
@[congr] theorem Aa7 {b b' : Bool} {X Y : Prop} (h : b = b') : AAV b X Y = AAV b' X Y := by subst h; rfl
theorem AQh{c:Operand}:wpd E D (.cond c x y) K af st=N9 (rd E af 0 c) (wpd E D x K) (wpd E D y K) af st:=by rw[wpd]
theorem ANV{id:Nat}:wpd E D (.block id x) K af st=wpd E D x (Sn id K) af st:=by rw[wpd]
theorem AMI:wpd E D (.scope x) K af st=wpd E D x K af st:=by rw[wpd]
theorem AI6{id:Nat}{os:List Oper}:wpd E D (.region id (List.toArray os) false) K af st=AId (Tz D id) fun mv=>IP E mv ⟨os⟩ os (nK K) af st:=by rw[wpd]
theorem ASz{l:List Tmp}{F:List Tmp→Prop}:AId l F=F l:=rfl
theorem ARk{id:Nat}{os:Array Oper}:wpd E D (.region id os true) K af st=AWp E (.region id os true) K af st:=by rw[wpd]<;>simp
theorem ARf:wpd E D (.loop x) K af st=AWp E (.loop x) K af st:=by rw[wpd]<;>simp
theorem AZi{a b:Code}:wpd E D (.seq (.seq a b) y) K af st=AWp E (.seq (.seq a b) y) K af st:=by rw[wpd]<;>simp
theorem AYV{c:Operand}{a b:Code}:wpd E D (.seq (.cond c a b) y) K af st=AWp E (.seq (.cond c a b) y) K af st:=by rw[wpd]<;>simp
theorem AYr{id:Nat}{a:Code}:wpd E D (.seq (.block id a) y) K af st=AWp E (.seq (.block id a) y) K af st:=by rw[wpd]<;>simp
theorem AXx{a:Code}:wpd E D (.seq (.loop a) y) K af st=AWp E (.seq (.loop a) y) K af st:=by rw[wpd]<;>simp
theorem AZF{id:Nat}{os:Array Oper}:wpd E D (.seq (.region id os true) y) K af st=AWp E (.seq (.region id os true) y) K af st:=by rw[wpd]<;>simp
theorem AX5{a:Code}:wpd E D (.seq (.scope a) y) K af st=AWp E (.seq (.scope a) y) K af st:=by rw[wpd]<;>simp
theorem AYJ:wpd E D (.seq .skip y) K af st=AWp E (.seq .skip y) K af st:=by rw[wpd]<;>simp
theorem ADe{j:Nat}:Tz [] j=[]:=rfl
theorem Wj{i j:Nat}{m:List Tmp}{p:Plan}:Tz ((i,m,p)::D) j=if i=j then m else Tz D j:=rfl
theorem AK1{i j:Nat}{m:List Tmp}{p:Plan}:AXJ ((i,m,p)::D) j=if i=j then p else AXJ D j:=rfl
theorem FY: ∀ {c:Code}{K:APost}{af:List AVal}{st:St},wpd E D c K af st→AWp E c K af st:=by
  intro c
  induction c with
  |skip=>intro K af st h;rw[wpd]at h;exact AEe h
  |ret=>intro K af st h;rw[wpd]at h;exact AKd h
  |exit id=>intro K af st h;rw[wpd]at h;exact AGe h
  | seq x y ihx ihy=>
    intro K af st h
    cases x with
    | region id os d=>
      cases d with
      |true=>(rw[wpd]at h;exact h)<;>(intros;simp_all)
      | false=>
        rw[wpd]at h
        unfold AAV at h
        split at h
        · exact h
        refine Qn ((PY (Tz D id) h).mono fun e af' st' _ q=>?_)
        cases e with
        |normal=>exact ihy q
        |_=>exact q
    |_=>(rw[wpd]at h;exact h)<;>(intros;simp_all)
  | cond c x y ihx ihy=>
    intro K af st h
    rw[wpd]at h
    unfold N9 at h
    split at h
    · rename_i b hb
      refine AEK b hb ?_
      cases b with
      |true=>simp only[if_true]at h⊢;exact ihx h
      |false=>simp only[Bool.false_eq_true,if_false]at h⊢;exact ihy h
    · exact h.elim
  | block id c ih=>
    intro K af st h
    rw[wpd]at h
    exact WW ((ih h).mono fun e af' st' _ q=>by cases e<;>exact q)
  | region id os d=>
    intro K af st h
    cases d with
    |true=>(rw[wpd]at h;exact h)<;>(intros;simp_all)
    |false=>rw[wpd]at h;exact PY (Tz D id) h
  |loop c ih=>intro K af st h;(rw[wpd]at h;exact h)<;>(intros;simp_all)
  |rangeFunc f ps x y ihx ihy=>intro K af st h;(rw[wpd]at h;exact h)<;>(intros;simp_all)
  |scope c ih=>intro K af st h;rw[wpd]at h;exact Vw (ih h)
  |label l=>intro K af st h;(rw[wpd]at h;exact h)<;>(intros;simp_all)
  |goto l=>intro K af st h;(rw[wpd]at h;exact h)<;>(intros;simp_all)
  |refuse w=>intro K af st h;(rw[wpd]at h;exact h)<;>(intros;simp_all)
@[congr] theorem AbS {c : Code} {L : APost} {af' : List AVal} {st' : St} (h0 : af = af') (h1 : st = st') : wpd E D c L af st = wpd E D c L af' st' := by subst h0; subst h1; rfl
def rgs:List (Nat×Nat)→List Tmp
  |[]=>[]
  |(a,n)::l=>List.range' a n++rgs l
def AIY:Nat→List AVal→List AVal
  |n+1,_::l=>.any::AIY n l
  |_,l=>l
def maskN:Nat→Nat→List AVal→List AVal
  |0,n,l=>AIY n l
  |a+1,n,x::l=>x::maskN a n l
  |_+1,_,[]=>[]
def Ca:List (Nat×Nat)→List AVal→List AVal
  |[],af=>af
  |(a,n)::l,af=>Ca l (maskN a n af)
theorem Vt: ∀(js ks:List Tmp) (af:List AVal),Ai (js++ks) af=Ai ks (Ai js af)
  |[],_,_=>rfl
  |j::js,ks,af=>by rw[List.cons_append,Ai,Ai,Vt js]
theorem Pn: ∀(js:List Tmp) (x:AVal) (l:List AVal),Ai (js.map (· +1)) (x::l)=x::Ai js l
  |[],_,_=>rfl
  |j::js,x,l=>by rw[List.map_cons,Ai,List.set_cons_succ,Pn js,Ai]
theorem RZ: ∀js:List Tmp,Ai js []=[]
  |[]=>rfl
  |j::js=>by rw[Ai,List.set_nil,RZ js]
theorem UO: ∀(a n:Nat),List.range' (a+1) n=(List.range' a n).map (· +1)
  |a,0=>rfl
  |a,n+1=>by rw[List.range'_succ,List.range'_succ,List.map_cons,UO (a+1) n]
theorem Ti: ∀(a n:Nat) (l:List AVal),maskN a n l=Ai (List.range' a n) l
  |0,0,l=>by rw[maskN];cases l<;>rfl
  |0,n+1,[]=>by rw[RZ];rfl
  | 0,n+1,x::l=>by
    rw[maskN,AIY,List.range'_succ,Ai,List.set_cons_zero,show List.range' (0+1) n=(List.range' 0 n).map (· +1)from UO _ _,Pn,←Ti 0 n l,maskN]
  |a+1,n,[]=>by rw[RZ];rfl
  | a+1,n,x::l=>by
    rw[maskN,show List.range' (a+1) n=(List.range' a n).map (· +1)from UO _ _,Pn,Ti a n l]
theorem Dp: ∀(js:List (Nat×Nat)) (af:List AVal),Ca js af=Ai (rgs js) af
  |[],_=>rfl
  |(a,n)::js,af=>by rw[Ca,Ti,Dp js,rgs,Vt]
theorem AZD:Ca [] af=af:=rfl
theorem AUY{a n:Nat}{l:List (Nat×Nat)}:Ca ((a,n)::l) af=Ca l (maskN a n af):=rfl
theorem AbN{a n:Nat}{v:AVal}{l:List AVal}:maskN (a+1) n (v::l)=v::maskN a n l:=rfl
theorem AbI{n:Nat}{l:List AVal}:maskN 0 n l=AIY n l:=by cases l<;>rfl
theorem Abi{n:Nat}{v:AVal}{l:List AVal}:AIY (n+1) (v::l)=.any::AIY n l:=rfl
theorem AbE{l:List AVal}:AIY 0 l=l:=by cases l<;>rfl
def reB:List BX→MS→MS
  |.k::l,p::m=>p::reB l m
  |.d::l,_::m=>reB l m
  |.s c::l,p::m=>(p.1,c)::reB l m
  |_,m=>m
theorem Aat{m:MS}:reB [] m=m:=by cases m<;>rfl
theorem Abd{l:List BX}{p:Nat×List AVal}{m:MS}:reB (.k::l) (p::m)=p::reB l m:=rfl
theorem Aba{l:List BX}{p:Nat×List AVal}{m:MS}:reB (.d::l) (p::m)=reB l m:=rfl
theorem AbR{l:List BX}{c x:List AVal}{i:Nat}{m:MS}:reB (.s c::l) ((i,x)::m)=(i,c)::reB l m:=rfl
def RO:Code→Nat×Nat
  |.seq x y=>((RO x).1,(RO x).2+(RO y).2+1)
  |.cond _ x y=>((RO x).1,(RO x).2+(RO y).2+1)
  |.block id x=>(id,(RO x).2+1)
  |.loop x=>((RO x).1,(RO x).2+1)
  |.scope x=>((RO x).1,(RO x).2+1)
  |.region id _ _=>(id,1)
  |_=>(0,1)
end
@[congr] theorem Aa8 {l l' : List Tmp} {F : List Tmp → Prop} (h : l = l') : AId l F = AId l' F := by subst h; rfl
def stp (b:Bool) (v:AVal):AVal:=if b=true then v.strip else v
theorem ASC{v:AVal}:stp true v=v.strip:=rfl
theorem ASF{v:AVal}:stp false v=v:=rfl
structure RH (E:Env) (rs:List ResultVar) (R:APost) (b:Bool) (m':MS) (n:Nat) (r':AVal):Prop where
  go: ∀af st xs m0 m1 n',Ma E rs af st=some (xs,⟨m1,n'⟩)→m0.Sublist m1→m0=m'→n≤n'→stp b (Nt xs)=r'→R .ret af st∧R .normal af st
structure JOK{α β:Type} (k:α→Option β) (r:β) (js:List (Nat×Nat)) (cs:List Tmp) (V:α→List AVal) (Ms:α→List BX) (af0:List AVal) (m:MS) (n:Nat) (J:List AVal→St→Prop):Prop where
  go: ∀j af' m0 m1 n',k j=some r→m0.Sublist m1→m0=reB (Ms j) m→Ai cs (Ca js af')=Ai cs (Ca js af0)→CW (Ca js af') cs=V j→n≤n'→J af' ⟨m1,n'⟩
structure LOK{σ β:Type} (G:Nat→σ→Option β) (r:β) (k:Nat) (js:List (Nat×Nat)) (cs:List Tmp) (V:σ→List AVal) (Ms:σ→List BX) (af0:List AVal) (m:MS) (n:Nat) (J:List AVal→St→Prop):Prop where
  go: ∀s af' m0 m1 n',G k s=some r→m0.Sublist m1→m0=reB (Ms s) m→Ai cs (Ca js af')=Ai cs (Ca js af0)→CW (Ca js af') cs=V s→n≤n'→J af' ⟨m1,n'⟩
structure ROK{α σ β:Type} (G:List α→Int→σ→Option β) (r:β) (xs:List α) (i:Int) (js:List (Nat×Nat)) (cs:List Tmp) (V:Int→σ→List AVal) (Ms:Int→σ→List BX) (af0:List AVal) (m:MS) (n:Nat) (J:List AVal→St→Prop):Prop where
  go: ∀s af' m0 m1 n',G xs i s=some r→m0.Sublist m1→m0=reB (Ms i s) m→Ai cs (Ca js af')=Ai cs (Ca js af0)→CW (Ca js af') cs=V i s→n≤n'→J af' ⟨m1,n'⟩
structure COK{σ β:Type} (G:Nat→Int→σ→Option β) (r:β) (k:Nat) (i:Int) (js:List (Nat×Nat)) (cs:List Tmp) (V:Int→σ→List AVal) (Ms:Int→σ→List BX) (af0:List AVal) (m:MS) (n:Nat) (J:List AVal→St→Prop):Prop where
  go: ∀s af' m0 m1 n',G k i s=some r→m0.Sublist m1→m0=reB (Ms i s) m→Ai cs (Ca js af')=Ai cs (Ca js af0)→CW (Ca js af') cs=V i s→n≤n'→J af' ⟨m1,n'⟩
class CF (E:Env){ρ:Type} (X:Option ρ) (f:outParam FuncId) (args:outParam (List AVal)) (er:outParam (ρ→AVal)):Prop where
class CB (E:Env){ρ:Type} (X:Option ρ) (f:outParam FuncId) (args:outParam (Nat→List AVal)) (pre:outParam (Nat→List AVal)) (er:outParam (ρ→AVal)) (post:outParam (Nat→ρ→List AVal)):Prop where
class LF{β:Type} (X:Option β){σ:outParam Type} (G B:outParam (Nat→σ→Option β)) (k:outParam Nat) (s:outParam σ) (js:outParam (List (Nat×Nat))) (cs:outParam (List Tmp)) (V:outParam (σ→List AVal)) (Ms:outParam (σ→List BX)):Prop where
class LR{β:Type} (X:Option β){α σ:outParam Type} (G:outParam (List α→Int→σ→Option β)) (Bn:outParam (Int→σ→Option β)) (Bc:outParam (α→List α→Int→σ→Option β)) (L:outParam (List α)) (i:outParam Int) (s:outParam σ) (js:outParam (List (Nat×Nat))) (cs:outParam (List Tmp)) (V:outParam (Int→σ→List AVal)) (Ms:outParam (Int→σ→List BX)):Prop where
class LQ{β:Type} (X:Option β){α σ:outParam Type} (G:outParam (List α→Int→σ→Option β)) (Bn:outParam (Int→σ→Option β)) (Bc:outParam (α→List α→Int→σ→Option β)) (L:outParam (List α)) (s:outParam σ) (js:outParam (List (Nat×Nat))) (cs:outParam (List Tmp)) (V:outParam (Int→σ→List AVal)) (Ms:outParam (Int→σ→List BX)):Prop where
class LC{β:Type} (X:Option β){σ:outParam Type} (G:outParam (Nat→Int→σ→Option β)) (Bn:outParam (Int→σ→Option β)) (Bc:outParam (Nat→Int→σ→Option β)) (k:outParam Nat) (i:outParam Int) (s:outParam σ) (js:outParam (List (Nat×Nat))) (cs:outParam (List Tmp)) (V:outParam (Int→σ→List AVal)) (Ms:outParam (Int→σ→List BX)):Prop where
class LU{β:Type} (X:Option β){σ:outParam Type} (G:outParam (Nat→Int→σ→Option β)) (Bn:outParam (Int→σ→Option β)) (Bc:outParam (Nat→Int→σ→Option β)) (k:outParam Nat) (s:outParam σ) (js:outParam (List (Nat×Nat))) (cs:outParam (List Tmp)) (V:outParam (Int→σ→List AVal)) (Ms:outParam (Int→σ→List BX)):Prop where
class MX (E:Env):Prop where
section rules
variable{E:Env}{D:DT}{β ρ:Type}{r:β}{T:Prop}{n n':Nat}{m m0 m1:MS}{af af0:List AVal}{st:St}{Q K:APost}{x y c:Code}{js:List (Nat×Nat)}{cs:List Tmp}{J:List AVal→St→Prop}
theorem mkF{X B:Option ρ}{f:FuncId}{fn:Func}{nt:Nat}{rs:List ResultVar}{args:List AVal}{er:ρ→AVal} (hx:X=B) (hf:E.P.funcs[f]?=some fn) (hb:fn.body=some c) (hn:fn.ntmps=nt) (hr:fn.results=rs.toArray) (D:DT) (b:Bool)
    (w: ∀(r:ρ) (n:Nat) (m:MS) (R:APost),RH E rs R b m n (er r)→True∧B=some r→DD D→Gl (wpd E D c R (args++List.replicate (nt-args.length) .any) ⟨m,n⟩)):CF E X f args er:=by
  constructor
  intro r n m Q h hQ
  subst hn
  have e:fn.results.toList=rs:=by rw[hr]
  cases b with
  | false=>
    refine Lg hf hb (FY (w r n m (Iu E fn Q) ⟨?_⟩ ⟨trivial,hx▸h⟩ ⟨⟩).go)
    intro af st xs m0 m1 n' h1 h2 h0 h3 h4
    subst h0;rw[ASF]at h4
    exact⟨KH (by rw[e];exact h1) h2 (h4▸(hQ n' h3).go),KA (by rw[e];exact h1) h2 (h4▸(hQ n' h3).go)⟩
  | true=>
    refine ACall.strip (Lg hf hb (FY (w r n m (Iu E fn fun r st'=>Q r.strip st') ⟨?_⟩ ⟨trivial,hx▸h⟩ ⟨⟩).go))
    intro af st xs m0 m1 n' h1 h2 h0 h3 h4
    subst h0;rw[ASC]at h4
    exact⟨KH (by rw[e];exact h1) h2 (by rw[h4];exact(hQ n' h3).go),KA (by rw[e];exact h1) h2 (by rw[h4];exact(hQ n' h3).go)⟩
theorem mkB{X B:Option ρ}{f:FuncId}{fn:Func}{nt:Nat}{rs:List ResultVar}{args:Nat→List AVal}{pre:Nat→List AVal}{er:ρ→AVal}{post:Nat→ρ→List AVal} (hx:X=B) (hf:E.P.funcs[f]?=some fn) (hb:fn.body=some c) (hn:fn.ntmps=nt) (hr:fn.results=rs.toArray) (D:DT) (b:Bool)
    (w: ∀(r:ρ) (n i:Nat) (m:MS) (R:APost),i<n→RH E rs R b ((i,post i r)::m) n (er r)→True∧B=some r→DD D→Gl (wpd E D c R (args i++List.replicate (nt-(args i).length) .any) ⟨(i,pre i)::m,n⟩)):CB E X f args pre er post:=by
  constructor
  intro r n i m Q h hi hQ
  subst hn
  have e:fn.results.toList=rs:=by rw[hr]
  refine ACall.front hi fun hin=>?_
  cases b with
  | false=>
    refine Lg hf hb (FY (w r n i _ (Iu E fn _) hin ⟨?_⟩ ⟨trivial,hx▸h⟩ ⟨⟩).go)
    intro af st xs m0 m1 n' h1 h2 h0 h3 h4
    subst h0;rw[ASF]at h4
    exact⟨KH (by rw[e];exact h1) h2 ⟨_,rfl,h4▸(hQ n' h3).go⟩,KA (by rw[e];exact h1) h2 ⟨_,rfl,h4▸(hQ n' h3).go⟩⟩
  | true=>
    refine ACall.strip (Lg hf hb (FY (w r n i _ (Iu E fn fun r st'=>_) hin ⟨?_⟩ ⟨trivial,hx▸h⟩ ⟨⟩).go))
    intro af st xs m0 m1 n' h1 h2 h0 h3 h4
    subst h0;rw[ASC]at h4
    exact⟨KH (by rw[e];exact h1) h2 ⟨_,rfl,by rw[h4];exact(hQ n' h3).go⟩,KA (by rw[e];exact h1) h2 ⟨_,rfl,by rw[h4];exact(hQ n' h3).go⟩⟩
theorem AaW{b:Bool}{u v:Option β}{A B:List AVal→St→Prop} (h:T∧(if b=true then u else v)=some r) (a:(b=true∧T)∧u=some r→Gl (A af st)) (a':(b=false∧T)∧v=some r→Gl (B af st)):Gl (N9 (.bool b) A B af st):=by
  rcases D9 h with h|h
  · rw[h.1.1,AJl];exact a h
  · rw[h.1.1,AKA];exact a' h
theorem AGG{X:Option ρ}{f:FuncId}{args args':List AVal}{er:ρ→AVal}{y:ρ}{Q:PQ} [i:CF E X f args er] (h:X=some y) (ha:args'=args) (k: ∀n',n≤n'→Gl (Q (er y) ⟨m,n'⟩)):Gl (ACall E f args' ⟨m,n⟩ Q):=⟨ha▸i.go h k⟩
theorem AGM{X:Option ρ}{f:FuncId}{args:Nat→List AVal}{tl:List AVal}{pre:Nat→List AVal}{er:ρ→AVal}{post:Nat→ρ→List AVal}{y:ρ}{Q:PQ}{j:Nat} [i:CB E X f args pre er post] (h:X=some y) (ha: .ptr j 0::tl=args j) (hm:Bd m j=some (pre j)) (k: ∀n',n≤n'→Gl (Q (er y) ⟨Bl m j (post j y),n'⟩)):Gl (ACall E f (.ptr j 0::tl) ⟨m,n⟩ Q):=⟨ha▸i.go h hm k⟩
theorem AH2{X:Option ρ}{f:FuncId}{args:Nat→List AVal}{x:AVal}{tl:List AVal}{pre:Nat→List AVal}{er:ρ→AVal}{post:Nat→ρ→List AVal}{y:ρ}{Q:PQ}{j:Nat} [i:CB E X f args pre er post] (h:X=some y) (ha:x:: .ptr j 0::tl=args j) (hm:Bd m j=some (pre j)) (k: ∀n',n≤n'→Gl (Q (er y) ⟨Bl m j (post j y),n'⟩)):Gl (ACall E f (x:: .ptr j 0::tl) ⟨m,n⟩ Q):=⟨ha▸i.go h hm k⟩
theorem AIn{X:Option ρ}{f:FuncId}{args:Nat→List AVal}{x y:AVal}{pre:Nat→List AVal}{er:ρ→AVal}{post:Nat→ρ→List AVal}{yy:ρ}{Q:PQ}{j:Nat} [i:CB E X f args pre er post] (h:X=some yy) (ha:[x,y,.ptr j 0]=args j) (hm:Bd m j=some (pre j)) (k: ∀n',n≤n'→Gl (Q (er yy) ⟨Bl m j (post j yy),n'⟩)):Gl (ACall E f [x,y,.ptr j 0] ⟨m,n⟩ Q):=⟨ha▸i.go h hm k⟩
theorem AbG{id:Nat}{os:List Oper}{mv:List Tmp}{p:Plan} (hD:DD D) [i:MX E] (hm:Tz D id=mv) (hp:AXJ D id=p) (hok:GN (List.toArray os) p false (Array.replicate (List.toArray os).size false) []=true)
    (h:Gl (FO E mv ⟨os⟩ p [] (nK Q) af st)):Gl (AWp E (.region id (List.toArray os) true) Q af st):=⟨NZ mv p i.ok hok h.go⟩
theorem AbZ (hD:DD D) (h:Gl (wpd E D x (GL (wpd E D y Q) Q) af st)):Gl (AWp E (.seq x y) Q af st):=
  ⟨Qn ((FY h.go).mono fun e af' st' _ q=>by cases e<;>first|exact FY q|exact q)⟩
theorem AXj{α:Type}{id:Nat×Nat}{V:α→List AVal}{Ms:α→List BX}{k0:α→Option β}{body:(α→Option β)→Option β} (h:T∧AA k0 body (.b id js cs V Ms)=some r) (hD:DD D) (hid:RO x=id)
    (rest: ∀j n',n≤n'→T∧k0 j=some r→Gl (wpd E D y Q (Dt (Ca js af) cs (V j)) ⟨reB (Ms j) m,n'⟩))
    (first: ∀(k:α→Option β) (J:List AVal→St→Prop),JOK k r js cs V Ms af m n J→T∧body k=some r→Gl (wpd E D x (GL J Q) af ⟨m,n⟩)):Gl (AWp E (.seq x y) Q af ⟨m,n⟩):=by
  refine⟨Qn ?_⟩
  have key:=FY (first k0 (fun af' st'=>AWp E y Q af' ⟨st'.m,st'.next⟩) ⟨?_⟩ h).go
  · exact key.mono fun e af' st' _ q=>by cases e<;>exact q
  · intro j af' m0 m1 n' h1 h2 h3 h4 h5 h6
    subst h3
    refine UR (rgs js) (Vx (m:=reB (Ms j) m) h2 ?_)
    have:=FY (rest j n' h6 ⟨h.1,h1⟩).go
    rw[Dp,Dp]at h4
    rw[Dp]at h5 this
    rw[Lu cs _ _ h4,h5]
    exact this
theorem Aao{α:Type}{id:Nat×Nat}{V:α→List AVal}{k0:α→Option β}{body:(α→Option β)→Option β} (h:T∧AA k0 body (.a id js cs V)=some r) (hD:DD D) (hid:RO x=id)
    (rest: ∀j n',n≤n'→T∧k0 j=some r→Gl (wpd E D y Q (Dt (Ca js af) cs (V j)) ⟨m,n'⟩))
    (first: ∀(k:α→Option β) (J:List AVal→St→Prop),JOK k r js cs V (fun _=>[]) af m n J→T∧body k=some r→Gl (wpd E D x (GL J Q) af ⟨m,n⟩)):Gl (AWp E (.seq x y) Q af ⟨m,n⟩):=by
  refine AXj (Ms:=fun _=>[]) (k0:=k0) (body:=body) h hD hid (fun j n' hn h=>?_) first
  rw[show reB [] m=m from Aat]
  exact rest j n' hn h
theorem AbD{α:Type}{V:α→List AVal}{Ms:α→List BX}{k:α→Option β}{v:α} (hj:JOK k r js cs V Ms af0 m n J) (h:T∧k v=some r) (h2:(reB (Ms v) m).Sublist m1) (h4:Ai cs (Ca js af)=Ai cs (Ca js af0)) (h5:CW (Ca js af) cs=V v) (h6:n≤n'):Gl (J af ⟨m1,n'⟩):=⟨hj.go v af _ m1 n' h.2 h2 rfl h4 h5 h6⟩
theorem AaP{σ:Type}{V:σ→List AVal}{Ms:σ→List BX}{X:Option β}{G B:Nat→σ→Option β}{k:Nat}{s:σ} [i:LF X G B k s js cs V Ms] (h:T∧X=some r) (hj:LOK G r k js cs V Ms af0 m n J) (h2:(reB (Ms s) m).Sublist m1) (h4:Ai cs (Ca js af)=Ai cs (Ca js af0)) (h5:CW (Ca js af) cs=V s) (h6:n≤n'):Gl (J af ⟨m1,n'⟩):=⟨hj.go s af _ m1 n' (i.eq▸h.2) h2 rfl h4 h5 h6⟩
theorem AaZ{α σ:Type}{V:Int→σ→List AVal}{Ms:Int→σ→List BX}{X:Option β}{G:List α→Int→σ→Option β}{Bn:Int→σ→Option β}{Bc:α→List α→Int→σ→Option β}{L:List α}{i:Int}{s:σ} [ii:LR X G Bn Bc L i s js cs V Ms] (h:T∧X=some r) (hj:ROK G r L i js cs V Ms af0 m n J) (h2:(reB (Ms i s) m).Sublist m1) (h4:Ai cs (Ca js af)=Ai cs (Ca js af0)) (h5:CW (Ca js af) cs=V i s) (h6:n≤n'):Gl (J af ⟨m1,n'⟩):=⟨hj.go s af _ m1 n' (ii.eq▸h.2) h2 rfl h4 h5 h6⟩
theorem AbM{R:APost}{rs:List ResultVar}{b:Bool}{r':AVal}{xs:List AVal} (hR:RH E rs R b m n r') (h1:Ma E rs af st=some (xs,⟨m1,n'⟩)) (h2:m.Sublist m1) (h4:n≤n') (h5:stp b (Nt xs)=r'):Gl (R .ret af st):=⟨(hR.go af st xs m m1 n' h1 h2 rfl h4 h5).1⟩
theorem AbB{R:APost}{rs:List ResultVar}{b:Bool}{r':AVal}{xs:List AVal} (hR:RH E rs R b m n r') (h1:Ma E rs af st=some (xs,⟨m1,n'⟩)) (h2:m.Sublist m1) (h4:n≤n') (h5:stp b (Nt xs)=r'):Gl (R .normal af st):=⟨(hR.go af st xs m m1 n' h1 h2 rfl h4 h5).2⟩
theorem AY5{v:β} (h:T∧some v=some r):T∧v=r:=⟨h.1,Option.some.inj h.2⟩
theorem AaG{σ:Type}{V:σ→List AVal}{Ms:σ→List BX}{X:Option β}{G B:Nat→σ→Option β}{k:Nat}{s:σ} [i:LF X G B k s js cs V Ms] (h:T∧X=some r) (hD:DD D) (hm:m=reB (Ms s) m) (hv:CW (Ca js af) cs=V s)
    (round: ∀k s n',n≤n'→T∧B k s=some r→ ∀J,LOK G r k js cs V Ms af m n' J→Gl (wpd E D c (GL J Q) (Dt (Ca js af) cs (V s)) ⟨reB (Ms s) m,n'⟩)):Gl (AWp E (.loop c) Q af ⟨m,n⟩):=by
  rw[Dp]at hv
  refine⟨ARd (β:=β) (r:=r) (T:=T) G (fun s (_:Unit)=>V s) (fun s _=>reB (Ms s) m) (rgs js) cs s () (k0:=k) ⟨h.1,i.eq▸h.2⟩ i.z hm hv ?_⟩
  intro k s _ n' hn _ h J hJ
  have:=FY (round k s n' hn ⟨h.1,i.u k s▸h.2⟩ J ⟨fun s' af' m0 m1 n'' h1 h2 h3 h4 h5 h6=>hJ s' () af' m0 m1 n'' h1 h2 h3 (by rw[Dp,Dp]at h4;exact h4) (by rw[Dp]at h5;exact h5) h6⟩).go
  rw[Dp]at this
  exact this
theorem AQ7{α σ:Type}{V:Int→σ→List AVal}{Ms:Int→σ→List BX}{X:Option β}{G:List α→Int→σ→Option β}{Bn:Int→σ→Option β}{Bc:α→List α→Int→σ→Option β}{L:List α}{s:σ} [ii:LR X G Bn Bc L 0 s js cs V Ms] (h:T∧X=some r) (hD:DD D) (hL:AO L.length) (hm:m=reB (Ms 0 s) m) (hv:CW (Ca js af) cs=V 0 s)
    (rnil: ∀i s n',n≤n'→(decide (i<(L.length:Int))=false∧T)∧Bn i s=some r→Gl (wpd E D c (GL (fun _ _=>False) Q) (Dt (Ca js af) cs (V i s)) ⟨reB (Ms i s) m,n'⟩))
    (rcons: ∀x xs i s n',n≤n'→(decide (i<(L.length:Int))=true∧idx L i=some x∧wr .i64 (i+1)=i+1∧T)∧Bc x xs i s=some r→ ∀J,ROK G r xs (i+1) js cs V Ms af m n' J→Gl (wpd E D c (GL J Q) (Dt (Ca js af) cs (V i s)) ⟨reB (Ms i s) m,n'⟩)):Gl (AWp E (.loop c) Q af ⟨m,n⟩):=by
  rw[Dp]at hv
  refine⟨Ro (β:=β) (r:=r) (T:=T) L hL G (fun i s (_:Unit)=>V i s) (fun i s _=>reB (Ms i s) m) (rgs js) cs s () ⟨h.1,ii.eq▸h.2⟩ hm hv ?_ ?_⟩
  · intro i s _ n' hn _ h
    have:=FY (rnil i s n' hn ⟨h.1,ii.un i s▸h.2⟩).go
    rw[Dp]at this
    exact this
  · intro x xs i s _ n' hn _ h J hJ
    have:=FY (rcons x xs i s n' hn ⟨h.1,ii.uc x xs i s▸h.2⟩ J ⟨fun s' af' m0 m1 n'' h1 h2 h3 h4 h5 h6=>hJ s' () af' m0 m1 n'' h1 h2 h3 (by rw[Dp,Dp]at h4;exact h4) (by rw[Dp]at h5;exact h5) h6⟩).go
    rw[Dp]at this
    exact this
theorem Aae{α σ:Type}{V:Int→σ→List AVal}{Ms:Int→σ→List BX}{X:Option β}{G:List α→Int→σ→Option β}{Bn:Int→σ→Option β}{Bc:α→List α→Int→σ→Option β}{L:List α}{i:Int}{s:σ} [ii:LQ X G Bn Bc L s js cs V Ms] (h:T∧X=some r) (hj:ROK G r L i js cs V Ms af0 m n J) (h2:(reB (Ms i s) m).Sublist m1) (h4:Ai cs (Ca js af)=Ai cs (Ca js af0)) (h5:CW (Ca js af) cs=V i s) (h6:n≤n'):Gl (J af ⟨m1,n'⟩):=⟨hj.go s af _ m1 n' (ii.eq i▸h.2) h2 rfl h4 h5 h6⟩
theorem AZv{α σ:Type}{V:Int→σ→List AVal}{Ms:Int→σ→List BX}{X:Option β}{G:List α→Int→σ→Option β}{Bn:Int→σ→Option β}{Bc:α→List α→Int→σ→Option β}{L:List α}{s:σ} [ii:LQ X G Bn Bc L s js cs V Ms] (h:T∧X=some r) (hD:DD D) (hL:AO L.length) (hm:m=reB (Ms 0 s) m) (hv:CW (Ca js af) cs=V 0 s)
    (rnil: ∀i s n',n≤n'→(decide (i<(L.length:Int))=false∧T)∧Bn i s=some r→Gl (wpd E D c (GL (fun _ _=>False) Q) (Dt (Ca js af) cs (V i s)) ⟨reB (Ms i s) m,n'⟩))
    (rcons: ∀x xs i s n',n≤n'→(decide (i<(L.length:Int))=true∧idx L i=some x∧wr .i64 (i+1)=i+1∧T)∧Bc x xs i s=some r→ ∀J,ROK G r xs (i+1) js cs V Ms af m n' J→Gl (wpd E D c (GL J Q) (Dt (Ca js af) cs (V i s)) ⟨reB (Ms i s) m,n'⟩)):Gl (AWp E (.loop c) Q af ⟨m,n⟩):=
  haveI:LR X G Bn Bc L 0 s js cs V Ms:=⟨ii.eq 0,ii.un,ii.uc⟩
  AQ7 h hD hL hm hv rnil rcons
theorem Aau{σ:Type}{V:Int→σ→List AVal}{Ms:Int→σ→List BX}{X:Option β}{G:Nat→Int→σ→Option β}{Bn:Int→σ→Option β}{Bc:Nat→Int→σ→Option β}{k:Nat}{i:Int}{s:σ} [ii:LC X G Bn Bc k i s js cs V Ms] (h:T∧X=some r) (hj:COK G r k i js cs V Ms af0 m n J) (h2:(reB (Ms i s) m).Sublist m1) (h4:Ai cs (Ca js af)=Ai cs (Ca js af0)) (h5:CW (Ca js af) cs=V i s) (h6:n≤n'):Gl (J af ⟨m1,n'⟩):=⟨hj.go s af _ m1 n' (ii.eq▸h.2) h2 rfl h4 h5 h6⟩
theorem Aac{σ:Type}{V:Int→σ→List AVal}{Ms:Int→σ→List BX}{X:Option β}{G:Nat→Int→σ→Option β}{Bn:Int→σ→Option β}{Bc:Nat→Int→σ→Option β}{k:Nat}{i:Int}{s:σ} [ii:LU X G Bn Bc k s js cs V Ms] (h:T∧X=some r) (hj:COK G r k i js cs V Ms af0 m n J) (h2:(reB (Ms i s) m).Sublist m1) (h4:Ai cs (Ca js af)=Ai cs (Ca js af0)) (h5:CW (Ca js af) cs=V i s) (h6:n≤n'):Gl (J af ⟨m1,n'⟩):=⟨hj.go s af _ m1 n' (ii.eq i▸h.2) h2 rfl h4 h5 h6⟩
theorem APD{σ:Type}{V:Int→σ→List AVal}{Ms:Int→σ→List BX}{X:Option β}{G:Nat→Int→σ→Option β}{Bn:Int→σ→Option β}{Bc:Nat→Int→σ→Option β}{i0 b:Int}{s:σ} [ii:LC X G Bn Bc (b-i0).toNat i0 s js cs V Ms] (h:T∧X=some r) (hD:DD D) (hL: -4611686018427387904≤i0∧b≤4611686018427387904) (hm:m=reB (Ms i0 s) m) (hv:CW (Ca js af) cs=V i0 s)
    (rnil: ∀i s n',n≤n'→(decide (i<b)=false∧T)∧Bn i s=some r→Gl (wpd E D c (GL (fun _ _=>False) Q) (Dt (Ca js af) cs (V i s)) ⟨reB (Ms i s) m,n'⟩))
    (rcons: ∀k i s n',n≤n'→(decide (i<b)=true∧wr .i64 (i+1)=i+1∧T)∧Bc k i s=some r→ ∀J,COK G r k (i+1) js cs V Ms af m n' J→Gl (wpd E D c (GL J Q) (Dt (Ca js af) cs (V i s)) ⟨reB (Ms i s) m,n'⟩)):Gl (AWp E (.loop c) Q af ⟨m,n⟩):=by
  rw[Dp]at hv
  refine⟨Zh (β:=β) (r:=r) (T:=T) i0 b hL G (fun i s (_:Unit)=>V i s) (fun i s _=>reB (Ms i s) m) (rgs js) cs s () ⟨h.1,ii.eq▸h.2⟩ hm hv ?_ ?_⟩
  · intro i s _ n' hn _ h
    have:=FY (rnil i s n' hn ⟨h.1,ii.un i s▸h.2⟩).go
    rw[Dp]at this
    exact this
  · intro k i s _ n' hn _ h J hJ
    have:=FY (rcons k i s n' hn ⟨h.1,ii.uc k i s▸h.2⟩ J ⟨fun s' af' m0 m1 n'' h1 h2 h3 h4 h5 h6=>hJ s' () af' m0 m1 n'' h1 h2 h3 (by rw[Dp,Dp]at h4;exact h4) (by rw[Dp]at h5;exact h5) h6⟩).go
    rw[Dp]at this
    exact this
theorem AZa{σ:Type}{V:Int→σ→List AVal}{Ms:Int→σ→List BX}{X:Option β}{G:Nat→Int→σ→Option β}{Bn:Int→σ→Option β}{Bc:Nat→Int→σ→Option β}{i0 b:Int}{s:σ} [ii:LU X G Bn Bc (b-i0).toNat s js cs V Ms] (h:T∧X=some r) (hD:DD D) (hL: -4611686018427387904≤i0∧b≤4611686018427387904) (hm:m=reB (Ms i0 s) m) (hv:CW (Ca js af) cs=V i0 s)
    (rnil: ∀i s n',n≤n'→(decide (i<b)=false∧T)∧Bn i s=some r→Gl (wpd E D c (GL (fun _ _=>False) Q) (Dt (Ca js af) cs (V i s)) ⟨reB (Ms i s) m,n'⟩))
    (rcons: ∀k i s n',n≤n'→(decide (i<b)=true∧wr .i64 (i+1)=i+1∧T)∧Bc k i s=some r→ ∀J,COK G r k (i+1) js cs V Ms af m n' J→Gl (wpd E D c (GL J Q) (Dt (Ca js af) cs (V i s)) ⟨reB (Ms i s) m,n'⟩)):Gl (AWp E (.loop c) Q af ⟨m,n⟩):=
  haveI:LC X G Bn Bc (b-i0).toNat i0 s js cs V Ms:=⟨ii.eq i0,ii.un,ii.uc⟩
  APD h hD hL hm hv rnil rcons
theorem AaN{G:Prop} (h:T∧(none:Option β)=some r):G:=by cases h.2
theorem AbF{α:Type}{u:α}{f:α→Option β} (h:T∧letL u f=some r): ∃y,u=y∧T∧f y=some r:=⟨u,rfl,h⟩
theorem AaD{α:Type}{l:List α}{i:Int}{f:α→Option β} (h:T∧Option.bind (idx l i) f=some r): ∃y,(idx l i=some y∧T)∧f y=some r:=Ad h
theorem AaO{α:Type}{l:List α}{i j:Int}{f:List α→Option β} (h:T∧Option.bind (sub l i j) f=some r): ∃y,(sub l i j=some y∧T)∧f y=some r:=Ad h
theorem isW (x:Gl (wpd E D c K af st)):Gl (wpd E D c K af st):=x
theorem isC{f:FuncId}{args:List AVal}{Q:PQ} (x:Gl (ACall E f args st Q)):Gl (ACall E f args st Q):=x
theorem isA (x:Gl (AWp E c K af st)):Gl (AWp E c K af st):=x
end rules
end Go.VM
namespace Go.VM
theorem tD{G:Prop} (x:G:=by first|(simp(disch:=omega) only[vm,seval,h.1];done)|rfl):G:=x
theorem tR{G:Prop} (x:G:=by
  obtain⟨H,h⟩:=h
  cases h
  simp(disch:=omega) only[vm,seval,H]
  refine⟨(hR _ _ _ _ _ _ (by simp(disch:=omega) only[vm,seval,H];rfl) ?_ rfl (by omega) ?_).1⟩
  · first|((repeat (first|exact List.Sublist.refl _|apply List.Sublist.cons));done)|(simp(disch:=omega) only[vm,seval,H];(repeat (first|exact List.Sublist.refl _|apply List.Sublist.cons));done)
  · first|(simp(disch:=omega) only[vm,seval,H];done)|rfl):G:=x
theorem tJ{A G:Prop} (a:A) (x:A→G:=by
  intro hz
  simp(disch:=omega) only[vm,seval,h.1]
  refine⟨hz _ _ _ _ h.2 ?_ rfl ?_ ?_ (by omega)⟩
  · first|((repeat (first|exact List.Sublist.refl _|apply List.Sublist.cons));done)|(simp(disch:=omega) only[vm,seval,h.1];(repeat (first|exact List.Sublist.refl _|apply List.Sublist.cons));done)
  all_goals first|(simp(disch:=omega) only[vm,seval,h.1];done)|rfl):G:=x a
end Go.VM
