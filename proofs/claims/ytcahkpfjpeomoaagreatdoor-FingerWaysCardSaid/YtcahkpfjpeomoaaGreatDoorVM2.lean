import Derived.Laws.RangeString
import Derived.Laws.RangeAny
import Derived.Lib.OthersKept
import Derived.Lib.MakeNoZero
import Derived.Test.YtcahkpfjpeomoaaGreatDoorVM4
import Derived.Scope
set_option linter.unusedSimpArgs false
set_option linter.unusedVariables false
namespace Go.VM
def LK (mv:List Tmp) (dst:Option Tmp):Bool:=match dst with|some d=>mv.contains d|none=>false
def C8 (s:List UInt8) (pos:Nat):Nat×Nat:=Utf8.decode ⟨s.toArray⟩ pos
def YD (s:List UInt8) (pos:Nat) (t:Tmp) (d:Option Tmp) (af:List AVal):List AVal:=
  if decide (pos<s.length)=true then AX (af.set t (.iter s (pos+(C8 s pos).2))) d (.tuple [.bool true,.int .i64 pos,.int .i32 (C8 s pos).1])
  else AX af d (.tuple [.bool false])
def DU (E:Env) (mv:List Tmp) (o:Oper) (af:List AVal) (st:St):Option (List AVal×St):=
  match o.op with
  | .move x=>
    if LK mv o.dst=true then
      match nameV af x with
      |some (d,w,xs)=>some (AX (af.set d (.sh st.next)) o.dst (.sh st.next),{m:=(st.next,[.vec w xs])::st.m,next:=st.next+1})
      |none=>some (AX (stripAt af x) o.dst (rd E af o.type x),st)
    else some (AX af o.dst (rd E af o.type x).strip,st)
  | .assign x=>
    if LK mv o.dst=true then
      match WH E o with
      |some w=>some (AX af o.dst (.vec w []),st)
      | none=>
        match UT E af x o.type st with
        |some p=>some (AX af o.dst (.vec p.2.1 p.2.2),{st with m:=Ao st.m p.1 [.any]})
        |none=>some (AX (stripAt af x) o.dst (rd E af o.type x),st)
    else some (AX (stripAt af x) o.dst (rd E af o.type x),st)
  |.alloc t=>(if LK mv o.dst=true then RZ E.P t st.next else CL E.P t st.next).map fun cs=>(AX af o.dst (.ptr st.next 0),{m:=(st.next,cs)::st.m,next:=st.next+1})
  |.box t x=>if Bq (rd E af t x)=true then some (AX (stripAt af x) o.dst (.ptr st.next 0),{m:=(st.next,AQ (rd E af t x))::st.m,next:=st.next+1})else none
  |.build t ⟨ps⟩=>(PO E t (BI E (AJ E.P t) af ps).2).map fun r=>(AX (BI E (AJ E.P t) af ps).1 o.dst r,st)
  | .buildSlice t len ⟨ps⟩=>
    if LK mv o.dst=true then(GL E t len (BI E (fun _=>AJ E.P t 0) af ps).2).map fun p=>(AX (BI E (fun _=>AJ E.P t 0) af ps).1 o.dst (.gsl p.1 st.next len),{m:=(st.next,p.2)::st.m,next:=st.next+1})
    else(Ew E t len (BI E (fun _=>AJ E.P t 0) af ps).2).map fun r=>(AX af o.dst r,st)
  | .load t x=>
    if LK mv o.dst=true then(NK E t (rd E af 0 x) st).map fun p=>(AX af o.dst p.1,p.2)
    else(Nj E t (rd E af 0 x) st).map fun r=>(AX af o.dst r.strip,st)
  |.store t x y=>if o.dst.isNone=true then(Kj E t (rd E af 0 x) (rd E af t y) st).map fun st'=>(stripAt af y,st')else none
  | .extract (.tmp t) n=>
    match af.getD t .any with
    |.tuple vs=>(vs[n]?).map fun r=>(AX (af.set t (.tuple (vs.set n r.strip))) o.dst r,st)
    |_=>none
  | .range t x=>
    match rd E af t x with
    |.str s=>if Ce E.P t=true then some (AX af o.dst (.iter s 0),st)else none
    |_=>none
  | .next (.tmp t) true=>
    match af.getD t .any with
    |.iter s pos=>some (YD s pos t o.dst af,st)
    |_=>none
  | .slice t x lo hi mx=>
    match rdo E af lo,rdo E af hi,rdo E af mx with
    | some l,some h,some m=>
      match EF E t (rd E af t x) l h m with
      |some r=>some (AX af o.dst r,st)
      |none=>(ND E t (rd E af t x) l h m st).map fun st'=>(AX af o.dst (.sh st.next),st')
    |_,_,_=>none
  | .call {callee:=.builtin .append,args:=⟨[x,y]⟩,argTypes:=⟨t0::t1::_⟩}=>
    if LK mv o.dst=true then
      match Lb E t0 t1 (rd E af t0 x) (rd E af t1 y)with
      |some r=>some (AX (stripAt af x) o.dst (.sh st.next),{m:=(st.next,[r])::st.m,next:=st.next+1})
      |none=>(appW E x t0 t1 (rd E af t0 x) (rd E af t1 y) st).map fun p=>(AX af o.dst p.1,p.2)
    else match GK E t0 t1 (rd E af t0 x) (rd E af t1 y)with
      |some r=>some (AX (stripAt af x) o.dst r,st)
      |none=>(Uq E t0 t1 (rd E af t0 x) (rd E af t1 y) st).map fun st'=>(AX af o.dst (.sh st.next),st')
  | .call {callee:=.builtin .len,args:=⟨[x]⟩,argTypes:=⟨t::_⟩}=>
    match Cr E o af with
    |some r=>some (AX af o.dst r.strip,st)
    |none=>(V7 E t (rd E af t x) st).map fun r=>(AX af o.dst r,st)
  |.makeMap t none=>some (AX af o.dst (.sh st.next),{m:=(st.next,[.map [] []])::st.m,next:=st.next+1})
  |.lookup t m k ok=>(PW E t (rd E af t m) (rd E af 0 k) ok st).map fun r=>(AX af o.dst r,st)
  |.mapUpdate t m k x=>if o.dst.isNone=true then(QO E t (rd E af t m) (rd E af 0 k) (rd E af 0 x) st).map fun st'=>(af,st')else none
  |.insert t m k x=>if o.dst.isNone=true then(QO E t (rd E af t m) (rd E af 0 k) (rd E af 0 x) st).map fun st'=>(af,st')else none
  | .indexAddr t x i=>
    match Cr E o af with
    |some r=>some (AX af o.dst r.strip,st)
    | none=>
      match Eo E t (rd E af t x) (rd E af 0 i) st with
      |some r=>some (AX af o.dst r,st)
      |none=>(MU E t (rd E af t x) (rd E af 0 i) st).map fun r=>(AX af o.dst r,st)
  |.makeSlice t x y=>(if LK mv o.dst=true then R8 E t (rd E af 0 x) (rd E af 0 y) st else Si E t (rd E af 0 x) (rd E af 0 y) st).map fun p=>(AX af o.dst p.1,p.2)
  | .convert s d x=>
    match Cr E o af with
    |some r=>some (AX af o.dst r.strip,st)
    | none=>
      match Pq E s d (rd E af s x) st with
      |some r=>some (AX af o.dst r,st)
      |none=>(NY E s d (rd E af s x) st).map fun p=>(AX af o.dst p.1,p.2)
  |.call {callee:=.builtin .unsafeSliceData,args:=⟨[x]⟩,argTypes:=⟨t0::_⟩}=>(PI (rd E af t0 x)).map fun r=>(AX (stripAt af x) o.dst r,st)
  |.call {callee:=.builtin .unsafeString,args:=⟨[x,y]⟩,argTypes:=⟨[t0,t1]⟩}=>(SG E t0 (rd E af t0 x) (rd E af t1 y)).map fun r=>(AX (stripAt af x) o.dst r,st)
  |_=>(Cr E o af).map fun r=>(AX af o.dst r.strip,st)
section
variable{E:Env}{F:Nat→Nat}{Γ:Ghost}{st:St}{w:World}{af:List AVal}{a:Act}
theorem ASs (vs:List Value) (t:Nat) (d:Value):vs.set t (vs.getD t d)=vs:=by
  apply List.ext_getElem?
  grind
theorem Sim.newIter (hs:Sim E F Γ st w af a.tmps.toList) (sb:ByteArray) (p:Nat):Sim E F Γ st (w.iter sb p) af a.tmps.toList∧Ext F Γ w Γ (w.iter sb p):=by
  have hold: ∀n,n<w.heap.size→(w.iter sb p).heap[n]?=w.heap[n]?:=fun n hn=>alloc_old (.stringIter sb p) hn
  have hsz:(w.iter sb p).heap.size=w.heap.size+1:=by simp[World.iter]
  refine⟨hs.elsewhere (b:=w.heap.size) (fun n hn _=>hold n hn) (by omega) (hs.com_none (Nat.le_refl _)) (fun i hi h=>?_) ?_ ?_,⟨Γ.le_refl,fun n hn=>⟨hold n (hs.F_of hn),rfl⟩,by omega,rfl,rfl,rfl⟩⟩
  · have:=hs.bx_lt _ _ h;omega
  · rcases Nat.lt_or_ge 0 (AC w.heap.size af a.tmps.toList)with h|h
    · have:=(Bb _ _ hs.own h).1;omega
    omega
  · rcases Nat.lt_or_ge 0 (Ah Γ w w.heap.size st.m)with h|h
    · have:=U7 hs h;omega
    omega
theorem Sim.iterTo (hs:Sim E F Γ st w af a.tmps.toList){t:Tmp}{s:List UInt8}{pos:Nat} (hx:af.getD t .any=.iter s pos){b:Nat}{sb:ByteArray} (hv:a.tmps.toList.getD t undef=.pointer (some ⟨b,0,none⟩))
    (hsb:sb.data.toList=s) (hh:w.heap[b]?=some (.stringIter sb pos)) (pos':Nat):Sim E F Γ st (w.iterAt b sb pos') (af.set t (.iter s pos')) a.tmps.toList∧Ext F Γ w Γ (w.iterAt b sb pos'):=by
  have e:=JU b af a.tmps.toList t undef hs.rep.length
  rw[hx,hv]at e
  have e1:cnt b (.iter s pos) (.pointer (some ⟨b,0,none⟩))=1:=by simp[cnt,Mw]
  rw[e1]at e
  have e2:(AVal.iter s pos).strip=.any:=by simp[AVal.strip]
  rw[e2]at e
  have tk:=hs.tok b
  have hlt:b<w.heap.size:=(Array.getElem?_eq_some_iff.1 hh).1
  have hold: ∀n,n≠b→(w.iterAt b sb pos').heap[n]?=w.heap[n]?:=fun n hn=>by
    grind[World.iterAt]
  have hsz:(w.iterAt b sb pos').heap.size=w.heap.size:=by simp[World.iterAt]
  have hnew:(w.iterAt b sb pos').heap[b]?=some (.stringIter sb pos'):=by grind[World.iterAt]
  have hs0:Sim E F Γ st w (af.set t .any) a.tmps.toList:=by
    have:=hs.stripAt (.tmp t)
    grind[VM.stripAt]
  have hcom:Γ.com b=none:=by
    cases hc:Γ.com b with
    |none=>rfl
    |some cs=>obtain⟨ar,e',fz,q2,_⟩:=hs.com_ok b cs hc;grind
  have s1:Sim E F Γ st (w.iterAt b sb pos') (af.set t .any) a.tmps.toList:=hs0.elsewhere (b:=b) (fun n _ hn=>hold n hn) (by omega) hcom (fun i hi h=>by
    obtain⟨p,hp,rfl⟩:=List.mem_map.1 hi
    rcases hs.box_ok p hp with⟨k,ar,e',hb⟩|⟨v,hv⟩
    rotate_left
    · have:=hv.bx;grind
    obtain⟨lo,hh2,q3,_⟩:=hb.heap
    have:=hb.bx;grind) (by omega) (by omega)
  refine⟨?_,⟨Γ.le_refl,fun n hn=>⟨hold n (fun e=>by grind),rfl⟩,by omega,rfl,rfl,rfl⟩⟩
  have hset:a.tmps.toList=a.tmps.toList.set t (.pointer (some ⟨b,0,none⟩)):=by grind[ASs]
  have hss:af.set t (.iter s pos')=(af.set t .any).set t (.iter s pos'):=by simp
  rw[hss]
  have h5: ∀n,AC n ((af.set t .any).set t (.iter s pos')) a.tmps.toList≤AC n (af.set t .any) a.tmps.toList+cnt n (.iter s pos') (.pointer (some ⟨b,0,none⟩)):=fun n=>by
    grind[Ex]
  refine {s1 with rep:=?_,own:=?_,tok:=?_}
  · have:=s1.rep.set t (x:=.iter s pos') (v:=.pointer (some ⟨b,0,none⟩)) (.iter _ _ _)
    grind
  · have:=s1.own.set t (x:=.iter s pos') (v:=.pointer (some ⟨b,0,none⟩)) (by simp only[VM.own];exact⟨b,sb,rfl,hsb,hnew⟩)
    grind
  · intro n
    have q1:=h5 n
    have q2:=s1.tok n
    by_cases hn:n=b
    · subst hn
      have q3:Ah Γ (w.iterAt n sb pos') n st.m=0:=by
        rw[D8 (w:=w) fun p hp=>⟨rfl,fun k hk=>hold k (fun e=>by
          subst e
          rcases hs.box_ok p hp with⟨k2,ar,e',hb⟩|⟨v,hv⟩
          rotate_left
          · have:=hv.bx;grind
          obtain⟨lo,hh2,q3,_⟩:=hb.heap
          have:=hb.bx;grind)⟩]
        omega
      grind[cnt,Mw]
    grind[cnt,Mw]
theorem Ux{b:ByteArray}{s:List UInt8} (h:b.data.toList=s):b=⟨s.toArray⟩:=by
  subst h;simp
theorem ANl (hs:Sim E F Γ st w af a.tmps.toList){o:Oper}{t:TypeId}{x:Operand}{s:List UInt8} (hop:o.op=.range t x) (hx:rd E af t x=.str s) (ht:Ce E.P t=true):
    ∃nx w' a' Γ',Stepped E F Γ st w a o (AX af o.dst (.iter s 0)) st nx w' a' Γ':=by
  have hr:=hs.rd t x
  rw[hx]at hr
  generalize hv:a.eval x=v at hr
  cases hr
  rename_i sb hn
  have hrun:=run_range_string (P:=E.P) w t sb (Bj ht)
  refine⟨.value (.pointer (some ⟨w.heap.size,0,none⟩)),w.iter sb 0,a.put o.dst (.pointer (some ⟨w.heap.size,0,none⟩)),Γ,?_,fun K Q hk=>hk,put_defers _ _ _,?_,Nat.le_refl _,?_⟩
  · simp_all[execOp]
  · exact(hs.newIter sb 0).2
  · refine(hs.newIter sb 0).1.put o.dst (.iter _ _ _) ?_ ?_
    · simp only[VM.own];exact⟨_,sb,rfl,rfl,World.iter_heap w sb 0⟩
    · intro b
      have h1:=hs.tok b
      have h2:=(hs.newIter sb 0).1.tok b
      simp only[cnt,Mw]
      split
      · rename_i e
        have h3:F b=0:=hs.F_lt b (by omega)
        have h4:AC b af a.tmps.toList=0:=by
          rcases Nat.lt_or_ge 0 (AC b af a.tmps.toList)with h|h
          · have:=(Bb _ _ hs.own h).1;omega
          omega
        have h5:Ah Γ (w.iter sb 0) b st.m=0:=by
          rw[D8 (Γ:=Γ) (w:=w) (w':=w.iter sb 0) fun p hp=>⟨rfl,fun k hk=>alloc_old (.stringIter sb 0) (hs.bx_lt _ _ hk)⟩]
          rcases Nat.lt_or_ge 0 (Ah Γ w b st.m)with h|h
          · have:=U7 hs h;omega
          omega
        omega
      omega
theorem APp (hs:Sim E F Γ st w af a.tmps.toList){o:Oper}{t:Tmp}{s:List UInt8}{pos:Nat} (hop:o.op=.next (.tmp t) true) (hx:af.getD t .any=.iter s pos):
    ∃nx w' a' Γ',Stepped E F Γ st w a o (YD s pos t o.dst af) st nx w' a' Γ':=by
  have ho:=hs.own.get hs.rep.length t undef
  rw[hx]at ho
  simp only[VM.own]at ho
  obtain⟨b,sb,hv,hsb,hh⟩:=ho
  have hev:a.eval (.tmp t)=.pointer (some ⟨b,0,none⟩):=by grind[Act.eval,Array.getD_toList']
  have hlen:sb.size=s.length:=by rw[←hsb,Array.length_toList];rfl
  unfold YD
  split
  · rename_i hlt
    have hlt:pos<sb.size:=by grind
    have hrun:=Go.Lib.run_next_any_at (P:=E.P) w b sb pos o.type hh hlt
    have hde:Utf8.decode sb pos=C8 s pos:=by rw[Ux hsb];rfl
    rw[hde]at hrun
    obtain⟨s1,x1⟩:=hs.iterTo (t:=t) hx hv hsb hh (pos+(C8 s pos).2)
    refine⟨.value (.tuple #[.bool true,.int .i64 pos,.int .i32 (C8 s pos).1]),w.iterAt b sb (pos+(C8 s pos).2),a.put o.dst (.tuple #[.bool true,.int .i64 pos,.int .i32 (C8 s pos).1]),Γ,?_,fun K Q hk=>hk,put_defers _ _ _,x1,Nat.le_refl _,?_⟩
    · simp_all[execOp]
    · refine s1.put o.dst (r:=.tuple [.bool true,.int .i64 pos,.int .i32 (C8 s pos).1]) (.tuple (.cons (.bool _) (.cons (.int _ _) (.cons (.int _ _) .nil)))) (by simp[VM.own,ownL]) fun n=>?_
      have:=s1.tok n
      grind[cnt,AC]
  · rename_i hlt
    have hlt: ¬pos<sb.size:=by grind
    have hrun:=Go.Lib.run_next_end_at (P:=E.P) w b sb pos o.type hh hlt
    refine⟨.value (.tuple #[.bool false]),w,a.put o.dst (.tuple #[.bool false]),Γ,?_,fun K Q hk=>hk,put_defers _ _ _,Ext.refl _ _ _,Nat.le_refl _,?_⟩
    · simp_all[execOp]
    · refine hs.put o.dst (r:=.tuple [.bool false]) (.tuple (.cons (.bool _) .nil)) (by simp[VM.own,ownL]) fun n=>?_
      have:=hs.tok n
      grind[cnt,AC]
theorem OC (hs:Sim E F Γ st w af a.tmps.toList){mv:List Tmp}{o:Oper}{af':List AVal}{st':St} (h:DU E mv o af st=some (af',st')):
    ∃nx w' a' Γ',Stepped E F Γ st w a o af' st' nx w' a' Γ':=by
  unfold DU at h
  split at h
  · rename_i x hop
    split at h
    · split at h
      · rename_i hz
        simp only[Option.some.injEq,Prod.mk.injEq]at h;obtain⟨rfl,rfl⟩:=h
        exact ALE hs hop hz
      · simp only[Option.some.injEq,Prod.mk.injEq]at h;obtain⟨rfl,rfl⟩:=h
        exact Tk hs (.inl hop)
    · simp only[Option.some.injEq,Prod.mk.injEq]at h;obtain⟨rfl,rfl⟩:=h
      exact⟨.value (a.eval x),w,a.put o.dst (a.eval x),Γ,by simp[execOp,hop],fun K Q hk=>hk,put_defers _ _ _,Ext.refl _ _ _,Nat.le_refl _,hs.putStrip o.dst (hs.rd o.type x)⟩
  · rename_i x hop
    split at h
    · split at h
      · rename_i hz
        simp only[Option.some.injEq,Prod.mk.injEq]at h;obtain⟨rfl,rfl⟩:=h
        exact AIX hs hz
      · split at h
        · rename_i z hz
          simp only[Option.some.injEq,Prod.mk.injEq]at h;obtain⟨rfl,rfl⟩:=h
          exact AK8 hs hop hz
        · simp only[Option.some.injEq,Prod.mk.injEq]at h;obtain⟨rfl,rfl⟩:=h
          exact Tk hs (.inr hop)
    · simp only[Option.some.injEq,Prod.mk.injEq]at h;obtain⟨rfl,rfl⟩:=h
      exact Tk hs (.inr hop)
  · rename_i t hop
    split at h
    · cases hz:RZ E.P t st.next with
      |none=>grind
      | some z=>
        simp only[hz,Option.map_some,Option.some.injEq,Prod.mk.injEq]at h;obtain⟨rfl,rfl⟩:=h
        grind[AHP]
    · cases hz:CL E.P t st.next with
      |none=>grind
      | some z=>
        simp only[hz,Option.map_some,Option.some.injEq,Prod.mk.injEq]at h;obtain⟨rfl,rfl⟩:=h
        grind[AL8]
  · rename_i t x hop
    split at h
    · rename_i hx
      simp only[Option.some.injEq,Prod.mk.injEq]at h;obtain⟨rfl,rfl⟩:=h
      grind[AMx]
    grind
  · rename_i t ps hop
    cases hz:PO E t (BI E (AJ E.P t) af ps).2 with
    |none=>grind
    | some z=>
      simp only[hz,Option.map_some,Option.some.injEq,Prod.mk.injEq]at h;obtain⟨rfl,rfl⟩:=h
      grind[ANs]
  · rename_i t len ps hop
    split at h
    · cases hz:GL E t len (BI E (fun _=>AJ E.P t 0) af ps).2 with
      |none=>grind
      | some z=>
        obtain⟨z,cs⟩:=z
        simp only[hz,Option.map_some,Option.some.injEq,Prod.mk.injEq]at h;obtain⟨rfl,rfl⟩:=h
        grind[TP]
    cases hz:Ew E t len (BI E (fun _=>AJ E.P t 0) af ps).2 with
    |none=>grind
    | some z=>
      simp only[hz,Option.map_some,Option.some.injEq,Prod.mk.injEq]at h;obtain⟨rfl,rfl⟩:=h
      grind[Uf]
  · rename_i t x hop
    split at h
    · cases hz:NK E t (rd E af 0 x) st with
      |none=>grind
      | some z=>
        obtain⟨r,s⟩:=z
        simp only[hz,Option.map_some,Option.some.injEq,Prod.mk.injEq]at h;obtain⟨rfl,rfl⟩:=h
        grind[AF7]
    · cases hz:Nj E t (rd E af 0 x) st with
      |none=>grind
      | some z=>
        simp only[hz,Option.map_some,Option.some.injEq,Prod.mk.injEq]at h;obtain⟨rfl,rfl⟩:=h
        grind[ARf]
  · rename_i t x y hop
    split at h
    · rename_i hd
      cases hz:Kj E t (rd E af 0 x) (rd E af t y) st with
      |none=>grind
      | some z=>
        simp only[hz,Option.map_some,Option.some.injEq,Prod.mk.injEq]at h;obtain⟨rfl,rfl⟩:=h
        exact AL0 hs hop (by simp_all) hz
    grind
  · rename_i t n hop
    split at h
    · rename_i vs hv
      cases hz:vs[n]? with
      |none=>grind
      | some z=>
        simp only[hz,Option.map_some,Option.some.injEq,Prod.mk.injEq]at h;obtain⟨rfl,rfl⟩:=h
        exact AFe hs hop hv hz
    grind
  · rename_i t x hop
    split at h
    · rename_i s hx
      split at h
      · rename_i ht
        simp only[Option.some.injEq,Prod.mk.injEq]at h;obtain⟨rfl,rfl⟩:=h
        grind[ANl]
      grind
    grind
  · rename_i t hop
    split at h
    · rename_i s pos hx
      simp only[Option.some.injEq,Prod.mk.injEq]at h;obtain⟨rfl,rfl⟩:=h
      grind[APp]
    grind
  · rename_i t x lo hi mx hop
    split at h
    · rename_i l hh m h1 h2 h3
      split at h
      · rename_i r hz
        simp only[Option.some.injEq,Prod.mk.injEq]at h;obtain⟨rfl,rfl⟩:=h
        exact ALM hs hop h1 h2 h3 hz
      · cases hz:ND E t (rd E af t x) l hh m st with
        |none=>rw[hz]at h;cases h
        | some z=>
          simp only[hz,Option.map_some,Option.some.injEq,Prod.mk.injEq]at h;obtain⟨rfl,rfl⟩:=h
          exact AHV hs hop h1 h2 h3 hz
    grind
  · rename_i x y t0 t1 ts hop
    split at h
    · split at h
      · rename_i z hz
        simp only[Option.some.injEq,Prod.mk.injEq]at h;obtain⟨rfl,rfl⟩:=h
        grind[AD8]
      · cases hz:appW E x t0 t1 (rd E af t0 x) (rd E af t1 y) st with
        |none=>rw[hz]at h;cases h
        | some z=>
          obtain⟨r,s⟩:=z
          simp only[hz,Option.map_some,Option.some.injEq,Prod.mk.injEq]at h;obtain⟨rfl,rfl⟩:=h
          exact APW hs hop hz
    split at h
    · rename_i z hz
      simp only[Option.some.injEq,Prod.mk.injEq]at h;obtain⟨rfl,rfl⟩:=h
      grind[AJd]
    · cases hz:Uq E t0 t1 (rd E af t0 x) (rd E af t1 y) st with
      |none=>rw[hz]at h;cases h
      | some z=>
        simp only[hz,Option.map_some,Option.some.injEq,Prod.mk.injEq]at h;obtain⟨rfl,rfl⟩:=h
        exact Xl hs hop hz
  · rename_i x t0 ts hop
    split at h
    · rename_i r hz
      simp only[Option.some.injEq,Prod.mk.injEq]at h;obtain⟨rfl,rfl⟩:=h
      grind[P6]
    · cases hz:V7 E t0 (rd E af t0 x) st with
      |none=>rw[hz]at h;cases h
      | some z=>
        simp only[hz,Option.map_some,Option.some.injEq,Prod.mk.injEq]at h;obtain⟨rfl,rfl⟩:=h
        exact APh hs hop hz
  · rename_i t hop
    simp only[Option.some.injEq,Prod.mk.injEq]at h;obtain⟨rfl,rfl⟩:=h
    grind[Zp]
  · rename_i t m k ok hop
    cases hz:PW E t (rd E af t m) (rd E af 0 k) ok st with
    |none=>grind
    | some z=>
      simp only[hz,Option.map_some,Option.some.injEq,Prod.mk.injEq]at h;obtain⟨rfl,rfl⟩:=h
      grind[AMh]
  · rename_i t m k x hop
    split at h
    · rename_i hd
      cases hz:QO E t (rd E af t m) (rd E af 0 k) (rd E af 0 x) st with
      |none=>grind
      | some z=>
        simp only[hz,Option.map_some,Option.some.injEq,Prod.mk.injEq]at h;obtain⟨rfl,rfl⟩:=h
        exact Xn hs (.inl hop) (by simp_all) hz
    grind
  · rename_i t m k x hop
    split at h
    · rename_i hd
      cases hz:QO E t (rd E af t m) (rd E af 0 k) (rd E af 0 x) st with
      |none=>grind
      | some z=>
        simp only[hz,Option.map_some,Option.some.injEq,Prod.mk.injEq]at h;obtain⟨rfl,rfl⟩:=h
        exact Xn hs (.inr hop) (by simp_all) hz
    grind
  · rename_i t x i hop
    split at h
    · rename_i r hz
      simp only[Option.some.injEq,Prod.mk.injEq]at h;obtain⟨rfl,rfl⟩:=h
      grind[P6]
    · split at h
      · rename_i r hz
        simp only[Option.some.injEq,Prod.mk.injEq]at h;obtain⟨rfl,rfl⟩:=h
        grind[Uk]
      · cases hz:MU E t (rd E af t x) (rd E af 0 i) st with
        |none=>rw[hz]at h;cases h
        | some z=>
          simp only[hz,Option.map_some,Option.some.injEq,Prod.mk.injEq]at h;obtain⟨rfl,rfl⟩:=h
          exact AIW hs hop hz
  · rename_i t x y hop
    split at h
    · cases hz:R8 E t (rd E af 0 x) (rd E af 0 y) st with
      |none=>grind
      | some z=>
        simp only[hz,Option.map_some,Option.some.injEq,Prod.mk.injEq]at h;obtain⟨rfl,rfl⟩:=h
        grind[AMZ]
    · cases hz:Si E t (rd E af 0 x) (rd E af 0 y) st with
      |none=>grind
      | some z=>
        simp only[hz,Option.map_some,Option.some.injEq,Prod.mk.injEq]at h;obtain⟨rfl,rfl⟩:=h
        grind[ARU]
  · rename_i s d x hop
    split at h
    · rename_i r hz
      simp only[Option.some.injEq,Prod.mk.injEq]at h;obtain⟨rfl,rfl⟩:=h
      grind[P6]
    · split at h
      · rename_i r hz
        simp only[Option.some.injEq,Prod.mk.injEq]at h;obtain⟨rfl,rfl⟩:=h
        grind[ALq]
      · cases hz:NY E s d (rd E af s x) st with
        |none=>grind
        | some z=>
          simp only[hz,Option.map_some,Option.some.injEq,Prod.mk.injEq]at h;obtain⟨rfl,rfl⟩:=h
          grind[AMa]
  · rename_i x t0 ts hop
    cases hz:PI (rd E af t0 x)with
    |none=>grind
    | some z=>
      simp only[hz,Option.map_some,Option.some.injEq,Prod.mk.injEq]at h;obtain⟨rfl,rfl⟩:=h
      grind[ANx]
  · rename_i x y t0 t1 hop
    cases hz:SG E t0 (rd E af t0 x) (rd E af t1 y)with
    |none=>grind
    | some z=>
      simp only[hz,Option.map_some,Option.some.injEq,Prod.mk.injEq]at h;obtain⟨rfl,rfl⟩:=h
      grind[AQL]
  · cases hz:Cr E o af with
    |none=>grind
    | some z=>
      simp only[hz,Option.map_some,Option.some.injEq,Prod.mk.injEq]at h;obtain⟨rfl,rfl⟩:=h
      grind[P6]
end
def rdL (E:Env) (af:List AVal):List Operand→List TypeId→List AVal
  |[],_=>[]
  |x::xs,[]=>rd E af 0 x::rdL E af xs []
  |x::xs,t::ts=>rd E af t x::rdL E af xs ts
def callable (P:Program) (g:FuncId):Bool:=
  match P.funcs[g]? with
  | some fn => fn.name != "runtime.NumGoroutine" && fn.body.isSome
  |none=>false
def Adt (E:Env) (g:FuncId) (args:List AVal) (st:St) (Q:AVal→St→Prop):Prop:=
  ∃ fn e r, E.P.funcs[g]? = some fn ∧ (fn.name == "runtime.NumGoroutine") = false ∧ fn.body.isNone = true ∧ Extern.findNext fn = none ∧ Extern.find fn = some e ∧
    (∀Γ vs w,RepL Γ args vs→ ∃v,(e vs.toArray).run E.P w=.ok v w∧Rep Γ r v)∧Q r.strip st
def AfB (E:Env) (g:FuncId) (args:List AVal) (st:St) (Q:AVal→St→Prop):Prop:=
  ∃ fn ps t el, ∃ n : Nat, E.P.funcs[g]? = some fn ∧ (fn.name == "runtime.NumGoroutine") = false ∧ fn.body.isNone = true ∧ Extern.findNext fn = none ∧ Extern.find fn = some (Extern.BytealgMakeNoZero.makeNoZero ps #[t]) ∧
    E.P.underlying t=some (.slice el)∧1≤n∧n≤140737488355328∧args=[.int .i64 n]∧Q (.trow el st.next n) {m:=(st.next,[.any])::st.m,next:=st.next+1}
def UL (E:Env) (g:FuncId) (args:List AVal) (st:St) (Q:AVal→St→Prop):Prop:=Adt E g args st Q∨AfB E g args st Q
theorem Vd: ∀(n t:Nat) (acc:Array Value),(∀v,v∈acc.toList→v.oneCell'=true)→ ∀v,v∈(Extern.BytealgMakeNoZero.digits n t acc).toList→v.oneCell'=true
  |0,_,_,h=>h
  | n+1,t,acc,h=>by
    rw[Extern.BytealgMakeNoZero.digits]
    refine Vd n _ _ fun v hv=>?_
    rw[Array.toList_push,List.mem_append]at hv
    rcases hv with hv|hv
    · grind
    · rw[List.mem_singleton]at hv;subst hv;rfl
theorem AaS{P:Program} (w:World) (ps:Array TypeId) (t e:TypeId) (ht:P.underlying t=some (.slice e)) (n:Nat) (hn:n≤281474976710656):
    ∃cs:Array Value,(Extern.BytealgMakeNoZero.makeNoZero ps #[t] #[.int .i64 n]).run P w=.ok (.slice (some ⟨w.heap.size,0,none⟩) n cs.size) (w.drew.drew.alloc (.cells cs e))∧n≤cs.size∧ ∀v,v∈cs.toList→v.oneCell'=true:=by
  have h1: ¬(n:Int)<0:=by omega
  have h2: ¬(281474976710656:Int)<(n:Int):=by omega
  refine ⟨Extern.BytealgMakeNoZero.digits (grownCap w n 0 e) ((Question.extern "internal/bytealg.MakeNoZero.bytes" 0).cut (w.tape (w.drawn + 1) (.extern "internal/bytealg.MakeNoZero.bytes" 0))) #[], ?_, ?_, Vd _ _ _ (by simp)⟩
  · show Sem.run P (do
        let TypeDesc.slice el←underlying t|stuck _
        if(n:Int)<0||(n:Int)>2^48 then runtimePanic _
        let c←choose (.appendCap (n:Int).toNat 0 el)
        askRoom c
        let bs←choose (.extern _ 0)
        let a←newRow el (Extern.BytealgMakeNoZero.digits c bs #[])
        pure (Value.slice (some a) (n:Int).toNat c):Sem Value) w=_
    simp[run_underlying ht,h1,h2,Question.forced,newRow,Go.Lib.size_digits,grownCap]
  grind[Go.Lib.size_digits,grownCap_ge]
def CallX (E:Env) (g:FuncId) (args:List AVal) (st:St) (Q:AVal→St→Prop):Prop:=if callable E.P g=true then ACall E g args st Q else UL E g args st Q
theorem CallX.mono{E:Env}{st:St}{g:FuncId}{args:List AVal}{Q Q':AVal→St→Prop} (h:CallX E g args st Q) (k: ∀r st',st.next≤st'.next→Q r st'→Q' r st'):CallX E g args st Q':=by
  unfold CallX at *
  split
  · rename_i hc;rw[if_pos hc]at h;exact h.mono k
  · rename_i hc;rw[if_neg hc]at h
    rcases h with h|h
    · obtain⟨fn,e,r,h1,h2,h3,h4,h5,h6,h7⟩:=h
      exact .inl ⟨fn,e,r,h1,h2,h3,h4,h5,h6,k _ _ (Nat.le_refl _) h7⟩
    · obtain⟨fn,ps,t,el,n,h1,h2,h3,h4,h5,h6,h7,h8,h9,h10⟩:=h
      exact .inr ⟨fn,ps,t,el,n,h1,h2,h3,h4,h5,h6,h7,h8,h9,k _ _ (Nat.le_succ _) h10⟩
def OZ:AVal→Bool
  |.gsl _ _ _=>true
  |_=>false
def VJ (x y:AVal):Bool:=OZ y||OZ x
def QN:BinOp→Operand→Bool
  |.eql,.const (.slice none 0 0)=>true
  |_,_=>false
def AW8 (b:Bool) (v:AVal) (K:AVal→Prop):Prop:=
  match b,v with
  |true,.slice _ xs _=> ∀c:Bool,(c=true→xs=[])→K (.bool c)
  |_,_=>False
def CX (E:Env) (mv:List Tmp) (o:Oper) (af:List AVal) (st:St) (K:List AVal→St→Prop):Prop:=
  match o.op with
  | .call {callee:=.value f,args,argTypes}=>
    match rd E af 0 f with
    |.fn (.func g) p q=>CallX E g (stripL (p++rdL E af args.toList argTypes.toList++q)) st fun r st'=>K (AX af o.dst r) st'
    |_=>False
  | .call {callee:=.builtin .append,args:=⟨[x,y]⟩,argTypes:=⟨t0::t1::_⟩}=>
    if VJ (rd E af t0 x) (rd E af t1 y)=true then
      match appG E t0 t1 (rd E af t0 x) (rd E af t1 y) st with
      |some (wd,l,cs,rest,jo)=> ∀i,i=st.next∨jo=some i→K (AX af o.dst (.gsl wd i l)) {m:=(i,cs)::rest,next:=st.next+1}
      |none=>False
    else
      match DU E mv o af st with
      |some (af',st')=>K af' st'
      |none=>False
  | .binOp op t x y _=>
    if QN op y=true then AW8 (BG E.P t) (rd E af t x) fun v=>K (AX af o.dst v) st
    else
      match DU E mv o af st with
      |some (af',st')=>K af' st'
      |none=>False
  | _=>
    match DU E mv o af st with
    |some (af',st')=>K af' st'
    |none=>False
def AhV (E:Env) (o:Oper) (af:List AVal) (st:St) (K:List AVal→St→Prop):Prop:=
  ∀(F:Nat→Nat) (Γ:Ghost) (w:World) (a:Act),a.defers=[]→Sim E F Γ st w af a.tmps.toList→ ∀(K':Act→World→Prop) (Qx:Exit→Act→World→Prop),
    (∀Γ' af' st' a' w',Ext F Γ w Γ' w'→st.next≤st'.next→a'.defers=[]→Sim E F Γ' st' w' af' a'.tmps.toList→K af' st'→K' a' w')→o.wp E.P a w K' Qx
section
variable{E:Env}{F:Nat→Nat}{Γ:Ghost}{st:St}{w:World}{af:List AVal}{a:Act}
theorem RepL.append{xs ys:List AVal}{us vs:List Value} (h:RepL Γ xs us) (k:RepL Γ ys vs):RepL Γ (xs++ys) (us++vs):=by
  induction xs generalizing us with
  |nil=>cases h;exact k
  |cons x xs ih=>cases h with|cons h t=>exact .cons h (ih t)
theorem ACD (hs:Sim E F Γ st w af a.tmps.toList): ∀(xs:List Operand) (ts:List TypeId),RepL Γ (rdL E af xs ts) (xs.map a.eval)
  |[],_=>.nil
  |x::xs,[]=>.cons (hs.rd _ x) (ACD hs xs [])
  |x::xs,t::ts=>.cons (hs.rd _ x) (ACD hs xs ts)
theorem Sim.aside (hs:Sim E F Γ st w af a.tmps.toList){xs:List AVal}{vs:List Value} (hr:RepL Γ xs vs):Sim E (fun b=>F b+AC b af a.tmps.toList) Γ st w (stripL xs) vs:=by
  refine {hs with bx_F:=?_,F_lt:=?_,rep:=hr.strip,own:=Hz _ _ _ _,tok:=?_}
  · intro p b hp hb
    have h1:=hs.bx_F p b hp hb
    have h2:AC b af a.tmps.toList=0:=by
      rcases Nat.lt_or_ge 0 (AC b af a.tmps.toList)with h|h
      · rcases hs.box_ok p hp with⟨b',arr,e,hk⟩|⟨v,hv⟩
        rotate_left
        · have:=hv.bx;grind
        have:=hk.bx;rw[hb]at this;cases this
        rcases (Bb _ _ hs.own h).2 with⟨c,hc⟩|⟨s0,p0,hc⟩|⟨s0,p0,hc⟩
        · rw[hk.com]at hc;grind
        · obtain⟨lo,hi,hh,_⟩:=hk.heap;grind
        · obtain⟨lo,hi,hh,_⟩:=hk.heap;grind
      omega
    omega
  · intro b hb
    have h1:=hs.F_lt b hb
    have h2:AC b af a.tmps.toList=0:=by
      rcases Nat.lt_or_ge 0 (AC b af a.tmps.toList)with h|h
      · have:=(Bb _ _ hs.own h).1;omega
      omega
    omega
  · intro b
    have:=hs.tok b
    grind[FI]
theorem Sim.back (hs:Sim E F Γ st w af a.tmps.toList){Γ':Ghost}{st':St}{w':World}{r:AVal}{v:Value} (hx:Ext (fun b=>F b+AC b af a.tmps.toList) Γ w Γ' w') (h:Sim E (fun b=>F b+AC b af a.tmps.toList) Γ' st' w' [r] [v]) (dst:Option Tmp):
    Sim E F Γ' st' w' (AX af dst r) (a.put dst v).tmps.toList:=by
  have hown:ownL Γ' w' af a.tmps.toList:=BU hx.le _ _ hs.own fun b hb=>hx.keep b (by omega)
  have hmid:Sim E F Γ' st' w' af a.tmps.toList:=by
    refine {h with bx_F:=?_,F_lt:=?_,rep:=hs.rep.mono hx.le,own:=hown,tok:=?_}
    · intro p b hp hb;have:=h.bx_F p b hp hb;omega
    · intro b hb;have:=h.F_lt b hb;omega
    · intro b;have:=h.tok b;omega
  have hr:Rep Γ' r v:=by have:=h.rep;cases this;omega
  have ho:VM.own Γ' w' r v:=by have:=h.own;grind[ownL]
  refine hmid.put dst hr ho fun b=>?_
  have:=h.tok b
  grind[AC,cnt]
theorem Wn{P:Program}{w:World}{t e:TypeId} (h:P.underlying t=some (.slice e)) (p:Option Addr) (n k:Nat):
    (binOp .eql t (.slice p n k) (.slice none 0 0)).run P w=.ok (.bool p.isNone) w:=by
  have key: ∀d:Nat,(Op.equalIn (d+1) t (.slice p n k) (.slice none 0 0)).run P w=.ok p.isNone w:=fun d=>by
    cases p<;>simp[Op.equalIn,run_underlying h]
  simp_all[binOp,Op.equal,Op.maxDepth]
theorem AOQ{op:BinOp}{y:Operand} (h:QN op y=true):op=.eql∧y=.const (.slice none 0 0):=by
  unfold QN at h
  split at h
  · exact⟨rfl,rfl⟩
  · cases h
theorem Q9 {mv:List Tmp}{o:Oper}{K:List AVal→St→Prop} (h:CX E mv o af st K):AhV E o af st K:=by
  intro F Γ w a hd hs K' Qx hK
  unfold CX at h
  split at h
  · rename_i f args ts hop
    have hf:=hs.rd 0 f
    split at h
    · rename_i g p q e
      rw[e]at hf
      generalize hfv:a.eval f=fv at hf
      cases hf with
      | fn hp hq=>
        rename_i vp vq
        have hargs:=ACD hs args.toList ts.toList
        have hall:=hp.append (hargs.append hq)
        rw[←List.append_assoc]at hall
        unfold CallX at h
        split at h
        rotate_left
        · rcases h with h|h
          · obtain⟨fn,e2,r,h1,h2,h3,h4,h5,h6,h7⟩:=h
            obtain⟨v,hv,hr⟩:=h6 Γ (vp.toList++args.toList.map a.eval++vq.toList) w (by
              have:=hall.strip
              grind)
            have harr:(vp.toList++args.toList.map a.eval++vq.toList).toArray=vp++args.map a.eval++vq:=by
              simp
            rw[harr]at hv
            have hrun:(execOp a.eval o).run E.P w=.ok (.value v) w:=by
              grind[run_callFunc_extern,execOp,resolve,Deferred.ofValue,Sem.run_bind,Sem.run_pure,Result.andThen_ok,invoke]
            unfold Oper.wp
            rw[hrun]
            exact hK Γ _ st (a.put o.dst v) w (Ext.refl _ _ _) (Nat.le_refl _) (by grind[put_defers]) (hs.putStrip o.dst hr) h7
          · obtain⟨fn,ps,t,el,n,h1,h2,h3,h4,h5,h6,h7,h8,h9,h10⟩:=h
            have hst:=hall.strip
            have harr:(vp.toList++args.toList.map a.eval++vq.toList).toArray=vp++args.map a.eval++vq:=by
              simp
            obtain⟨v0,hv0,hrv⟩: ∃v0,vp.toList++args.toList.map a.eval++vq.toList=[v0]∧Rep Γ (.int .i64 n) v0:=by
              have hst':RepL Γ [.int .i64 n] (vp.toList++args.toList.map a.eval++vq.toList):=by grind
              generalize vp.toList++args.toList.map a.eval++vq.toList=vs at hst'
              cases hst' with
              |cons q t=>cases t;grind
            cases hrv
            rw[hv0]at harr
            obtain⟨cs,r1,r2,r3⟩:=AaS (P:=E.P) w ps t el h6 n (by omega)
            have hrun:(execOp a.eval o).run E.P w=.ok (.value (.slice (some ⟨w.drew.drew.heap.size,0,none⟩) n cs.size)) (w.drew.drew.alloc (.cells cs el (0,0))):=by
              have hcf:=run_callFunc_extern (P:=E.P) h1 h2 h3 h4 h5 (vp++args.map a.eval++vq) w
              rw[←harr]at hcf
              rw[r1]at hcf
              simp only[execOp,hop,resolve,hfv,Deferred.ofValue,Sem.run_bind,Sem.run_pure,Result.andThen_ok,invoke]
              rw[←harr,hcf];rfl
            have hx:Ext F Γ w Γ w.drew.drew:=⟨Γ.le_refl,fun _ _=>⟨rfl,rfl⟩,Nat.le_refl _,rfl,rfl,rfl⟩
            obtain⟨nx,w',a',Γ',hp⟩:=UH (o:=o) (r:=.trow el st.next n) (w1:=w.drew.drew) (cells:=cs) (e:=el) (cs:=[.any]) (fz:=(0,0)) (cap:=cs.size) (len:=n) hs hs.drew.drew hx (by simp)
              (by
                have hl:1≤cs.toList.length:=by grind
                match hc:cs.toList,hl with
                |v::vs,_=>exact .cons (.any v) .nil)
              (fun v hv=>r3 v (List.mem_of_mem_take hv)) (fun x hx=>by grind[VM.own,cnt]) (fun Γ' q1 q2=>.trow q1 q2 ⟨r2,by grind[Bl]⟩ rfl) (fun _ _ _=>by simp[VM.own]) (fun _ _=>by simp[cnt]) hrun
            unfold Oper.wp
            rw[hp.run]
            exact hp.upon _ _ (hK Γ' _ _ a' w' hp.ext hp.next (by rw[hp.defers];omega) hp.sim h10)
        rename_i hcall
        have hac:=h
        have hrun:(execOp a.eval o).run E.P w=.ok (.enter g (vp++args.map a.eval++vq)) w:=by
          unfold callable at hcall
          split at hcall
          · rename_i fn hfn
            simp only[Bool.and_eq_true,bne_iff_ne,ne_eq]at hcall
            have hb:fn.body.isNone=false:=by have:=hcall.2;cases hfb:fn.body<;>simp_all
            simp only[execOp,hop,resolve,hfv,Deferred.ofValue,Sem.run_bind,Sem.run_pure,Result.andThen_ok,invoke,callFunc,run_program,hfn]
            have hname : (fn.name == "runtime.NumGoroutine") = false := by grind
            simp only[hname,hb,Bool.false_eq_true,if_false]
            rfl
          grind
        have key:=hac.go (fun b=>F b+AC b af a.tmps.toList) Γ w (vp++args.map a.eval++vq) (by
          have e2:(vp++args.map a.eval++vq).toList=vp.toList++(args.toList.map a.eval++vq.toList):=by simp
          rw[e2,←List.append_assoc]
          refine hs.aside ?_
          grind)
        unfold Oper.wp
        rw[hrun,Oper.upon_enter]
        refine key.mono ?_
        rintro e' w' ⟨v,rfl,Γ',r,st',x1,n1,s1,q1⟩
        exact hK Γ' _ st' (a.put o.dst v) w' (x1.less fun b=>by omega) n1 (by grind[put_defers]) (hs.back x1 s1 o.dst) q1
    grind
  · rename_i x y t0 t1 ts hop
    split at h
    · split at h
      · rename_i wd l cs rest jo hab
        obtain⟨i,hi,nx,w',a',Γ',hp⟩:=ASS hs hop hab
        unfold Oper.wp
        rw[hp.run]
        exact hp.upon _ _ (hK Γ' _ _ a' w' hp.ext hp.next (by rw[hp.defers];omega) hp.sim (h i hi))
      grind
    · split at h
      · rename_i af' st' hst
        obtain⟨nx,w',a',Γ',hp⟩:=OC hs hst
        unfold Oper.wp
        rw[hp.run]
        exact hp.upon _ _ (hK Γ' af' st' a' w' hp.ext hp.next (by rw[hp.defers];omega) hp.sim h)
      grind
  · rename_i op t x y _ hop
    split at h
    · rename_i hn
      obtain⟨rfl,rfl⟩:=AOQ hn
      have hx:=hs.rd t x
      unfold AW8 at h
      split at h
      · rename_i xs ow ht hr
        rw[hr]at hx
        obtain⟨e,hu⟩: ∃e,E.P.underlying t=some (.slice e):=by
          grind[BG]
        have main: ∀(p:Option Addr) (n k:Nat),a.eval x=.slice p n k→(p.isNone=true→xs=[])→o.wp E.P a w K' Qx:=by
          intro p n k hv hc
          have hrun:(execOp a.eval o).run E.P w=.ok (.value (.bool p.isNone)) w:=by
            simp only[execOp,hop]
            have hc:a.eval (.const (.slice none 0 0))=.slice none 0 0:=rfl
            simp[hv,hc,eqGuard,Wn hu]
          unfold Oper.wp
          rw[hrun]
          exact hK Γ _ st (a.put o.dst (.bool p.isNone)) w (Ext.refl _ _ _) (Nat.le_refl _) (by grind[put_defers]) (hs.putStrip o.dst (.bool _)) (h _ hc)
        generalize hv:a.eval x=v at hx
        cases hx with
        |snil w o a=>simp_all
        |slice=>grind
      grind
    · split at h
      · rename_i af' st' hst
        obtain⟨nx,w',a',Γ',hp⟩:=OC hs hst
        unfold Oper.wp
        rw[hp.run]
        exact hp.upon _ _ (hK Γ' af' st' a' w' hp.ext hp.next (by rw[hp.defers];omega) hp.sim h)
      grind
  · split at h
    · rename_i af' st' hst
      obtain⟨nx,w',a',Γ',hp⟩:=OC hs hst
      unfold Oper.wp
      rw[hp.run]
      exact hp.upon _ _ (hK Γ' af' st' a' w' hp.ext hp.next (by rw[hp.defers];omega) hp.sim h)
    grind
def gd (x:AVal) (want:Bool):Option Bool:=
  match x with
  |.bool b=>some (b==want)
  |.tuple []=>some false
  |_=>none
def gdA (ops:Array Oper) (af:List AVal) (j:Nat) (want:Bool):Option Bool:=
  match(ops[j]?).bind (·.dst)with
  |some d=>gd (af.getD d .any) want
  |none=>none
def JJ (E:Env) (mv:List Tmp) (ops:Array Oper):List Oper→(List AVal→St→Prop)→List AVal→St→Prop
  |[],K,af,st=>K af st
  | o::rest,K,af,st=>
    match o.guard with
    |none=>CX E mv o af st (JJ E mv ops rest K)
    | some (j,want)=>
      match gdA ops af j want with
      |some true=>CX E mv o af st (JJ E mv ops rest K)
      |some false=>JJ E mv ops rest K (AX af o.dst (.tuple [])) st
      |none=>False
theorem P5 (hs:Sim E F Γ st w af a.tmps.toList){ops:Array Oper}{j:Nat}{want t:Bool} (h:gdA ops af j want=some t):(yielded ops a.tmps j==some want)=t:=by
  unfold gdA at h
  split at h
  · rename_i d hd
    have hr:=hs.rep.get d undef
    unfold yielded
    rw[hd]
    simp only[Option.bind_some]
    unfold gd at h
    have hlt:d<a.tmps.size:=by
      rcases Nat.lt_or_ge d a.tmps.size with h'|h'
      · omega
      · have:af.length=a.tmps.size:=by rw[hs.rep.length,Array.length_toList]
        grind
    have e:a.tmps.toList.getD d undef=a.tmps[d]:=by grind
    rw[e]at hr
    rw[Array.getElem?_eq_getElem hlt]
    generalize a.tmps[d]=v at hr
    split at h
    · rename_i b hb
      rw[hb]at hr
      cases hr
      grind[Option.some.injEq]
    · rename_i hb
      rw[hb]at hr
      cases hr
      grind
    grind
  grind
theorem Lc{ops:Array Oper}{o:Oper}{tmps:Array Value}{j:Nat}{want:Bool} (hg:o.guard=some (j,want)):Region.wanted o (yielded ops tmps)=(yielded ops tmps j==some want):=by
  grind[Region.wanted]
theorem Sim.skipped (hs:Sim E F Γ st w af a.tmps.toList) (d:Option Tmp):Sim E F Γ st w (AX af d (.tuple [])) (a.put d undef).tmps.toList:=
  hs.put d (r:=.tuple []) (v:=undef) (.tuple .nil) (by simp[VM.own,undef,ownL]) fun n=>by
    have:=hs.tok n
    grind[cnt,undef,AC]
theorem AIH{mv:List Tmp}{ops:Array Oper}{Qc:Exit→Act→World→Prop}: ∀(rest:List Oper) (i:Nat),ops.toList.drop i=rest→ ∀ {K:List AVal→St→Prop}{F:Nat→Nat}{Γ:Ghost}{st:St}{w:World}{af:List AVal}{a:Act},
    a.defers=[]→Sim E F Γ st w af a.tmps.toList→JJ E mv ops rest K af st→
    (∀Γ' af' st' a' w',Ext F Γ w Γ' w'→st.next≤st'.next→a'.defers=[]→Sim E F Γ' st' w' af' a'.tmps.toList→K af' st'→Qc .normal a' w')→
    wpOps E.P ops Qc (List.range' i rest.length) a w:=by
  intro rest
  induction rest with
  |nil=>intro i hi K F Γ st w af a hd hs h hK;exact hK Γ af st a w (Ext.refl _ _ _) (Nat.le_refl _) hd hs h
  | cons o rest ih=>
    intro i hi K F Γ st w af a hd hs h hK
    have hoi:ops[i]?=some o:=by
      have:ops.toList[i]?=some o:=by
        have:=congrArg (·[0]?) hi
        grind
      grind
    have hi':ops.toList.drop (i+1)=rest:=by
      grind[List.tail_drop]
    rw[List.length_cons,List.range'_succ]
    simp only[wpOps,hoi]
    have go:CX E mv o af st (JJ E mv ops rest K)→o.wp E.P a w (wpOps E.P ops Qc (List.range' (i+1) rest.length)) Qc:=fun h=>
      Q9 h F Γ w a hd hs _ _ fun Γ' af' st' a' w' x1 n1 d1 s1 k1=>
        ih (i+1) hi' d1 s1 k1 fun Γ2 af2 st2 a2 w2 x2 n2 d2 s2 k2=>hK Γ2 af2 st2 a2 w2 (x1.trans x2) (Nat.le_trans n1 n2) d2 s2 k2
    simp only[JJ]at h
    split at h
    · simp_all[Region.wanted]
    · rename_i j want hg
      split at h
      · rename_i hgd
        rw[if_pos (by rw[Lc hg,P5 hs hgd])]
        grind
      · rename_i hgd
        rw[if_neg (by rw[Lc hg,P5 hs hgd];simp)]
        exact ih (i+1) hi' (by grind[put_defers]) (hs.skipped o.dst) h fun Γ2 af2 st2 a2 w2 x2 n2 d2 s2 k2=>hK Γ2 af2 st2 a2 w2 x2 n2 d2 s2 k2
      grind
theorem RL{Q:APost}{id:Nat}{ops:Array Oper} (mv:List Tmp) (h:JJ E mv ops ops.toList (fun af st=>Q .normal af st) af st):AWp E (.region id ops false) Q af st:=by
  constructor
  intro F Γ w a hd hs
  refine wp_region ?_
  have key:=AIH (Qc:=lift E F Γ w st.next Q) ops.toList 0 rfl hd hs h fun Γ' af' st' a' w' x1 n1 d1 s1 k1=>⟨trivial,d1,Γ',af',st',x1,n1,s1,k1⟩
  grind[Array.length_toList,List.range_eq_range']
theorem AKI{Q:APost}{c:Operand}{x y:Code} (b:Bool) (hb:rd E af 0 c=.bool b) (h:if b=true then AWp E x Q af st else AWp E y Q af st):AWp E (.cond c x y) Q af st:=by
  constructor
  intro F Γ w a hd hs
  have hr:=hs.rd 0 c
  rw[hb]at hr
  generalize hv:a.eval c=v at hr
  cases hr
  refine wp_cond hv ?_
  cases b
  · exact h.go F Γ w a hd hs
  · exact h.go F Γ w a hd hs
theorem AQ1{Q:APost}{c:Code}{m:List (Nat×List AVal)} (hm:m.Sublist st.m) (h:AWp E c Q af {st with m:=m}):AWp E c Q af st:=
  ⟨fun F Γ w a hd hs=>h.go F Γ w a hd (hs.fewer hm)⟩
def SV (E:Env) (t:TypeId) (addr:AVal) (st:St):Option (AVal×St):=
  match addr with
  | .ptr i 0=>
    match AZ st.m i with
    | some cs=>
      if Ab E.P t=true then
        if A8 E.P t=true then(if BH E.P t=some cs.length then some (.agg cs,{st with m:=Ao st.m i (stripL cs)})else none)
        else match cs with
          |[c]=>some (c,{st with m:=Ao st.m i (stripL cs)})
          |_=>none
      else none
    |none=>none
  |_=>none
def Me (E:Env):List ResultVar→List AVal→St→Option (List AVal×St)
  |[],af,st=>some ([],st)
  |.tmp t::rs,af,st=>(Me E rs (stripAt af (.tmp t)) st).map fun p=>(af.getD t .any::p.1,p.2)
  | .cell i t::rs,af,st=>
    match SV E t (af.getD i .any) st with
    |some (r,st')=>(Me E rs af st').map fun p=>(r::p.1,p.2)
    |none=>none
def H5 (E:Env) (fn:Func) (Q:AVal→St→Prop):APost:=fun e af st=>
  match e with
  | .normal|.ret=>
    match Me E fn.results.toList af st with
    |some (rs,st')=> ∃m,m.Sublist st'.m∧Q (match rs with|[r]=>r|rs=>.tuple rs) {st' with m:=m}
    |none=>False
  |_=>False
end
end Go.VM
set_option linter.unusedVariables false
namespace Go.VM
section
variable{E:Env}{F:Nat→Nat}{Γ:Ghost}{st:St}{w:World}{af:List AVal}{a:Act}
theorem XP (hs:Sim E F Γ st w af a.tmps.toList){t:TypeId}{x:AVal}{v:Value}{r:AVal}{st':St} (hx:Rep Γ x v) (h:SV E t x st=some (r,st')):
    ∃u,(do loadVar t (←asAddr v):Sem Value).run E.P w=.ok u w∧Rep Γ r u∧VM.own Γ w r u∧Sim E F Γ st' w af a.tmps.toList∧st'.next=st.next∧ ∀b,cnt b r u+Ah Γ w b st'.m=Ah Γ w b st.m:=by
  unfold SV at h
  split at h
  · rename_i i
    cases hx with
    |ptr hbx=>
    rename_i b
    split at h
    · rename_i cs hg
      split at h
      · rename_i hk
        obtain⟨b',arr,e,hb⟩:=hs.box hg hbx
        have:b'=b:=by have:=hb.bx;grind
        subst this
        obtain⟨lo,hi,hh,hf⟩:=hb.heap
        obtain⟨L,hL⟩: ∃L,L=arr.toList.take cs.length:=⟨_,rfl⟩
        have hrepL:RepL Γ cs L:=by rw[hL];exact hb.rep
        have hone: ∀v,v∈L→v.oneCell'=true:=by rw[hL];exact hb.one
        have hownL:VM.ownL Γ w cs L:=by rw[hL];exact(J5 Γ w cs arr.toList).2 hb.own
        have hcntL: ∀n,AC n cs L=AC n cs arr.toList:=fun n=>by grind[Jz]
        obtain⟨s1,x1⟩:=hs.setBox (w':=w) (cs':=stripL cs) (arr':=arr) (lo:=lo) (hi:=hi) hg hb hh hf (fun _ _=>rfl) rfl rfl rfl rfl (by rw[JP];exact hb.rep.strip) (Hz _ _ _ _) (by grind[JP])
          (fun n=>by rw[FI];have:=hs.tok n;omega)
        have hcnt: ∀n,AC n cs arr.toList+Ah Γ w n (Ao st.m i (stripL cs))=Ah Γ w n st.m:=by
          intro n
          have e1:=Fw (Γ:=Γ) (Γ':=Γ) (w:=w) (w':=w) (b:=n) (x:=stripL cs) hs.keys hg (fun p hp hne=>rfl)
          grind[CY,AC,hcells,stripL,FI]
        have hcell: ∀j u,L[j]?=some u→w.cell? ⟨b',0+j,none⟩=some u:=by
          intro j u hj
          rw[hL]at hj
          have hj:=List.getElem?_take_some hj
          simp_all[World.cell?]
        have ha:=MR (w:=w) hk
        split at h
        · rename_i hag
          rw[hag]at ha
          split at h
          · rename_i hz
            simp only[Option.some.injEq,Prod.mk.injEq]at h;obtain⟨rfl,rfl⟩:=h
            have key:=run_loadCells_list (P:=E.P) w ⟨b',0,none⟩ L (fun j v hj=>by grind[addr_add])
            rw[←hrepL.length]at key
            refine⟨.agg L.toArray,?_,.agg (by omega) (by omega),by grind[VM.own],s1,rfl,fun n=>by grind[cnt]⟩
            simp[asAddr,loadVar,ha,Cb hz,key]
          grind
        · rename_i hag
          rw[Bool.not_eq_true]at hag
          rw[hag]at ha
          split at h
          · rename_i c
            simp only[Option.some.injEq,Prod.mk.injEq]at h;obtain⟨rfl,rfl⟩:=h
            obtain⟨u,hu,hrep⟩:=hrepL.get? (i:=0) (x:=c) rfl
            have h1:L=[u]:=by
              have:L.length=1:=by grind
              clear hL hcell
              match L,this,hu with
              |[x],_,hu=>grind
            refine⟨u,?_,hrep,?_,s1,rfl,fun n=>?_⟩
            · simp_all[asAddr,loadVar]
            · grind[VM.ownL]
            grind[AC]
          grind
      grind
    grind
  grind
theorem AIk{m m':List (Nat×List AVal)} (h:m.Sublist m') (n:Nat):Ah Γ w n m≤Ah Γ w n m':=by
  induction h with
  |slnil=>omega
  |cons p _ ih=>grind[Ah]
  |cons_cons p _ ih=>grind[Ah]
def AB7 (tmps:Array Value) (r:ResultVar):Sem Value:=
  match r with
  |.tmp t=>pure (tmps.getD t undef)
  |.cell i t=>do loadVar t (←asAddr (tmps.getD i undef))
theorem AMp (rs:List ResultVar): ∀ {af:List AVal}{st:St}{xs:List AVal}{st':St},Sim E F Γ st w af a.tmps.toList→Me E rs af st=some (xs,st')→
    ∃vs,(rs.mapM (AB7 a.tmps)).run E.P w=.ok vs w∧RepL Γ xs vs∧ownL Γ w xs vs∧st'.next=st.next∧
      ∃af',Sim E F Γ st' w af' a.tmps.toList∧ ∀b,AC b af' a.tmps.toList+AC b xs vs+Ah Γ w b st'.m=AC b af a.tmps.toList+Ah Γ w b st.m:=by
  induction rs with
  | nil=>
    intro af st xs st' hs h
    simp only[Me,Option.some.injEq,Prod.mk.injEq]at h;obtain⟨rfl,rfl⟩:=h
    exact⟨[],by simp,.nil,by simp[ownL],rfl,af,hs,fun b=>by simp[AC]⟩
  | cons x rs ih=>
    intro af st xs st' hs h
    cases x with
    | tmp t=>
      simp only[Me]at h
      cases hr:Me E rs (stripAt af (.tmp t)) st with
      |none=>grind
      | some p=>
        simp only[hr,Option.map_some,Option.some.injEq,Prod.mk.injEq]at h;obtain⟨rfl,rfl⟩:=h
        obtain⟨vs,r1,r2,r3,r4,af',r5,r6⟩:=ih (hs.stripAt (.tmp t)) hr
        refine⟨a.tmps.getD t undef::vs,?_,.cons (hs.rd 0 (.tmp t)) r2,?_,r4,af',r5,fun b=>?_⟩
        · rw[List.mapM_cons,Sem.run_bind];simp only[AB7,Sem.run_pure,Result.andThen_ok];rw[Sem.run_bind,r1];rfl
        · rw[ownL];exact⟨hs.rd_own 0 (.tmp t),r3⟩
        · have:=r6 b
          have:=hs.rd_cnt 0 (.tmp t) b
          grind[rd,Act.eval,AC]
    | cell i t=>
      simp only[Me]at h
      split at h
      · rename_i r st1 hc
        cases hr:Me E rs af st1 with
        |none=>grind
        | some p=>
          simp only[hr,Option.map_some,Option.some.injEq,Prod.mk.injEq]at h;obtain⟨rfl,rfl⟩:=h
          obtain⟨u,c1,c2,c3,c4,c5,c6⟩:=XP hs (hs.rd 0 (.tmp i)) hc
          obtain⟨vs,r1,r2,r3,r4,af',r5,r6⟩:=ih c4 hr
          refine⟨u::vs,?_,.cons c2 r2,by grind[ownL],by omega,af',r5,fun b=>?_⟩
          · rw[List.mapM_cons,Sem.run_bind]
            simp_all[Act.eval,AB7]
          grind[AC]
      grind
theorem JZ {f:FuncId}{fn:Func}{c:Code}{args:List AVal}{Q:AVal→St→Prop} (hf:E.P.funcs[f]?=some fn) (hb:fn.body=some c)
    (h:AWp E c (H5 E fn Q) (args++List.replicate (fn.ntmps-args.length) .any) st):ACall E f args st Q:=by
  constructor
  intro F Γ w cargs hs
  have hlen:args.length=cargs.size:=by rw[hs.rep.length,Array.length_toList]
  have hrepl: ∀n,RepL Γ (List.replicate n .any) (List.replicate n undef)∧ownL Γ w (List.replicate n .any) (List.replicate n undef)∧ ∀b,AC b (List.replicate n .any) (List.replicate n undef)=0:=by
    intro n
    induction n with
    |zero=>exact⟨.nil,by simp[ownL],fun b=>by simp[AC]⟩
    |succ n ih=>exact⟨.cons (.any _) ih.1,by grind[ownL,VM.own],fun b=>by grind[AC,cnt]⟩
  have happ: ∀(xs:List AVal) (vs:List Value),xs.length=vs.length→ownL Γ w xs vs→ ∀n,ownL Γ w (xs++List.replicate n .any) (vs++List.replicate n undef)∧ ∀b,AC b (xs++List.replicate n .any) (vs++List.replicate n undef)=AC b xs vs:=by
    intro xs
    induction xs with
    |nil=>grind[AC]
    | cons x xs ih=>intro vs hl ho n;cases vs with
      |nil=>grind
      | cons v vs=>
        grind[ownL,AC]
  have htm:(cargs++Array.replicate (fn.ntmps-cargs.size) undef).toList=cargs.toList++List.replicate (fn.ntmps-args.length) undef:=by
    grind[Array.toList_append,Array.toList_replicate]
  refine calls_of_wp hf hb (wp_mono (h.go F Γ w {tmps:=cargs++Array.replicate (fn.ntmps-cargs.size) undef,defers:=[]} rfl ?_) ?_)
  · simp only
    rw[htm]
    obtain⟨o1,o2⟩:=happ args cargs.toList hs.rep.length hs.own (fn.ntmps-args.length)
    exact {hs with rep:=hs.rep.append (hrepl _).1,own:=o1,tok:=fun b=>by rw[o2 b];exact hs.tok b}
  · intro e a' w' hq
    obtain⟨h0,hd,Γ',af',st',x1,n1,s1,q1⟩:=hq
    have fin:(match Me E fn.results.toList af' st' with
        |some (rs,st')=> ∃m,m.Sublist st'.m∧Q (match rs with|[r]=>r|rs=>.tuple rs) {st' with m:=m}
        |none=>False)→ ∃v,(results fn a'.tmps).run E.P w'=.ok v w'∧ ∃v1,Ending.returned v=.returned v1∧ ∃Γ' r st',Ext F Γ w Γ' w'∧st.next≤st'.next∧Sim E F Γ' st' w' [r] [v1]∧Q r st':=by
      intro q
      split at q
      · rename_i rs st2 hres
        obtain⟨m,hm,hQ⟩:=q
        obtain⟨vs,r1,r2,r3,r4,af2,r5,r6⟩:=AMp fn.results.toList s1 hres
        have hrun:(results fn a'.tmps).run E.P w'=.ok (if h:vs.toArray.size=1 then vs.toArray[0]else .tuple vs.toArray) w':=by
          have e:results fn a'.tmps=(do
            let vs←fn.results.mapM (AB7 a'.tmps)
            pure (if h:vs.size=1 then vs[0]else .tuple vs)):=rfl
          rw[e,Array.mapM_eq_mapM_toList,Sem.run_bind,Sem.run_map,r1]
          rfl
        refine⟨_,hrun,_,rfl,Γ',_,{st2 with m:=m},x1,by grind,?_,hQ⟩
        have s2:=r5.fewer hm
        have hcm: ∀n,Ah Γ' w' n m≤Ah Γ' w' n st2.m:=fun n=>AIk hm n
        have htok: ∀b,F b+AC b rs vs+Ah Γ' w' b m≤1:=by
          intro b
          have:=r6 b
          have:=s1.tok b
          grind
        cases r2 with
        | nil=>
          simp only[List.size_toArray,List.length_nil]
          exact {s2 with rep:=.cons (.tuple .nil) .nil,own:=by simp[ownL,VM.own],tok:=fun b=>by grind[AC,cnt]}
        | cons hr t=>
          cases t with
          | nil=>
            simp only[List.size_toArray,List.length_cons,List.length_nil,Nat.zero_add,dite_true]
            exact {s2 with rep:=.cons hr .nil,own:=r3,tok:=htok}
          | cons hy t=>
            rename_i x v y u xs us
            have hne: ¬((v::u::us:List Value).toArray.size=1):=by simp
            rw[dif_neg hne]
            have hrp:RepL Γ' (x::y::xs) (v::u::us):=.cons hr (.cons hy t)
            exact {s2 with rep:=.cons (.tuple (by omega)) .nil,own:=by grind[ownL,VM.own],tok:=fun b=>by grind[AC,cnt]}
      grind
    cases e with
    |normal=>obtain⟨v,hr,hR⟩:=fin q1;exact⟨hd,v,hr,hR⟩
    |ret=>obtain⟨v,hr,hR⟩:=fin q1;exact⟨hd,v,hr,hR⟩
    |exit id=>exact q1.elim
    |goto l=>grind
    |panic c=>grind
    |outgrown=>grind
end
end Go.VM
set_option linter.unusedVariables false
namespace Go.VM
section
variable{E:Env}{st:St}{af:List AVal}{Q:APost}
inductive kPost (K:List AVal→St→Prop) (Q:APost):APost
  |nrm{af:List AVal}{st:St} (h:K af st):kPost K Q .normal af st
  |oth{e:Exit}{af:List AVal}{st:St} (hne:e≠ .normal) (h:Q e af st):kPost K Q e af st
theorem kPost.get{K:List AVal→St→Prop} (h:kPost K Q .normal af st):K af st:=by
  cases h with
  |nrm h=>exact h
  |oth hne h=>grind
theorem kPost.out{K:List AVal→St→Prop}{e:Exit} (h:kPost K Q e af st) (hne:e≠ .normal):Q e af st:=by
  cases h with
  |nrm h=>grind
  |oth hne h=>exact h
theorem I1{K:List AVal→St→Prop} (h:K af st):kPost K Q .normal af st:=.nrm h
theorem AKu{c:Code} (I:Nat→List AVal→St→Prop) (n₀:Nat) (h₀:I n₀ af st)
    (round: ∀n af st,I n af st→ ∀J:List AVal→St→Prop,(∀n' af st,n'<n→I n' af st→J af st)→AWp E c (kPost J Q) af st):AWp E (.loop c) Q af st:=
  AZM I n₀ h₀ fun n af st hI=>(round n af st hI (fun af st=> ∃n',n'<n∧I n' af st) fun n' _ _ h1 h2=>⟨n',h1,h2⟩).mono fun e af' st' _ q=>by
    cases e with
    |normal=>exact q.get
    |_=>exact q.out (by simp)
end
end Go.VM
set_option linter.unusedVariables false
namespace Go.VM
def slots (o:Oper):List Tmp:=o.op.operands.toList.filterMap fun|.tmp t=>some t|_=>none
theorem Mj{o:Oper}{d:Tmp} (h:d∉slots o){x:Operand} (hx:x∈o.op.operands):x≠ .tmp d:=by
  intro e;subst e
  exact h (List.mem_filterMap.2 ⟨.tmp d,by grind,rfl⟩)
section
variable{E:Env}{af:List AVal}{st:St}{d:Tmp}{v:AVal}
theorem A9{t:TypeId}{x:Operand} (h:x≠ .tmp d):rd E (af.set d v) t x=rd E af t x:=by
  cases x with
  | tmp i=>
    grind[rd,List.getD]
  |_=>rfl
theorem GJ{x:Operand} (h:x≠ .tmp d):stripAt (af.set d v) x=(stripAt af x).set d v:=by
  cases x with
  | tmp i=>
    grind[stripAt,List.set_comm,List.getD,List.getElem?_set_ne]
  |_=>rfl
theorem Ar{dst:Option Tmp} (h:dst≠some d) (r:AVal):AX (af.set d v) dst r=(AX af dst r).set d v:=by
  cases dst with
  |none=>rfl
  | some e=>
    grind[AX,List.set_comm]
theorem U3{x:Option Operand} (h: ∀y,x=some y→y≠ .tmp d):rdo E (af.set d v) x=rdo E af x:=by
  cases x with
  |none=>rfl
  |some y=>simp only[rdo,A9 (h y rfl)]
theorem ABy: ∀(xs:List Operand) (ts:List TypeId),(∀x,x∈xs→x≠ .tmp d)→rdL E (af.set d v) xs ts=rdL E af xs ts
  |[],_,_=>rfl
  |x::xs,[],h=>by simp only[rdL,A9 (h x (by simp)),ABy xs [] (fun y hy=>h y (List.mem_cons_of_mem _ hy))]
  |x::xs,t::ts,h=>by simp only[rdL,A9 (h x (by simp)),ABy xs ts (fun y hy=>h y (List.mem_cons_of_mem _ hy))]
theorem Mv{ty:Nat→TypeId}: ∀(ps:List (Nat×Operand)){af:List AVal},(∀p,p∈ps→p.2≠ .tmp d)→(BI E ty (af.set d v) ps).1=(BI E ty af ps).1.set d v∧(BI E ty (af.set d v) ps).2=(BI E ty af ps).2
  |[],_,_=>⟨rfl,rfl⟩
  | (i,x)::ps,af,h=>by
    have hx:=h (i,x) (by simp)
    obtain⟨h1,h2⟩:=Mv ps (af:=stripAt af x) (fun p hp=>h p (List.mem_cons_of_mem _ hp))
    simp only[BI,GJ hx,A9 hx]
    exact⟨h1,by rw[h2]⟩
theorem Il{o:Oper} (h:d∉slots o):Cr E o (af.set d v)=Cr E o af:=by
  have hx:=fun x=>Mj h (x:=x)
  unfold Cr
  split
  · grind[Op.operands,A9]
  · grind[Op.operands,A9]
  · grind[Op.operands,A9]
  · grind[Op.operands,A9]
  · grind[Op.operands,A9]
  · grind[Op.operands,rd,List.map_congr_left,A9]
  · grind[Op.operands,A9]
  · grind[Op.operands,A9]
  · grind[Op.operands,A9]
  · grind[Op.operands,A9]
  · grind[Op.operands,Call.operands,A9]
  · rename_i x y ts hop
    simp only[hop,Op.operands,Call.operands]at hx
    grind[A9]
  · rename_i x y ts hop
    simp only[hop,Op.operands,Call.operands]at hx
    grind[A9]
  · grind[Op.operands,Call.operands,A9]
  · rename_i x y t s hop
    simp only[hop,Op.operands,Call.operands]at hx
    grind[A9]
  · rfl
theorem ASv{x:Operand} (h:x≠ .tmp d):nameV (af.set d v) x=nameV af x:=by
  cases x with
  | tmp i=>
    have:d≠i:=fun e=>h (by rw[e])
    simp[nameV,List.getD,List.getElem?_set_ne this]
  |_=>rfl
theorem ARb{x:Operand}{i w:Nat}{xs:List AVal} (h:nameV af x=some (i,w,xs)):x=.tmp i:=by
  unfold nameV at h
  split at h
  · split at h
    · cases h;rfl
    · cases h
  · cases h
theorem APU{x:Operand}{t:TypeId} (h:x≠ .tmp d):UT E (af.set d v) x t st=UT E af x t st:=by
  cases x with
  |tmp i=>simp only[UT,A9 h]
  |_=>rfl
theorem Qi{mv:List Tmp}{o:Oper} (h:d∉slots o) (hd:o.dst≠some d):DU E mv o (af.set d v) st=(DU E mv o af st).map fun p=>(p.1.set d v,p.2):=by
  have hx:=fun x=>Mj h (x:=x)
  unfold DU
  split
  · rename_i x hop
    simp only[hop,Op.operands]at hx
    split
    · rw[ASv (hx x (by simp))]
      cases hn:nameV af x with
      |none=>simp[A9 (hx x (by simp)),GJ (hx x (by simp)),Ar hd]
      | some p=>
        obtain⟨i,w,xs⟩:=p
        have hi:i≠d:=fun e=>hx x (by simp) (by rw[ARb hn,e])
        simp only[Option.map_some]
        rw[List.set_comm _ _ (Ne.symm hi)]
        simp[Ar hd]
    · simp[A9 (hx x (by simp)),Ar hd]
  · rename_i x hop
    simp only[hop,Op.operands]at hx
    split
    · rw[APU (hx x (by simp))]
      cases WH E o with
      |some w=>simp[Ar hd]
      |none=>cases UT E af x o.type st<;>simp[A9 (hx x (by simp)),GJ (hx x (by simp)),Ar hd]
    · simp[A9 (hx x (by simp)),GJ (hx x (by simp)),Ar hd]
  · rename_i t hop
    split
    · cases RZ E.P t st.next<;>simp[Ar hd]
    · cases CL E.P t st.next<;>simp[Ar hd]
  · rename_i t x hop
    simp only[hop,Op.operands]at hx
    rw[A9 (hx x (by simp)),GJ (hx x (by simp))]
    split<;>simp[Ar hd]
  · rename_i t ps hop
    simp only[hop,Op.operands]at hx
    obtain⟨h1,h2⟩:=Mv (E:=E) (v:=v) (ty:=AJ E.P t) ps (af:=af) (fun p hp=>hx p.2 (by grind))
    rw[h1,h2]
    cases PO E t (BI E (AJ E.P t) af ps).2<;>simp[Ar hd]
  · rename_i t len ps hop
    simp only[hop,Op.operands]at hx
    obtain⟨h1,h2⟩:=Mv (E:=E) (v:=v) (ty:=fun _=>AJ E.P t 0) ps (af:=af) (fun p hp=>hx p.2 (by grind))
    rw[h2,h1]
    split
    · cases GL E t len (BI E (fun _=>AJ E.P t 0) af ps).2<;>simp[Ar hd]
    · cases Ew E t len (BI E (fun _=>AJ E.P t 0) af ps).2<;>simp[Ar hd]
  · rename_i t x hop
    simp only[hop,Op.operands]at hx
    rw[A9 (hx x (by simp))]
    split
    · cases NK E t (rd E af 0 x) st<;>simp[Ar hd]
    · cases Nj E t (rd E af 0 x) st<;>simp[Ar hd]
  · rename_i t x y hop
    simp only[hop,Op.operands]at hx
    rw[A9 (hx x (by simp)),A9 (hx y (by simp)),GJ (hx y (by simp))]
    split
    · cases Kj E t (rd E af 0 x) (rd E af t y) st<;>simp
    · simp
  · rename_i t n hop
    simp only[hop,Op.operands]at hx
    have ht:d≠t:=fun e=>hx (.tmp t) (by simp) (by rw[e])
    have hg:(af.set d v).getD t .any=af.getD t .any:=by grind
    rw[hg]
    split
    · rename_i vs hvs
      cases vs[n]? with
      |none=>simp
      |some r=>grind[List.set_comm,Ar]
    · simp
  · rename_i t x hop
    simp only[hop,Op.operands]at hx
    rw[A9 (hx x (by simp))]
    split<;>grind[Ar]
  · grind[Op.operands,List.getD,List.getElem?_set_ne,YD,List.set_comm,Ar]
  · rename_i t x lo hi mx hop
    simp only[hop,Op.operands]at hx
    rw[A9 (hx x (by simp)),U3 (fun y hy=>hx y (by grind)),U3 (fun y hy=>hx y (by grind)),U3 (fun y hy=>hx y (by grind))]
    split
    · rename_i l hh m h1 h2 h3
      cases EF E t (rd E af t x) l hh m with
      |some r=>simp[Ar hd]
      |none=>cases ND E t (rd E af t x) l hh m st<;>simp[Ar hd]
    · simp
  · rename_i x y t0 t1 ts hop
    simp only[hop,Op.operands,Call.operands]at hx
    rw[A9 (hx x (by simp)),A9 (hx y (by simp)),GJ (hx x (by simp))]
    split
    · cases Lb E t0 t1 (rd E af t0 x) (rd E af t1 y)with
      |some r=>simp[Ar hd]
      |none=>cases appW E x t0 t1 (rd E af t0 x) (rd E af t1 y) st<;>simp[Ar hd]
    · cases GK E t0 t1 (rd E af t0 x) (rd E af t1 y)with
      |some r=>simp[Ar hd]
      |none=>cases Uq E t0 t1 (rd E af t0 x) (rd E af t1 y) st<;>simp[Ar hd]
  · rename_i x t0 ts hop
    simp only[hop,Op.operands,Call.operands]at hx
    rw[Il h]
    cases Cr E o af with
    |some r=>simp[Ar hd]
    | none=>
      rw[A9 (hx x (by simp))]
      cases V7 E t0 (rd E af t0 x) st<;>simp[Ar hd]
  · grind[Ar]
  · rename_i t m k ok hop
    simp only[hop,Op.operands]at hx
    rw[A9 (hx m (by simp)),A9 (hx k (by simp))]
    cases PW E t (rd E af t m) (rd E af 0 k) ok st<;>simp[Ar hd]
  · rename_i t m k x hop
    simp only[hop,Op.operands]at hx
    rw[A9 (hx m (by simp)),A9 (hx k (by simp)),A9 (hx x (by simp))]
    split
    · cases QO E t (rd E af t m) (rd E af 0 k) (rd E af 0 x) st<;>simp
    · simp
  · rename_i t m k x hop
    simp only[hop,Op.operands]at hx
    rw[A9 (hx m (by simp)),A9 (hx k (by simp)),A9 (hx x (by simp))]
    split
    · cases QO E t (rd E af t m) (rd E af 0 k) (rd E af 0 x) st<;>simp
    · simp
  · rename_i t x i hop
    simp only[hop,Op.operands]at hx
    rw[Il h]
    cases Cr E o af with
    |some r=>grind[Ar]
    | none=>
      rw[A9 (hx x (by simp)),A9 (hx i (by simp))]
      cases Eo E t (rd E af t x) (rd E af 0 i) st with
      |some r=>simp[Ar hd]
      |none=>cases MU E t (rd E af t x) (rd E af 0 i) st<;>simp[Ar hd]
  · rename_i t x y hop
    simp only[hop,Op.operands]at hx
    rw[A9 (hx x (by simp)),A9 (hx y (by simp))]
    split
    · cases R8 E t (rd E af 0 x) (rd E af 0 y) st<;>simp[Ar hd]
    · cases Si E t (rd E af 0 x) (rd E af 0 y) st<;>simp[Ar hd]
  · rename_i s e x hop
    simp only[hop,Op.operands]at hx
    rw[Il h]
    cases Cr E o af with
    |some r=>grind[Ar]
    | none=>
      rw[A9 (hx x (by simp))]
      cases Pq E s e (rd E af s x) st with
      |some r=>grind[Ar]
      |none=>cases NY E s e (rd E af s x) st<;>simp[Ar hd]
  · rename_i x t0 ts hop
    simp only[hop,Op.operands,Call.operands]at hx
    rw[A9 (hx x (by simp)),GJ (hx x (by simp))]
    cases PI (rd E af t0 x)<;>simp[Ar hd]
  · rename_i x y t0 t1 hop
    simp only[hop,Op.operands,Call.operands]at hx
    rw[A9 (hx x (by simp)),A9 (hx y (by simp)),GJ (hx x (by simp))]
    cases SG E t0 (rd E af t0 x) (rd E af t1 y)<;>simp[Ar hd]
  · rw[Il h]
    cases Cr E o af<;>simp[Ar hd]
theorem AIq{mv:List Tmp}{o:Oper}{K:List AVal→St→Prop} (h:d∉slots o) (hd:o.dst≠some d) (hw:CX E mv o (af.set d v) st K):CX E mv o af st fun af' st'=>K (af'.set d v) st':=by
  have hx:=fun x=>Mj h (x:=x)
  unfold CX at *
  split at hw
  · grind[Op.operands,Call.operands,A9,ABy,Ar]
  · rename_i x y t0 t1 ts hop
    simp only[hop,Op.operands,Call.operands]at hx
    rw[A9 (hx x (by simp)),A9 (hx y (by simp)),Qi h hd]at hw
    split at hw
    · split at hw
      · rename_i wd l cs rest jo hab
        rw[if_pos (by omega)]
        grind[Ar]
      grind
    · rw[if_neg (by omega)]
      grind
  · rename_i op t x y _ hop
    simp only[hop,Op.operands]at hx
    rw[Qi h hd,A9 (hx x (by simp))]at hw
    split at hw
    · rename_i hn
      rw[if_pos hn]
      grind[Ar]
    · rename_i hn
      rw[if_neg hn]
      grind
  grind[Qi,DU]
end
def DZ (E:Env) (o:Oper) (af:List AVal) (st:St):Option AVal:=
  match o.op with
  |.move x=>some (rd E af o.type x).strip
  |.load t x=>(Nj E t (rd E af 0 x) st).map AVal.strip
  | .slice t x lo hi mx=>
    match rdo E af lo,rdo E af hi,rdo E af mx with
    |some l,some h,some m=>EF E t (rd E af t x) l h m
    |_,_,_=>none
  |.buildSlice t len ⟨ps⟩=>Ew E t len (BI E (fun _=>AJ E.P t 0) af ps).2
  |.assign _=>none
  |.alloc _=>none
  |.box _ _=>none
  |.build _ _=>none
  |.store _ _ _=>none
  |.extract _ _=>none
  |.range _ _=>none
  |.next _ _=>none
  |.call {callee:=.builtin .append,args:=_,argTypes:=_}=>none
  | .indexAddr t x i=>
    match Cr E o af with
    |some r=>some r.strip
    | none=>
      match Eo E t (rd E af t x) (rd E af 0 i) st with
      |some _=>none
      |none=>MU E t (rd E af t x) (rd E af 0 i) st
  | .call {callee:=.builtin .len,args:=⟨[x]⟩,argTypes:=⟨t::_⟩}=>
    match Cr E o af with
    |some r=>some r.strip
    |none=>V7 E t (rd E af t x) st
  |_=>(Cr E o af).map AVal.strip
theorem AGv{E:Env}{o:Oper}{af:List AVal}{st:St}{r:AVal} (h:DZ E o af st=some r):DU E [] o af st=some (AX af o.dst r,st):=by
  have hm: ∀dst,LK [] dst=false:=fun dst=>by cases dst<;>rfl
  unfold DZ at h
  unfold DU
  split at h
  · grind
  · rename_i t x hop
    simp only[hop,hm,Bool.false_eq_true,if_false]
    cases hl:Nj E t (rd E af 0 x) st with
    |none=>grind
    |some z=>grind
  · grind
  · grind
  all_goals (try (cases h;done))
  · rename_i t x i hop
    simp only[hop]
    split at h
    · rename_i z hz
      cases h
      simp only[hz]
    · rename_i hz
      split at h
      · cases h
      · rename_i hz2
        simp only[hz,hz2,h,Option.map_some]
  · rename_i x t ts hop
    simp only[hop]
    split at h
    · rename_i z hz
      cases h
      simp only[hz]
    · rename_i hz
      simp only[hz,h,Option.map_some]
  · split
    all_goals first
      |grind
      |grind[Cr]
      | (cases hp:Cr E o af with
         |none=>grind
         |some z=>grind)
theorem ALP{E:Env}{o:Oper}{af:List AVal}{st:St}{d:Tmp}{v:AVal} (h:d∉slots o):DZ E o (af.set d v) st=DZ E o af st:=by
  have hx:=fun x=>Mj h (x:=x)
  unfold DZ
  split
  · grind[Op.operands,A9]
  · grind[Op.operands,A9]
  · grind[Op.operands,A9,U3]
  · grind[Op.operands,Mv,AJ]
  all_goals (try (first|rfl|(rw[Il h];done)))
  · rename_i t x i hop
    simp only[hop,Op.operands]at hx
    rw[Il h,A9 (hx x (by simp)),A9 (hx i (by simp))]
  · rename_i x t ts hop
    simp only[hop,Op.operands,Call.operands]at hx
    rw[Il h,A9 (hx x (by simp))]
def KO (E:Env) (ops:Array Oper) (o:Oper) (af:List AVal) (st:St):Option AVal:=
  match o.guard with
  |none=>DZ E o af st
  | some (j,want)=>
    match gdA ops af j want with
    |some true=>DZ E o af st
    |some false=>some (.tuple [])
    |none=>none
def gWp (E:Env) (mv:List Tmp) (ops:Array Oper) (o:Oper) (af:List AVal) (st:St) (K:List AVal→St→Prop):Prop:=
  match o.guard with
  |none=>CX E mv o af st K
  | some (j,want)=>
    match gdA ops af j want with
    |some true=>CX E mv o af st K
    |some false=>K (AX af o.dst (.tuple [])) st
    |none=>False
theorem O8{ops:Array Oper}{o:Oper}{d:Tmp} (h:d∉o.looksAt ops):d∉slots o:=fun hm=>h (List.mem_append_left _ hm)
theorem guard_looks{ops:Array Oper}{o:Oper}{d g j:Nat}{want:Bool} (h:d∉o.looksAt ops) (hg:o.guard=some (j,want)) (hd:(ops[j]?).bind (·.dst)=some g):d≠g:=fun e=>by
  subst e
  exact h (List.mem_append_right _ (by grind))
theorem AOZ{ops:Array Oper}{o:Oper}{af:List AVal}{d j:Nat}{want:Bool}{v:AVal} (h:d∉o.looksAt ops) (hg:o.guard=some (j,want)):gdA ops (af.set d v) j want=gdA ops af j want:=by
  grind[gdA,guard_looks,List.getD,List.getElem?_set_ne]
theorem TV{E:Env}{ops:Array Oper}{o:Oper}{af:List AVal}{st:St}{d:Tmp}{v:AVal} (h:d∉o.looksAt ops):KO E ops o (af.set d v) st=KO E ops o af st:=by
  grind[KO,ALP,O8,AOZ]
theorem Aar{E:Env}{mv:List Tmp}{ops:Array Oper}{o:Oper}{af:List AVal}{st:St}{d:Tmp}{v:AVal}{K:List AVal→St→Prop} (h:d∉o.looksAt ops) (hd:o.dst≠some d) (hw:gWp E mv ops o (af.set d v) st K):
    gWp E mv ops o af st fun af' st'=>K (af'.set d v) st':=by
  unfold gWp at *
  split at hw
  · exact AIq (O8 h) hd hw
  · rename_i j want hg
    rw[AOZ h hg]at hw
    split at hw
    · exact AIq (O8 h) hd hw
    · grind[Ar]
    omega
section
variable{E:Env}{F:Nat→Nat}{Γ:Ghost}{st:St}{w:World}{af:List AVal}{a:Act}
theorem Xr{mv:List Tmp}{ops:Array Oper}{i:Nat}{o:Oper} (ho:ops[i]?=some o){K:List AVal→St→Prop}{K':Act→World→Prop}{Qc:Exit→Act→World→Prop} (hd:a.defers=[]) (hs:Sim E F Γ st w af a.tmps.toList) (h:gWp E mv ops o af st K)
    (hK: ∀Γ' af' st' a' w',Ext F Γ w Γ' w'→st.next≤st'.next→a'.defers=[]→Sim E F Γ' st' w' af' a'.tmps.toList→K af' st'→K' a' w'):wpOp E.P ops Qc i K' a w:=by
  unfold wpOp
  simp only[ho]
  unfold gWp at h
  split at h
  · rename_i hg
    rw[if_pos (by grind[Region.wanted])]
    exact .inl (Q9 h F Γ w a hd hs K' Qc hK)
  · rename_i j want hg
    split at h
    · rename_i hgd
      rw[if_pos (by rw[Lc hg,P5 hs hgd])]
      exact .inl (Q9 h F Γ w a hd hs K' Qc hK)
    · rename_i hgd
      rw[if_neg (by rw[Lc hg,P5 hs hgd];simp)]
      exact hK Γ _ st _ w (Ext.refl _ _ _) (Nat.le_refl _) (by grind[put_defers]) (hs.skipped o.dst) h
    grind
theorem AYq{E:Env}{t:TypeId}{w:Nat}{x:AVal}:Dz E .eql t x (.slice w [] true)=none:=by
  cases x<;>simp[Dz,NH,X6]
theorem APN{mv:List Tmp}{ops:Array Oper}{o:Oper}{r:AVal} (h:KO E ops o af st=some r):gWp E [] ops o af st fun af' st'=>af'=AX af o.dst r∧st'=st:=by
  have key: ∀r,DZ E o af st=some r→CX E [] o af st fun af' st'=>af'=AX af o.dst r∧st'=st:=by
    intro r hr
    have hst:=AGv hr
    unfold CX
    split
    · grind[DZ,Cr]
    · grind[DZ]
    · rename_i op t x y _ hop
      split
      · rename_i hn
        obtain⟨rfl,rfl⟩:=AOQ hn
        grind[DZ,Cr,rd,H6,AYq]
      simp_all
    simp_all
  unfold KO at h
  unfold gWp
  split at h
  · grind
  · split at h
    · exact key r h
    · simp only[Option.some.injEq]at h;subst h;exact⟨rfl,rfl⟩
    · cases h
end
end Go.VM
set_option linter.unusedVariables false
namespace Go.VM
inductive Plan where
  |done
  |take (i:Nat) (p:Plan)
  |alt (i:Nat) (chk:List Nat) (p rest:Plan)
  |stop
def Plan.alts:Plan→List Nat
  |.alt i _ _ rest=>i::rest.alts
  |_=>[]
def Plan.sub (j:Nat):Plan→Option (List Nat×Plan)
  |.alt i chk p rest=>if i=j then some (chk,p)else rest.sub j
  |_=>none
def Aet (o:Oper) (k:Nat):Bool:=o.after.any fun e=>Region.binds .any e&&e.on==k
def ALH (ops:Array Oper) (listed:Array Bool) (taken:List Nat) (i:Nat):Bool:=
  match ops[i]? with
  | some o=>
    match o.dst with
    |some d=>Region.free .any ops listed i&&!(o.looksAt ops).contains d&&taken.all fun j=>match ops[j]? with|some oj=>!(oj.looksAt ops).contains d&&oj.dst !=some d|none=>false
    |none=>false
  |none=>false
def AOb (ops:Array Oper) (taken:List Nat) (i:Nat) (chk:List Nat):Bool:=
  match ops[i]? with
  |some o=>taken.all fun k=>chk.contains k||Aet o k
  |none=>false
def G7 (ops:Array Oper):Plan→Bool→Array Bool→List Nat→Bool
  |.done,mode,listed,_=>!mode&&(Region.ready .any ops listed).isEmpty
  |.take i p,mode,listed,taken=>!mode&&(Region.ready .any ops listed).contains i&&ALH ops listed taken i&&G7 ops p false (listed.setIfInBounds i true) (i::taken)
  | .alt i chk p rest,mode,listed,taken=>
    (mode||(Region.ready .any ops listed).all fun j=>(i::rest.alts).contains j)&&(Region.ready .any ops listed).contains i&&AOb ops taken i chk&&G7 ops p false (listed.setIfInBounds i true) taken&&G7 ops rest true listed taken
  |.stop,mode,_,_=>mode
def Ro:List (Nat×AVal)→Nat→Option AVal
  |[],_=>none
  |(j,r)::tv,k=>if k=j then some r else Ro tv k
def NJ (E:Env) (ops:Array Oper) (tv:List (Nat×AVal)) (af:List AVal) (st:St):List Nat→Prop
  |[]=>True
  |k::ks=>(match Ro tv k,ops[k]? with|some r,some o=>KO E ops o af st=some r|_,_=>False)∧NJ E ops tv af st ks
def Eu (E:Env) (mv:List Tmp) (ops:Array Oper):Plan→List (Nat×AVal)→(List AVal→St→Prop)→List AVal→St→Prop
  |.done,_,K,af,st=>K af st
  | .take i p,tv,K,af,st=>
    match ops[i]? with
    | some o=>
      match KO E ops o af st with
      |some r=>Eu E mv ops p ((i,r)::tv) K (AX af o.dst r) st
      |none=>False
    |none=>False
  | .alt i chk p rest,tv,K,af,st=>
    (match ops[i]? with
      |some o=>gWp E mv ops o af st fun af' st'=>NJ E ops tv af' st' chk∧Eu E mv ops p tv K af' st'
      |none=>False)∧Eu E mv ops rest tv K af st
  |.stop,_,_,_,_=>True
def Ic (ops:Array Oper) (i:Nat):Option Tmp:=(ops[i]?).bind (·.dst)
def FW (ops:Array Oper) (af:List AVal):List (Nat×AVal)→List AVal
  |[]=>af
  |(i,r)::pend=>FW ops (AX af (Ic ops i) r) pend
theorem Px (ops:Array Oper) (pend:List (Nat×AVal)) (i:Nat) (r:AVal): ∀af,FW ops af (pend++[(i,r)])=AX (FW ops af pend) (Ic ops i) r:=by
  induction pend with
  |nil=>intro af;rfl
  |cons p pend ih=>intro af;exact ih _
theorem AAB{E:Env}{ops:Array Oper}{o:Oper}{st:St} (pend:List (Nat×AVal)): ∀af,(∀p,p∈pend→ ∀d,Ic ops p.1=some d→d∉o.looksAt ops)→KO E ops o (FW ops af pend) st=KO E ops o af st:=by
  induction pend with
  |nil=>intro af _;rfl
  | cons p pend ih=>
    intro af h
    obtain⟨i,r⟩:=p
    simp only[FW]
    rw[ih _ (fun q hq=>h q (List.mem_cons_of_mem _ hq))]
    cases hd:Ic ops i with
    |none=>rfl
    |some d=>exact TV (h (i,r) (by simp) d hd)
theorem AMO{E:Env}{mv:List Tmp}{ops:Array Oper}{o:Oper}{st:St} (pend:List (Nat×AVal)): ∀ {af:List AVal}{K:List AVal→St→Prop},(∀p,p∈pend→ ∀d,Ic ops p.1=some d→d∉o.looksAt ops∧o.dst≠some d)→gWp E mv ops o (FW ops af pend) st K→gWp E mv ops o af st fun af' st'=>K (FW ops af' pend) st':=by
  induction pend with
  |nil=>intro af K _ h;exact h
  | cons p pend ih=>
    intro af K h hw
    obtain⟨i,r⟩:=p
    simp only[FW]at hw⊢
    have h1:=ih (fun q hq=>h q (List.mem_cons_of_mem _ hq)) hw
    cases hd:Ic ops i with
    |none=>rw[hd]at h1;exact h1
    | some d=>
      rw[hd]at h1
      obtain⟨a1,a2⟩:=h (i,r) (by simp) d hd
      exact Aar (K:=fun af' st'=>K (FW ops af' pend) st') a1 a2 h1
theorem AR7{af:List AVal}{d e:Option Tmp}{x y:AVal} (h: ∀t,d=some t→e≠some t):AX (AX af d x) e y=AX (AX af e y) d x:=by
  cases d with
  |none=>rfl
  | some d=>
    cases e with
    |none=>rfl
    | some e=>
      have:d≠e:=fun he=>h d rfl (by rw[he])
      grind[AX,List.set_comm]
theorem SI{ops:Array Oper}{i:Nat}{r:AVal} (pend:List (Nat×AVal)): ∀af,(i,r)∈pend→(pend.map (·.1)).Nodup→(∀p q,p∈pend→q∈pend→p.1≠q.1→ ∀t,Ic ops p.1=some t→Ic ops q.1≠some t)→
    FW ops af pend=FW ops (AX af (Ic ops i) r) (pend.filter fun p=>p.1 !=i):=by
  induction pend with
  |nil=>simp
  | cons p pend ih=>
    intro af h hn hd
    obtain⟨j,s⟩:=p
    simp only[List.map_cons,List.nodup_cons]at hn
    by_cases hij:j=i
    · subst hij
      have hsr:s=r:=by
        rcases List.mem_cons.1 h with e|e
        · grind
        · exact absurd (List.mem_map.2 ⟨(j,r),e,rfl⟩) hn.1
      subst hsr
      have hf:pend.filter (fun p=>p.1 !=j)=pend:=List.filter_eq_self.2 fun q hq=>by
        simp only[bne_iff_ne,ne_eq]
        grind
      grind[FW]
    · have hm:(i,r)∈pend:=by
        rcases List.mem_cons.1 h with e|e
        · cases e;omega
        omega
      have hne:(j !=i)=true:=by grind
      rw[List.filter_cons,if_pos hne]
      simp only[FW]
      rw[ih _ hm hn.2 (fun p q hp hq=>hd p q (List.mem_cons_of_mem _ hp) (List.mem_cons_of_mem _ hq))]
      rw[AR7 (fun t ht=>hd (j,s) (i,r) (by simp) h (by omega) t ht)]
def OrdP (ops:Array Oper):(Nat→Prop)→List (Nat×AVal)→Prop
  |_,[]=>True
  |P,(i,_)::rest=>(∀o,ops[i]?=some o→ ∀e,e∈o.after→Region.binds .any e=true→P e.on)∧OrdP ops (fun k=>P k∨k=i) rest
theorem OrdP.mono{ops:Array Oper}: ∀ {pend:List (Nat×AVal)}{P P':Nat→Prop},(∀k,P k→P' k)→OrdP ops P pend→OrdP ops P' pend
  |[],_,_,_,_=>trivial
  |(i,_)::rest,_,_,h,⟨h1,h2⟩=>⟨fun o ho e he hb=>h _ (h1 o ho e he hb),OrdP.mono (fun k hk=>hk.imp (h k) id) h2⟩
theorem OrdP.snoc{ops:Array Oper}{i:Nat}{r:AVal}: ∀ {pend:List (Nat×AVal)}{P:Nat→Prop},OrdP ops P pend→(∀o,ops[i]?=some o→ ∀e,e∈o.after→Region.binds .any e=true→P e.on∨e.on∈pend.map (·.1))→OrdP ops P (pend++[(i,r)])
  |[],P,_,h=>⟨fun o ho e he hb=>(h o ho e he hb).resolve_right (by simp),trivial⟩
  |(j,_)::rest,P,⟨h1,h2⟩,h=>⟨h1,OrdP.snoc h2 fun o ho e he hb=>by
      grind⟩
theorem OrdP.erase{ops:Array Oper}{k:Nat}: ∀ {pend:List (Nat×AVal)}{P:Nat→Prop},OrdP ops P pend→OrdP ops (fun j=>P j∨j=k) (pend.filter fun p=>p.1 !=k)
  |[],_,_=>trivial
  | (i,s)::rest,P,⟨h1,h2⟩=>by
    have ih:=OrdP.erase (k:=k) h2
    by_cases hik:i=k
    · grind
    · have hne:(i !=k)=true:=by grind
      rw[List.filter_cons,if_pos hne]
      exact⟨fun o ho e he hb=>.inl (h1 o ho e he hb),ih.mono fun j hj=>by grind⟩
def K4 (n:Nat) (listed:Array Bool):Nat:=(List.range n).countP fun k=>!listed.getD k true
theorem VO{i:Nat}{f g:Nat→Bool} (hf:f i=false) (hg:g i=true) (h: ∀k,k≠i→f k=g k): ∀l:List Nat,l.countP f+l.count i=l.countP g
  |[]=>rfl
  | k::l=>by
    have ih:=VO hf hg h l
    grind
theorem Rn{n i:Nat}{listed:Array Bool} (hi:listed.getD i true=false) (hn:i<n):K4 n (listed.setIfInBounds i true)+1≤K4 n listed:=by
  have hlt:i<listed.size:=by
    grind
  have hset:(listed.setIfInBounds i true).getD i true=true:=by simp
  have hother: ∀k,k≠i→(listed.setIfInBounds i true).getD k true=listed.getD k true:=fun k hk=>getD_set_ne true (Ne.symm hk)
  unfold K4
  have key:=fun l=>VO (i:=i) (f:=fun k=>!(listed.setIfInBounds i true).getD k true) (g:=fun k=>!listed.getD k true) (by simp) (by grind) (fun k hk=>by grind) l
  grind
theorem QV{n:Nat}{listed:Array Bool} (h:K4 n listed=0){k:Nat} (hk:k<n):listed.getD k true=true:=by
  have:=List.countP_eq_zero.1 h k (List.mem_range.2 hk)
  grind
structure Inv (E:Env) (ops:Array Oper) (act asap:Array Bool) (taken:List Nat) (pend tv:List (Nat×AVal)) (af:List AVal) (st:St):Prop where
  sz1:act.size=ops.size
  sz2:asap.size=ops.size
  list: ∀k,k<ops.size→(asap.getD k true=true↔act.getD k true=true∨k∈pend.map (·.1))
  notin: ∀p,p∈pend→act.getD p.1 true=false∧p.1<ops.size∧p.1∈taken
  nodup:(pend.map (·.1)).Nodup
  tvl: ∀p,p∈pend→Ro tv p.1=some p.2
  val: ∀p,p∈pend→ ∀o,ops[p.1]?=some o→KO E ops o (FW ops af pend) st=some p.2
  free: ∀p,p∈pend→ ∀d,Ic ops p.1=some d→ ∀j oj,ops[j]?=some oj→asap.getD j true=false→(∀e,e∈oj.after→Region.binds .any e=true→e.on≠p.1)→d∉oj.looksAt ops∧oj.dst≠some d
  self: ∀p,p∈pend→ ∀d o,Ic ops p.1=some d→ops[p.1]?=some o→d∉o.looksAt ops
  pair: ∀p q,p∈pend→q∈pend→p.1≠q.1→ ∀d,Ic ops p.1=some d→Ic ops q.1≠some d∧ ∀oq,ops[q.1]?=some oq→(∀e,e∈oq.after→Region.binds .any e=true→e.on≠p.1)→d∉oq.looksAt ops
  ord:OrdP ops (fun k=>act.getD k false=true) pend
theorem N9{l:Array Bool}{k:Nat} (h:k<l.size):l.getD k false=l.getD k true:=by
  grind
section
variable{E:Env}{ops:Array Oper}
theorem Inv.ready_sub{act asap:Array Bool}{taken:List Nat}{pend tv:List (Nat×AVal)}{af:List AVal}{st:St} (I:Inv E ops act asap taken pend tv af st){j:Nat} (hj:j∈Region.ready .any ops act) (hp:j∉pend.map (·.1)):j∈Region.ready .any ops asap:=by
  obtain⟨h0,o,ho,h1⟩:=mem_ready.1 hj
  have hlt:j<ops.size:=(Array.getElem?_eq_some_iff.1 ho).1
  refine mem_ready.2 ⟨?_,o,ho,fun e he hb=>?_⟩
  · cases h:asap.getD j true with
    |false=>rfl
    | true=>
      rcases (I.list j hlt).1 h with h|h<;>grind[absurd]
  · have:=h1 e he hb
    have hlt':e.on<act.size:=by
      grind
    rw[N9 hlt']at this
    rw[N9 (by rw[I.sz2,←I.sz1];omega)]
    exact(I.list e.on (by rw[←I.sz1];omega)).2 (.inl this)
theorem Inv.some_ready{act asap:Array Bool}{taken:List Nat}{pend tv:List (Nat×AVal)}{af:List AVal}{st:St} (I:Inv E ops act asap taken pend tv af st) (h:Region.ready .any ops act=[]):pend=[]:=by
  cases hp:pend with
  |nil=>rfl
  | cons p rest=>
    exfalso
    obtain⟨i,r⟩:=p
    have hm:(i,r)∈pend:=by grind
    obtain⟨h0,hlt,_⟩:=I.notin _ hm
    have hord:=I.ord
    rw[hp]at hord
    obtain⟨o,ho⟩: ∃o,ops[i]?=some o:=⟨ops[i],Array.getElem?_eq_getElem hlt⟩
    have:i∈Region.ready .any ops act:=mem_ready.2 ⟨h0,o,ho,fun e he hb=>hord.1 o ho e he hb⟩
    grind
theorem Inv.asap_ready{act asap:Array Bool}{taken:List Nat}{tv:List (Nat×AVal)}{af:List AVal}{st:St} (I:Inv E ops act asap taken [] tv af st){j:Nat} (hj:j∈Region.ready .any ops asap):j∈Region.ready .any ops act:=by
  obtain⟨h0,o,ho,h1⟩:=mem_ready.1 hj
  have hlt:j<ops.size:=(Array.getElem?_eq_some_iff.1 ho).1
  refine mem_ready.2 ⟨?_,o,ho,fun e he hb=>?_⟩
  · cases h:act.getD j true with
    |false=>rfl
    |true=>have:=(I.list j hlt).2 (.inl h);grind
  · have:=h1 e he hb
    have hlt':e.on<asap.size:=by
      grind
    rw[N9 hlt']at this
    rw[N9 (by rw[I.sz1,←I.sz2];omega)]
    rcases (I.list e.on (by rw[←I.sz2];exact hlt')).1 this with h|h<;>grind
theorem Ve{tv:List (Nat×AVal)}{af:List AVal}{st:St}: ∀ {chk:List Nat},NJ E ops tv af st chk→ ∀ {k:Nat},k∈chk→ ∃r o,Ro tv k=some r∧ops[k]?=some o∧KO E ops o af st=some r
  |[],_,_,h=>by cases h
  | x::xs,⟨h1,h2⟩,k,h=>by
    rcases List.mem_cons.1 h with rfl|h
    · grind
    · exact Ve h2 h
theorem AKK{mv:List Tmp}{listed:Array Bool}{taken:List Nat}{tv:List (Nat×AVal)}{K:List AVal→St→Prop}{af:List AVal}{st:St}: ∀ {p:Plan},G7 ops p true listed taken=true→Eu E mv ops p tv K af st→ ∀ {j:Nat},j∈p.alts→
    ∃chk q o,ops[j]?=some o∧AOb ops taken j chk=true∧G7 ops q false (listed.setIfInBounds j true) taken=true∧gWp E mv ops o af st fun af' st'=>NJ E ops tv af' st' chk∧Eu E mv ops q tv K af' st'
  | .alt i chk p rest,hok,hw,j,hj=>by
    simp only[G7,Bool.and_eq_true]at hok
    simp only[Eu]at hw
    rcases List.mem_cons.1 hj with rfl|hj
    · grind
    · exact AKK hok.2 hw.2 hj
  |.done,_,_,_,h=>by cases h
  |.take _ _,_,_,_,h=>by cases h
  |.stop,_,_,_,h=>by cases h
theorem Inv.take{act asap:Array Bool}{taken:List Nat}{pend tv:List (Nat×AVal)}{af:List AVal}{st:St} (I:Inv E ops act asap taken pend tv af st){i:Nat}{o:Oper}{r:AVal}
    (hr:i∈Region.ready .any ops asap) (hok:ALH ops asap taken i=true) (ho:ops[i]?=some o) (hv:KO E ops o (FW ops af pend) st=some r):
    Inv E ops act (asap.setIfInBounds i true) (i::taken) (pend++[(i,r)]) ((i,r)::tv) af st:=by
  obtain⟨h0,o',ho',hw⟩:=mem_ready.1 hr
  rw[ho]at ho';cases ho'
  have hlt:i<ops.size:=(Array.getElem?_eq_some_iff.1 ho).1
  have hact:act.getD i true=false:=by
    cases h:act.getD i true with
    |false=>rfl
    |true=>have:=(I.list i hlt).2 (.inl h);grind
  have hnp:i∉pend.map (·.1):=fun h=>by have:=(I.list i hlt).2 (.inr h);grind
  unfold ALH at hok
  rw[ho]at hok
  simp only at hok
  split at hok
  · rename_i d hd
    simp only[Bool.and_eq_true,Bool.not_eq_true',List.all_eq_true]at hok
    obtain⟨⟨hfree,hself⟩,htk⟩:=hok
    have hself':d∉o.looksAt ops:=by grind
    have hdst:Ic ops i=some d:=by grind[Ic]
    have hfr:=fun j oj hj hne hun hno=>Oper.apart_spec (Region.free_spec ho hfree j oj hj hne hun hno)
    have htk': ∀j,j∈taken→ ∀oj,ops[j]?=some oj→d∉oj.looksAt ops∧oj.dst≠some d:=by
      intro j hj oj hoj
      have:=htk j hj
      simp_all
    have hset: ∀k,k≠i→(asap.setIfInBounds i true).getD k true=asap.getD k true:=fun k hk=>getD_set_ne true (Ne.symm hk)
    have hseti:(asap.setIfInBounds i true).getD i true=true:=by simp
    have hpne: ∀p,p∈pend→p.1≠i:=fun p hp e=>hnp (List.mem_map.2 ⟨p,hp,e⟩)
    refine {sz1:=I.sz1,sz2:=by simp[I.sz2],list:=?_,notin:=?_,nodup:=?_,tvl:=?_,val:=?_,free:=?_,self:=?_,pair:=?_,ord:=?_}
    · intro k hk
      rw[List.map_append,List.mem_append]
      by_cases hki:k=i
      · grind
      · rw[hset k hki,I.list k hk];grind
    · intro p hp
      rcases List.mem_append.1 hp with hp|hp
      · obtain⟨a,b,c⟩:=I.notin p hp;grind
      grind
    · rw[List.map_append,List.nodup_append]
      refine⟨I.nodup,by simp,?_⟩
      grind
    · intro p hp
      rcases List.mem_append.1 hp with hp|hp
      · simp only[Ro];rw[if_neg (hpne p hp)];exact I.tvl p hp
      grind[Ro]
    · intro p hp op hop
      rw[Px,hdst]
      rcases List.mem_append.1 hp with hp|hp
      · rw[show AX (FW ops af pend) (some d) r=(FW ops af pend).set d r from rfl,TV (htk' p.1 (I.notin p hp).2.2 op hop).1]
        exact I.val p hp op hop
      · simp only[List.mem_singleton]at hp;subst hp
        rw[ho]at hop;cases hop
        rw[show AX (FW ops af pend) (some d) r=(FW ops af pend).set d r from rfl,TV hself']
        omega
    · intro p hp dd hdd j oj hoj hun hno
      have hji:j≠i:=fun e=>by grind
      rw[hset j hji]at hun
      rcases List.mem_append.1 hp with hp|hp
      · exact I.free p hp dd hdd j oj hoj hun hno
      grind
    · intro p hp dd op hdd hop
      rcases List.mem_append.1 hp with hp|hp
      · exact I.self p hp dd op hdd hop
      grind
    · intro p q hp hq hne dd hdd
      rcases List.mem_append.1 hp with hp|hp<;>rcases List.mem_append.1 hq with hq|hq
      · exact I.pair p q hp hq hne dd hdd
      · simp only[List.mem_singleton]at hq;subst hq
        simp only at hne⊢
        refine⟨?_,fun oq hoq hno=>?_⟩
        · rw[hdst]
          intro e
          simp only[Option.some.injEq]at e
          have hpo: ∃op,ops[p.1]?=some op:=⟨_,Array.getElem?_eq_getElem (I.notin p hp).2.1⟩
          obtain⟨op,hop⟩:=hpo
          have:=(htk' p.1 (I.notin p hp).2.2 op hop).2
          have hdd':op.dst=some dd:=by grind[Ic]
          rw[hdd',e]at this;grind
        · rw[ho]at hoq;cases hoq
          exact(I.free p hp dd hdd i o ho h0 hno).1
      · simp only[List.mem_singleton]at hp;subst hp
        simp only at hne hdd⊢
        rw[hdst]at hdd;cases hdd
        obtain⟨oq,hoq⟩: ∃oq,ops[q.1]?=some oq:=⟨_,Array.getElem?_eq_getElem (I.notin q hq).2.1⟩
        have hh:=htk' q.1 (I.notin q hq).2.2
        grind[Ic]
      · simp only[List.mem_singleton]at hp hq;subst hp;subst hq;omega
    · refine I.ord.snoc fun o'' ho'' e he hb=>?_
      rw[ho]at ho'';cases ho''
      have:=hw e he hb
      have hlt':e.on<asap.size:=by
        grind
      rw[N9 hlt']at this
      rcases (I.list e.on (by rw[←I.sz2];omega)).1 this with h|h
      · exact .inl (by rw[N9 (by rw[I.sz1,←I.sz2];omega)];exact h)
      grind
  grind
theorem Inv.come{act asap:Array Bool}{taken:List Nat}{pend tv:List (Nat×AVal)}{af:List AVal}{st:St} (I:Inv E ops act asap taken pend tv af st){i:Nat}{r:AVal} (hm:(i,r)∈pend):
    Inv E ops (act.setIfInBounds i true) asap taken (pend.filter fun p=>p.1 !=i) tv (AX af (Ic ops i) r) st:=by
  obtain⟨h0,hlt,htk⟩:=I.notin _ hm
  have hmem: ∀p,p∈pend.filter (fun p=>p.1 !=i)→p∈pend∧p.1≠i:=fun p hp=>by
    grind
  have hset: ∀k,k≠i→(act.setIfInBounds i true).getD k true=act.getD k true:=fun k hk=>getD_set_ne true (Ne.symm hk)
  have hseti:(act.setIfInBounds i true).getD i true=true:=by simp
  have herase:=SI pend af hm I.nodup (fun p q hp hq hne t ht=>(I.pair p q hp hq hne t ht).1)
  refine {sz1:=by simp[I.sz1],sz2:=I.sz2,list:=?_,notin:=?_,nodup:=?_,tvl:=fun p hp=>I.tvl p (hmem p hp).1,val:=?_,free:=fun p hp=>I.free p (hmem p hp).1,self:=fun p hp=>I.self p (hmem p hp).1,pair:=fun p q hp hq=>I.pair p q (hmem p hp).1 (hmem q hq).1,ord:=?_}
  · intro k hk
    by_cases hki:k=i
    · subst hki
      rw[hseti]
      simp only[true_or,iff_true]
      exact(I.list k hk).2 (.inr (List.mem_map.2 ⟨_,hm,rfl⟩))
    · rw[hset k hki,I.list k hk]
      simp_all
  · intro p hp
    obtain⟨a,b⟩:=hmem p hp
    obtain⟨c,d,e⟩:=I.notin p a
    grind
  · exact(List.filter_sublist.map _).nodup I.nodup
  · intro p hp o ho
    rw[←herase]
    exact I.val p (hmem p hp).1 o ho
  · refine(I.ord.erase (k:=i)).mono fun k hk=>?_
    grind
theorem Inv.step{act asap:Array Bool}{taken:List Nat}{pend tv:List (Nat×AVal)}{af af':List AVal}{st st':St} (I:Inv E ops act asap taken pend tv af st){i:Nat}{chk:List Nat}{o:Oper} (hr:i∈Region.ready .any ops act) (hp:i∉pend.map (·.1)) (ho:ops[i]?=some o)
    (hchk:AOb ops taken i chk=true) (hall:NJ E ops tv (FW ops af' pend) st' chk):Inv E ops (act.setIfInBounds i true) (asap.setIfInBounds i true) taken pend tv af' st':=by
  obtain⟨h0,o',ho',hw⟩:=mem_ready.1 hr
  rw[ho]at ho';cases ho'
  have hlt:i<ops.size:=(Array.getElem?_eq_some_iff.1 ho).1
  have hset: ∀(l:Array Bool) k,k≠i→(l.setIfInBounds i true).getD k true=l.getD k true:=fun l k hk=>getD_set_ne true (Ne.symm hk)
  have hseti: ∀(l:Array Bool),l.size=ops.size→(l.setIfInBounds i true).getD i true=true:=fun l hl=>by simp
  have hpne: ∀p,p∈pend→p.1≠i:=fun p hpm e=>hp (List.mem_map.2 ⟨p,hpm,e⟩)
  refine {sz1:=by simp[I.sz1],sz2:=by simp[I.sz2],list:=?_,notin:=?_,nodup:=I.nodup,tvl:=I.tvl,val:=?_,free:=?_,self:=I.self,pair:=I.pair,ord:=?_}
  · intro k hk
    by_cases hki:k=i
    · simp_all
    · rw[hset act k hki,hset asap k hki];exact I.list k hk
  · intro p hpm
    obtain⟨a,b,c⟩:=I.notin p hpm
    grind
  · intro p hpm op hop
    unfold AOb at hchk
    rw[ho]at hchk
    simp only[List.all_eq_true,Bool.or_eq_true]at hchk
    obtain⟨a,b,c⟩:=I.notin p hpm
    rcases hchk p.1 c with h|h
    · obtain⟨r,o2,e1,e2,e3⟩:=Ve hall (by simpa using h)
      rw[I.tvl p hpm]at e1;grind
    · exfalso
      obtain⟨e,he,hb⟩:=Array.any_eq_true'.1 h
      simp only[Bool.and_eq_true,beq_iff_eq]at hb
      have:=hw e he hb.1
      rw[hb.2,N9 (by grind),a]at this
      grind
  · intro p hpm d hd j oj hoj hun hno
    have hji:j≠i:=fun e=>by simp_all
    rw[hset asap j hji]at hun
    exact I.free p hpm d hd j oj hoj hun hno
  · exact I.ord.mono fun k hk=>getD_set_true hk
theorem ALX{mv:List Tmp}{K:List AVal→St→Prop}{Qc:Exit→Act→World→Prop}{F:Nat→Nat} (fuel:Nat): ∀(plan:Plan){act asap:Array Bool}{taken:List Nat}{pend tv:List (Nat×AVal)}{af:List AVal}{st:St}{a:Act}{w:World}{Γ:Ghost},
    G7 ops plan false asap taken=true→K4 ops.size act≤fuel→Inv E ops act asap taken pend tv af st→a.defers=[]→Sim E F Γ st w af a.tmps.toList→Eu E mv ops plan tv K (FW ops af pend) st→
    (∀Γ' af' st' a' w',Ext F Γ w Γ' w'→st.next≤st'.next→a'.defers=[]→Sim E F Γ' st' w' af' a'.tmps.toList→K af' st'→Qc .normal a' w')→
    wpAny E.P .any ops Qc fuel act a w:=by
  induction fuel with
  | zero=>
    intro plan
    induction plan with
    | done=>
      intro act asap taken pend tv af st a w Γ hok hn I hd hs hw hK
      have hrd:Region.ready .any ops act=[]:=List.eq_nil_iff_forall_not_mem.2 fun j hj=>by
        obtain⟨h0,o,ho,_⟩:=mem_ready.1 hj
        rw[QV (Nat.le_zero.1 hn) (Array.getElem?_eq_some_iff.1 ho).1]at h0;grind
      have:=I.some_ready hrd
      subst this
      exact⟨hrd,hK Γ af st a w (Ext.refl _ _ _) (Nat.le_refl _) hd hs hw⟩
    | take i p ih=>
      intro act asap taken pend tv af st a w Γ hok hn I hd hs hw hK
      simp only[G7,Bool.and_eq_true]at hok
      simp only[Eu]at hw
      split at hw
      · rename_i o ho
        split at hw
        · rename_i r hr
          have I2:=I.take (by grind) hok.1.2 ho hr
          grind[Px,Ic]
        grind
      grind
    | alt i chk p rest _ _=>
      intro act asap taken pend tv af st a w Γ hok hn I hd hs hw hK
      exfalso
      simp only[G7,Bool.and_eq_true]at hok
      have hi:i∈Region.ready .any ops asap:=by grind
      obtain⟨h0,o,ho,_⟩:=mem_ready.1 hi
      have hlt:=(Array.getElem?_eq_some_iff.1 ho).1
      have:=(I.list i hlt).2 (.inl (QV (Nat.le_zero.1 hn) hlt))
      grind
    |stop=>grind[G7]
  | succ fuel ihf=>
    have come: ∀(plan:Plan){act asap:Array Bool}{taken:List Nat}{pend tv:List (Nat×AVal)}{af:List AVal}{st:St}{a:Act}{w:World}{Γ:Ghost},
        G7 ops plan false asap taken=true→K4 ops.size act≤fuel+1→Inv E ops act asap taken pend tv af st→a.defers=[]→Sim E F Γ st w af a.tmps.toList→Eu E mv ops plan tv K (FW ops af pend) st→
        (∀Γ' af' st' a' w',Ext F Γ w Γ' w'→st.next≤st'.next→a'.defers=[]→Sim E F Γ' st' w' af' a'.tmps.toList→K af' st'→Qc .normal a' w')→
        ∀j,j∈Region.ready .any ops act→j∈pend.map (·.1)→wpOp E.P ops Qc j (wpAny E.P .any ops Qc fuel (act.setIfInBounds j true)) a w:=by
      intro plan act asap taken pend tv af st a w Γ hok hn I hd hs hw hK j hj hjp
      obtain⟨p,hp,rfl⟩:=List.mem_map.1 hjp
      obtain⟨h0,o,ho,hwt⟩:=mem_ready.1 hj
      have hlt:=(Array.getElem?_eq_some_iff.1 ho).1
      have hlooks: ∀q,q∈pend→ ∀d,Ic ops q.1=some d→d∉o.looksAt ops:=by
        intro q hq d hdd
        by_cases hqp:q.1=p.1
        · exact I.self q hq d o hdd (by grind)
        · refine(I.pair q p hq hp hqp d hdd).2 o ho fun e he hb heq=>?_
          have:=hwt e he hb
          obtain⟨a1,b1,_⟩:=I.notin q hq
          grind
      have hval:=I.val p hp o ho
      rw[AAB pend af hlooks]at hval
      refine Xr ho hd hs (APN (mv:=mv) hval) fun Γ' af' st' a' w' x1 n1 d1 s1 k1=>?_
      obtain⟨rfl,rfl⟩:=k1
      have hdst:Ic ops p.1=o.dst:=by grind[Ic]
      have hpm:(p.1,p.2)∈pend:=hp
      have I2:=I.come hpm
      rw[hdst]at I2
      refine ihf plan hok (by have:=Rn h0 hlt;omega) I2 d1 s1 ?_ fun Γ2 af2 st2 a2 w2 x2 n2 d2 s2 k2=>hK Γ2 af2 st2 a2 w2 (x1.trans x2) (Nat.le_trans n1 n2) d2 s2 k2
      rw[SI pend af hpm I.nodup (fun p q hp hq hne t ht=>(I.pair p q hp hq hne t ht).1),hdst]at hw
      omega
    intro plan
    induction plan with
    | done=>
      intro act asap taken pend tv af st a w Γ hok hn I hd hs hw hK
      refine⟨fun hrd=>?_,fun j hj=>?_⟩
      · have:=I.some_ready hrd
        subst this
        exact hK Γ af st a w (Ext.refl _ _ _) (Nat.le_refl _) hd hs hw
      · by_cases hjp:j∈pend.map (·.1)
        · grind
        · exfalso
          have:=I.ready_sub hj hjp
          simp only[G7,Bool.not_false,Bool.true_and,List.isEmpty_iff]at hok
          grind
    | take i p ih=>
      intro act asap taken pend tv af st a w Γ hok hn I hd hs hw hK
      simp only[G7,Bool.and_eq_true]at hok
      simp only[Eu]at hw
      split at hw
      · rename_i o ho
        split at hw
        · rename_i r hr
          have I2:=I.take (by grind) hok.1.2 ho hr
          grind[Px,Ic]
        grind
      grind
    | alt i chk p rest _ _=>
      intro act asap taken pend tv af st a w Γ hok hn I hd hs hw hK
      have hok0:=hok
      simp only[G7,Bool.and_eq_true]at hok
      have hi:i∈Region.ready .any ops asap:=by grind
      refine⟨fun hrd=>?_,fun j hj=>?_⟩
      · exfalso
        have:=I.some_ready hrd
        subst this
        have:=I.asap_ready hi
        grind
      · by_cases hjp:j∈pend.map (·.1)
        · grind
        · have hja:=I.ready_sub hj hjp
          have hall:=hok.1.1.1.1
          simp only[Bool.false_or,List.all_eq_true]at hall
          have hjm:j∈(Plan.alt i chk p rest).alts:=by grind[Plan.alts]
          have hok':G7 ops (.alt i chk p rest) true asap taken=true:=by
            simp only[G7,Bool.true_or,Bool.true_and,Bool.and_eq_true]
            grind
          obtain⟨chk',q,o,ho,hc,hq,hg⟩:=AKK hok' hw hjm
          obtain⟨h0,o',ho',hwt⟩:=mem_ready.1 hj
          rw[ho]at ho';cases ho'
          have hlt:=(Array.getElem?_eq_some_iff.1 ho).1
          have hun:asap.getD j true=false:=(mem_ready.1 hja).1
          have hlooks: ∀p,p∈pend→ ∀d,Ic ops p.1=some d→d∉o.looksAt ops∧o.dst≠some d:=by
            intro p hp d hdd
            refine I.free p hp d hdd j o ho hun fun e he hb heq=>?_
            have:=hwt e he hb
            obtain⟨a1,b1,_⟩:=I.notin p hp
            grind
          refine Xr ho hd hs (AMO pend hlooks hg) fun Γ' af' st' a' w' x1 n1 d1 s1 k1=>?_
          have I2:=I.step hj hjp ho hc k1.1
          exact ihf q hq (by have:=Rn h0 hlt;omega) I2 d1 s1 k1.2 fun Γ2 af2 st2 a2 w2 x2 n2 d2 s2 k2=>hK Γ2 af2 st2 a2 w2 (x1.trans x2) (Nat.le_trans n1 n2) d2 s2 k2
    |stop=>grind[G7]
end
theorem Oa{E:Env}{Q:APost}{af:List AVal}{st:St}{id:Nat}{ops:Array Oper} (mv:List Tmp) (plan:Plan) (hm:E.P.follows .mixedOrders=true) (hok:G7 ops plan false (Array.replicate ops.size false) []=true)
    (h:Eu E mv ops plan [] (fun af st=>Q .normal af st) af st):AWp E (.region id ops true) Q af st:=by
  constructor
  intro F Γ w a hd hs
  refine wp_region_any hm ?_
  have I:Inv E ops (Array.replicate ops.size false) (Array.replicate ops.size false) [] [] [] af st:=by
    have hno: ∀p:Nat×AVal,p∈([]:List (Nat×AVal))→False:=fun p hp=>by grind
    exact {sz1:=(by simp),sz2:=(by simp),list:=(fun k hk=>by simp),notin:=(fun p hp=>(hno p hp).elim),nodup:=(by simp),tvl:=(fun p hp=>(hno p hp).elim),val:=(fun p hp=>(hno p hp).elim),free:=(fun p hp=>(hno p hp).elim),self:=(fun p hp=>(hno p hp).elim),pair:=(fun p q hp=>(hno p hp).elim),ord:=trivial}
  have hun:K4 ops.size (Array.replicate ops.size false)≤ops.size:=by
    grind[K4,List.countP_le_length,Array.replicate,List.range]
  exact ALX ops.size plan hok hun I hd hs.drew h fun Γ' af' st' a' w' x1 n1 d1 s1 k1=>⟨trivial,d1,Γ',af',st',⟨x1.le,x1.keep,x1.size,x1.os,x1.output,x1.tape⟩,n1,s1,k1⟩
end Go.VM
set_option linter.unusedVariables false
namespace Go.VM
def Ae:List Tmp→List AVal→List AVal
  |[],af=>af
  |j::js,af=>Ae js (af.set j .any)
def setVals:List AVal→List Tmp→List AVal→List AVal
  |af,c::cs,v::vs=>setVals (af.set c v) cs vs
  |af,_,_=>af
def Bw (af:List AVal) (cs:List Tmp):List AVal:=cs.map fun c=>af.getD c .any
section
variable{E:Env}{F:Nat→Nat}{Γ:Ghost}{st:St}{w:World}{af:List AVal}{a:Act}{Q:APost}
theorem Sim.setAny (hs:Sim E F Γ st w af a.tmps.toList) (j:Tmp):Sim E F Γ st w (af.set j .any) a.tmps.toList:=by
  have key: ∀ {xs:List AVal}{vs:List Value} (j:Nat),RepL Γ xs vs→RepL Γ (xs.set j .any) vs:=by
    intro xs
    induction xs with
    |nil=>simp
    | cons x xs ih=>intro vs j h;cases h with
      | cons h t=>cases j with
        |zero=>exact .cons (.any _) t
        |succ j=>exact .cons h (ih j t)
  have keyo: ∀ {xs:List AVal}{vs:List Value} (j:Nat),ownL Γ w xs vs→ownL Γ w (xs.set j .any) vs:=by
    intro xs
    induction xs with
    |nil=>simp
    | cons x xs ih=>intro vs j h;cases vs with
      |nil=>cases j<;>simp[ownL]
      | cons v vs=>
        rw[ownL]at h
        cases j with
        |zero=>grind[ownL,VM.own]
        |succ j=>grind[ownL]
  have keyc: ∀(xs:List AVal) (vs:List Value) (j b:Nat),AC b (xs.set j .any) vs≤AC b xs vs:=by
    intro xs
    induction xs with
    |nil=>simp
    | cons x xs ih=>intro vs j b;cases vs with
      |nil=>cases j<;>simp[AC]
      | cons v vs=>cases j with
        |zero=>grind[AC,cnt]
        |succ j=>grind[AC]
  exact {hs with rep:=key j hs.rep,own:=keyo j hs.own,tok:=fun b=>by have:=keyc af a.tmps.toList j b;have:=hs.tok b;omega}
theorem Sim.mask (js:List Tmp): ∀ {af:List AVal},Sim E F Γ st w af a.tmps.toList→Sim E F Γ st w (Ae js af) a.tmps.toList:=by
  induction js with
  |nil=>intro af hs;exact hs
  |cons j js ih=>intro af hs;exact ih (hs.setAny j)
theorem PL{c:Code} (js:List Tmp) (h:AWp E c Q (Ae js af) st):AWp E c Q af st:=⟨fun F Γ w a hd hs=>h.go F Γ w a hd (hs.mask js)⟩
theorem PP (js:List Tmp): ∀(af:List AVal) (j:Tmp),Ae js (af.set j .any)=(Ae js af).set j .any:=by
  induction js<;>grind[Ae,List.set_set,List.set_comm]
theorem Ii: ∀(cs:List Tmp) (af af0:List AVal),Ae cs af=Ae cs af0→af=setVals af0 cs (Bw af cs):=by
  intro cs
  induction cs with
  |nil=>intro af af0 h;exact h
  | cons c cs ih=>
    intro af af0 h
    simp only[Ae]at h
    simp only[Bw,List.map_cons,setVals]
    have h2:Ae cs af=Ae cs (af0.set c (af.getD c .any)):=by
      have hl:af.length=af0.length:=by
        have hlen: ∀(l:List Tmp) (x:List AVal),(Ae l x).length=x.length:=by
          intro l
          induction l<;>grind[Ae]
        have:=congrArg List.length h
        grind
      rw[PP,PP]at h
      apply List.ext_getElem?
      intro i
      have hi:=congrArg (·[i]?) h
      simp only[List.getElem?_set]at hi
      have hmask: ∀(l:List Tmp) (x:List AVal) (k:Nat),(Ae l x)[k]?=if k∈l then(if k<x.length then some .any else none)else x[k]?:=by
        intro l
        induction l with
        |nil=>grind[Ae]
        | cons j l ih=>
          intro x k
          simp only[Ae,ih,List.length_set,List.mem_cons]
          by_cases hkl:k∈l
          · grind
          · by_cases hkj:k=j
            · subst hkj
              simp only[hkl,if_false,true_or,if_true,List.getElem?_set]
            · simp only[hkl,if_false,hkj,or_false,List.getElem?_set]
              rw[if_neg (fun e=>hkj e.symm)]
      rw[hmask,hmask]
      rw[hmask,hmask]at hi
      by_cases hic:i∈cs
      · grind
      · simp only[hic,if_false]at hi⊢
        rw[List.getElem?_set]
        by_cases hci:c=i
        · subst hci
          simp only[if_true]
          by_cases hlt:c<af.length<;>simp_all[List.getD]
        simp_all
    exact ih af _ h2
theorem VP{c:Code} (js cs:List Tmp) (I:Nat→List AVal→St→Prop) (n₀:Nat) (h₀:I n₀ (Bw (Ae js af) cs) st)
    (round: ∀n vs st',I n vs st'→ ∀J:List AVal→St→Prop,
      (∀n' af' st' m,n'<n→m.Sublist st'.m→Ae cs (Ae js af')=Ae cs (Ae js af)→I n' (Bw (Ae js af') cs) {st' with m:=m}→J af' st')→
      AWp E c (kPost J Q) (setVals (Ae js af) cs vs) st'):AWp E (.loop c) Q af st:=by
  refine PL js ?_
  constructor
  intro F Γ w a hd hs
  refine wp_loop_ghost (fun n a' w'=>a'.defers=[]∧ ∃Γ' vs st',Ext F Γ w Γ' w'∧st.next≤st'.next∧Sim E F Γ' st' w' (setVals (Ae js af) cs vs) a'.tmps.toList∧I n vs st') n₀
    ⟨hd,Γ,Bw (Ae js af) cs,st,Ext.refl _ _ _,Nat.le_refl _,by rw[←Ii cs _ _ rfl];omega,h₀⟩ ?_
  intro n a₁ w₁ ⟨hd1,Γ₁,vs₁,st₁,h2,h3,h4,h5⟩
  refine wp_mono ((round n vs₁ st₁ h5 (fun af' st'=> ∃n' m,n'<n∧m.Sublist st'.m∧Ae cs (Ae js af')=Ae cs (Ae js af)∧I n' (Bw (Ae js af') cs) {st' with m:=m}) (fun n' af' st' m k1 k2 k3 k4=>⟨n',m,k1,k2,k3,k4⟩)).go F Γ₁ w₁ a₁ hd1 h4) ?_
  intro e a' w' hq
  have hq:=Nq h2 h3 hq
  cases e with
  | normal=>
    obtain⟨_,k1,Γ',af',st',k2,k3,k4,kk⟩:=hq
    obtain⟨n',m,k5,k6,k7,k8⟩:=kk.get
    refine⟨n',k5,k1,Γ',Bw (Ae js af') cs,{st' with m:=m},k2,k3,?_,k8⟩
    rw[←Ii cs _ _ k7]
    exact(k4.mask js).fewer k6
  | _=>
    obtain⟨k0,k1,Γ',af',st',k2,k3,k4,kk⟩:=hq
    exact⟨k0,k1,Γ',af',st',k2,k3,k4,kk.out (by simp)⟩
theorem ACall.strip{f:FuncId}{args:List AVal}{Q:AVal→St→Prop} (h:ACall E f args st fun r st'=>Q r.strip st'):ACall E f args st Q:=
  ⟨fun F Γ w cargs hs=>(h.go F Γ w cargs hs).mono fun e w' ⟨v,he,Γ',r,st',h1,h2,h3,h4⟩=>⟨v,he,Γ',r.strip,st',h1,h2,by
    have hr:Rep Γ' r v:=by have:=h3.rep;cases this;omega
    have ht: ∀b,F b+AC b [r.strip] [v]+Ah Γ' w' b st'.m≤1:=fun b=>by
      have:=h3.tok b
      grind[AC,F5]
    exact {h3 with rep:=.cons hr.strip .nil,own:=(by grind[ownL,I7]),tok:=ht},h4⟩⟩
end
end Go.VM
set_option linter.unusedVariables false
namespace Go.VM
mutual
def bnd:AVal→Prop
  |.agg cs=>bndL cs
  |.tuple cs=>bndL cs
  |.slice _ xs _=>xs.length≤Bl
  |.str s=>s.length≤Bl
  |.buf _ l _=>l.length≤Bl
  |_=>True
def bndL:List AVal→Prop
  |[]=>True
  |x::xs=>bnd x∧bndL xs
end
mutual
theorem Rep.bnd{Γ:Ghost}: {x:AVal}→ {v:Value}→Rep Γ x v→VM.bnd x
  |_,_,.any v=>by simp[VM.bnd]
  |_,_,.bool b=>by simp[VM.bnd]
  |_,_,.int k n=>by simp[VM.bnd]
  |_,_,.str b h=>by grind[VM.bnd]
  |_,_,.agg h o=>by simp only[VM.bnd];exact RepL.bndL h
  |_,_,.tuple h=>by simp only[VM.bnd];exact RepL.bndL h
  |_,_,.snil w o a=>by simp[VM.bnd]
  |_,_,.slice o hb hl hc h _=>by grind[VM.bnd]
  |_,_,.ptr h=>by simp[VM.bnd]
  |_,_,.nilp=>by simp[VM.bnd]
  |_,_,.cptr hb hd h _=>by simp[VM.bnd]
  |_,_,.fn h k=>by simp[VM.bnd]
  |_,_,.nilFn=>by simp[VM.bnd]
  |_,_,.iface h=>by simp[VM.bnd]
  |_,_,.nilIface=>by simp[VM.bnd]
  |_,_,.iter _ _ _=>by simp[VM.bnd]
  |_,_,.bsl _ _ _=>by simp[VM.bnd]
  |_,_,.nself _=>by simp[VM.bnd]
  | _,_,.buf _ h _=>by
    have:=Rep.bnd h
    grind[VM.bnd,u8s]
  |_,_,.bnil _ _=>by simp[VM.bnd]
  |_,_,.bufp _ _ _ _ _=>by simp[VM.bnd]
  |_,_,.map _ _ _=>by simp[VM.bnd]
  |_,_,.slop _ _ _ _=>by simp[VM.bnd]
  |_,_,.sh _ _=>by simp[VM.bnd]
  |_,_,.sptr _=>by simp[VM.bnd]
  |_,_,.gsl _ _ _ _=>by simp[VM.bnd]
  |_,_,.nmap=>by simp[VM.bnd]
  |_,_,.vec _ _ _=>by simp[VM.bnd]
  |_,_,.hset _ _=>by simp[VM.bnd]
  |_,_,.vptr _=>by simp[VM.bnd]
  |_,_,.num _ _=>by simp[VM.bnd]
  |_,_,.nbuf _=>by simp[VM.bnd]
  |_,_,.trow _ _ _ _=>by simp[VM.bnd]
theorem RepL.bndL{Γ:Ghost}: {xs:List AVal}→ {vs:List Value}→RepL Γ xs vs→VM.bndL xs
  |_,_,.nil=>by simp[VM.bndL]
  |_,_,.cons h t=>by simp only[VM.bndL];exact⟨Rep.bnd h,RepL.bndL t⟩
end
theorem RepS.bndL{Γ:Ghost}{w:Nat}{xs:List AVal}{cs:List Value} (h:RepS Γ w xs cs):VM.bndL xs:=by
  induction xs generalizing cs with
  |nil=>simp[VM.bndL]
  | cons x xs ih=>cases h with
    |cons h hw t=>simp only[VM.bndL];exact⟨h.bnd,ih t⟩
def keysLt (n:Nat) (m:List (Nat×List AVal)):Prop:= ∀i,n≤i→AZ m i=none
theorem Sim.keysLt{E:Env}{F:Nat→Nat}{Γ:Ghost}{st:St}{w:World}{af:List AVal}{tm:List Value} (hs:Sim E F Γ st w af tm):keysLt st.next st.m:=by
  intro i hi
  cases hm:AZ st.m i with
  |none=>rfl
  | some c=>
    have:=hs.key_lt (Ip hm)
    omega
theorem AWp.known{E:Env}{c:Code}{Q:APost}{af:List AVal}{st:St} (h:bndL af→keysLt st.next st.m→AWp E c Q af st):AWp E c Q af st:=
  ⟨fun F Γ w a hd hs=>(h hs.rep.bndL hs.keysLt).go F Γ w a hd hs⟩
theorem ACall.known{E:Env}{f:FuncId}{args:List AVal}{st:St}{Q:AVal→St→Prop} (h:bndL args→keysLt st.next st.m→ACall E f args st Q):ACall E f args st Q:=
  ⟨fun F Γ w cargs hs=>(h hs.rep.bndL hs.keysLt).go F Γ w cargs hs⟩
inductive Deep:AVal→Prop
  |leaf{x:AVal} (h:bnd x) (hc:match x with|.agg _|.tuple _|.slice _ _ _=>False|_=>True):Deep x
  |agg{cs:List AVal} (h: ∀x,x∈cs→Deep x):Deep (.agg cs)
  |tuple{cs:List AVal} (h: ∀x,x∈cs→Deep x):Deep (.tuple cs)
  |slice{w:Nat}{xs:List AVal}{o:Bool} (hl:xs.length≤Bl) (h: ∀x,x∈xs→Deep x):Deep (.slice w xs o)
theorem Deep.bnd{x:AVal} (h:Deep x):VM.bnd x:=by
  induction h with
  |leaf h hc=>exact h
  | agg h ih=>
    rename_i cs
    simp only[VM.bnd]
    clear h
    induction cs<;>grind[VM.bndL]
  | tuple h ih=>
    rename_i cs
    simp only[VM.bnd]
    clear h
    induction cs<;>grind[VM.bndL]
  |slice hl h ih=>grind[VM.bnd]
theorem AIB{n:Nat} (h:n≤Bl):IntKind.i64.wrap (n:Int)=n:=by
  grind[Bl,IntKind.wrap,IntKind.bits,IntKind.signed]
theorem Xu{n:Nat} (h:n≤Bl):IntKind.i64.wrap ((n:Int)+1)=((n+1:Nat):Int):=by
  grind[Bl,IntKind.wrap,IntKind.bits,IntKind.signed]
end Go.VM
set_option linter.unusedVariables false
namespace Go.VM
section
variable{E:Env}{mv:List Tmp}{ops:Array Oper}{K:List AVal→St→Prop}{af:List AVal}{st:St}
def NV (x:Option AVal) (d:Option Tmp) (K:List AVal→St→Prop) (af:List AVal) (st:St):Prop:=
  match x with|some r=>K (AX af d r) st|none=>False
def J4 (x:Option AVal) (d:Option Tmp) (K:List AVal→St→Prop) (af:List AVal) (st:St):Prop:=
  match x with|some r=>K (AX af d r.strip) st|none=>False
def MP (x:Option (AVal×St)) (d:Option Tmp) (K:List AVal→St→Prop) (af:List AVal):Prop:=
  match x with|some p=>K (AX af d p.1) p.2|none=>False
def ARi (b:Bool) (x:AVal) (d:Option Tmp) (K:List AVal→St→Prop) (af:List AVal) (st:St):Prop:=
  if b=true then K (AX af d (.ptr st.next 0)) {m:=(st.next,AQ x)::st.m,next:=st.next+1}else False
def VH (x:Option (List AVal)) (d:Option Tmp) (K:List AVal→St→Prop) (af:List AVal) (st:St):Prop:=
  match x with|some cs=>K (AX af d (.ptr st.next 0)) {m:=(st.next,cs)::st.m,next:=st.next+1}|none=>False
def ANG (x u:Option AVal) (y:Option (AVal×St)) (st:St):Option (AVal×St):=
  match x with
  |some r=>some (r.strip,st)
  |none=>match u with|some r=>some (r,st)|none=>y
def OV (x:Option St) (K:List AVal→St→Prop) (af:List AVal):Prop:=
  match x with|some st=>K af st|none=>False
def AL7 (x:AVal) (n:Nat):Option AVal:=match x with|.tuple vs=>vs[n]?|_=>none
def AMt (x:AVal) (n:Nat):AVal:=match x with|.tuple vs=>.tuple (vs.set n ((vs.getD n .any).strip))|x=>x
def AYi (x:Option AVal) (y:Option St) (d:Option Tmp) (K:List AVal→St→Prop) (af:List AVal) (st:St):Prop:=
  match x with
  |some r=>K (AX af d r) st
  |none=>match y with|some st'=>K (AX af d (.sh st.next)) st'|none=>False
def Vz (E:Env) (t:TypeId) (x:AVal) (lo hi mx:Option (Option Int)) (d:Option Tmp) (K:List AVal→St→Prop) (af:List AVal) (st:St):Prop:=
  match lo,hi,mx with
  |some l,some h,some m=>AYi (EF E t x l h m) (ND E t x l h m st) d K af st
  |_,_,_=>False
def ATV (d:Option Tmp) (K:List AVal→St→Prop) (af:List AVal):AVal→St→Prop:=fun r st=>K (AX af d r) st
def AHC (E:Env) (f:AVal) (xs:List AVal) (d:Option Tmp) (K:List AVal→St→Prop) (af:List AVal) (st:St):Prop:=
  match f with
  |.fn (.func g) p q=>CallX E g (stripL (p++xs++q)) st (ATV d K af)
  |_=>False
theorem ARu{r:AVal}{d:Option Tmp}:NV (some r) d K af st=K (AX af d r) st:=rfl
theorem ANI{r:AVal}{d:Option Tmp}:J4 (some r) d K af st=K (AX af d r.strip) st:=rfl
theorem AMk{r:AVal}{s:St}{d:Option Tmp}:MP (some (r,s)) d K af=K (AX af d r) s:=rfl
theorem APS{x:AVal}{d:Option Tmp}:ARi true x d K af st=K (AX af d (.ptr st.next 0)) {m:=(st.next,AQ x)::st.m,next:=st.next+1}:=by simp[ARi]
theorem AHA{cs:List AVal}{d:Option Tmp}:VH (some cs) d K af st=K (AX af d (.ptr st.next 0)) {m:=(st.next,cs)::st.m,next:=st.next+1}:=rfl
theorem AeL{r:AVal}{u:Option AVal}{y:Option (AVal×St)}:ANG (some r) u y st=some (r.strip,st):=rfl
theorem Afq{r:AVal}{y:Option (AVal×St)}:ANG none (some r) y st=some (r,st):=rfl
theorem Adj{y:Option (AVal×St)}:ANG none none y st=y:=rfl
theorem AIw:OV (some st) K af=K af st:=rfl
theorem AA5{n:Nat}{vs:List AVal}:AL7 (.tuple vs) n=vs[n]?:=rfl
theorem AE2{n:Nat}{vs:List AVal}:AMt (.tuple vs) n=.tuple (vs.set n ((vs.getD n .any).strip)):=rfl
theorem AS9{r:AVal}{y:Option St}{d:Option Tmp}:AYi (some r) y d K af st=K (AX af d r) st:=rfl
theorem ARr{s:St}{d:Option Tmp}:AYi none (some s) d K af st=K (AX af d (.sh st.next)) s:=rfl
theorem AJ0{t:TypeId}{x:AVal}{lo hi mx:Option Int}{d:Option Tmp}:Vz E t x (some lo) (some hi) (some mx) d K af st=AYi (EF E t x lo hi mx) (ND E t x lo hi mx st) d K af st:=rfl
theorem AVP{d:Option Tmp}{r:AVal}:ATV d K af r st=K (AX af d r) st:=rfl
theorem AWW{g:FuncId}{p q xs:List AVal}{d:Option Tmp}:AHC E (.fn (.func g) p q) xs d K af st=if callable E.P g=true then ACall E g (stripL (p++xs++q)) st (ATV d K af)else UL E g (stripL (p++xs++q)) st (ATV d K af):=rfl
theorem AYj{d:Option Tmp}:LK [] d=false:=by cases d<;>rfl
section ops
variable{d:Option Tmp}{ty:TypeId}{pos:String}{aft:Array Edge}{g:Option (Nat×Bool)}
def nmK (v:AVal) (x:Operand) (d:Option Tmp) (K:List AVal→St→Prop) (af:List AVal) (st:St):Prop:=
  match v,x with
  |.vec w xs,.tmp i=>K (AX (af.set i (.sh st.next)) d (.sh st.next)) {m:=(st.next,[.vec w xs])::st.m,next:=st.next+1}
  |v,x=>K (AX (stripAt af x) d v) st
def mvK (b:Bool) (x:Operand) (ty:TypeId) (E:Env) (d:Option Tmp) (K:List AVal→St→Prop) (af:List AVal) (st:St):Prop:=
  if b=true then nmK (rd E af ty x) x d K af st else K (AX af d (rd E af ty x).strip) st
theorem AUN{x:Operand}:mvK true x ty E d K af st=nmK (rd E af ty x) x d K af st:=by simp[mvK]
theorem Adl{i w:Nat}{xs:List AVal}:nmK (.vec w xs) (.tmp i) d K af st=K (AX (af.set i (.sh st.next)) d (.sh st.next)) {m:=(st.next,[.vec w xs])::st.m,next:=st.next+1}:=rfl
theorem AfH{x:Operand}:nmK .any x d K af st=K (AX (stripAt af x) d .any) st:=by cases x<;>rfl
theorem Adw{x:Operand}{k:IntKind}{n:Int}:nmK (.int k n) x d K af st=K (AX (stripAt af x) d (.int k n)) st:=by cases x<;>rfl
theorem Acm{x:Operand}{b:Bool}:nmK (.bool b) x d K af st=K (AX (stripAt af x) d (.bool b)) st:=by cases x<;>rfl
theorem AfL{x:Operand}{s:List UInt8}:nmK (.str s) x d K af st=K (AX (stripAt af x) d (.str s)) st:=by cases x<;>rfl
theorem Aed{x:Operand}{c:List AVal}:nmK (.agg c) x d K af st=K (AX (stripAt af x) d (.agg c)) st:=by cases x<;>rfl
theorem AXp{x:Operand}{c:List AVal}:nmK (.tuple c) x d K af st=K (AX (stripAt af x) d (.tuple c)) st:=by cases x<;>rfl
theorem AUI{x:Operand}{w:Nat}{c:List AVal}{o:Bool}:nmK (.slice w c o) x d K af st=K (AX (stripAt af x) d (.slice w c o)) st:=by cases x<;>rfl
theorem Aeo{x:Operand}{i f:Nat}:nmK (.ptr i f) x d K af st=K (AX (stripAt af x) d (.ptr i f)) st:=by cases x<;>rfl
theorem AeM{x:Operand}{e:TypeId}{l:List UInt8}{o:Bool}:nmK (.buf e l o) x d K af st=K (AX (stripAt af x) d (.buf e l o)) st:=by cases x<;>rfl
theorem AaV{x:Operand}{e:TypeId}{l:List UInt8}{o:Bool}:nmK (.bufp e l o) x d K af st=K (AX (stripAt af x) d (.bufp e l o)) st:=by cases x<;>rfl
theorem AgR{x:Operand}{i:Nat}:nmK (.sh i) x d K af st=K (AX (stripAt af x) d (.sh i)) st:=by cases x<;>rfl
theorem Ad7{x:Operand}{w i l:Nat}:nmK (.gsl w i l) x d K af st=K (AX (stripAt af x) d (.gsl w i l)) st:=by cases x<;>rfl
theorem Aea{x:Operand}{w i o l:Nat}:nmK (.bsl w i o l) x d K af st=K (AX (stripAt af x) d (.bsl w i o l)) st:=by cases x<;>rfl
theorem AaT{x:Operand}{s:List UInt8}{p:Nat}:nmK (.iter s p) x d K af st=K (AX (stripAt af x) d (.iter s p)) st:=by cases x<;>rfl
def tkK (y:Option (Nat×Nat×List AVal)) (v:AVal) (x:Operand) (d:Option Tmp) (K:List AVal→St→Prop) (af:List AVal) (st:St):Prop:=
  match y with|some (i,w,xs)=>K (AX af d (.vec w xs)) {st with m:=Ao st.m i [.any]}|none=>K (AX (stripAt af x) d v) st
theorem AWN{i w:Nat}{xs:List AVal}{v:AVal}{x:Operand}:tkK (some (i,w,xs)) v x d K af st=K (AX af d (.vec w xs)) {st with m:=Ao st.m i [.any]}:=rfl
theorem AVT{v:AVal}{x:Operand}:tkK none v x d K af st=K (AX (stripAt af x) d v) st:=rfl
def vnK (y:Option Nat) (X:Prop) (d:Option Tmp) (K:List AVal→St→Prop) (af:List AVal) (st:St):Prop:=
  match y with|some w=>K (AX af d (.vec w [])) st|none=>X
theorem AXO{w:Nat}{X:Prop}:vnK (some w) X d K af st=K (AX af d (.vec w [])) st:=rfl
theorem AWd{X:Prop}:vnK none X d K af st=X:=rfl
theorem AXa{t:TypeId}:ANi E (.const (.slice none 0 0)) t=BP E.P t:=rfl
theorem AVx{i:Tmp}{t:TypeId}:ANi E (.tmp i) t=none:=rfl
def atK (x:Operand) (ty:TypeId) (E:Env) (d:Option Tmp) (K:List AVal→St→Prop) (af:List AVal) (st:St):Prop:=
  match x with
  |.tmp i=>tkK (J6 st (af.getD i .any)) (af.getD i .any) (.tmp i) d K af st
  |x=>K (AX (stripAt af x) d (rd E af ty x)) st
theorem Aaa{i:Tmp}:atK (.tmp i) ty E d K af st=tkK (J6 st (af.getD i .any)) (af.getD i .any) (.tmp i) d K af st:=rfl
def asT (x:Operand) (ty:TypeId) (E:Env) (d:Option Tmp) (K:List AVal→St→Prop) (af:List AVal) (st:St):Prop:=vnK (ANi E x ty) (atK x ty E d K af st) d K af st
theorem AdW{x:Operand}:asT x ty E d K af st=vnK (ANi E x ty) (atK x ty E d K af st) d K af st:=rfl
def asK (b:Bool) (x:Operand) (ty:TypeId) (E:Env) (d:Option Tmp) (K:List AVal→St→Prop) (af:List AVal) (st:St):Prop:=
  if b=true then asT x ty E d K af st else K (AX (stripAt af x) d (rd E af ty x)) st
theorem AUR{x:Operand}:asK true x ty E d K af st=asT x ty E d K af st:=by simp[asK]
theorem ASw{x:Operand}:asK false x ty E d K af st=K (AX (stripAt af x) d (rd E af ty x)) st:=by simp[asK]
def vaR (i:Nat) (y:Option (List AVal)):Option (Nat×Nat×List AVal):=match y with|some [.vec w xs]=>some (i,w,xs)|_=>none
theorem Aef{w:Nat}{xs:List AVal}:J6 st (.vec w xs)=none:=rfl
theorem Ag7{i:Nat}:J6 st (.sh i)=vaR i (AZ st.m i):=by unfold vaR;rfl
theorem AVo{i w:Nat}{xs:List AVal}:vaR i (some [.vec w xs])=some (i,w,xs):=rfl
theorem AS0{x:Operand}:mvK false x ty E d K af st=K (AX af d (rd E af ty x).strip) st:=by simp[mvK]
def ldK (b:Bool) (t:TypeId) (x:AVal) (E:Env) (d:Option Tmp) (K:List AVal→St→Prop) (af:List AVal) (st:St):Prop:=
  if b=true then MP (NK E t x st) d K af else J4 (Nj E t x st) d K af st
theorem AUM{t:TypeId}{x:AVal}:ldK true t x E d K af st=MP (NK E t x st) d K af:=by simp[ldK]
theorem ASx{t:TypeId}{x:AVal}:ldK false t x E d K af st=J4 (Nj E t x st) d K af st:=by simp[ldK]
theorem Abb{x:Operand}:CX E mv ⟨d,.move x,ty,pos,aft,g⟩ af st K=mvK (LK mv d) x ty E d K af st:=by
  simp only[CX,DU,mvK]
  cases LK mv d
  · simp
  · simp only[if_true]
    cases x with
    | tmp i=>
      simp only[nameV,rd]
      cases af.getD i .any<;>rfl
    |_=>simp only[nameV];cases (rd E af ty _)<;>rfl
theorem ASf{x:Operand}:CX E mv ⟨d,.assign x,ty,pos,aft,g⟩ af st K=asK (LK mv d) x ty E d K af st:=by
  simp only[CX,DU,asK]
  cases LK mv d
  · simp
  · simp only[if_true,WH,asT,vnK]
    cases ANi E x ty with
    |some w=>rfl
    | none=>
      cases x with
      | tmp i=>
        simp only[UT,rd,atK,tkK]
        cases J6 st (af.getD i .any)<;>rfl
      |_=>rfl
def alG{α:Type} (b:Bool) (x y:Option α):Option α:=if b=true then x else y
theorem Af7{α:Type}{x y:Option α}:alG false x y=y:=rfl
theorem AgW{α:Type}{x y:Option α}:alG true x y=x:=rfl
theorem AWF{t:TypeId}:CX E mv ⟨d,.alloc t,ty,pos,aft,g⟩ af st K=VH (alG (LK mv d) (RZ E.P t st.next) (CL E.P t st.next)) d K af st:=by
  simp only[CX,DU,VH,alG];cases LK mv d<;>simp only[if_true,if_false,Bool.false_eq_true]
  · cases CL E.P t st.next<;>rfl
  grind
theorem Aey{t:TypeId}{x:Operand}:CX E mv ⟨d,.box t x,ty,pos,aft,g⟩ af st K=ARi (Bq (rd E af t x)) (rd E af t x) d K (stripAt af x) st:=by
  simp only[CX,DU,ARi];cases Bq (rd E af t x)<;>simp
theorem AYV{t:TypeId}{ps:List (Nat×Operand)}:CX E mv ⟨d,.build t ⟨ps⟩,ty,pos,aft,g⟩ af st K=NV (PO E t (BI E (AJ E.P t) af ps).2) d K (BI E (AJ E.P t) af ps).1 st:=by
  simp only[CX,DU,NV];cases PO E t (BI E (AJ E.P t) af ps).2<;>rfl
def bsK (b:Bool) (u:Option (Nat×List AVal)) (v:Option AVal) (n:Nat) (d:Option Tmp) (K:List AVal→St→Prop) (af1 af:List AVal) (st:St):Prop:=
  if b=true then(match u with|some p=>K (AX af1 d (.gsl p.1 st.next n)) {m:=(st.next,p.2)::st.m,next:=st.next+1}|none=>False)else NV v d K af st
theorem ASU{u:Option (Nat×List AVal)}{v:Option AVal}{n:Nat}{af1:List AVal}:bsK false u v n d K af1 af st=NV v d K af st:=by simp[bsK]
theorem Vb{v:Option AVal}{n w:Nat}{cs af1:List AVal}:bsK true (some (w,cs)) v n d K af1 af st=K (AX af1 d (.gsl w st.next n)) {m:=(st.next,cs)::st.m,next:=st.next+1}:=by simp[bsK]
theorem XG{t:TypeId}{n:Nat}{ps:List (Nat×Operand)}:CX E mv ⟨d,.buildSlice t n ⟨ps⟩,ty,pos,aft,g⟩ af st K=bsK (LK mv d) (GL E t n (BI E (fun _=>AJ E.P t 0) af ps).2) (Ew E t n (BI E (fun _=>AJ E.P t 0) af ps).2) n d K (BI E (fun _=>AJ E.P t 0) af ps).1 af st:=by
  simp only[CX,DU,NV,bsK]
  cases LK mv d
  · simp only[Bool.false_eq_true,if_false];cases Ew E t n (BI E (fun _=>AJ E.P t 0) af ps).2<;>rfl
  · simp only[if_true];cases GL E t n (BI E (fun _=>AJ E.P t 0) af ps).2<;>rfl
theorem AaM{t:TypeId}{x:Operand}:CX E mv ⟨d,.load t x,ty,pos,aft,g⟩ af st K=ldK (LK mv d) t (rd E af 0 x) E d K af st:=by
  simp only[CX,DU,ldK,MP,J4]
  cases LK mv d
  · simp only[Bool.false_eq_true,if_false];cases Nj E t (rd E af 0 x) st<;>rfl
  · simp only[if_true];cases NK E t (rd E af 0 x) st<;>rfl
theorem AU3{t:TypeId}{x y:Operand}:CX E mv ⟨none,.store t x y,ty,pos,aft,g⟩ af st K=OV (Kj E t (rd E af 0 x) (rd E af t y) st) K (stripAt af y):=by
  simp only[CX,DU,OV,Option.isNone_none,if_true];cases Kj E t (rd E af 0 x) (rd E af t y) st<;>rfl
theorem AKq{t n:Nat}:CX E mv ⟨d,.extract (.tmp t) n,ty,pos,aft,g⟩ af st K=NV (AL7 (af.getD t .any) n) d K (af.set t (AMt (af.getD t .any) n)) st:=by
  grind[CX,DU,AL7,AMt,NV,List.getD]
theorem AVl{t:TypeId}{x:Operand}{lo hi mx:Option Operand}:CX E mv ⟨d,.slice t x lo hi mx,ty,pos,aft,g⟩ af st K=Vz E t (rd E af t x) (rdo E af lo) (rdo E af hi) (rdo E af mx) d K af st:=by
  simp only[CX,DU,Vz]
  cases rdo E af lo<;>cases rdo E af hi<;>cases rdo E af mx<;>(try rfl)
  simp only[AYi]
  cases EF E t (rd E af t x) _ _ _ with
  |some r=>rfl
  |none=>simp only[];cases ND E t (rd E af t x) _ _ _ st<;>rfl
def VF (g:Bool) (x:AVal) (d:Option Tmp) (K:List AVal→St→Prop) (af:List AVal) (st:St):Prop:=match x with|.str s=>if g=true then K (AX af d (.iter s 0)) st else False|_=>False
theorem AYC{t:TypeId}{x:Operand}:CX E mv ⟨d,.range t x,ty,pos,aft,g⟩ af st K=VF (Ce E.P t) (rd E af t x) d K af st:=by
  grind[CX,DU,VF,rd,Ce]
theorem ANR{s:List UInt8}:VF true (.str s) d K af st=K (AX af d (.iter s 0)) st:=rfl
def VX (x:AVal) (t:Tmp) (d:Option Tmp) (K:List AVal→St→Prop) (af:List AVal) (st:St):Prop:=match x with|.iter s pos=>K (YD s pos t d af) st|_=>False
theorem Aad{t:Tmp}:CX E mv ⟨d,.next (.tmp t) true,ty,pos,aft,g⟩ af st K=VX (af.getD t .any) t d K af st:=by
  simp only[CX,DU,VX]
  cases af.getD t .any<;>rfl
theorem ANd{t:Tmp}{s:List UInt8}{p:Nat}:VX (.iter s p) t d K af st=if decide (p<s.length)=true then K (AX (af.set t (.iter s (p+(C8 s p).2))) d (.tuple [.bool true,.int .i64 p,.int .i32 (C8 s p).1])) st else K (AX af d (.tuple [.bool false])) st:=by
  simp only[VX,YD];split<;>rfl
theorem Aa0:JI (.any)=false:=rfl
theorem AYn{b:Bool}:JI (.bool b)=false:=rfl
theorem Abt{k:IntKind}{n:Int}:JI (.int k n)=false:=rfl
theorem Abm{s:List UInt8}:JI (.str s)=false:=rfl
theorem Ab7{c:List AVal}:JI (.agg c)=false:=rfl
theorem AP2{c:List AVal}:JI (.tuple c)=false:=rfl
theorem AS6{w:Nat}{c:List AVal}{o:Bool}:JI (.slice w c o)=false:=rfl
theorem Aag{i f:Nat}:JI (.ptr i f)=false:=rfl
theorem AYE:JI (.nilp)=false:=rfl
theorem AUt{c:List AVal}:JI (.cptr c)=false:=rfl
theorem Aec{f:Fn}{p q:List AVal}:JI (.fn f p q)=false:=rfl
theorem ASX:JI (.nilFn)=false:=rfl
theorem AO5{t:TypeId}{v:AVal}:JI (.iface t v)=false:=rfl
theorem ABc:JI (.nilIface)=false:=rfl
theorem AaE{w i f n:Nat}:JI (.bsl w i f n)=false:=rfl
theorem ARW{i:Nat}{T:TypeId}{n:Nat}:JI (.nself i T n)=false:=rfl
theorem Abh{e:TypeId}{l:List UInt8}{o:Bool}:JI (.buf e l o)=false:=rfl
theorem AVC{e:TypeId}{l:List UInt8}{o:Bool}:JI (.bufp e l o)=false:=rfl
def shS (b:Bool) (x y:Option St):Option St:=if b=true then x else y
theorem AdH{x y:Option St}:shS false x y=y:=by simp[shS]
theorem AdA{x y:Option St}:shS true x y=x:=by simp[shS]
def O0 (E:Env) (t:TypeId) (addr v:AVal) (st:St):Option St:=
  match v with
  | .sh i=>
    match AZ st.m i with
    |some [.slice w xs o]=>if JI addr=false then NB E t addr (.slice w xs o) {st with m:=Ao st.m i [.slice w xs false]}else none
    |_=>NB E t addr (.sh i) st
  |v=>NB E t addr v st
theorem TB{t:TypeId}{x v:AVal}:Kj E t x v st=shS (JI v) (O0 E t x v st) (NB E t x v st):=by
  cases v<;>first|rfl|(simp only[shS,JI,if_true];rfl)
theorem AeE{t:TypeId}{i f:Nat}{v:AVal}:Kj E t (.ptr i f) v st=shS (JI v) (O0 E t (.ptr i f) v st) (TJ E t (.ptr i f) v st):=TB
theorem AN5{t:TypeId}{i w n:Nat}{v:AVal}:Kj E t (.sptr i w n) v st=shS (JI v) (O0 E t (.sptr i w n) v st) (WA E t (.sptr i w n) v st):=TB
def agK (b:Bool) (u:Option (Nat×Nat×List AVal×List (Nat×List AVal)×Option Nat)) (X:Prop) (d:Option Tmp) (K:List AVal→St→Prop) (af:List AVal) (st:St):Prop:=
  if b=true then(match u with|some (wd,l,cs,rest,jo)=> ∀i,i=st.next∨jo=some i→K (AX af d (.gsl wd i l)) {m:=(i,cs)::rest,next:=st.next+1}|none=>False)else X
theorem ARx{u:Option (Nat×Nat×List AVal×List (Nat×List AVal)×Option Nat)}{X:Prop}:agK false u X d K af st=X:=by simp[agK]
theorem ART{w:Nat}{l:List AVal}{o:Bool}:OZ (.slice w l o)=false:=rfl
theorem Aam{l:List UInt8}:OZ (.str l)=false:=rfl
theorem Abd{w i n:Nat}:OZ (.gsl w i n)=true:=rfl
theorem AY7{w:Nat}{l:List AVal}{o:Bool}{y:AVal}:VJ (.slice w l o) y=OZ y:=by simp[VJ,OZ]
theorem AfM{e:TypeId}{l:List UInt8}{o:Bool}{y:AVal}:VJ (.buf e l o) y=OZ y:=by simp[VJ,OZ]
theorem Adq{w i n:Nat}{y:AVal}:VJ (.gsl w i n) y=true:=by simp[VJ,OZ]
theorem Ae5{t0 t1:TypeId}{x:AVal}{w i n:Nat}:appG E t0 t1 x (.gsl w i n) st=AI9 E t0 t1 x (.gsl w i n) st:=rfl
theorem AcR{wd l:Nat}{cs:List AVal}{rest:List (Nat×List AVal)}{jo:Option Nat}{X:Prop}{d:Option Tmp}{K:List AVal→St→Prop}{af:List AVal}{st:St} (h: ∀i,i=st.next∨jo=some i→K (AX af d (.gsl wd i l)) {m:=(i,cs)::rest,next:=st.next+1}):agK true (some (wd,l,cs,rest,jo)) X d K af st:=by grind[agK]
theorem AdS{t0 t1:TypeId}{x:AVal}{l:List UInt8}:appG E t0 t1 x (.str l) st=ASt E t0 t1 x (.str l) st:=rfl
def vpK (v:Option AVal) (y:Option St) (d:Option Tmp) (K:List AVal→St→Prop) (af1 af:List AVal) (st:St):Prop:=
  match v with
  |some r=>K (AX af1 d r) st
  |none=>match y with|some st'=>K (AX af d (.sh st.next)) st'|none=>False
theorem AWA{r:AVal}{y:Option St}{af1:List AVal}:vpK (some r) y d K af1 af st=K (AX af1 d r) st:=rfl
theorem AV7{s:St}{af1:List AVal}:vpK none (some s) d K af1 af st=K (AX af d (.sh st.next)) s:=rfl
def apK (b:Bool) (u v:Option AVal) (y:Option St) (f:Option (AVal×St)) (d:Option Tmp) (K:List AVal→St→Prop) (af af0:List AVal) (st:St):Prop:=
  if b=true then(match u with|some r=>K (AX af d (.sh st.next)) {m:=(st.next,[r])::st.m,next:=st.next+1}|none=>MP f d K af0)else vpK v y d K af af0 st
theorem AQP{u v:Option AVal}{y:Option St}{f:Option (AVal×St)}{af0:List AVal}:apK false u v y f d K af af0 st=vpK v y d K af af0 st:=by simp[apK]
theorem Afz{v:Option AVal}{y:Option St}{f:Option (AVal×St)}{af0:List AVal}:apK true none v y f d K af af0 st=MP f d K af0:=by simp[apK]
theorem AVc{v:Option AVal}{r:AVal}{y:Option St}{f:Option (AVal×St)}{af0:List AVal}:apK true (some r) v y f d K af af0 st=K (AX af d (.sh st.next)) {m:=(st.next,[r])::st.m,next:=st.next+1}:=by simp[apK]
theorem AMS{t:TypeId}:CX E mv ⟨d,.makeMap t none,ty,pos,aft,g⟩ af st K=K (AX af d (.sh st.next)) {m:=(st.next,[.map [] []])::st.m,next:=st.next+1}:=rfl
theorem Tw{t:TypeId}{m k:Operand}{ok:Bool}:CX E mv ⟨d,.lookup t m k ok,ty,pos,aft,g⟩ af st K=NV (PW E t (rd E af t m) (rd E af 0 k) ok st) d K af st:=by
  simp only[CX,DU,NV];cases PW E t (rd E af t m) (rd E af 0 k) ok st<;>rfl
theorem SQ{t:TypeId}{m k x:Operand}:CX E mv ⟨none,.mapUpdate t m k x,ty,pos,aft,g⟩ af st K=OV (QO E t (rd E af t m) (rd E af 0 k) (rd E af 0 x) st) K af:=by
  simp only[CX,DU,OV,Option.isNone_none,if_true];cases QO E t (rd E af t m) (rd E af 0 k) (rd E af 0 x) st<;>rfl
theorem APs{t:TypeId}{m k x:Operand}:CX E mv ⟨none,.insert t m k x,ty,pos,aft,g⟩ af st K=OV (QO E t (rd E af t m) (rd E af 0 k) (rd E af 0 x) st) K af:=by
  simp only[CX,DU,OV,Option.isNone_none,if_true];cases QO E t (rd E af t m) (rd E af 0 k) (rd E af 0 x) st<;>rfl
theorem APd{x y:Operand}{t0 t1:TypeId}{ts:List TypeId}:CX E mv ⟨d,.call {callee:=.builtin .append,args:=⟨[x,y]⟩,argTypes:=⟨t0::t1::ts⟩},ty,pos,aft,g⟩ af st K=agK (VJ (rd E af t0 x) (rd E af t1 y)) (appG E t0 t1 (rd E af t0 x) (rd E af t1 y) st) (apK (LK mv d) (Lb E t0 t1 (rd E af t0 x) (rd E af t1 y)) (GK E t0 t1 (rd E af t0 x) (rd E af t1 y)) (Uq E t0 t1 (rd E af t0 x) (rd E af t1 y) st) (appW E x t0 t1 (rd E af t0 x) (rd E af t1 y) st) d K (stripAt af x) af st) d K af st:=by
  simp only[CX,DU,NV,apK,agK]
  cases VJ (rd E af t0 x) (rd E af t1 y)
  rotate_left
  · first|rfl|(simp only[if_true];done)|(simp only[if_true];rfl)
  simp only[Bool.false_eq_true,if_false]
  cases LK mv d
  · simp only[Bool.false_eq_true,if_false,vpK]
    cases GK E t0 t1 (rd E af t0 x) (rd E af t1 y)with
    |some r=>rfl
    |none=>simp only[];cases Uq E t0 t1 (rd E af t0 x) (rd E af t1 y) st<;>rfl
  · simp only[if_true,MP]
    cases Lb E t0 t1 (rd E af t0 x) (rd E af t1 y)with
    |some r=>rfl
    |none=>simp only[];cases appW E x t0 t1 (rd E af t0 x) (rd E af t1 y) st<;>rfl
theorem Abv{f:Operand}{xs:List Operand}{ts:List TypeId}:CX E mv ⟨d,.call {callee:=.value f,args:=⟨xs⟩,argTypes:=⟨ts⟩},ty,pos,aft,g⟩ af st K=AHC E (rd E af 0 f) (rdL E af xs ts) d K af st:=by
  simp only[CX,AHC]
  rfl
theorem KU{o:Oper} (h:CX E mv o af st K=(match(Cr E o af).map fun r=>(AX af o.dst r.strip,st)with|some (af',st')=>K af' st'|none=>False)):CX E mv o af st K=J4 (Cr E o af) o.dst K af st:=by
  rw[h];simp only[J4];cases Cr E o af<;>rfl
def AU2 (c x y:AVal):Option AVal:=match c with|.bool t=>some (if t=true then x else y)|_=>none
theorem AK5{b:Bool}{x y:AVal}:AU2 (.bool b) x y=some (if b=true then x else y):=rfl
theorem AcO{c x y:Operand}:CX E mv ⟨d,.pick c x y,ty,pos,aft,g⟩ af st K=J4 (AU2 (rd E af 0 c) (rd E af ty x) (rd E af ty y)) d K af st:=KU rfl
theorem AGM{x:Operand}:CX E mv ⟨d,.nilCheck x,ty,pos,aft,g⟩ af st K=J4 (J7 (rd E af 0 x)) d K af st:=KU rfl
def bnK (c b:Bool) (v:AVal) (d:Option Tmp) (K:List AVal→St→Prop) (af:List AVal) (st:St) (X:Prop):Prop:=if c=true then AW8 b v (fun r=>K (AX af d r) st)else X
theorem Agv{b:Bool}{v:AVal}{X:Prop}:bnK false b v d K af st X=X:=by simp[bnK]
theorem Agk{w:Nat}{xs:List AVal}{o:Bool}{X:Prop}:bnK true true (.slice w xs o) d K af st X= ∀c:Bool,(c=true→xs=[])→K (AX af d (.bool c)) st:=by simp[bnK,AW8]
theorem AVM{op:BinOp}{k:Tmp}:QN op (.tmp k)=false:=by cases op<;>rfl
theorem AbA{op:BinOp}{k:FuncId}:QN op (.func k)=false:=by cases op<;>rfl
theorem Afi{op:BinOp}{k:Nat}:QN op (.global k)=false:=by cases op<;>rfl
theorem AVu{op:BinOp}{k:IntKind}{n:Int}:QN op (.const (.int k n))=false:=by cases op<;>rfl
theorem AVg{op:BinOp}{s:ByteArray}:QN op (.const (.string s))=false:=by cases op<;>rfl
theorem AQY{op:BinOp}{s:Bool}:QN op (.const (.bool s))=false:=by cases op<;>rfl
theorem AXq{op:BinOp}{s:Option Addr}:QN op (.const (.pointer s))=false:=by cases op<;>rfl
theorem AWO{op:BinOp}{s:Array Value}:QN op (.const (.agg s))=false:=by cases op<;>rfl
theorem AaI{op:BinOp}:QN op (.const .nilFunc)=false:=by cases op<;>rfl
theorem AcM{op:BinOp}:QN op (.const .nilIface)=false:=by cases op<;>rfl
theorem AWi:QN .eql (.const (.slice none 0 0))=true:=rfl
theorem AY3{op:BinOp}{t u:TypeId}{x y:Operand}:CX E mv ⟨d,.binOp op t x y u,ty,pos,aft,g⟩ af st K=bnK (QN op y) (BG E.P t) (rd E af t x) d K af st (J4 (Dz E op t (rd E af t x) (rd E af t y)) d K af st):=by
  have e:CX E mv ⟨d,.binOp op t x y u,ty,pos,aft,g⟩ af st K=if QN op y=true then AW8 (BG E.P t) (rd E af t x) (fun v=>K (AX af d v) st)else(match(Dz E op t (rd E af t x) (rd E af t y)).map (fun r=>(AX af d r.strip,st))with|some (af',st')=>K af' st'|none=>False):=rfl
  rw[e]
  unfold bnK J4
  split
  · rfl
  · cases Dz E op t (rd E af t x) (rd E af t y)<;>rfl
theorem Aaz{op:UnOp}{t:TypeId}{x:Operand}:CX E mv ⟨d,.unOp op t x,ty,pos,aft,g⟩ af st K=J4 (unA op (rd E af 0 x)) d K af st:=KU rfl
theorem ANr{s t:TypeId}{x:Operand}:CX E mv ⟨d,.convert s t x,ty,pos,aft,g⟩ af st K=MP (ANG (NS E s t (rd E af s x)) (Pq E s t (rd E af s x) st) (NY E s t (rd E af s x) st) st) d K af:=by
  have h:Cr E ⟨d,.convert s t x,ty,pos,aft,g⟩ af=NS E s t (rd E af s x):=rfl
  simp only[CX,DU,MP,h]
  grind[NS,rd,ANG,Pq,NY]
theorem ACB{t:TypeId}{x y:Operand}:CX E mv ⟨d,.makeSlice t x y,ty,pos,aft,g⟩ af st K=MP (alG (LK mv d) (R8 E t (rd E af 0 x) (rd E af 0 y) st) (Si E t (rd E af 0 x) (rd E af 0 y) st)) d K af:=by
  simp only[CX,DU,MP,alG];cases LK mv d<;>simp only[if_true,if_false,Bool.false_eq_true]
  · cases Si E t (rd E af 0 x) (rd E af 0 y) st<;>rfl
  · cases R8 E t (rd E af 0 x) (rd E af 0 y) st<;>rfl
theorem AYx{x:Operand}{t0:TypeId}{ts:List TypeId}:CX E mv ⟨d,.call {callee:=.builtin .unsafeSliceData,args:=⟨[x]⟩,argTypes:=⟨t0::ts⟩},ty,pos,aft,g⟩ af st K=NV (PI (rd E af t0 x)) d K (stripAt af x) st:=by
  simp only[CX,DU,NV];cases PI (rd E af t0 x)<;>rfl
theorem AaF{x y:Operand}{t0 t1:TypeId}:CX E mv ⟨d,.call {callee:=.builtin .unsafeString,args:=⟨[x,y]⟩,argTypes:=⟨[t0,t1]⟩},ty,pos,aft,g⟩ af st K=NV (SG E t0 (rd E af t0 x) (rd E af t1 y)) d K (stripAt af x) st:=by
  simp only[CX,DU,NV];cases SG E t0 (rd E af t0 x) (rd E af t1 y)<;>rfl
theorem AHK{f:Fn}{p q:List Operand}:CX E mv ⟨d,.makeFunc f ⟨p⟩ ⟨q⟩,ty,pos,aft,g⟩ af st K=K (AX af d (AVal.fn f (p.map (rd E af 0)) (q.map (rd E af 0))).strip) st:=KU rfl
theorem AC7{s:TypeId}{x:Operand}{f:Nat}:CX E mv ⟨d,.fieldAddr s x f,ty,pos,aft,g⟩ af st K=J4 (Kb E s (rd E af 0 x) f) d K af st:=KU rfl
theorem AYF{s:TypeId}{x:Operand}{f:Nat}:CX E mv ⟨d,.field s x f,ty,pos,aft,g⟩ af st K=J4 (Q6 E s (rd E af s x) f) d K af st:=KU rfl
def ixV (y:Option AVal) (st:St):Option (AVal×St):=match y with|some r=>some (r,st)|none=>none
theorem AU9{r:AVal}:ixV (some r) st=some (r,st):=rfl
theorem ABM{t:TypeId}{x i:Operand}:CX E mv ⟨d,.indexAddr t x i,ty,pos,aft,g⟩ af st K=MP (ANG (CV E t (rd E af t x) (rd E af 0 i)) (Eo E t (rd E af t x) (rd E af 0 i) st) (ixV (MU E t (rd E af t x) (rd E af 0 i) st) st) st) d K af:=by
  have h:Cr E ⟨d,.indexAddr t x i,ty,pos,aft,g⟩ af=CV E t (rd E af t x) (rd E af 0 i):=rfl
  simp only[CX,DU,MP,h]
  cases CV E t (rd E af t x) (rd E af 0 i)with
  |some r=>rfl
  | none=>
    simp only[ANG]
    cases Eo E t (rd E af t x) (rd E af 0 i) st with
    |some r=>rfl
    |none=>simp only[ixV];cases MU E t (rd E af t x) (rd E af 0 i) st<;>rfl
theorem AVV{t:TypeId}{x i:Operand}:CX E mv ⟨d,.index t x i,ty,pos,aft,g⟩ af st K=J4 (O5 E t (rd E af t x) (rd E af 0 i)) d K af st:=KU rfl
def lnK (x y:Option AVal) (d:Option Tmp) (K:List AVal→St→Prop) (af:List AVal) (st:St):Prop:=
  match x with
  |some r=>K (AX af d r.strip) st
  |none=>NV y d K af st
theorem AVK{r:AVal}{y:Option AVal}:lnK (some r) y d K af st=K (AX af d r.strip) st:=rfl
theorem AXK{y:Option AVal}:lnK none y d K af st=NV y d K af st:=rfl
theorem Ae0{x:Operand}{t:TypeId}{ts:List TypeId}:CX E mv ⟨d,.call {callee:=.builtin .len,args:=⟨[x]⟩,argTypes:=⟨t::ts⟩},ty,pos,aft,g⟩ af st K=lnK (NA E t (rd E af t x)) (V7 E t (rd E af t x) st) d K af st:=by
  have h:Cr E ⟨d,.call {callee:=.builtin .len,args:=⟨[x]⟩,argTypes:=⟨t::ts⟩},ty,pos,aft,g⟩ af=NA E t (rd E af t x):=rfl
  simp only[CX,DU,lnK,h,NV]
  cases NA E t (rd E af t x)with
  |some r=>rfl
  |none=>simp only[];cases V7 E t (rd E af t x) st<;>rfl
def lvR (b:Bool) (y:Option (Nat×Nat×List AVal)):Option AVal:=match y with|some (_,_,xs)=>if b=true then some (.int .i64 xs.length)else none|none=>none
theorem AgY{t:TypeId}{i:Nat}:V7 E t (.sh i) st=lvR (BG E.P t) (J6 st (.sh i)):=by unfold lvR V7;rfl
theorem AU7{i w:Nat}{xs:List AVal}:lvR true (some (i,w,xs))=some (.int .i64 xs.length):=by simp[lvR]
theorem Afa{t:TypeId}{i:Nat}:NA E t (.sh i)=none:=rfl
theorem Adb{x:Operand}{t:TypeId}{ts:List TypeId}:CX E mv ⟨d,.call {callee:=.builtin .cap,args:=⟨[x]⟩,argTypes:=⟨t::ts⟩},ty,pos,aft,g⟩ af st K=J4 (AXw E t (rd E af t x)) d K af st:=KU rfl
theorem AcT{x y:Operand}{t s:TypeId}:CX E mv ⟨d,.call {callee:=.builtin .copy,args:=⟨[x,y]⟩,argTypes:=⟨[t,s]⟩},ty,pos,aft,g⟩ af st K=J4 (AOj E t (rd E af t x) (rd E af s y)) d K af st:=KU rfl
theorem Ae2{x y:Operand}{ts:Array TypeId}:CX E mv ⟨d,.call {callee:=.builtin .min,args:=⟨[x,y]⟩,argTypes:=ts},ty,pos,aft,g⟩ af st K=J4 (AP1 (rd E af 0 x) (rd E af 0 y)) d K af st:=KU rfl
theorem AdX{x y:Operand}{ts:Array TypeId}:CX E mv ⟨d,.call {callee:=.builtin .max,args:=⟨[x,y]⟩,argTypes:=ts},ty,pos,aft,g⟩ af st K=J4 (AQv (rd E af 0 x) (rd E af 0 y)) d K af st:=KU rfl
def gdD (d:Option Tmp) (af:List AVal) (want:Bool):Option Bool:=match d with|some i=>gd (af.getD i .any) want|none=>none
def La:List Oper→Nat→Option Tmp
  |[],_=>none
  |o::_,0=>o.dst
  |_::os,n+1=>La os n
theorem AUq (os:List Oper) (j:Nat):La os j=((List.toArray os)[j]?).bind (·.dst):=by
  rw[List.getElem?_toArray]
  induction os generalizing j with
  |nil=>simp[La]
  | cons o os ih=>cases j with
    |zero=>simp[La]
    |succ j=>grind[La]
theorem AMK (os:List Oper) (j:Nat) (want:Bool):gdA ⟨os⟩ af j want=gdD (La os j) af want:=by
  rw[AUq];rfl
theorem AbS:JJ E mv ops [] K af st=K af st:=rfl
theorem AXe{op:Op}{os:List Oper}:JJ E mv ops (⟨d,op,ty,pos,aft,none⟩::os) K af st=CX E mv ⟨d,op,ty,pos,aft,none⟩ af st (JJ E mv ops os K):=rfl
theorem ARo{op:Op}:KO E ops ⟨d,op,ty,pos,aft,none⟩ af st=DZ E ⟨d,op,ty,pos,aft,none⟩ af st:=rfl
theorem AbU{op:Op}{os':List Oper}{j:Nat}{want:Bool}:KO E ⟨os'⟩ ⟨d,op,ty,pos,aft,some (j,want)⟩ af st=
    if gdD (La os' j) af want=some true then DZ E ⟨d,op,ty,pos,aft,some (j,want)⟩ af st else if gdD (La os' j) af want=some false then some (.tuple [])else none:=by
  grind[KO,AMK,gdD,La]
def Ka (x:Option AVal):Option AVal:=x.map AVal.strip
theorem AF4{r:AVal}:Ka (some r)=some r.strip:=rfl
theorem Acl{x:Operand}:DZ E ⟨d,.move x,ty,pos,aft,g⟩ af st=some (rd E af ty x).strip:=rfl
theorem AbF{t:TypeId}{x:Operand}:DZ E ⟨d,.load t x,ty,pos,aft,g⟩ af st=Ka (Nj E t (rd E af 0 x) st):=rfl
def AL9 (E:Env) (t:TypeId) (x:AVal) (lo hi mx:Option (Option Int)):Option AVal:=match lo,hi,mx with|some l,some h,some m=>EF E t x l h m|_,_,_=>none
theorem AHz{t:TypeId}{x:AVal}{lo hi mx:Option Int}:AL9 E t x (some lo) (some hi) (some mx)=EF E t x lo hi mx:=rfl
theorem AYf{t:TypeId}{x:Operand}{lo hi mx:Option Operand}:DZ E ⟨d,.slice t x lo hi mx,ty,pos,aft,g⟩ af st=AL9 E t (rd E af t x) (rdo E af lo) (rdo E af hi) (rdo E af mx):=by
  grind[DZ,AL9,rdo]
theorem XD{t:TypeId}{n:Nat}{ps:List (Nat×Operand)}:DZ E ⟨d,.buildSlice t n ⟨ps⟩,ty,pos,aft,g⟩ af st=Ew E t n (BI E (fun _=>AJ E.P t 0) af ps).2:=rfl
theorem AbN{c x y:Operand}:DZ E ⟨d,.pick c x y,ty,pos,aft,g⟩ af st=Ka (AU2 (rd E af 0 c) (rd E af ty x) (rd E af ty y)):=rfl
theorem AGC{x:Operand}:DZ E ⟨d,.nilCheck x,ty,pos,aft,g⟩ af st=Ka (J7 (rd E af 0 x)):=rfl
theorem AUu{op:BinOp}{t u:TypeId}{x y:Operand}:DZ E ⟨d,.binOp op t x y u,ty,pos,aft,g⟩ af st=Ka (Dz E op t (rd E af t x) (rd E af t y)):=rfl
theorem AaL{op:UnOp}{t:TypeId}{x:Operand}:DZ E ⟨d,.unOp op t x,ty,pos,aft,g⟩ af st=Ka (unA op (rd E af 0 x)):=rfl
theorem AMd{s t:TypeId}{x:Operand}:DZ E ⟨d,.convert s t x,ty,pos,aft,g⟩ af st=Ka (NS E s t (rd E af s x)):=rfl
theorem AHS{f:Fn}{p q:List Operand}:DZ E ⟨d,.makeFunc f ⟨p⟩ ⟨q⟩,ty,pos,aft,g⟩ af st=some (AVal.fn f (p.map (rd E af 0)) (q.map (rd E af 0))).strip:=rfl
theorem ZB{s:TypeId}{x:Operand}{f:Nat}:DZ E ⟨d,.fieldAddr s x f,ty,pos,aft,g⟩ af st=Ka (Kb E s (rd E af 0 x) f):=rfl
theorem AYL{s:TypeId}{x:Operand}{f:Nat}:DZ E ⟨d,.field s x f,ty,pos,aft,g⟩ af st=Ka (Q6 E s (rd E af s x) f):=rfl
def ixO (x y z:Option AVal):Option AVal:=match x with|some r=>some r.strip|none=>match y with|some _=>none|none=>z
theorem AUw{r:AVal}{y z:Option AVal}:ixO (some r) y z=some r.strip:=rfl
theorem AXk{z:Option AVal}:ixO none none z=z:=rfl
theorem ADn{t:TypeId}{x i:Operand}:DZ E ⟨d,.indexAddr t x i,ty,pos,aft,g⟩ af st=ixO (CV E t (rd E af t x) (rd E af 0 i)) (Eo E t (rd E af t x) (rd E af 0 i) st) (MU E t (rd E af t x) (rd E af 0 i) st):=rfl
theorem AU5{t:TypeId}{x i:Operand}:DZ E ⟨d,.index t x i,ty,pos,aft,g⟩ af st=Ka (O5 E t (rd E af t x) (rd E af 0 i)):=rfl
def lnO (x y:Option AVal):Option AVal:=match x with|some r=>some r.strip|none=>y
theorem AYv{r:AVal}{y:Option AVal}:lnO (some r) y=some r.strip:=rfl
theorem AYB{y:Option AVal}:lnO none y=y:=rfl
theorem Adn{x:Operand}{t:TypeId}{ts:List TypeId}:DZ E ⟨d,.call {callee:=.builtin .len,args:=⟨[x]⟩,argTypes:=⟨t::ts⟩},ty,pos,aft,g⟩ af st=lnO (NA E t (rd E af t x)) (V7 E t (rd E af t x) st):=rfl
theorem Adg{x:Operand}{t:TypeId}{ts:List TypeId}:DZ E ⟨d,.call {callee:=.builtin .cap,args:=⟨[x]⟩,argTypes:=⟨t::ts⟩},ty,pos,aft,g⟩ af st=Ka (AXw E t (rd E af t x)):=rfl
theorem Afk{x y:Operand}{ts:Array TypeId}:DZ E ⟨d,.call {callee:=.builtin .min,args:=⟨[x,y]⟩,argTypes:=ts},ty,pos,aft,g⟩ af st=Ka (AP1 (rd E af 0 x) (rd E af 0 y)):=rfl
theorem AeO{x y:Operand}{ts:Array TypeId}:DZ E ⟨d,.call {callee:=.builtin .max,args:=⟨[x,y]⟩,argTypes:=ts},ty,pos,aft,g⟩ af st=Ka (AQv (rd E af 0 x) (rd E af 0 y)):=rfl
theorem AeX{op:Op}:gWp E mv ops ⟨d,op,ty,pos,aft,none⟩ af st K=CX E mv ⟨d,op,ty,pos,aft,none⟩ af st K:=rfl
theorem AgK:gd (.bool true) true=some true:=rfl
theorem AgU:gd (.bool true) false=some false:=rfl
theorem Afy:gd (.bool false) true=some false:=rfl
theorem Agg:gd (.bool false) false=some true:=rfl
theorem AVG{want:Bool}:gd (.tuple []) want=some false:=rfl
theorem AVw{i:Nat}{want:Bool}:gdD (some i) af want=gd (af.getD i .any) want:=rfl
def opAt:List Oper→Nat→Option Oper
  |[],_=>none
  |o::_,0=>some o
  |_::os,n+1=>opAt os n
theorem YI (os:List Oper) (j:Nat):opAt os j=(List.toArray os)[j]?:=by
  rw[List.getElem?_toArray]
  induction os generalizing j with
  |nil=>simp[opAt]
  | cons o os ih=>cases j with
    |zero=>simp[opAt]
    |succ j=>grind[opAt]
def tkR (E:Env) (mv:List Tmp) (os:List Oper) (x:Option AVal) (i:Nat) (d:Option Tmp) (p:Plan) (tv:List (Nat×AVal)) (K:List AVal→St→Prop) (af:List AVal) (st:St):Prop:=
  match x with|some r=>Eu E mv ⟨os⟩ p ((i,r)::tv) K (AX af d r) st|none=>False
def tkO (E:Env) (mv:List Tmp) (os:List Oper) (x:Option Oper) (i:Nat) (p:Plan) (tv:List (Nat×AVal)) (K:List AVal→St→Prop) (af:List AVal) (st:St):Prop:=
  match x with|some o=>tkR E mv os (KO E ⟨os⟩ o af st) i o.dst p tv K af st|none=>False
def AUd (E:Env) (mv:List Tmp) (os:List Oper) (chk:List Nat) (p:Plan) (tv:List (Nat×AVal)) (K:List AVal→St→Prop) (af:List AVal) (st:St):Prop:=
  NJ E ⟨os⟩ tv af st chk∧Eu E mv ⟨os⟩ p tv K af st
def AaK (E:Env) (mv:List Tmp) (os:List Oper) (x:Option Oper) (chk:List Nat) (p:Plan) (tv:List (Nat×AVal)) (K:List AVal→St→Prop) (af:List AVal) (st:St):Prop:=
  match x with|some o=>gWp E mv ⟨os⟩ o af st (AUd E mv os chk p tv K)|none=>False
def AgF (E:Env) (os:List Oper) (x:Option AVal) (o:Option Oper) (af:List AVal) (st:St):Prop:=
  match x,o with|some r,some o=>KO E ⟨os⟩ o af st=some r|_,_=>False
variable{os:List Oper}{tv:List (Nat×AVal)}{p rest:Plan}{chk:List Nat}{i:Nat}
theorem AYX{op:Op}:tkO E mv os (some ⟨d,op,ty,pos,aft,g⟩) i p tv K af st=tkR E mv os (KO E ⟨os⟩ ⟨d,op,ty,pos,aft,g⟩ af st) i d p tv K af st:=rfl
theorem AUK{r:AVal}:tkR E mv os (some r) i d p tv K af st=Eu E mv ⟨os⟩ p ((i,r)::tv) K (AX af d r) st:=rfl
theorem APl{o:Oper}:AaK E mv os (some o) chk p tv K af st=gWp E mv ⟨os⟩ o af st (AUd E mv os chk p tv K):=rfl
theorem AXE:AUd E mv os chk p tv K af st=(NJ E ⟨os⟩ tv af st chk∧Eu E mv ⟨os⟩ p tv K af st):=rfl
theorem ASa:Eu E mv ⟨os⟩ .done tv K af st=K af st:=rfl
theorem AQZ:Eu E mv ⟨os⟩ .stop tv K af st=True:=rfl
theorem AST:Eu E mv ⟨os⟩ (.take i p) tv K af st=tkO E mv os (opAt os i) i p tv K af st:=by
  rw[YI];rfl
theorem AXg:Eu E mv ⟨os⟩ (.alt i chk p rest) tv K af st=(AaK E mv os (opAt os i) chk p tv K af st∧Eu E mv ⟨os⟩ rest tv K af st):=by
  rw[YI];rfl
theorem Ab2:NJ E ⟨os⟩ tv af st []=True:=rfl
theorem AU4{k:Nat}{ks:List Nat}:NJ E ⟨os⟩ tv af st (k::ks)=(AgF E os (Ro tv k) (opAt os k) af st∧NJ E ⟨os⟩ tv af st ks):=by
  rw[YI];rfl
theorem ARS{r:AVal}{o:Oper}:AgF E os (some r) (some o) af st=(KO E ⟨os⟩ o af st=some r):=rfl
end ops
end
end Go.VM
set_option linter.unusedVariables false
namespace Go.VM
def grd{α:Type} (c:Prop) [Decidable c] (x:Option α):Option α:=if c then x else none
def Ack{α:Type} (x:Option α):Option α:=x
theorem AOe{α:Type}{x:Option α}:Ack x=x:=rfl
inductive PC where
  |k
  |w
  |v (x:AVal)
inductive BX where
  |k
  |d
  |s (c:List AVal)
  |t (c:Nat→List AVal)
  |p (ps:List PC)
inductive JD (α:Type) where
  |z
  |a (id:Nat×Nat) (js:List (Nat×Nat)) (cs:List Tmp) (V:α→List AVal)
  |b (id:Nat×Nat) (js:List (Nat×Nat)) (cs:List Tmp) (V:α→List AVal) (Ms:α→List BX)
  |n (id:Nat×Nat) (js:List (Nat×Nat)) (cs:List Tmp) (p:Tmp) (V:α→Nat→List AVal) (Ms:α→Nat→List BX) (C:α→Nat→List AVal)
def AA{α β:Type} (k:α→Option β) (body:(α→Option β)→Option β) (d:JD α:=.z):Option β:=body k
theorem WG{α:Type}{c:Prop} [Decidable c]{x:Option α}{r:α} (h:grd c x=some r):c∧x=some r:=by
  grind[grd]
theorem bind_some{α β:Type}{x:Option α}{f:α→Option β}{r:β} (h:Option.bind x f=some r): ∃y,x=some y∧f y=some r:=by
  cases x with
  |none=>cases h
  |some y=>grind
def letL{α β:Type} (x:α) (f:α→Option β):Option β:=f x
def idx{α:Type} (l:List α) (i:Int):Option α:=if 0≤i then l[i.toNat]? else none
def sub{α:Type} (l:List α) (a b:Int):Option (List α):=if 0≤a∧a≤b∧b≤l.length then some ((l.drop a.toNat).take (b.toNat-a.toNat))else none
theorem AOk{α:Type}{l:List α}{n:Int}{x:α} (h:idx l n=some x):l[n.toNat]?=some x:=by
  unfold idx at h;split at h<;>simp_all
theorem AaX{α β:Type} (f:α→β) (l:List α) (i:Int):idx (l.map f) i=(idx l i).map f:=by
  unfold idx;split<;>simp
class EO (α:Type) (f:outParam (α→AVal)):Prop
theorem AgO{α:Type}{f:α→AVal} [EO α f]{a b:List α} (c:a=b):List.map f a=List.map f b:=congrArg _ c
theorem AcK{α β:Type} (f:α→β) (l:List α) (a b:Int):sub (l.map f) a b=(sub l a b).map (List.map f):=by
  unfold sub;simp only[List.length_map];split<;>simp[List.map_take,List.map_drop]
def CG (n b:Nat):Prop:=n * b≤140737488355328∧n≤4611686018427387904
instance (n b:Nat):Decidable (CG n b):=by unfold CG;infer_instance
def AB (n:Nat):Prop:=n≤4611686018427387904
instance (n:Nat):Decidable (AB n):=by unfold AB;infer_instance
def wr (k:IntKind) (n:Int):Int:=k.wrap n
def Pk (k:IntKind) (a b:Int):Int:=k.wrap (BitVec.ofInt k.bits a&&&BitVec.ofInt k.bits b).toNat
def Qo (k:IntKind) (a b:Int):Int:=k.wrap (BitVec.ofInt k.bits a|||BitVec.ofInt k.bits b).toNat
def AOC (k:IntKind) (a b:Int):Int:=k.wrap (BitVec.ofInt k.bits a^^^BitVec.ofInt k.bits b).toNat
def Va (k:IntKind) (a b:Int):Int:=k.wrap (BitVec.ofInt k.bits a&&& ~~~ BitVec.ofInt k.bits b).toNat
def AYO (k:IntKind) (x y:Int):Int:=k.wrap (x * 2^min y.toNat k.bits)
def AUJ (k:IntKind) (x y:Int):Int:=x.fdiv (2^min y.toNat k.bits)
section
variable{E:Env}{st:St}{af:List AVal}
def AeF (e:Option Nat) (w:Nat) (y:Option AVal):Option AVal:=
  match y with
  |some y=>if e=some w∧(AQ y).length=w then some (.cptr (AQ y))else none
  |none=>none
theorem AW4{t:TypeId}{w:Nat}{xs:List AVal}{o:Bool}{k:IntKind}{n:Int}:CV E t (.slice w xs o) (.int k n)=AeF (BP E.P t) w (idx xs n):=by
  simp only[CV,AeF,idx]
  by_cases h1:BP E.P t=some w<;>by_cases h2:0≤n<;>simp[h1,h2]<;>cases xs[n.toNat]?<;>simp
theorem AS5{e:Option Nat}{w:Nat}{y:AVal}:AeF e w (some y)=if e=some w∧(AQ y).length=w then some (.cptr (AQ y))else none:=rfl
def AfG (b:Bool) (x:Option UInt8):Option AVal:=match x with|some c=>if b=true then some (.int .u8 c.toNat)else none|none=>none
theorem AfZ{t:TypeId}{s:List UInt8}{k:IntKind}{n:Int}:O5 E t (.str s) (.int k n)=AfG (Ce E.P t) (idx s n):=by
  simp only[O5,AfG,idx]
  cases Ce E.P t<;>by_cases h2:0≤n<;>simp[h2]<;>cases s[n.toNat]?<;>simp
theorem AP7{c:UInt8}:AfG true (some c)=some (.int .u8 (AY c)):=rfl
def Ad5 (b:Bool) (x:Option (List UInt8)):Option AVal:=match x with|some s=>if b=true then some (.str s)else none|none=>none
theorem AeD{t:TypeId}{s:List UInt8}{lo hi:Option Int}:EF E t (.str s) lo hi none=Ad5 (Ce E.P t) (sub s (lo.getD 0) (hi.getD s.length)):=by
  simp only[EF,Ad5,sub]
  by_cases h:0≤lo.getD 0∧lo.getD 0≤hi.getD s.length∧hi.getD s.length≤s.length
  · rw[if_pos h]
    cases Ce E.P t
    · rw[if_neg (by simp)];rfl
    · rw[if_pos ⟨rfl,trivial,h⟩];rfl
  · rw[if_neg h,if_neg (fun k=>h k.2.2)]
theorem AQN{s:List UInt8}:Ad5 true (some s)=some (.str s):=rfl
def Z7 (e:Option Nat) (w:Nat) (o:Bool) (x:Option (List AVal)):Option AVal:=match x with|some s=>if e=some w then some (.slice w s o)else none|none=>none
theorem AV5{t:TypeId}{w:Nat}{xs:List AVal}{o:Bool}{lo hi:Option Int}:EF E t (.slice w xs o) lo hi none=Z7 (BP E.P t) w false (sub xs (lo.getD 0) (hi.getD xs.length)):=by
  grind[EF,Z7,sub,BP]
theorem AQO{t:TypeId}{w:Nat}{xs:List AVal}{o:Bool}{lo:Option Int}{h:Int}:EF E t (.slice w xs o) lo (some h) (some h)=Z7 (BP E.P t) w true (sub xs (lo.getD 0) h):=by
  grind[EF,Z7,sub,BP]
theorem APw{w:Nat}{o:Bool}{s:List AVal}:Z7 (some w) w o (some s)=some (.slice w s o):=by simp[Z7]
def ANO (e:Option (Nat×Nat)) (i:Option IntKind) (b:Bool) (wd:Nat) (xs:List AVal) (ys:Option (List AVal)):Option AVal:=
  match e,ys with
  |some (z,by_),some ys=>if z=wd∧i=none∧b=true∧CG (xs.length+ys.length) by_ then some (.slice wd (xs++ys) true)else none
  |_,_=>none
set_option linter.unusedSimpArgs false in
theorem AY8{t0 t1:TypeId}{wd:Nat}{xs:List AVal}{y:AVal}:GK E t0 t1 (.slice wd xs true) y=ANO (G5 E.P t0) (E5 E.P t1) (Ab E.P t1) wd xs (Ld wd y):=by
  simp only[GK,KL,ANO]
  rcases G5 E.P t0 with _|⟨z,b⟩<;>rcases Ld wd y with _|ys<;>try rfl
theorem APG{wd by_:Nat}{xs ys:List AVal}:ANO (some (wd,by_)) none true wd xs (some ys)=if CG (xs.length+ys.length) by_ then some (.slice wd (xs++ys) true)else none:=by simp[ANO]
theorem AKr{wd:Nat}{ys:List AVal}{o:Bool}:Ld wd (.slice wd ys o)=some ys:=by simp[Ld]
theorem AXP{l:List UInt8}:Ld 1 (.str l)=some ((l.map AY).map (.int .u8)):=by simp[Ld,AY]
def apB (i:Bool) (e:Option (Nat×Nat)) (n:Option IntKind) (b:Bool) (el:TypeId) (l m:List UInt8):Option AVal:=
  match i,e,n,b with
  |true,some (1,by_),none,true=>if CG (l.length+m.length) by_ then some (.buf el (l++m) true)else none
  |_,_,_,_=>none
theorem AWq{by_:Nat}{el:TypeId}{l m:List UInt8}:apB true (some (1,by_)) none true el l m=if CG (l.length+m.length) by_ then some (.buf el (l++m) true)else none:=rfl
theorem Ae3{t0 t1 el:TypeId}{l m:List UInt8}:GK E t0 t1 (.buf el l true) (.str m)=apB (Vf E.P t0 el) (G5 E.P t0) (E5 E.P t1) (Ab E.P t1) el l m:=by
  have hl:(u8s l).length=l.length:=by simp[u8s]
  cases h1:Vf E.P t0 el
  · grind[GK,apB]
  rcases h2:G5 E.P t0 with _|⟨z,by_⟩
  · grind[GK,KL,apB]
  cases h3:E5 E.P t1
  · cases h4:Ab E.P t1
    · grind[GK,KL,Ld,apB]
    · by_cases hz:z=1
      · subst hz
        rw[AWq]
        by_cases hf:CG (l.length+m.length) by_
        · have hf':=hf
          unfold CG at hf'
          simp[GK,KL,h1,h2,h3,h4,Ld,hl,hf,Bl]
          exact hf'
        · have hf':=hf
          unfold CG at hf'
          simp[GK,KL,h1,h2,h3,h4,Ld,hl,hf,Bl]
          intro k1
          have:=fun k2=>hf' ⟨k1,k2⟩
          omega
      · have:apB true (some (z,by_)) none true el l m=none:=by
          unfold apB
          split
          · rename_i e1 e2 e3 e4;cases e2;exact absurd rfl hz
          · rfl
        rw[this]
        simp[GK,KL,h2,h3,h4,Ld,hz]
  grind[GK,KL,Ld,apB]
theorem AcE{a b:List UInt8}:V9 .add a b=if AB (a.length+b.length)then some (.str (a++b))else none:=by simp only[V9,Bl];by_cases h:a.length+b.length≤4611686018427387904<;>simp[h,AB]
theorem AAo{i:Nat}{c:List AVal}{m:List (Nat×List AVal)}:AZ ((i,c)::m) i=some c:=by simp[AZ]
theorem R9{i j:Nat}{c:List AVal}{m:List (Nat×List AVal)} (h:i≠j):AZ ((j,c)::m) i=AZ m i:=by grind[AZ]
theorem AOc{i:Nat}{c x:List AVal}{m:List (Nat×List AVal)}:Ao ((i,c)::m) i x=(i,x)::m:=by simp[Ao]
theorem AOz{i j:Nat}{c x:List AVal}{m:List (Nat×List AVal)} (h:i≠j):Ao ((j,c)::m) i x=(j,c)::Ao m i x:=by grind[Ao]
theorem ACall.of{f:FuncId}{args args':List AVal}{Q Q':AVal→St→Prop} (hc:ACall E f args' st Q') (ha:args=args') (hq: ∀r st',st.next≤st'.next→Q' r st'→Q r st'):ACall E f args st Q:=by
  subst ha;exact hc.mono hq
def Oc:List AVal→AVal
  |[r]=>r
  |rs=>.tuple rs
theorem IA{fn:Func}{Q:AVal→St→Prop}{xs:List AVal}{st':St}{m:List (Nat×List AVal)} (h:Me E fn.results.toList af st=some (xs,st')) (hm:m.Sublist st'.m)
    (hq:Q (Oc xs) {st' with m:=m}):H5 E fn Q .ret af st:=by
  unfold H5;rw[h];exact⟨m,hm,hq⟩
theorem IP{fn:Func}{Q:AVal→St→Prop}{xs:List AVal}{st':St}{m:List (Nat×List AVal)} (h:Me E fn.results.toList af st=some (xs,st')) (hm:m.Sublist st'.m)
    (hq:Q (Oc xs) {st' with m:=m}):H5 E fn Q .normal af st:=by
  unfold H5;rw[h];exact⟨m,hm,hq⟩
theorem AWp.congr{c:Code}{Q:APost}{af':List AVal} (h:af=af') (k:AWp E c Q af' st):AWp E c Q af st:=h▸k
def stripB:List Bool→List AVal→List AVal
  |true::bs,x::xs=>x.strip::stripB bs xs
  |false::bs,x::xs=>x::stripB bs xs
  |[],xs=>xs
  |_::_,[]=>[]
theorem OA: ∀(bs:List Bool) (xs:List AVal),(stripB bs xs).length=xs.length
  |[],xs=>by rw[stripB]
  |_::_,[]=>by rw[stripB]
  |true::bs,x::xs=>by rw[stripB,List.length_cons,List.length_cons,OA bs xs]
  |false::bs,x::xs=>by rw[stripB,List.length_cons,List.length_cons,OA bs xs]
theorem MO{Γ:Ghost}: ∀(bs:List Bool) (xs:List AVal) (vs:List Value),RepL Γ xs vs→RepL Γ (stripB bs xs) vs
  |[],xs,vs,h=>by grind[stripB]
  |_::_,[],vs,h=>by grind[stripB]
  | true::bs,x::xs,vs,h=>by
    cases h with
    |cons h t=>rw[stripB];exact .cons h.strip (MO bs _ _ t)
  | false::bs,x::xs,vs,h=>by
    cases h with
    |cons h t=>rw[stripB];exact .cons h (MO bs _ _ t)
theorem Mc{Γ:Ghost}{w:World}: ∀(bs:List Bool) (xs:List AVal) (vs:List Value),ownL Γ w xs vs→ownL Γ w (stripB bs xs) vs
  |[],xs,vs,h=>by grind[stripB]
  |_::_,[],vs,h=>by grind[stripB]
  |true::bs,x::xs,[],h=>by grind[stripB,ownL]
  |false::bs,x::xs,[],h=>by grind[stripB,ownL]
  |true::bs,x::xs,v::vs,h=>by rw[ownL]at h;rw[stripB,ownL];exact⟨I7 _ _ _ _,Mc bs xs vs h.2⟩
  |false::bs,x::xs,v::vs,h=>by rw[ownL]at h;rw[stripB,ownL];exact⟨h.1,Mc bs xs vs h.2⟩
theorem MZ (b:Nat): ∀(bs:List Bool) (xs:List AVal) (vs:List Value),AC b (stripB bs xs) vs≤AC b xs vs
  |[],xs,vs=>by simp_all[stripB]
  |_::_,[],vs=>by simp_all[stripB]
  |true::bs,x::xs,[]=>by grind[stripB,AC]
  |false::bs,x::xs,[]=>by grind[stripB,AC]
  | true::bs,x::xs,v::vs=>by
    have:=MZ b bs xs vs
    grind[stripB,AC,F5]
  | false::bs,x::xs,v::vs=>by
    have:=MZ b bs xs vs
    grind[stripB,AC]
theorem Sim.stripCells{F:Nat→Nat}{Γ:Ghost}{w:World}{a:Act}{i:Nat}{cs:List AVal} (bs:List Bool) (hs:Sim E F Γ st w af a.tmps.toList) (hg:AZ st.m i=some cs):Sim E F Γ {st with m:=Ao st.m i (stripB bs cs)} w af a.tmps.toList:=by
  rcases hs.box_ok _ (Ip hg)with⟨b,arr,e,hb⟩|⟨v,hv⟩
  rotate_left
  · exact hs.setSh hg hv (MO bs _ _ hv.rep) (Mc bs _ _ hv.own) fun n=>by
      have h1:=MZ n bs cs [v]
      have h2:=hs.tok n
      omega
  obtain⟨lo,hi,hh,hf⟩:=hb.heap
  exact(hs.setBox (w':=w) (cs':=stripB bs cs) (arr':=arr) (lo:=lo) (hi:=hi) hg hb hh hf (fun _ _=>rfl) rfl rfl rfl rfl (by rw[OA];exact MO bs _ _ hb.rep) (Mc bs _ _ hb.own) (by rw[OA];exact hb.one)
          (fun n=>by
            have h1:=MZ n bs cs arr.toList
            have h2:=hs.tok n
            omega)).1
theorem AA2{c:Code}{Q:APost}{i j p:Nat}{cs:List AVal}{x:AVal} (hij:j≠i) (hg:AZ st.m j=some cs) (h2:2≤cs.length) (hc:cs[p]?=some (.sh i)) (hi:AZ st.m i=some [x]) (h:AWp E c Q af {st with m:=Ao (Ao st.m i [x.strip]) j (cs.set p x)}):AWp E c Q af st:=
  ⟨fun F Γ w a hd hs=>h.go F Γ w a hd (hs.unshCell hij hg h2 hc hi)⟩
theorem Vn{c:Code}{Q:APost}{m m':List (Nat×List AVal)}{n:Nat} (hp:m.Perm m') (h:AWp E c Q af ⟨m',n⟩):AWp E c Q af ⟨m,n⟩:=
  ⟨fun F Γ w a hd hs=>h.go F Γ w a hd (hs.perm hp)⟩
theorem ACall.perm{f:FuncId}{args:List AVal}{Q:AVal→St→Prop}{m m':List (Nat×List AVal)}{n:Nat} (hp:m.Perm m') (h:ACall E f args ⟨m',n⟩ Q):ACall E f args ⟨m,n⟩ Q:=
  ⟨fun F Γ w cargs hs=>h.go F Γ w cargs (hs.perm hp)⟩
theorem AWp.nodup{c:Code}{Q:APost} (h:(st.m.map (·.1)).Nodup→AWp E c Q af st):AWp E c Q af st:=
  ⟨fun F Γ w a hd hs=>(h hs.keys).go F Γ w a hd hs⟩
theorem NU: ∀ {m:List (Nat×List AVal)}{i:Nat}{c x:List AVal},AZ m i=some c→((i,x)::Ck m i).Perm (Ao m i x)
  |[],_,_,_,h=>by grind[AZ]
  | (j,d)::m,i,c,x,h=>by
    simp only[AZ]at h
    simp only[Ck,Ao]
    split at h
    · simp_all
    · rename_i e
      rw[if_neg e,if_neg e]
      exact(List.Perm.swap _ _ _).trans ((NU h).cons _)
theorem Tq: ∀ {m:List (Nat×List AVal)}{i j:Nat},i≠j→AZ (Ck m i) j=AZ m j
  |[],_,_,_=>rfl
  | (k,d)::m,i,j,h=>by
    simp only[Ck]
    split
    · rename_i e;subst e;simp only[AZ];rw[if_neg (fun e=>h e.symm)]
    · simp only[AZ];rw[Tq h]
theorem Xm: ∀ {m:List (Nat×List AVal)}{i j:Nat}{x:List AVal},i≠j→Ao (Ck m i) j x=Ck (Ao m j x) i
  |[],_,_,_,_=>rfl
  | (k,d)::m,i,j,x,h=>by
    by_cases e:i=k
    · subst e;simp only[Ck,if_true,Ao];rw[if_neg (fun e=>h e.symm)];simp[Ck]
    · by_cases e2:j=k
      · grind[Ck,Ao]
      · simp only[Ck,Ao,if_neg e,if_neg e2];rw[Xm h]
theorem ACall.front{f:FuncId}{args:List AVal}{m:List (Nat×List AVal)}{n i:Nat}{c:List AVal}{Q:AVal→St→Prop} (hi:AZ m i=some c)
    (h:i<n→ACall E f args ⟨(i,c)::Ck m i,n⟩ fun r st'=> ∃c',st'.m=(i,c')::Ck m i∧Q r ⟨Ao m i c',st'.next⟩):ACall E f args ⟨m,n⟩ Q:=by
  refine ACall.known fun _ hk=>?_
  have hin:i<n:=by
    rcases Nat.lt_or_ge i n with h'|h'
    · omega
    · have:=hk i h';grind
  constructor
  intro F Γ w cargs hs
  refine((h hin).go F Γ w cargs (hs.perm (IM hi))).mono ?_
  rintro e w' ⟨v,he,Γ',r,⟨m',n'⟩,h1,h2,h3,c',hm,hq⟩
  simp only at hm
  subst hm
  exact⟨v,he,Γ',r,⟨Ao m i c',n'⟩,h1,h2,h3.perm (NU hi),hq⟩
end
end Go.VM
set_option linter.unusedVariables false
set_option linter.defProp false
set_option maxRecDepth 100000
namespace Go.VM
section
variable{E:Env}{t:TypeId}{k:IntKind}{a b:Int}
theorem Afe:Dz E .add t (.int k a) (.int k b)=some (.int k (wr k (a+b))):=by simp[Dz,IZ,wr]
theorem Aev:Dz E .sub t (.int k a) (.int k b)=some (.int k (wr k (a-b))):=by simp[Dz,IZ,wr]
theorem Afm:Dz E .mul t (.int k a) (.int k b)=some (.int k (wr k (a * b))):=by simp[Dz,IZ,wr]
theorem Adf:Dz E .quo t (.int k a) (.int k b)=if b=0 then none else some (.int k (wr k (a.tdiv b))):=by simp[Dz,IZ,wr]
theorem AdZ:Dz E .rem t (.int k a) (.int k b)=if b=0 then none else some (.int k (a.tmod b)):=by simp[Dz,IZ]
theorem AfE:Dz E .and t (.int k a) (.int k b)=some (.int k (Pk k a b)):=by simp[Dz,IZ,Pk]
theorem Agn:Dz E .or t (.int k a) (.int k b)=some (.int k (Qo k a b)):=by simp[Dz,IZ,Qo]
theorem Ae7{n:Int}:unA .xor (.int .i64 n)=some (.int .i64 (AOC .i64 (-1) n)):=rfl
theorem AdQ:Dz E .xor t (.int k a) (.int k b)=some (.int k (AOC k a b)):=by simp[Dz,IZ,AOC]
theorem AR2:Dz E .andNot t (.int k a) (.int k b)=some (.int k (Va k a b)):=by simp[Dz,IZ,Va]
theorem AfK:Dz E .eql t (.int k a) (.int k b)=some (.bool (a==b)):=by simp[Dz,IZ]
theorem AfS:Dz E .neq t (.int k a) (.int k b)=some (.bool (a !=b)):=by simp[Dz,IZ]
theorem Aew:Dz E .lss t (.int k a) (.int k b)=some (.bool (decide (a<b))):=by simp[Dz,IZ]
theorem AeB:Dz E .leq t (.int k a) (.int k b)=some (.bool (decide (a≤b))):=by simp[Dz,IZ]
theorem Adp:Dz E .gtr t (.int k a) (.int k b)=some (.bool (decide (a>b))):=by simp[Dz,IZ]
theorem AdU:Dz E .geq t (.int k a) (.int k b)=some (.bool (decide (a≥b))):=by simp[Dz,IZ]
theorem Ady{j:IntKind}:Dz E .shl t (.int k a) (.int j b)=if b<0 then none else some (.int k (AYO k a b)):=by simp[Dz,VI,AYO]
theorem Aeh{j:IntKind}:Dz E .shr t (.int k a) (.int j b)=if b<0 then none else some (.int k (AUJ k a b)):=by simp[Dz,VI,AUJ]
variable{x y:List UInt8}{p q:Bool}
theorem AbG:Dz E .add t (.str x) (.str y)=if AB (x.length+y.length)then some (.str (x++y))else none:=AcE
theorem AbK:Dz E .eql t (.str x) (.str y)=some (.bool (x==y)):=rfl
theorem Aaj:Dz E .neq t (.str x) (.str y)=some (.bool (!(x==y))):=rfl
theorem AcD:Dz E .lss t (.str x) (.str y)=some (.bool (Op.bytesLess x y)):=rfl
theorem AbW:Dz E .leq t (.str x) (.str y)=some (.bool (Op.bytesLess x y||x==y)):=rfl
theorem AcZ:Dz E .gtr t (.str x) (.str y)=some (.bool (!(Op.bytesLess x y||x==y))):=rfl
theorem AbZ:Dz E .geq t (.str x) (.str y)=some (.bool (!(Op.bytesLess x y))):=rfl
theorem Abe:Dz E .eql t (.bool p) (.bool q)=if Rx E.P t=true then some (.bool (p==q))else none:=rfl
theorem AbY:Dz E .neq t (.bool p) (.bool q)=if Rx E.P t=true then some (.bool (!(p==q)))else none:=rfl
def AX0 (op:BinOp) (g:Bool) (e:Option Bool):Option AVal:=
  if g=true then none else
    match op,e with
    |.eql,some b=>some (.bool b)
    |.neq,some b=>some (.bool (!b))
    |_,_=>none
theorem AfT{op:BinOp}{xs ys:List AVal}:Dz E op t (.agg xs) (.agg ys)=AX0 op (E.P.eqGuardType E.P.depth t) (eqA E.P 10000 t (.agg xs) (.agg ys)):=rfl
theorem APq:AX0 .eql false (some p)=some (.bool p):=rfl
theorem APZ:AX0 .neq false (some p)=some (.bool (!p)):=rfl
def cvI (g:Bool) (st:Bool) (k:Option IntKind) (n:Int):Option AVal:=if(g&&st)=true then some (.str (LJ n))else if g=true then(match k with|some k=>some (.int k (wr k n))|none=>none)else none
theorem AdR{s d:TypeId}{n:Int}:NS E s d (.int k n)=cvI (Ab E.P s) (Ce E.P d) (E5 E.P d) n:=rfl
theorem AXR{n:Int}:cvI true false (some k) n=some (.int k (wr k n)):=rfl
theorem Aao{n:Int}{j:Option IntKind}:cvI true true j n=some (.str (LJ n)):=rfl
def cvS (g h:Bool) (l:List UInt8):Option AVal:=if(g&&h)=true then some (.str l)else none
theorem AeT{s d:TypeId}{l:List UInt8}:NS E s d (.str l)=cvS (Ab E.P s) (Ce E.P d) l:=rfl
theorem AUW{l:List UInt8}:cvS true true l=some (.str l):=rfl
theorem AYm{s d:TypeId}{w:Nat}{xs:List AVal}{o:Bool}:NS E s d (.slice w xs o)=strOf (u8T E.P s&&Ce E.P d) (bytesOf xs):=rfl
theorem AMc{l:List UInt8}:strOf true (some l)=some (.str l):=rfl
theorem bytesOf_map{l:List Int}:bytesOf (l.map (AVal.int .u8))=some (l.map JK):=by
  induction l<;>grind[bytesOf]
theorem Nl{n:Int}{xs:List AVal}:bytesOf (.int .u8 n::xs)=(bytesOf xs).map (JK n:: ·):=rfl
theorem AJX:bytesOf []=some []:=rfl
theorem AIs{xs ys:List AVal}:bytesOf (xs++ys)=(bytesOf xs).bind fun a=>(bytesOf ys).map (a++ ·):=by
  induction xs with
  |nil=>cases h:bytesOf ys<;>simp[bytesOf,h]
  | cons x xs ih=>
    rw[List.cons_append]
    cases x with
    | int k n=>
      cases k<;>try rfl
      rw[Nl,Nl,ih]
      cases bytesOf xs<;>cases bytesOf ys<;>simp
    |_=>rfl
theorem Ada{l:List UInt8}:cvS true false l=none:=rfl
theorem AfD{s d:TypeId}{w i l:Nat}:NS E s d (.gsl w i l)=none:=rfl
theorem AfA{s d:TypeId}{w i o l:Nat}:NS E s d (.bsl w i o l)=none:=rfl
theorem AdV{s d:TypeId}{i o:Nat}:NS E s d (.ptr i o)=none:=rfl
section
variable{s d:TypeId}{st:St}
theorem AfP{l:List UInt8}:Pq E s d (.str l) st=none:=rfl
theorem Aen{w i l:Nat}:Pq E s d (.gsl w i l) st=none:=rfl
theorem AeJ{w i o l:Nat}:Pq E s d (.bsl w i o l) st=none:=rfl
def cuB (b:Bool) (i:Nat):Option AVal:=if b=true then some (.ptr i 0)else none
theorem AUG{i:Nat}:cuB true i=some (.ptr i 0):=rfl
def cuR (E:Env) (s d:TypeId) (i:Nat) (x:Option (List AVal)):Option AVal:=
  match x with
  |some (.nself j T n::_)=>if j=i then cuB (SB E.P s d T n) i else none
  |_=>none
theorem AWE{i n:Nat}{T:TypeId}{cs:List AVal}:cuR E s d i (some (.nself i T n::cs))=cuB (SB E.P s d T n) i:=by simp[cuR]
theorem Aer{i:Nat}:Pq E s d (.ptr i 0) st=cuR E s d i (AZ st.m i):=by
  simp only[Pq]
  generalize AZ st.m i=x
  unfold cuR
  split
  · rename_i j T n rest
    simp only[cuB]
    by_cases h1:j=i<;>by_cases h2:SB E.P s d T n=true<;>simp[h1,h2]
  simp
def EE (i:Nat) (T:TypeId) (n:Nat) (b:Bool):AVal:=if b=true then .ptr i 0 else .nself i T n
theorem Abg{i n:Nat}{T:TypeId}:EE i T n true=.ptr i 0:=rfl
theorem Abk{i n:Nat}{T:TypeId}:EE i T n false=.nself i T n:=rfl
theorem ARe{i n:Nat}{T:TypeId}{b:Bool}:(EE i T n b).strip=EE i T n b:=by cases b<;>simp[EE,AVal.strip]
theorem ARR{i n:Nat}{T:TypeId}{b:Bool}:AQ (EE i T n b)=[EE i T n b]:=by cases b<;>rfl
theorem ARD{i n:Nat}{T:TypeId}{b:Bool}:JI (EE i T n b)=false:=by cases b<;>rfl
theorem ARl{i n:Nat}{T:TypeId}{b:Bool}:Bq (EE i T n b)=true:=by cases b<;>rfl
def cmS (a b:Bool) (l:List UInt8) (st:St):Option (AVal×St):=if a=true∧b=true then some (.bsl 1 st.next 0 l.length,{m:=(st.next,List.map (AVal.int .u8) (List.map AY l))::st.m,next:=st.next+1})else none
theorem Ads{l:List UInt8}:NY E s d (.str l) st=cmS (u8T E.P d) (Ce E.P s) l st:=by
  simp only[NY,cmS,List.map_map];rfl
theorem AZK{l:List UInt8}:cmS true true l st=some (.bsl 1 st.next 0 l.length,{m:=(st.next,List.map (AVal.int .u8) (List.map AY l))::st.m,next:=st.next+1}):=by simp[cmS]
def cmB (b:Bool) (off n:Nat) (st:St) (x:Option (List AVal)):Option (AVal×St):=
  match x with
  |some cs=>if b=true then(match bytesOf ((cs.drop off).take n)with|some l=>if l.length=n∧AB n then some (.str l,st)else none|none=>none)else none
  |none=>none
theorem Ae1{i off n:Nat}:NY E s d (.bsl 1 i off n) st=cmB (u8T E.P s&&Ce E.P d) off n st (AZ st.m i):=by
  simp only[NY,cmB,true_and,Bl,AB]
  cases (u8T E.P s&&Ce E.P d)<;>cases AZ st.m i<;>simp
  grind
theorem AWm{q:List Int}{off n:Nat}:cmB true off n st (some (List.map (AVal.int .u8) q))=if n≤q.length-off∧AB n then some (.str (List.map JK (List.take n (List.drop off q))),st)else none:=by
  simp only[cmB,if_true,←List.map_take,←List.map_drop,bytesOf_map,List.length_map,List.length_take,List.length_drop]
  grind
def Ru (n:Int) (b:Nat):Prop:=0≤n∧n≤4611686018427387904∧n * b≤140737488355328
instance (n:Int) (b:Nat):Decidable (Ru n b):=by unfold Ru;infer_instance
def mkR (e:Option (Nat×AVal)) (n:Int) (st:St):Option (AVal×St):=
  match e with
  |some (b,z)=>if 0≤n∧n≤Bl∧n * b≤140737488355328 then some (.bsl 1 st.next 0 n.toNat,{m:=(st.next,List.replicate n.toNat z)::st.m,next:=st.next+1})else none
  |none=>none
theorem AcQ{b:Nat}{k:IntKind}{z n:Int}:mkR (some (b,.int k z)) n st=if Ru n b then some (.bsl 1 st.next 0 n.toNat,{m:=(st.next,List.map (AVal.int k) (List.replicate n.toNat z))::st.m,next:=st.next+1})else none:=by
  grind[mkR,Ru,Bl,List.map_replicate]
theorem AaR{b:Nat}{n:Int}:mkR (some (b,.str [])) n st=if Ru n b then some (.bsl 1 st.next 0 n.toNat,{m:=(st.next,List.map AVal.str (List.replicate n.toNat []))::st.m,next:=st.next+1})else none:=by
  grind[mkR,Ru,Bl,List.map_replicate]
def OY (n n':Int) (b:Nat):Prop:=0≤n∧n≤n'∧n'≤4611686018427387904∧n' * b≤140737488355328
instance (n n':Int) (b:Nat):Decidable (OY n n' b):=by unfold OY;infer_instance
def mkV (a:Option (Nat×Nat)) (z:Option AVal) (n n':Int) (st:St):Option (AVal×St):=
  match a,z with
  |some (w,b),some z=>if OY n n' b then some (.sh st.next,{m:=(st.next,[.vec w (List.replicate n.toNat z)])::st.m,next:=st.next+1})else none
  |_,_=>none
def mkG (e:Option (Nat×AVal)) (a:Option (Nat×Nat)) (y:Option AVal) (n n':Int) (st:St):Option (AVal×St):=
  match e with
  |some (b,.int k z)=>if OY n n' b then some (.gsl 1 st.next n.toNat,{m:=(st.next,List.replicate n.toNat (.int k z))::st.m,next:=st.next+1})else mkV a y n n' st
  |_=>mkV a y n n' st
section
variable{a:Option (Nat×Nat)}{y:Option AVal}{n n':Int}
theorem Aav{b:Nat}{k:IntKind}{z:Int}:mkG (some (b,.int k z)) a y n n' st=if OY n n' b then some (.gsl 1 st.next n.toNat,{m:=(st.next,List.map (AVal.int k) (List.replicate n.toNat z))::st.m,next:=st.next+1})else mkV a y n n' st:=by
  simp only[mkG,List.map_replicate]
theorem AbE{b:Nat}{s:List UInt8}:mkG (some (b,.str s)) a y n n' st=mkV a y n n' st:=rfl
theorem Afd:mkG none a y n n' st=mkV a y n n' st:=rfl
theorem AbD{w b:Nat}:mkV (some (w,b)) (some (.str [])) n n' st=if OY n n' b then some (.sh st.next,{m:=(st.next,[.vec w (List.map AVal.str (List.replicate n.toNat []))])::st.m,next:=st.next+1})else none:=by
  simp only[mkV,List.map_replicate]
theorem Agx{w b:Nat}{c:List AVal}:mkV (some (w,b)) (some (.agg c)) 0 n' st=if OY 0 n' b then some (.sh st.next,{m:=(st.next,[.vec w []])::st.m,next:=st.next+1})else none:=rfl
theorem Ahc{k k':IntKind}:R8 E t (.int k n) (.int k' n') st=mkG (Oy E.P t) (G5 E.P t) (RG E.P t) n n' st:=by
  have hv:AHO E t (.int k n) (.int k' n') st=mkV (G5 E.P t) (RG E.P t) n n' st:=by
    unfold AHO mkV OY
    rcases G5 E.P t with _|⟨_,_⟩<;>rcases RG E.P t with _|_<;>rfl
  unfold R8
  rw[hv]
  unfold AOX mkG
  rcases Oy E.P t with _|⟨b,z⟩
  · rfl
  · cases z<;>try rfl
    simp only[]
    by_cases hc:OY n n' b
    · have hc':0≤n∧n≤n'∧n'≤(Bl:Int)∧n' * b≤140737488355328:=hc
      rw[if_pos hc,if_pos hc']
    · have hc': ¬(0≤n∧n≤n'∧n'≤(Bl:Int)∧n' * b≤140737488355328):=hc
      rw[if_neg hc,if_neg hc']
end
theorem AeH{i n:Nat}:NY E s d (.gsl 1 i n) st=cmB (u8T E.P s&&Ce E.P d) 0 n st (AZ st.m i):=by
  simp only[NY,cmB,true_and,Bl,AB,List.drop_zero]
  cases (u8T E.P s&&Ce E.P d)<;>cases AZ st.m i<;>simp
  grind
theorem AhQ{k k':IntKind}{n:Int}:Si E t (.int k n) (.int k' n) st=mkR (Oy E.P t) n st:=by
  simp only[Si,mkR]
  rcases Oy E.P t with _|⟨b,z⟩<;>simp
end
theorem Ael{e:TypeId}{l:List UInt8}{o:Bool}:PI (.buf e l o)=some (.bufp e l o):=rfl
def usB (b:Bool) (l:List UInt8):Option AVal:=if b=true then some (.str l)else none
theorem AUo{l:List UInt8}:usB true l=some (.str l):=rfl
theorem AfI{t0 e:TypeId}{l:List UInt8}:SG E t0 (.bufp e l true) (.int .i64 (l.length:Int))=usB (ptrTo E.P t0 e) l:=by
  simp[SG,usB]
theorem Ado{op:BinOp}:Dz E op t .nilp .nilp=NH op (Nv E.P t) (some true):=rfl
theorem Aep{op:BinOp}{i n:Nat}{T:TypeId}:Dz E op t (.nself i T n) .nilp=NH op (Nv E.P t) (some true):=rfl
theorem AdY{op:BinOp}{i o:Nat}:Dz E op t (.ptr i o) .nilp=NH op (Nv E.P t) (some false):=rfl
theorem AeG{op:BinOp}{i o:Nat}:Dz E op t (.ptr i o) (.ptr i o)=NH op (Nv E.P t) (some true):=by simp[Dz,X6]
theorem AfV:NH .eql true (some p)=some (.bool p):=rfl
theorem Adc:NH .neq true (some p)=some (.bool (!p)):=rfl
theorem AUv{e:TypeId}:NA E t (.nbuf e)=if BG E.P t=true then some (.int .i64 0)else none:=rfl
theorem AX7{e:TypeId}:AXw E t (.nbuf e)=if BG E.P t=true then some (.int .i64 0)else none:=rfl
theorem Aau{T:TypeId}{i:Nat}{e:TypeId}:AOj E t (.trow T i 0) (.nbuf e)=if BP E.P t=some 1 then some (.int .i64 0)else none:=rfl
theorem Aay{T:TypeId}{i len:Nat}{h:Int}:EF E t (.trow T i len) none (some h) none=if BP E.P t=some 1 then(if 0≤h∧h≤len then some (.trow T i h.toNat)else none)else none:=by
  simp only[EF]
  by_cases h1:BP E.P t=some 1<;>by_cases h2:0≤h<;>by_cases h3:h≤len<;>simp[h1,h2,h3]
theorem AU1{T:TypeId}{i l:Nat}:(AVal.trow T i l).strip=.trow T i l:=rfl
theorem AX8{T:TypeId}{i l:Nat}:AQ (.trow T i l)=[.trow T i l]:=rfl
theorem AUS{T:TypeId}{i l:Nat}:Bq (.trow T i l)=true:=rfl
theorem AV3{T:TypeId}{i l:Nat}:JI (.trow T i l)=false:=rfl
theorem AYN{e:TypeId}:(AVal.nbuf e).strip=.nbuf e:=rfl
theorem AX6{e:TypeId}:AQ (.nbuf e)=[.nbuf e]:=rfl
theorem AUl{e:TypeId}:Bq (.nbuf e)=true:=rfl
theorem AZB{e:TypeId}:JI (.nbuf e)=false:=rfl
theorem Acr{e:TypeId}{l:List UInt8}{o:Bool}:NA E t (.buf e l o)=if BG E.P t=true then some (.int .i64 l.length)else none:=rfl
theorem AaJ{w i o l:Nat}:NA E t (.bsl w i o l)=if BG E.P t=true then some (.int .i64 l)else none:=rfl
theorem Ba{w i len:Nat}{k:IntKind}{n:Int}:CV E t (.gsl w i len) (.int k n)=if BP E.P t=some w then(if 0≤n∧n<len then some (.ptr i (n.toNat * w))else none)else none:=by
  simp only[CV]
  by_cases h1:BP E.P t=some w<;>by_cases h2:0≤n<;>by_cases h3:n<len<;>simp[h1,h2,h3]
theorem BS{w i len:Nat}{h:Int}:EF E t (.gsl w i len) none (some h) none=if BP E.P t=some w then(if 0≤h∧h≤len then some (.gsl w i h.toNat)else none)else none:=by
  simp only[EF]
  by_cases h1:BP E.P t=some w<;>by_cases h2:0≤h<;>by_cases h3:h≤len<;>simp[h1,h2,h3]
theorem Afj{w i len:Nat}{h:Int}:EF E t (.bsl w i 0 len) none (some h) none=if BP E.P t=some w then(if 0≤h∧h≤len then some (.bsl w i 0 h.toNat)else none)else none:=by
  simp only[EF]
  by_cases h1:BP E.P t=some w<;>by_cases h2:0≤h<;>by_cases h3:h≤len<;>simp[h1,h2,h3]
def apT (e:Option (Nat×Nat)) (g:Bool) (x:Option (List AVal)) (m:List (Nat×List AVal)) (j len:Nat) (s:List UInt8):Option (Nat×Nat×List AVal×List (Nat×List AVal)×Option Nat):=
  match x,e with
  |some cs,some (z,by_)=>if z=1∧len≤cs.length∧(len+s.length) * by_≤140737488355328∧len+s.length≤Bl∧g=true then some (1,len+s.length,cs.take len++u8s s,Ck m j,some j)else none
  |_,_=>none
theorem Ep{t0 t1:TypeId}{j len:Nat}{s:List UInt8}{st:St}:ASt E t0 t1 (.gsl 1 j len) (.str s) st=apT (G5 E.P t0) ((E5 E.P t1).isNone&&Ab E.P t1) (AZ st.m j) st.m j len s:=by
  simp only[ASt,apT]
  rcases AZ st.m j with _|cs<;>rcases G5 E.P t0 with _|⟨z,b⟩<;>simp
theorem Ak{b j len:Nat}{q:List Int}{m:List (Nat×List AVal)}{s:List UInt8}:apT (some (1,b)) true (some (List.map (AVal.int .u8) q)) m j len s=if len≤q.length∧CG (len+s.length) b then some (1,len+s.length,List.map (AVal.int .u8) (List.take len q++List.map AY s),Ck m j,some j)else none:=by
  have e:u8s s=List.map (AVal.int .u8) (List.map AY s):=by simp[u8s,AY]
  simp_all[apT,CG,Bl]
theorem Am{w i l:Nat}:(AVal.gsl w i l).strip=.gsl w i l:=rfl
theorem Av{i:Nat}{c:List AVal}{m:List (Nat×List AVal)}:Ck ((i,c)::m) i=m:=by simp[Ck]
def lkV:List (List UInt8)→List AVal→List UInt8→AVal→AVal
  |k::ks,v::vs,s,z=>if(s==k)=true then v.strip else lkV ks vs s z
  |_,_,_,z=>z.strip
theorem AX1{k s:List UInt8}{ks:List (List UInt8)}{v z:AVal}{vs:List AVal}:lkV (k::ks) (v::vs) s z=if(s==k)=true then v.strip else lkV ks vs s z:=rfl
theorem Aae{s:List UInt8}{z:AVal}:lkV [] [] s z=z.strip:=rfl
def lkR (z:Option AVal) (x:Option (List AVal)) (s:List UInt8):Option AVal:=
  match z,x with
  |some z,some [.map ks vs]=>some (lkV ks vs s z)
  |_,_=>none
theorem AMG{s:List UInt8}{z:AVal}: ∀(ks:List (List UInt8)) (vs:List AVal),(match Ik ks vs s with|some x=>x.strip|none=>z.strip)=lkV ks vs s z
  |[],_=>by simp[Ik,lkV]
  |_::_,[]=>by simp[Ik,lkV]
  | k::ks,v::vs=>by
    simp only[Ik,lkV,beq_iff_eq]
    split
    · rename_i x hx
      split at hx
      · simp_all
      · rename_i e;rw[if_neg e,←AMG ks vs,hx]
    · rename_i hx
      split at hx
      · grind
      · rename_i e;rw[if_neg e,←AMG ks vs,hx]
theorem AdC{i:Nat}{s:List UInt8}{st:St}:MK E t (.sh i) (.str s) false st=lkR ((Ol E.P t).bind (CR E.P)) (AZ st.m i) s:=by
  unfold MK Qa lkR
  cases Ol E.P t with
  |none=>simp
  | some e=>
    simp only[Option.bind_some]
    cases hm:AZ st.m i with
    |none=>cases CR E.P e<;>simp
    | some cs=>
      cases hz:CR E.P e with
      | none=>
        match cs with
        |[]=>simp
        |[.map _ _]=>grind
        |x::y::_=>cases x<;>simp
        |[.any]|[.bool _]|[.int _ _]|[.str _]|[.agg _]|[.tuple _]|[.slice _ _ _]|[.ptr _ _]|[.nilp]|[.cptr _]|[.fn _ _ _]|[.nilFn]|[.iface _ _]|[.nilIface]|[.iter _ _]|[.bsl _ _ _ _]|[.nself _ _ _]|[.buf _ _ _]|[.bufp _ _ _]|[.slop _ _]|[.sh _]|[.sptr _ _ _]|[.gsl _ _ _]|[.nmap]|[.num _]|[.nbuf _]|[.trow _ _ _]|[.vec _ _]|[.vptr _ _ _ _]|[.hset _]=>simp
      | some z=>
        match cs with
        |[]=>simp
        |[.map ks vs]=>grind[AMG]
        |x::y::_=>cases x<;>simp
        |[.any]|[.bool _]|[.int _ _]|[.str _]|[.agg _]|[.tuple _]|[.slice _ _ _]|[.ptr _ _]|[.nilp]|[.cptr _]|[.fn _ _ _]|[.nilFn]|[.iface _ _]|[.nilIface]|[.iter _ _]|[.bsl _ _ _ _]|[.nself _ _ _]|[.buf _ _ _]|[.bufp _ _ _]|[.slop _ _]|[.sh _]|[.sptr _ _ _]|[.gsl _ _ _]|[.nmap]|[.num _]|[.nbuf _]|[.trow _ _ _]|[.vec _ _]|[.vptr _ _ _ _]|[.hset _]=>simp
theorem AY5{s:List UInt8}{z:AVal}{ks:List (List UInt8)}{vs:List AVal}:lkR (some z) (some [.map ks vs]) s=some (lkV ks vs s z):=rfl
def upR (b:Bool) (y:Option (List AVal)) (i:Nat) (s:List UInt8) (x:AVal) (st:St):Option St:=
  match b,y with
  |true,some [.map ks vs]=>some {st with m:=Ao st.m i [.map (Er ks s) (Ih ks vs s x)]}
  |_,_=>none
theorem Af1{i:Nat}{s:List UInt8}{x:AVal}{st:St}:VV E t (.sh i) (.str s) x st=upR (Ol E.P t).isSome (AZ st.m i) i s x st:=by
  simp only[VV,Qa,upR]
  grind[Ol,AZ]
theorem AX9{i:Nat}{s:List UInt8}{x:AVal}{st:St}{ks:List (List UInt8)}{vs:List AVal}:upR true (some [.map ks vs]) i s x st=some {st with m:=Ao st.m i [.map (Er ks s) (Ih ks vs s x)]}:=rfl
theorem Af5{op:BinOp}{f:Fn}{x y:List AVal}:Dz E op t (.fn f x y) .nilFn=UN op (VY E.P t) false:=rfl
theorem AgJ{op:BinOp}:Dz E op t .nilFn .nilFn=UN op (VY E.P t) true:=rfl
theorem AeV{b:Bool}:UN .eql true b=some (.bool b):=rfl
theorem Adz{b:Bool}:UN .neq true b=some (.bool (!b)):=rfl
theorem AfU{w i off len:Nat}{k:IntKind}{n:Int}:CV E t (.bsl w i off len) (.int k n)=if BP E.P t=some w then(if 0≤n∧n<len then some (.ptr i (off+n.toNat * w))else none)else none:=by
  simp only[CV]
  by_cases h1:BP E.P t=some w<;>by_cases h2:0≤n<;>by_cases h3:n<len<;>simp[h1,h2,h3]
def iaP (e:Option (Nat×Nat×Bool)) (j o:Nat) (n:Int):Option AVal:=
  match e with
  |some (len,z,_)=>if 0≤n∧n<len then some (.ptr j (o+n.toNat * z))else none
  |none=>none
theorem Ae6{j o:Nat}{k:IntKind}{n:Int}:CV E t (.ptr j o) (.int k n)=iaP (Jo E.P t) j o n:=by
  simp only[CV,iaP]
  rcases Jo E.P t with _|⟨len,z,g⟩<;>rfl
theorem AVE{len z j o:Nat}{g:Bool}{n:Int}:iaP (some (len,z,g)) j o n=if 0≤n∧n<(len:Int)then some (.ptr j (o+n.toNat * z))else none:=rfl
def slP (e:Option (Nat×Nat×Bool)) (i o:Nat) (l:Int) (h:Option Int):Option AVal:=
  match e with
  |some (len,z,_)=>if 0≤l∧l≤h.getD len∧h.getD len≤len∧len≤Bl then some (.bsl z i (o+l.toNat * z) ((h.getD len).toNat-l.toNat))else none
  |none=>none
theorem Aeg{i o:Nat}{lo hi:Option Int}:EF E t (.ptr i o) lo hi none=slP (Jo E.P t) i o (lo.getD 0) hi:=by
  simp only[EF,slP]
  rcases Jo E.P t with _|⟨len,z,g⟩<;>simp
theorem AXI{len z i o:Nat}{g:Bool}{l:Int}:slP (some (len,z,g)) i o l none=if 0≤l∧l≤(len:Int)∧len≤Bl then some (.bsl z i (o+l.toNat * z) (len-l.toNat))else none:=by
  simp[slP]
theorem Abz{α:Type}{l:List α}{n:Int} (h:0≤n):l[n.toNat]?=idx l n:=by grind[idx]
theorem Acb{α β:Type}{f:α→β}{l:List α}{k:Nat}{v:α}:(List.map f l).set k (f v)=List.map f (l.set k v):=List.map_set.symm
theorem AdT:unA .not (.bool p)=some (.bool (!p)):=rfl
theorem Ae8:unA .neg (.int k a)=some (.int k (wr k (0-a))):=rfl
end
def AKn (n:Nat):List Bool:=List.replicate n false
theorem AXU{n:Nat}:(AKn n).length=n:=by simp[AKn]
theorem AQu{l:List Bool}:stripL (List.map AVal.bool l)=List.map AVal.bool l:=by
  induction l<;>grind[stripL,AVal.strip]
theorem AQE{k:IntKind}{l:List Int}:stripL (List.map (AVal.int k) l)=List.map (AVal.int k) l:=by
  induction l<;>grind[stripL,AVal.strip]
theorem ATE{l:List Bool}{n:Nat} (h:l.length=n):List.take n (List.map AVal.bool l)=List.map AVal.bool l:=by
  grind[List.take_of_length_le]
theorem AS4{k:IntKind}{l:List Int}{n:Nat} (h:l.length=n):List.take n (List.map (AVal.int k) l)=List.map (AVal.int k) l:=by
  grind[List.take_of_length_le]
theorem OU: ∀(l q p:List AVal),q.length=l.length→putCells (p++q) p.length l=p++l
  |[],q,p,h=>by grind[putCells]
  | x::l,q,p,h=>by
    cases q with
    |nil=>grind
    | cons y q=>
      rw[putCells]
      have e:(p++y::q).set p.length x=(p++[x])++q:=by simp
      have e2:p.length+1=(p++[x]).length:=by simp
      rw[e,e2,OU l q (p++[x]) (by grind)];simp
theorem AXS{l q:List Bool} (h:q.length=l.length):putCells (List.map AVal.bool q) 0 (List.map AVal.bool l)=List.map AVal.bool l:=by
  have:=OU (List.map AVal.bool l) (List.map AVal.bool q) [] (by grind)
  grind
theorem AYr{k:IntKind}{l q:List Int} (h:q.length=l.length):putCells (List.map (AVal.int k) q) 0 (List.map (AVal.int k) l)=List.map (AVal.int k) l:=by
  have:=OU (List.map (AVal.int k) l) (List.map (AVal.int k) q) [] (by grind)
  grind
theorem Aai:AVal.strip (.any)=.any:=by simp[AVal.strip]
theorem AWV{b:Bool}:AVal.strip (.bool b)=.bool b:=by simp[AVal.strip]
theorem Aas{k:IntKind}{n:Int}:AVal.strip (.int k n)=.int k n:=by simp[AVal.strip]
theorem AbT{l:List UInt8}:AVal.strip (.str l)=.str l:=by simp[AVal.strip]
theorem Ace{w i o l:Nat}:AVal.strip (.bsl w i o l)=.bsl w i o l:=by simp[AVal.strip]
theorem ARC{i n:Nat}{T:TypeId}:AVal.strip (.nself i T n)=.nself i T n:=by simp[AVal.strip]
theorem Ab6{e:TypeId}{l:List UInt8}{o:Bool}:AVal.strip (.buf e l o)=.buf e l false:=by simp[AVal.strip]
theorem AWu{e:TypeId}{l:List UInt8}{o:Bool}:AVal.strip (.bufp e l o)=.bufp e l false:=by simp[AVal.strip]
theorem Abr{w i o l:Nat}:AQ (.bsl w i o l)=[.bsl w i o l]:=rfl
theorem ASu{i n:Nat}{T:TypeId}:AQ (.nself i T n)=[.nself i T n]:=rfl
theorem Abc{e:TypeId}{l:List UInt8}{o:Bool}:AQ (.buf e l o)=[.buf e l o]:=rfl
theorem AN0{i:Nat}:(AVal.sh i).strip=.sh i:=rfl
theorem AVv{i w n:Nat}:(AVal.sptr i w n).strip=.sptr i w n:=rfl
theorem AXj{i:Nat}:AQ (.sh i)=[.sh i]:=rfl
theorem AUL{i w n:Nat}:AQ (.sptr i w n)=[.sptr i w n]:=rfl
theorem AU0{i:Nat}:Bq (.sh i)=true:=rfl
theorem AYw{i w n:Nat}:Bq (.sptr i w n)=true:=rfl
theorem Acg{w i o l:Nat}:Bq (.bsl w i o l)=true:=rfl
theorem AQQ{i n:Nat}{T:TypeId}:Bq (.nself i T n)=true:=rfl
theorem Aba{e:TypeId}{l:List UInt8}{o:Bool}:Bq (.buf e l o)=true:=rfl
theorem Acc{i o:Nat}:AVal.strip (.ptr i o)=.ptr i o:=by simp[AVal.strip]
theorem AVB:AVal.strip (.nilp)=.nilp:=by simp[AVal.strip]
theorem AVO{l:List AVal}:AVal.strip (.cptr l)=.cptr l:=by simp[AVal.strip]
theorem Ad4{f:Fn}{p q:List AVal}:AVal.strip (.fn f p q)=.fn f p q:=by simp[AVal.strip]
theorem AQi:AVal.strip (.nilFn)=.nilFn:=by simp[AVal.strip]
theorem AQj{t:TypeId}{x:AVal}:AVal.strip (.iface t x)=.iface t x:=by simp[AVal.strip]
theorem Yu:AVal.strip (.nilIface)=.nilIface:=by simp[AVal.strip]
theorem Aal:AQ (.any)=[.any]:=rfl
theorem AUZ{b:Bool}:AQ (.bool b)=[.bool b]:=rfl
theorem Ach{k:IntKind}{n:Int}:AQ (.int k n)=[.int k n]:=rfl
theorem AcH{l:List UInt8}:AQ (.str l)=[.str l]:=rfl
theorem Aax{i o:Nat}:AQ (.ptr i o)=[.ptr i o]:=rfl
theorem AUg:AQ (.nilp)=[.nilp]:=rfl
theorem AYp{l:List AVal}:AQ (.cptr l)=[.cptr l]:=rfl
theorem AdO{f:Fn}{p q:List AVal}:AQ (.fn f p q)=[.fn f p q]:=rfl
theorem APT:AQ (.nilFn)=[.nilFn]:=rfl
theorem APV{t:TypeId}{x:AVal}:AQ (.iface t x)=[.iface t x]:=rfl
theorem ZV:AQ (.nilIface)=[.nilIface]:=rfl
theorem AQ4{l:List AVal}:AQ (.tuple l)=[.tuple l]:=rfl
theorem ARm{w:Nat}{l:List AVal}{o:Bool}:AQ (.slice w l o)=[.slice w l o]:=rfl
theorem AWR{b:Bool}:Bq (.bool b)=true:=rfl
theorem AcI{k:IntKind}{n:Int}:Bq (.int k n)=true:=rfl
theorem AbO{l:List UInt8}:Bq (.str l)=true:=rfl
theorem AcF{i o:Nat}:Bq (.ptr i o)=true:=rfl
theorem AUm:Bq (.nilp)=true:=rfl
theorem AZF{l:List AVal}:Bq (.cptr l)=true:=rfl
theorem Aez{f:Fn}{p q:List AVal}:Bq (.fn f p q)=true:=rfl
theorem AP8:Bq (.nilFn)=true:=rfl
theorem ASZ{t:TypeId}{x:AVal}:Bq (.iface t x)=true:=rfl
theorem AC9:Bq (.nilIface)=true:=rfl
theorem Aa5{l:List AVal}:Bq (.agg l)=true:=rfl
theorem ATB{w:Nat}{l:List AVal}{o:Bool}:Bq (.slice w l o)=true:=rfl
theorem ARa{af:List AVal}{v:Value}:stripAt af (.const v)=af:=rfl
theorem AYQ{af:List AVal}{v:Nat}:stripAt af (.global v)=af:=rfl
theorem AXi{af:List AVal}{v:FuncId}:stripAt af (.func v)=af:=rfl
end Go.VM
set_option linter.unusedVariables false
namespace Go.VM
section
variable{E:Env}{st:St}{t:TypeId}
theorem AcP{w:Nat}{xs:List AVal}:AVal.strip (.vec w xs)=.any:=by rw[AVal.strip]
theorem AWb{i w n k:Nat}:AVal.strip (.vptr i w n k)=.vptr i w n k:=rfl
theorem AUe{i w n k:Nat}:JI (.vptr i w n k)=false:=rfl
theorem AgM{i:Nat}{y:AVal}:VJ (.sh i) y=OZ y:=by simp[VJ,OZ]
theorem Af0{t0 t1:TypeId}{i:Nat}{y:AVal}:GK E t0 t1 (.sh i) y=none:=by cases y<;>rfl
def avS (i:Nat) (x:Option AVal) (st:St):Option St:=
  match x with
  |some (.slice w zs _)=>some {m:=(st.next,[.vec w zs])::Ao st.m i [.any],next:=st.next+1}
  |_=>none
theorem AXl{i w:Nat}{zs:List AVal}{o:Bool}:avS i (some (.slice w zs o)) st=some {m:=(st.next,[.vec w zs])::Ao st.m i [.any],next:=st.next+1}:=rfl
def avR (e:Option (Nat×Nat)) (k:Option IntKind) (b:Bool) (y:AVal) (x:Option (Nat×Nat×List AVal)) (st:St):Option St:=
  match x with
  | some (i,wd,xs)=>
    avS i (ANO e k b wd xs (Ld wd y)) st
  |none=>none
theorem AgE{t0 t1:TypeId}{i:Nat}{y:AVal}:Uq E t0 t1 (.sh i) y st=avR (G5 E.P t0) (E5 E.P t1) (Ab E.P t1) y (J6 st (.sh i)) st:=by
  unfold Uq avR ANO avS
  rcases J6 st (.sh i)with _|⟨i,wd,xs⟩
  · rfl
  · simp only
    rcases G5 E.P t0 with _|⟨z,b⟩
    · rfl
    · rcases Ld wd y with _|ys
      · rfl
      · simp only
        have e:(z=wd∧E5 E.P t1=none∧Ab E.P t1=true∧(xs.length+ys.length) * b≤140737488355328∧xs.length+ys.length≤Bl)↔(z=wd∧E5 E.P t1=none∧Ab E.P t1=true∧CG (xs.length+ys.length) b):=Iff.rfl
        by_cases hc:z=wd∧E5 E.P t1=none∧Ab E.P t1=true∧CG (xs.length+ys.length) b
        · rw[if_pos (e.2 hc),if_pos hc]
        · rw[if_neg (fun h=>hc (e.1 h)),if_neg hc]
theorem AVy{e:Option (Nat×Nat)}{k:Option IntKind}{b:Bool}{i wd:Nat}{xs:List AVal}{y:AVal}:avR e k b y (some (i,wd,xs)) st=avS i (ANO e k b wd xs (Ld wd y)) st:=rfl
theorem Agf{i:Nat}{lo hi mx:Option Int}:EF E t (.sh i) lo hi mx=none:=rfl
def svR (e:Option Nat) (x:Option (Nat×Nat×List AVal)) (lo hi:Option Int) (st:St):Option St:=
  match x with
  |some (i,wd,xs)=>avS i (Z7 e wd false (sub xs (lo.getD 0) (hi.getD xs.length))) st
  |none=>none
theorem Ag5{i:Nat}{lo hi:Option Int}:ND E t (.sh i) lo hi none st=svR (BP E.P t) (J6 st (.sh i)) lo hi st:=by
  unfold ND svR
  rcases J6 st (.sh i)with _|⟨i,wd,xs⟩
  · rfl
  · simp only[Z7,sub,avS]
    by_cases h1:BP E.P t=some wd<;>by_cases h2:0≤lo.getD 0∧lo.getD 0≤hi.getD xs.length∧hi.getD xs.length≤xs.length<;>simp[h1,h2]
theorem AYZ{e:Option Nat}{i wd:Nat}{xs:List AVal}{lo hi:Option Int}:svR e (some (i,wd,xs)) lo hi st=avS i (Z7 e wd false (sub xs (lo.getD 0) (hi.getD xs.length))) st:=rfl
theorem Ag3{i:Nat}{k:IntKind}{n:Int}:CV E t (.sh i) (.int k n)=none:=rfl
def ioR (e:Option Nat) (j:Nat) (n:Int) (y:Option (List AVal)):Option AVal:=
  match y with
  |some [.slop w xs]=>if e=some w∧n=xs.length then some (.sptr j w xs.length)else none
  |_=>none
theorem Agu{j:Nat}{k:IntKind}{n:Int}:Eo E t (.sh j) (.int k n) st=ioR (BP E.P t) j n (AZ st.m j):=by
  unfold Eo ioR Qu
  grind
theorem AbP{e:Option Nat}{j w:Nat}{n:Int}{xs:List AVal}:ioR e j n (some [.vec w xs])=none:=rfl
def ivS (e:Option Nat) (j w:Nat) (n:Int) (y:Option AVal):Option AVal:=
  match y with
  |some _=>if e=some w then some (.vptr j w n.toNat 0)else none
  |none=>none
def ivR (e:Option Nat) (y:Option (Nat×Nat×List AVal)) (n:Int):Option AVal:=
  match y with
  |some (j,w,xs)=>ivS e j w n (idx xs n)
  |none=>none
theorem Aga{j:Nat}{k:IntKind}{n:Int}:MU E t (.sh j) (.int k n) st=ivR (BP E.P t) (J6 st (.sh j)) n:=by
  unfold MU ivR ivS idx
  rcases J6 st (.sh j)with _|⟨i,wd,xs⟩
  · rfl
  · simp only
    by_cases h1:BP E.P t=some wd<;>by_cases h2:0≤n<;>by_cases h3:n<xs.length<;>simp[h1,h2,h3]<;>grind
theorem AWK{e:Option Nat}{j w:Nat}{n:Int}{xs:List AVal}:ivR e (some (j,w,xs)) n=ivS e j w n (idx xs n):=rfl
theorem AUQ{j w:Nat}{n:Int}{y:AVal}:ivS (some w) j w n (some y)=some (.vptr j w n.toNat 0):=by simp[ivS]
def caI (w w' k:Nat) (y:Option AVal):Option (List AVal):=
  match y with
  |some x=>if w'=w∧Bq x=true then some ((AQ x).drop k)else none
  |none=>none
def caR (w n k:Nat) (y:Option (List AVal)):Option (List AVal):=
  match y with
  |some [.vec w' xs]=>caI w w' k xs[n]?
  |_=>none
theorem AbC{i w n k:Nat}:OH st (.vptr i w n k)=caR w n k (AZ st.m i):=by
  unfold OH caR caI
  simp only
  rcases AZ st.m i with _|(_|⟨y,_|_⟩)<;>try rfl
  · cases y<;>try rfl
    rename_i w' xs
    simp only
    by_cases h:n<xs.length
    · rw[List.getElem?_eq_getElem h]
      simp[h,List.getD]
    · rw[List.getElem?_eq_none (Nat.le_of_not_lt h)]
      simp[h]
  · cases y<;>rfl
theorem Aby{w w' n k:Nat}{xs:List AVal}:caR w n k (some [.vec w' xs])=caI w w' k xs[n]?:=rfl
theorem AXh{w k:Nat}{x:AVal}:caI w w k (some x)=if Bq x=true then some ((AQ x).drop k)else none:=by simp[caI]
theorem Aaf{i w n k:Nat}{v:AVal}:Kj E t (.vptr i w n k) v st=shS (JI v) (O0 E t (.vptr i w n k) v st) (TC E t (.vptr i w n k) v st):=TB
def seR (e:Option Nat) (i w n k:Nat) (v:AVal) (y:Option (List AVal)) (st:St):Option St:=
  match y with
  |some [.vec w' xs]=>if w'=w∧k=0∧n<xs.length∧Bq v=true∧e=some w∧(AQ v).length=w then some {st with m:=Ao st.m i [.vec w (xs.set n v.strip)]}else none
  |_=>none
def sfI (e:Option Nat) (i w:Nat) (xs:List AVal) (n k:Nat) (v:AVal) (x:Option AVal) (st:St):Option St:=
  match x with
  |some x=>if Bq v=true∧Bq x=true∧(AQ x).length=w∧e=some (AQ v).length∧k+(AQ v).length≤w then some {st with m:=Ao st.m i [.vec w (xs.set n (.agg (putCells (AQ x) k (stripL (AQ v)))))]}else none
  |none=>none
def sfR (e:Option Nat) (i w n k:Nat) (v:AVal) (y:Option (List AVal)) (st:St):Option St:=
  match y with
  |some [.vec w' xs]=>if w'=w then sfI e i w xs n k v xs[n]? st else none
  |_=>none
def svK (x y:Option St):Option St:=match x with|some s=>some s|none=>y
theorem AWl{s:St}{y:Option St}:svK (some s) y=some s:=rfl
theorem AWU{y:Option St}:svK none y=y:=rfl
theorem AcV{i w n k:Nat}{v:AVal}:TC E t (.vptr i w n k) v st=svK (seR (BH E.P t) i w n k v (AZ st.m i) st) (sfR (BH E.P t) i w n k v (AZ st.m i) st):=by
  have h1:WF E t (.vptr i w n k) v st=seR (BH E.P t) i w n k v (AZ st.m i) st:=by
    unfold WF seR
    simp only
    rcases AZ st.m i with _|(_|⟨y,_|_⟩)<;>first|rfl|(cases y<;>rfl)
  have h2:VL E t (.vptr i w n k) v st=sfR (BH E.P t) i w n k v (AZ st.m i) st:=by
    unfold VL sfR sfI
    simp only
    rcases AZ st.m i with _|(_|⟨y,_|_⟩)<;>first|rfl|(cases y<;>rfl)|skip
    cases y<;>try rfl
    rename_i w' xs
    simp only[]
    by_cases hw:w'=w
    · by_cases hn:n<xs.length
      · simp[hw,hn,List.getD]
      · simp[hw,hn]
    · simp[hw]
  unfold TC svK
  rw[h1,h2]
  cases seR (BH E.P t) i w n k v (AZ st.m i) st<;>rfl
theorem Ag4{e:Option Nat}{i w n k:Nat}{v:AVal}{y:Option (List AVal)} (h:k≠0):seR e i w n k v y st=none:=by
  unfold seR;split<;>simp[h]
theorem Agb{z i w n k:Nat}{v:AVal}{y:Option (List AVal)} (h:z≠w):seR (some z) i w n k v y st=none:=by
  unfold seR;split
  · rename_i w' xs;simp[h]
  · rfl
theorem Aa2{e:Option Nat}{i w n k:Nat}{v:AVal}{xs:List AVal}:sfR e i w n k v (some [.vec w xs]) st=sfI e i w xs n k v xs[n]? st:=by simp[sfR]
theorem AWv{z i w n k:Nat}{v x:AVal}{xs:List AVal}:sfI (some z) i w xs n k v (some x) st=if Bq v=true∧Bq x=true∧(AQ x).length=w∧z=(AQ v).length∧k+(AQ v).length≤w then some {st with m:=Ao st.m i [.vec w (xs.set n (.agg (putCells (AQ x) k (stripL (AQ v)))))]}else none:=by simp[sfI]
def seI (i w n:Nat) (v:AVal) (xs:List AVal) (x:Option AVal) (st:St):Option St:=
  match x with
  |some _=>if Bq v=true∧(AQ v).length=w then some {st with m:=Ao st.m i [.vec w (xs.set n v.strip)]}else none
  |none=>none
theorem AZG{i w n:Nat}{v x:AVal}{xs:List AVal}:seI i w n v xs (some x) st=if Bq v=true∧(AQ v).length=w then some {st with m:=Ao st.m i [.vec w (xs.set n v.strip)]}else none:=rfl
theorem AcC{α:Type}{f:α→AVal}{l:List α}{i w n:Nat}{v:AVal}:seR (some w) i w n 0 v (some [.vec w (List.map f l)]) st=seI i w n v (List.map f l) (List.map f l)[n]? st:=by
  by_cases h:n<l.length
  · simp[seR,seI,h]
  · simp[seR,seI,h]
theorem AgB{t0 t1:TypeId}{i:Nat}{y:AVal}:Lb E t0 t1 (.sh i) y=none:=rfl
def afR (x:Option St):Option (AVal×St):=
  match x with
  |some ⟨(n,[.vec w zs])::m,k⟩=>some (.slice w zs false,⟨m,k⟩)
  |_=>none
theorem AgT{t0 t1:TypeId}{i:Nat}{y:AVal}:AIc E t0 t1 (.sh i) y st=afR (Uq E t0 t1 (.sh i) y st):=by unfold AIc afR;rfl
theorem AYM{n w k:Nat}{zs:List AVal}{m:List (Nat×List AVal)}:afR (some ⟨(n,[.vec w zs])::m,k⟩)=some (.slice w zs false,⟨m,k⟩):=rfl
theorem Aex{m:AVal}{s:List UInt8}{ok:Bool}{st:St}:PW E t m (.str s) ok st=MK E t m (.str s) ok st:=by
  have:UF E t m (.str s) ok st=none:=by unfold UF;split<;>simp_all
  unfold PW;rw[this];cases MK E t m (.str s) ok st<;>rfl
theorem AeP{m:AVal}{c:List AVal}{ok:Bool}{st:St}:PW E t m (.agg c) ok st=UF E t m (.agg c) ok st:=by
  have:MK E t m (.agg c) ok st=none:=by unfold MK;split<;>simp_all
  unfold PW;rw[this]
theorem Ad9{m x:AVal}{s:List UInt8}{st:St}:QO E t m (.str s) x st=VV E t m (.str s) x st:=by
  have:AJj E t m (.str s) x st=none:=by unfold AJj;split<;>simp_all
  unfold QO;rw[this];cases VV E t m (.str s) x st<;>rfl
theorem Aeb{m x:AVal}{c:List AVal}{st:St}:QO E t m (.agg c) x st=AJj E t m (.agg c) x st:=by
  have:VV E t m (.agg c) x st=none:=by unfold VV;split<;>simp_all
  unfold QO;rw[this]
def lhR (b ok:Bool) (x:Option (List (List UInt8×Int))) (k:List UInt8×Int):Option AVal:=if b=true then x.map fun ks=>QW ok (ks.contains k)else none
def uhR (b:Bool) (i:Nat) (x:Option (List (List UInt8×Int))) (k:List UInt8×Int) (st:St):Option St:=if b=true then x.map fun ks=> {st with m:=Ao st.m i [.hset (Xk ks k)]}else none
theorem AgS{i:Nat}{s:List UInt8}{p:Int}{ok:Bool}{st:St}:UF E t (.sh i) (.agg [.str s,.int .i64 p]) ok st=lhR (hpT E.P t) ok (hsA (AZ st.m i)) (s,p):=by
  unfold UF lhR;cases hpT E.P t<;>rfl
theorem Afx{i:Nat}{s:List UInt8}{p:Int}{st:St}:AJj E t (.sh i) (.agg [.str s,.int .i64 p]) (.bool true) st=uhR (hpT E.P t) i (hsA (AZ st.m i)) (s,p) st:=by
  unfold AJj uhR;cases hpT E.P t<;>rfl
theorem AYt{ok:Bool}{ks:List (List UInt8×Int)}{k:List UInt8×Int}:lhR true ok (some ks) k=some (QW ok (ks.contains k)):=rfl
theorem AWa{i:Nat}{ks:List (List UInt8×Int)}{k:List UInt8×Int}{st:St}:uhR true i (some ks) k st=some {st with m:=Ao st.m i [.hset (Xk ks k)]}:=rfl
theorem Af4{ks:List (List UInt8×Int)}:hsA (some [.hset ks])=some ks:=rfl
theorem AgL:hsA (some [.map [] []])=some []:=rfl
theorem AgG{b:Bool}:QW false b=.bool b:=rfl
theorem Ag2{b:Bool}:QW true b=.tuple [.bool b,.bool b]:=rfl
theorem Aeq{t0 t1:TypeId}{i:Tmp}{ax y:AVal}:appW E (.tmp i) t0 t1 ax y st=AIc E t0 t1 ax y st:=by
  unfold appW AVF;cases AIc E t0 t1 ax y st<;>rfl
def anR (a:Option (Nat×Nat)) (f:Nat→Option (List AVal)) (c:Bool) (st:St):Option (AVal×St):=
  match a with
  | some (z,b)=>match f z with
    |some ys=>if c=true then(if CG ys.length b then some (.sh st.next,{m:=(st.next,[.vec z ys])::st.m,next:=st.next+1})else none)else none
    |none=>none
  |none=>none
theorem Adu{t0 t1:TypeId}{w:Nat}{xs ys:List AVal}{o p:Bool}:appW E (.const (.slice none 0 0)) t0 t1 (.slice w xs o) (.slice w ys p) st=anR (G5 E.P t0) (fun z=>Ld z (.slice w ys p)) (decide (E5 E.P t1=none)&&Ab E.P t1) st:=by
  have:AIc E t0 t1 (.slice w xs o) (.slice w ys p) st=none:=rfl
  unfold appW
  rw[this]
  unfold AVF anR
  rcases G5 E.P t0 with _|⟨z,b⟩
  · rfl
  · simp only[]
    cases Ld z (.slice w ys p)with
    |none=>rfl
    |some ys=>simp only[CG,Bl,Bool.and_eq_true,decide_eq_true_eq];by_cases h1:E5 E.P t1=none<;>by_cases h2:Ab E.P t1=true<;>simp[h1,h2]<;>congr 1<;>simp[and_comm]
theorem AZL{z b:Nat}{f:Nat→Option (List AVal)}:anR (some (z,b)) f true st=match f z with|some ys=>(if CG ys.length b then some (.sh st.next,{m:=(st.next,[.vec z ys])::st.m,next:=st.next+1})else none)|none=>none:=by simp[anR]
end
end Go.VM
set_option linter.unusedVariables false
namespace Go.VM
abbrev MS:=List (Nat×List AVal)
abbrev PQ:=AVal→St→Prop
structure Gl (P:Prop):Prop where
  go:P
inductive An where
  |z
  |q (a b:An)
  |c (a b:An)
  |r (mv:List Tmp)
def GI (F:List AVal→St→Prop) (K:APost):APost:=fun e af st=>
  match e with
  |.normal=>F af st
  |e=>K e af st
def Ul (id:Nat) (K:APost):APost:=fun e af st=>
  match e with
  |.exit id'=>if id'=id then K .normal af st else K (.exit id') af st
  |e=>K e af st
def nK (K:APost) (af:List AVal) (st:St):Prop:=K .normal af st
def Po (x:AVal) (X Y:List AVal→St→Prop) (af:List AVal) (st:St):Prop:=
  match x with
  |.bool b=>if b=true then X af st else Y af st
  |_=>False
theorem Xj{E:Env}{c:Code}{Q:APost}{af:List AVal}{st:St} (h:AWp E c Q af st):AWp E (.scope c) Q af st:=
  ⟨fun F Γ w a hd hs=>wp_scope_straight (wp_mono (h.go F Γ w a hd hs) fun e a' w' q=>by cases e<;>first|exact q|exact q.1.elim)⟩
def wpc (E:Env):Code→An→APost→List AVal→St→Prop
  |.skip,_,K=>fun af st=>K .normal af st
  |.ret,_,K=>fun af st=>K .ret af st
  |.exit id,_,K=>fun af st=>K (.exit id) af st
  |.seq x y,.q a b,K=>wpc E x a (GI (wpc E y b K) K)
  |.cond c x y,.c a b,K=>fun af st=>Po (rd E af 0 c) (wpc E x a K) (wpc E y b K) af st
  |.block id c,a,K=>wpc E c a (Ul id K)
  |.scope c,a,K=>wpc E c a K
  |.region _ os false,.r mv,K=>JJ E mv os os.toList (nK K)
  |c,_,K=>AWp E c K
section
variable{E:Env}{K:APost}{af:List AVal}{st:St}{x y:Code}{a b:An}{F:List AVal→St→Prop}
theorem AXz:wpc E .skip a K af st=K .normal af st:=by rw[wpc]
theorem AcB:wpc E .ret a K af st=K .ret af st:=by rw[wpc]
theorem AVU{id:Nat}:wpc E (.exit id) a K af st=K (.exit id) af st:=by rw[wpc]
theorem AcW:wpc E (.seq x y) (.q a b) K af st=wpc E x a (GI (wpc E y b K) K) af st:=by rw[wpc]
theorem AVD{c:Operand}:wpc E (.cond c x y) (.c a b) K af st=Po (rd E af 0 c) (wpc E x a K) (wpc E y b K) af st:=by rw[wpc]
theorem AQR{id:Nat}:wpc E (.block id x) a K af st=wpc E x a (Ul id K) af st:=by rw[wpc]
theorem AQ7:wpc E (.scope x) a K af st=wpc E x a K af st:=by rw[wpc]
theorem ANC{id:Nat}{os:List Oper}{mv:List Tmp}:wpc E (.region id (List.toArray os) false) (.r mv) K af st=JJ E mv ⟨os⟩ os (nK K) af st:=by rw[wpc]
theorem AgQ:wpc E (.seq x y) .z K af st=AWp E (.seq x y) K af st:=by rw[wpc]<;>simp
theorem AWj:wpc E (.loop x) a K af st=AWp E (.loop x) K af st:=by rw[wpc]<;>simp
theorem AXH{id:Nat}{os:Array Oper}:wpc E (.region id os true) a K af st=AWp E (.region id os true) K af st:=by rw[wpc]<;>simp
theorem AcA:GI F K .normal af st=F af st:=rfl
theorem AcJ:GI F K .ret af st=K .ret af st:=rfl
theorem Ab9{id:Nat}:GI F K (.exit id) af st=K (.exit id) af st:=rfl
theorem Afc{id:Nat}:Ul id K .normal af st=K .normal af st:=rfl
theorem Adi{id:Nat}:Ul id K .ret af st=K .ret af st:=rfl
theorem AfX{id:Nat}:Ul id K (.exit id) af st=K .normal af st:=by simp[Ul]
theorem Afl{id id':Nat} (h:id'≠id):Ul id K (.exit id') af st=K (.exit id') af st:=by grind[Ul]
theorem Afg:nK K af st=K .normal af st:=rfl
theorem AN2{X Y:List AVal→St→Prop}:Po (.bool true) X Y af st=X af st:=rfl
theorem AOx{X Y:List AVal→St→Prop}:Po (.bool false) X Y af st=Y af st:=rfl
def turns (E:Env) (c:Code) (Q:APost):Nat→List AVal→St→Prop
  |0=>fun _ _=>False
  |k+1=>AWp E c (GI (turns E c Q k) Q)
theorem Rl{k:Nat}{Q:APost} (h:AWp E x (GI (turns E x Q k) Q) af st):turns E x Q (k+1) af st:=h
theorem AMf (k:Nat){Q:APost} (h:turns E x Q k af st):AWp E (.loop x) Q af st:=
  AKu (fun n=>turns E x Q n) k h fun n af st hI J hJ=>by
    cases n with
    |zero=>exact hI.elim
    |succ n=>exact AWp.mono (show AWp E x (GI (turns E x Q n) Q) af st from hI) fun e af' st' _ q=>by cases e<;>first|exact I1 (hJ n _ _ (Nat.lt_succ_self _) q)|exact .oth (by simp) q
theorem Lv: ∀ {c:Code} (a:An){K:APost}{af:List AVal}{st:St},wpc E c a K af st→AWp E c K af st:=by
  intro c
  induction c with
  |skip=>intro a K af st h;rw[wpc]at h;exact AHq h
  |ret=>intro a K af st h;rw[wpc]at h;exact AOw h
  |exit id=>intro a K af st h;rw[wpc]at h;exact AGu h
  | seq x y ihx ihy=>
    intro a K af st h
    cases a with
    | q a b=>
      rw[wpc]at h
      refine QE ((ihx a h).mono fun e af' st' _ q=>?_)
      cases e with
      |normal=>exact ihy b q
      |_=>exact q
    |_=>(rw[wpc]at h;exact h)<;>(intros;simp_all)
  | cond c x y ihx ihy=>
    intro a K af st h
    cases a with
    | c a b=>
      rw[wpc]at h
      unfold Po at h
      split at h
      · rename_i b' hb
        refine AKI b' hb ?_
        cases b' with
        |true=>simp only[if_true]at h⊢;grind
        |false=>simp only[Bool.false_eq_true,if_false]at h⊢;grind
      grind
    |_=>(rw[wpc]at h;exact h)<;>(intros;simp_all)
  | block id c ih=>
    intro a K af st h
    rw[wpc]at h
    exact Xo ((ih a h).mono fun e af' st' _ q=>by cases e<;>exact q)
  | region id os d=>
    intro a K af st h
    cases d with
    |true=>(rw[wpc]at h;exact h)<;>(intros;simp_all)
    | false=>
      cases a with
      |r mv=>rw[wpc]at h;exact RL mv h
      |_=>(rw[wpc]at h;exact h)<;>(intros;simp_all)
  |loop c ih=>intro a K af st h;(rw[wpc]at h;exact h)<;>(intros;simp_all)
  |rangeFunc f ps x y ihx ihy=>intro a K af st h;(rw[wpc]at h;exact h)<;>(intros;simp_all)
  |scope c ih=>intro a K af st h;rw[wpc]at h;grind[Xj]
  |label l=>intro a K af st h;(rw[wpc]at h;exact h)<;>(intros;simp_all)
  |goto l=>intro a K af st h;(rw[wpc]at h;exact h)<;>(intros;simp_all)
  |refuse w=>intro a K af st h;(rw[wpc]at h;exact h)<;>(intros;simp_all)
end
def gK (g:Option Bool) (X Y:Prop):Prop:=match g with|some true=>X|some false=>Y|none=>False
theorem Ahb{X Y:Prop}:gK (some true) X Y=X:=rfl
theorem AhT{X Y:Prop}:gK (some false) X Y=Y:=rfl
def nxK (b:Bool) (X Y:Prop):Prop:=if b=true then X else Y
theorem AgN{X Y:Prop}:nxK true X Y=X:=by simp[nxK]
theorem Agy{X Y:Prop}:nxK false X Y=Y:=by simp[nxK]
section
variable{E:Env}{mv:List Tmp}{ops:Array Oper}{K:List AVal→St→Prop}{af:List AVal}{st:St}{d:Option Tmp}{ty:TypeId}{pos:String}{aft:Array Edge}{g:Option (Nat×Bool)}
theorem AeR{op:Op}{os' os:List Oper}{j:Nat}{want:Bool}:JJ E mv ⟨os'⟩ (⟨d,op,ty,pos,aft,some (j,want)⟩::os) K af st=
    gK (gdD (La os' j) af want) (CX E mv ⟨d,op,ty,pos,aft,some (j,want)⟩ af st (JJ E mv ⟨os'⟩ os K)) (JJ E mv ⟨os'⟩ os K (AX af d (.tuple [])) st):=by
  grind[JJ,AMK,gK,gdD,La]
theorem Ahk{op:Op}{os':List Oper}{j:Nat}{want:Bool}:gWp E mv ⟨os'⟩ ⟨d,op,ty,pos,aft,some (j,want)⟩ af st K=
    gK (gdD (La os' j) af want) (CX E mv ⟨d,op,ty,pos,aft,some (j,want)⟩ af st K) (K (AX af d (.tuple [])) st):=by
  grind[gWp,AMK,gK,gdD,La]
theorem AcX{t:Tmp}{s:List UInt8}{p:Nat}:VX (.iter s p) t d K af st=nxK (decide (p<s.length)) (K (AX (af.set t (.iter s (p+(C8 s p).2))) d (.tuple [.bool true,.int .i64 p,.int .i32 (C8 s p).1])) st) (K (AX af d (.tuple [.bool false])) st):=by
  rw[ANd];rfl
end
section cong
@[congr] theorem Agz {E : Env} {mv : List Tmp} {ops : Array Oper} {os : List Oper} {K : List AVal → St → Prop} {af : List AVal} {st : St} {af' : List AVal} {st' : St} (h0 : af = af') (h1 : st = st') : JJ E mv ops os K af st = JJ E mv ops os K af' st' := by grind
@[congr] theorem Ag9 {E : Env} {mv : List Tmp} {o : Oper} {af : List AVal} {st : St} {K : List AVal → St → Prop} {af' : List AVal} {st' : St} (h0 : af = af') (h1 : st = st') : CX E mv o af st K = CX E mv o af' st' K := by grind
@[congr] theorem AhF {x : Option AVal} {d : Option Tmp} {K : List AVal → St → Prop} {af : List AVal} {st : St} {x' : Option AVal} {af' : List AVal} {st' : St} (h0 : x = x') (h1 : af = af') (h2 : st = st') : NV x d K af st = NV x' d K af' st' := by grind
@[congr] theorem AgA {x : Option AVal} {d : Option Tmp} {K : List AVal → St → Prop} {af : List AVal} {st : St} {x' : Option AVal} {af' : List AVal} {st' : St} (h0 : x = x') (h1 : af = af') (h2 : st = st') : J4 x d K af st = J4 x' d K af' st' := by grind
@[congr] theorem Ags {z : Option (AVal × St)} {d : Option Tmp} {K : List AVal → St → Prop} {af : List AVal} {z' : Option (AVal × St)} {af' : List AVal} (h0 : z = z') (h1 : af = af') : MP z d K af = MP z' d K af' := by grind
@[congr] theorem Ag8 {b : Bool} {v : AVal} {d : Option Tmp} {K : List AVal → St → Prop} {af : List AVal} {st : St} {b' : Bool} {v' : AVal} {af' : List AVal} {st' : St} (h0 : b = b') (h1 : v = v') (h2 : af = af') (h3 : st = st') : ARi b v d K af st = ARi b' v' d K af' st' := by grind
@[congr] theorem Afv {x : Option (List AVal)} {d : Option Tmp} {K : List AVal → St → Prop} {af : List AVal} {st : St} {x' : Option (List AVal)} {af' : List AVal} {st' : St} (h0 : x = x') (h1 : af = af') (h2 : st = st') : VH x d K af st = VH x' d K af' st' := by grind
@[congr] theorem Afw {s : Option St} {K : List AVal → St → Prop} {af : List AVal} {s' : Option St} {af' : List AVal} (h0 : s = s') (h1 : af = af') : OV s K af = OV s' K af' := by grind
@[congr] theorem Aft {E : Env} {t : TypeId} {v : AVal} {lo : Option (Option Int)} {hi : Option (Option Int)} {mx : Option (Option Int)} {d : Option Tmp} {K : List AVal → St → Prop} {af : List AVal} {st : St} {v' : AVal} {lo' : Option (Option Int)} {hi' : Option (Option Int)} {mx' : Option (Option Int)} {af' : List AVal} {st' : St} (h0 : v = v') (h1 : lo = lo') (h2 : hi = hi') (h3 : mx = mx') (h4 : af = af') (h5 : st = st') : Vz E t v lo hi mx d K af st = Vz E t v' lo' hi' mx' d K af' st' := by grind
@[congr] theorem Afs {b : Bool} {v : AVal} {d : Option Tmp} {K : List AVal → St → Prop} {af : List AVal} {st : St} {b' : Bool} {v' : AVal} {af' : List AVal} {st' : St} (h0 : b = b') (h1 : v = v') (h2 : af = af') (h3 : st = st') : VF b v d K af st = VF b' v' d K af' st' := by grind
@[congr] theorem Agj {v : AVal} {tm : Tmp} {d : Option Tmp} {K : List AVal → St → Prop} {af : List AVal} {st : St} {v' : AVal} {af' : List AVal} {st' : St} (h0 : v = v') (h1 : af = af') (h2 : st = st') : VX v tm d K af st = VX v' tm d K af' st' := by grind
@[congr] theorem Agm {E : Env} {v : AVal} {l : List AVal} {d : Option Tmp} {K : List AVal → St → Prop} {af : List AVal} {st : St} {v' : AVal} {l' : List AVal} {af' : List AVal} {st' : St} (h0 : v = v') (h1 : l = l') (h2 : af = af') (h3 : st = st') : AHC E v l d K af st = AHC E v' l' d K af' st' := by grind
@[congr] theorem Ahn {b : Bool} {u : Operand} {t : TypeId} {E : Env} {d : Option Tmp} {K : List AVal → St → Prop} {af : List AVal} {st : St} {b' : Bool} {af' : List AVal} {st' : St} (h0 : b = b') (h1 : af = af') (h2 : st = st') : mvK b u t E d K af st = mvK b' u t E d K af' st' := by grind
@[congr] theorem AhU {b : Bool} {t : TypeId} {v : AVal} {E : Env} {d : Option Tmp} {K : List AVal → St → Prop} {af : List AVal} {st : St} {b' : Bool} {v' : AVal} {af' : List AVal} {st' : St} (h0 : b = b') (h1 : v = v') (h2 : af = af') (h3 : st = st') : ldK b t v E d K af st = ldK b' t v' E d K af' st' := by grind
@[congr] theorem Agc {F : List AVal → St → Prop} {L : APost} {e : Exit} {af : List AVal} {st : St} {e' : Exit} {af' : List AVal} {st' : St} (h0 : e = e') (h1 : af = af') (h2 : st = st') : GI F L e af st = GI F L e' af' st' := by grind
@[congr] theorem AhG {id : Nat} {L : APost} {e : Exit} {af : List AVal} {st : St} {e' : Exit} {af' : List AVal} {st' : St} (h0 : e = e') (h1 : af = af') (h2 : st = st') : Ul id L e af st = Ul id L e' af' st' := by grind
@[congr] theorem Ahx {L : APost} {af : List AVal} {st : St} {af' : List AVal} {st' : St} (h0 : af = af') (h1 : st = st') : nK L af st = nK L af' st' := by grind
@[congr] theorem Agt {v : AVal} {F : List AVal → St → Prop} {G : List AVal → St → Prop} {af : List AVal} {st : St} {v' : AVal} {af' : List AVal} {st' : St} (h0 : v = v') (h1 : af = af') (h2 : st = st') : Po v F G af st = Po v' F G af' st' := by grind
@[congr] theorem Ahv {E : Env} {c : Code} {a : An} {L : APost} {af : List AVal} {st : St} {af' : List AVal} {st' : St} (h0 : af = af') (h1 : st = st') : wpc E c a L af st = wpc E c a L af' st' := by grind
@[congr] theorem Ahl {E : Env} {c : Code} {L : APost} {af : List AVal} {st : St} {af' : List AVal} {st' : St} (h0 : af = af') (h1 : st = st') : AWp E c L af st = AWp E c L af' st' := by grind
@[congr] theorem Agr {E : Env} {f : FuncId} {l : List AVal} {st : St} {Q : AVal → St → Prop} {l' : List AVal} {st' : St} (h0 : l = l') (h1 : st = st') : ACall E f l st Q = ACall E f l' st' Q := by grind
@[congr] theorem Afu {E : Env} {mv : List Tmp} {ops : Array Oper} {p : Plan} {tv : List (Nat × AVal)} {K : List AVal → St → Prop} {af : List AVal} {st : St} {tv' : List (Nat × AVal)} {af' : List AVal} {st' : St} (h0 : tv = tv') (h1 : af = af') (h2 : st = st') : Eu E mv ops p tv K af st = Eu E mv ops p tv' K af' st' := by grind
@[congr] theorem AhO {E : Env} {mv : List Tmp} {os : List Oper} {x : Option AVal} {i : Nat} {d : Option Tmp} {p : Plan} {tv : List (Nat × AVal)} {K : List AVal → St → Prop} {af : List AVal} {st : St} {x' : Option AVal} {tv' : List (Nat × AVal)} {af' : List AVal} {st' : St} (h0 : x = x') (h1 : tv = tv') (h2 : af = af') (h3 : st = st') : tkR E mv os x i d p tv K af st = tkR E mv os x' i d p tv' K af' st' := by grind
@[congr] theorem AhY {E : Env} {mv : List Tmp} {os : List Oper} {w : Option Oper} {i : Nat} {p : Plan} {tv : List (Nat × AVal)} {K : List AVal → St → Prop} {af : List AVal} {st : St} {w' : Option Oper} {tv' : List (Nat × AVal)} {af' : List AVal} {st' : St} (h0 : w = w') (h1 : tv = tv') (h2 : af = af') (h3 : st = st') : tkO E mv os w i p tv K af st = tkO E mv os w' i p tv' K af' st' := by grind
@[congr] theorem AhE {E : Env} {mv : List Tmp} {os : List Oper} {chk : List Nat} {p : Plan} {tv : List (Nat × AVal)} {K : List AVal → St → Prop} {af : List AVal} {st : St} {tv' : List (Nat × AVal)} {af' : List AVal} {st' : St} (h0 : tv = tv') (h1 : af = af') (h2 : st = st') : AUd E mv os chk p tv K af st = AUd E mv os chk p tv' K af' st' := by grind
@[congr] theorem AhD {E : Env} {mv : List Tmp} {os : List Oper} {w : Option Oper} {chk : List Nat} {p : Plan} {tv : List (Nat × AVal)} {K : List AVal → St → Prop} {af : List AVal} {st : St} {w' : Option Oper} {tv' : List (Nat × AVal)} {af' : List AVal} {st' : St} (h0 : w = w') (h1 : tv = tv') (h2 : af = af') (h3 : st = st') : AaK E mv os w chk p tv K af st = AaK E mv os w' chk p tv' K af' st' := by grind
@[congr] theorem AhR {E : Env} {mv : List Tmp} {ops : Array Oper} {o : Oper} {af : List AVal} {st : St} {K : List AVal → St → Prop} {af' : List AVal} {st' : St} (h0 : af = af') (h1 : st = st') : gWp E mv ops o af st K = gWp E mv ops o af' st' K := by grind
@[congr] theorem Ahy {g : Option Bool} {X : Prop} {Y : Prop} {g' : Option Bool} (h0 : g = g') : gK g X Y = gK g' X Y := by grind
@[congr] theorem AhB {d : Option Tmp} {K : List AVal → St → Prop} {af : List AVal} {r : AVal} {sx : St} {af' : List AVal} {r' : AVal} {sx' : St} (h0 : af = af') (h1 : r = r') (h2 : sx = sx') : ATV d K af r sx = ATV d K af' r' sx' := by grind
@[congr] theorem AhH {b : Bool} {X : Prop} {Y : Prop} {b' : Bool} (h0 : b = b') : nxK b X Y = nxK b' X Y := by grind
end cong
section rules
variable{E:Env}{K Q:APost}{af:List AVal}{st:St}{x y c:Code}
theorem ent{f:FuncId}{fn:Func}{nt:Nat}{rs:List ResultVar}{args:List AVal}{m m':MS}{n:Nat}{r':AVal}{Q:PQ} (hQ: ∀n',n≤n'→Gl (Q r' ⟨m',n'⟩)) (hf:E.P.funcs[f]?=some fn) (hb:fn.body=some c)
    (hn:fn.ntmps=nt) (hr:fn.results=rs.toArray) (a:An)
    (h: ∀R:APost,(∀af st xs m0 m1 n',Me E rs af st=some (xs,⟨m1,n'⟩)→m0.Sublist m1→m0=m'→n≤n'→Oc xs=r'→R .ret af st∧R .normal af st)→Gl (wpc E c a R (args++List.replicate (nt-args.length) .any) ⟨m,n⟩)):ACall E f args ⟨m,n⟩ Q:=by
  refine JZ hf hb ?_
  have hw:=Lv a (h (H5 E fn Q) ?_).go
  · grind
  · intro af st xs m0 m1 n' h1 h2 h0 h3 h4
    subst h0
    have e:fn.results.toList=rs:=by rw[hr]
    subst h4
    exact⟨IA (by rw[e];omega) h2 (hQ n' h3).go,IP (by rw[e];omega) h2 (hQ n' h3).go⟩
theorem Ac5{f:FuncId}{fn:Func}{nt:Nat}{rs:List ResultVar}{args:List AVal}{m m':MS}{n:Nat}{r':AVal}{Q:PQ} (hQ: ∀n',n≤n'→Gl (Q r' ⟨m',n'⟩)) (hf:E.P.funcs[f]?=some fn) (hb:fn.body=some c)
    (hn:fn.ntmps=nt) (hr:fn.results=rs.toArray) (a:An)
    (h: ∀R:APost,(∀af st xs m0 m1 n',Me E rs af st=some (xs,⟨m1,n'⟩)→m0.Sublist m1→m0=m'→n≤n'→(Oc xs).strip=r'→R .ret af st∧R .normal af st)→Gl (wpc E c a R (args++List.replicate (nt-args.length) .any) ⟨m,n⟩)):ACall E f args ⟨m,n⟩ Q:=by
  refine ACall.strip (JZ hf hb ?_)
  have hw:=Lv a (h (H5 E fn fun r st'=>Q r.strip st') ?_).go
  · grind
  · intro af st xs m0 m1 n' h1 h2 h0 h3 h4
    subst h0
    have e:fn.results.toList=rs:=by rw[hr]
    subst h4
    exact⟨IA (by rw[e];omega) h2 (hQ n' h3).go,IP (by rw[e];omega) h2 (hQ n' h3).go⟩
theorem Jg{id:Nat}{os:List Oper} (mv:List Tmp) (plan:Plan) (hm:E.P.follows .mixedOrders=true) (hok:G7 (List.toArray os) plan false (Array.replicate (List.toArray os).size false) []=true)
    (h:Gl (Eu E mv ⟨os⟩ plan [] (nK Q) af st)):AWp E (.region id (List.toArray os) true) Q af st:=
  Oa mv plan hm hok h.go
theorem MQ{α β γ:Type}{k0:α→Option β}{body:(α→Option β)→Option β}{r:β}{m:MS}{n:Nat}{T:Prop}{d:JD α} (h:T∧AA k0 body d=some r) (js cs:List Tmp) (V:α→γ→List AVal) (M:α→γ→MS) (a:An)
    (rest: ∀j g n',n≤n'→keysLt n' (M j g)→((M j g).map (·.1)).Nodup→T∧k0 j=some r→AWp E y Q (setVals (Ae js af) cs (V j g)) ⟨M j g,n'⟩)
    (first: ∀(k:α→Option β) (J:List AVal→St→Prop),(∀j g af' m0 m1 n',k j=some r→m0.Sublist m1→m0=M j g→Ae cs (Ae js af')=Ae cs (Ae js af)→Bw (Ae js af') cs=V j g→n≤n'→J af' ⟨m1,n'⟩)→T∧body k=some r→Gl (wpc E x a (GI J Q) af ⟨m,n⟩)):
    AWp E (.seq x y) Q af ⟨m,n⟩:=by
  refine QE ?_
  have key:=Lv a (first k0 (fun af' st'=>AWp E y Q af' ⟨st'.m,st'.next⟩) ?_ h).go
  · exact key.mono fun e af' st' _ q=>by cases e<;>exact q
  · intro j g af' m0 m1 n' h1 h2 h3 h4 h5 h6
    subst h3
    refine PL js (AQ1 (m:=M j g) h2 ?_)
    grind[AWp.known,AWp.nodup,Ii]
theorem AGl{σ β γ:Type}{r:β}{m:MS}{n:Nat}{T:Prop} (G:Nat→σ→Option β) (V:σ→γ→List AVal) (M:σ→γ→MS) (js cs:List Tmp) (s0:σ) (g0:γ){k0:Nat} (h:T∧G k0 s0=some r) (hz: ∀s,G 0 s=none)
    (hm:m=M s0 g0) (hv:Bw (Ae js af) cs=V s0 g0)
    (round: ∀k s g n',n≤n'→keysLt n' (M s g)→T∧G (k+1) s=some r→ ∀J:List AVal→St→Prop,(∀s' g' af' m0 m1 n'',G k s'=some r→m0.Sublist m1→m0=M s' g'→Ae cs (Ae js af')=Ae cs (Ae js af)→Bw (Ae js af') cs=V s' g'→n'≤n''→J af' ⟨m1,n''⟩)→
      AWp E c (GI J Q) (setVals (Ae js af) cs (V s g)) ⟨M s g,n'⟩):AWp E (.loop c) Q af ⟨m,n⟩:=by
  refine VP js cs (fun k vs st'=> ∃s g,vs=V s g∧st'.m=M s g∧n≤st'.next∧G k s=some r) k0 ⟨s0,g0,hv,hm,Nat.le_refl _,h.2⟩ ?_
  rintro k vs ⟨m',n'⟩ ⟨s,g,rfl,hm',hn,hG⟩ J hJ
  simp only at hm' hn
  subst hm'
  cases k with
  |zero=>grind
  | succ k=>
    refine AWp.known fun _ hk=>?_
    refine(round k s g n' hn hk ⟨h.1,hG⟩ J ?_).mono fun e af' st' _ q=>by cases e<;>first|exact I1 q|exact .oth (by simp) q
    intro s' g' af' m0 m1 n'' h1 h2 h3 h4 h5 h6
    exact hJ k af' ⟨m1,n''⟩ m0 (Nat.lt_succ_self _) h2 h4 ⟨s',g',h5,h3,Nat.le_trans hn h6,h1⟩
theorem AP5{α:Type}{L pre suf:List α}{x:α} (h:L=pre++x::suf) (hL:AB L.length):decide ((pre.length:Int)<(L.length:Int))=true∧idx L (pre.length:Int)=some x∧wr .i64 ((pre.length:Int)+1)=(pre.length:Int)+1:=by
  subst h
  unfold AB at hL
  simp only[List.length_append,List.length_cons]at hL
  refine⟨by simp only[decide_eq_true_eq,List.length_append,List.length_cons];omega,by simp[idx],?_⟩
  grind[wr,IntKind.wrap,IntKind.bits,IntKind.signed]
theorem AVd{σ β γ:Type}{r:β}{m:MS}{n:Nat}{T:Prop} (i0 b:Int) (hL: -4611686018427387904≤i0∧b≤4611686018427387904) (G:Nat→Int→σ→Option β) (V:Int→σ→γ→List AVal) (M:Int→σ→γ→MS) (js cs:List Tmp) (s0:σ) (g0:γ) (h:T∧G (b-i0).toNat i0 s0=some r)
    (hm:m=M i0 s0 g0) (hv:Bw (Ae js af) cs=V i0 s0 g0)
    (rnil: ∀i s g n',n≤n'→keysLt n' (M i s g)→(decide (i<b)=false∧T)∧G 0 i s=some r→AWp E c (GI (fun _ _=>False) Q) (setVals (Ae js af) cs (V i s g)) ⟨M i s g,n'⟩)
    (rcons: ∀k i s g n',n≤n'→keysLt n' (M i s g)→(decide (i<b)=true∧wr .i64 (i+1)=i+1∧T)∧G (k+1) i s=some r→ ∀J:List AVal→St→Prop,(∀s' g' af' m0 m1 n'',G k (i+1) s'=some r→m0.Sublist m1→m0=M (i+1) s' g'→Ae cs (Ae js af')=Ae cs (Ae js af)→Bw (Ae js af') cs=V (i+1) s' g'→n'≤n''→J af' ⟨m1,n''⟩)→
      AWp E c (GI J Q) (setVals (Ae js af) cs (V i s g)) ⟨M i s g,n'⟩):AWp E (.loop c) Q af ⟨m,n⟩:=by
  refine VP js cs (fun k vs st'=> ∃i s g,i0≤i∧k=(b-i).toNat∧vs=V i s g∧st'.m=M i s g∧n≤st'.next∧G k i s=some r) (b-i0).toNat ⟨i0,s0,g0,Int.le_refl _,rfl,hv,hm,Nat.le_refl _,h.2⟩ ?_
  rintro k vs ⟨m',n'⟩ ⟨i,s,g,hi,hk',rfl,hm',hn,hG⟩ J hJ
  simp only at hm' hn
  subst hm'
  cases k with
  | zero=>
    refine AWp.known fun _ hk=>?_
    refine(rnil _ s g n' hn hk ⟨⟨by grind,h.1⟩,hG⟩).mono fun e af' st' _ q=>by cases e<;>first|exact q.elim|exact .oth (by simp) q
  | succ k=>
    refine AWp.known fun _ hk=>?_
    have hw:wr .i64 (i+1)=i+1:=by
      grind[wr,IntKind.wrap,IntKind.bits,IntKind.signed]
    refine(rcons k i s g n' hn hk ⟨⟨by simp only[decide_eq_true_eq];omega,hw,h.1⟩,hG⟩ J ?_).mono fun e af' st' _ q=>by cases e<;>first|exact I1 q|exact .oth (by simp) q
    intro s' g' af' m0 m1 n'' h1 h2 h3 h4 h5 h6
    exact hJ k af' ⟨m1,n''⟩ m0 (by simp) h2 h4 ⟨i+1,s',g',by omega,by omega,h5,h3,Nat.le_trans hn h6,h1⟩
theorem BM (a:An) (h:Gl (wpc E c a K af st)):AWp E c K af st:=Lv a h.go
end rules
theorem ANg{A B:Prop} (a:Gl A) (b:Gl B):Gl (A∧B):=⟨a.go,b.go⟩
theorem Ec{α:Type}{c:Bool}{x y:Option α}{r:α}{T:Prop} (h:T∧(if c=true then x else y)=some r):((c=true∧T)∧x=some r)∨((c=false∧T)∧y=some r):=by
  cases c
  · exact .inr ⟨⟨rfl,h.1⟩,h.2⟩
  · exact .inl ⟨⟨rfl,h.1⟩,h.2⟩
theorem Cu{α β:Type}{x:Option α}{f:α→Option β}{r:β}{T:Prop} (h:T∧Option.bind x f=some r): ∃y,(x=some y∧T)∧f y=some r:=by
  obtain⟨y,h1,h2⟩:=bind_some h.2;grind
theorem Ho{α:Type}{c:Prop} [Decidable c]{x:Option α}{r:α}{T:Prop} (h:T∧grd c x=some r):c∧T∧x=some r:=by
  grind[WG]
theorem EY{A B C:Prop} (a:A) (h:B∧C):(A∧B)∧C:=⟨⟨a,h.1⟩,h.2⟩
end Go.VM
set_option linter.unusedVariables false
set_option linter.defProp false
set_option maxRecDepth 100000
namespace Go.VM
section
variable{E:Env}{af:List AVal}{t:TypeId}
theorem DN:wr .i64 (0+1)=1:=by decide
theorem DC:wr .i64 (1+1)=2:=by decide
theorem C9:wr .i64 (2+1)=3:=by decide
theorem DF:decide ((0:Int)<3)=true:=rfl
theorem DL:decide ((1:Int)<3)=true:=rfl
theorem DK:decide ((2:Int)<3)=true:=rfl
theorem DJ:decide ((3:Int)<3)=false:=rfl
def fdA (r:Option (Nat×Nat×Bool)) (cs:List AVal):Option AVal:=match r with|some (off,z,g)=>Qe cs off z g|none=>none
theorem AaC{s:TypeId}{cs:List AVal}{f:Nat}:Q6 E s (.agg cs) f=fdA (AR E.P s f) cs:=by unfold Q6 fdA;rcases AR E.P s f with _|⟨_,_,_⟩<;>rfl
theorem AVs{off z:Nat}{g:Bool}{cs:List AVal}:fdA (some (off,z,g)) cs=Qe cs off z g:=rfl
theorem Aa9{r:AVal}:Oc [r]=r:=rfl
theorem Abf:Oc []=.tuple []:=rfl
theorem AbQ{a b:AVal}{l:List AVal}:Oc (a::b::l)=.tuple (a::b::l):=rfl
theorem AWt:Ae [] af=af:=rfl
theorem APt{j:Tmp}{js:List Tmp}:Ae (j::js) af=Ae js (af.set j .any):=rfl
theorem AfC{vs:List AVal}:setVals af [] vs=af:=by cases vs<;>rfl
theorem AaH{c:Tmp}{cs:List Tmp}{v:AVal}{vs:List AVal}:setVals af (c::cs) (v::vs)=setVals (af.set c v) cs vs:=rfl
theorem AfY:Bw af []=[]:=rfl
theorem Abw{c:Tmp}{cs:List Tmp}:Bw af (c::cs)=af.getD c .any::Bw af cs:=rfl
theorem AV6{r:AVal}:AX af none r=af:=rfl
theorem AYg{d:Tmp}{r:AVal}:AX af (some d) r=af.set d r:=rfl
theorem Abs{i:Tmp}:stripAt af (.tmp i)=af.set i (af.getD i .any).strip:=rfl
theorem AaP{l:List AVal}:AVal.strip (.agg l)=.agg (stripL l):=by rw[AVal.strip]
theorem ARt{l:List AVal}:AVal.strip (.tuple l)=.tuple (stripL l):=by rw[AVal.strip]
theorem ASR{w:Nat}{l:List AVal}{o:Bool}:AVal.strip (.slice w l o)=.slice w l false:=by rw[AVal.strip]
theorem AYo{s:List UInt8}{p:Nat}:AVal.strip (.iter s p)=.any:=by rw[AVal.strip]
theorem AYT:stripL []=[]:=by rw[stripL]
theorem Ad8{x:AVal}{bs:List Bool}{xs:List AVal}:stripB (true::bs) (x::xs)=x.strip::stripB bs xs:=by rw[stripB]
theorem Adk{x:AVal}{bs:List Bool}{xs:List AVal}:stripB (false::bs) (x::xs)=x::stripB bs xs:=by rw[stripB]
theorem AdN{xs:List AVal}:stripB [] xs=xs:=by rw[stripB]
theorem ATH{x:AVal}{l:List AVal}:stripL (x::l)=x.strip::stripL l:=by rw[stripL]
theorem Aek{i:Tmp}:rd E af t (.tmp i)=af.getD i .any:=rfl
theorem AXA{v:Value}:rd E af t (.const v)=H6 (Ga E.P t) v:=rfl
theorem Abn{g:FuncId}:rd E af t (.func g)=.fn (.func g) [] []:=rfl
end
def vmC:=And.intro (And.intro (And.intro (And.intro (And.intro (And.intro (And.intro (And.intro (And.intro (@ARu) (@ANI)) (And.intro (@AMk) (@APS))) (And.intro (And.intro (@AHA) (@AIw)) (And.intro (@AA5) (And.intro (@AE2) (@AJ0))))) (And.intro (And.intro (And.intro (@AVP) (@AWW)) (And.intro (@AYj) (And.intro (@AUN) (@AS0)))) (And.intro (And.intro (@AUM) (@ASx)) (And.intro (@Abb) (And.intro (@ASf) (@AWF)))))) (And.intro (And.intro (And.intro (And.intro (@Aey) (@AYV)) (And.intro (@XG) (@AaM))) (And.intro (And.intro (@AU3) (@AKq)) (And.intro (@AVl) (And.intro (@APd) (@AYC))))) (And.intro (And.intro (And.intro (@ANR) (@Aad)) (And.intro (@Abv) (And.intro (@AK5) (@AcO)))) (And.intro (And.intro (@AGM) (@AY3)) (And.intro (@Aaz) (And.intro (@ANr) (@AHK))))))) (And.intro (And.intro (And.intro (And.intro (And.intro (@AC7) (@AYF)) (And.intro (@ABM) (@AVV))) (And.intro (And.intro (@Ae0) (@Ae2)) (And.intro (@AdX) (And.intro (@AbS) (@AXe))))) (And.intro (And.intro (And.intro (@ARo) (@AbU)) (And.intro (@AF4) (And.intro (@Acl) (@AbF)))) (And.intro (And.intro (@AHz) (@AYf)) (And.intro (@XD) (And.intro (@AbN) (@AGC)))))) (And.intro (And.intro (And.intro (And.intro (@AUu) (@AaL)) (And.intro (@AMd) (@AHS))) (And.intro (And.intro (@ZB) (@AYL)) (And.intro (@ADn) (And.intro (@AU5) (@Adn))))) (And.intro (And.intro (And.intro (@Afk) (@AeO)) (And.intro (@AeX) (And.intro (@AYX) (@AUK)))) (And.intro (And.intro (@APl) (@AXE)) (And.intro (@ASa) (And.intro (@AQZ) (@AST)))))))) (And.intro (And.intro (And.intro (And.intro (And.intro (And.intro (@AXg) (@Ab2)) (And.intro (@AU4) (@ARS))) (And.intro (And.intro (@AgK) (@AgU)) (And.intro (@Afy) (And.intro (@Agg) (@AVG))))) (And.intro (And.intro (And.intro (@AVw) (@AaX)) (And.intro (@AcK) (And.intro (@AW4) (@AS5)))) (And.intro (And.intro (@AfZ) (@AP7)) (And.intro (@AeD) (And.intro (@AQN) (@AV5)))))) (And.intro (And.intro (And.intro (And.intro (@AQO) (@APw)) (And.intro (@AY8) (@APG))) (And.intro (And.intro (@AKr) (@AXP)) (And.intro (@AAo) (And.intro (@R9) (@AOc))))) (And.intro (And.intro (And.intro (@AOz) (@Lt)) (And.intro (@Afe) (And.intro (@Aev) (@Afm)))) (And.intro (And.intro (@Adf) (@AdZ)) (And.intro (@AfE) (And.intro (@Agn) (@AdQ))))))) (And.intro (And.intro (And.intro (And.intro (And.intro (@AR2) (@AfK)) (And.intro (@AfS) (@Aew))) (And.intro (And.intro (@AeB) (@Adp)) (And.intro (@AdU) (And.intro (@Ady) (@Aeh))))) (And.intro (And.intro (And.intro (@AbG) (@AbK)) (And.intro (@Aaj) (And.intro (@AcD) (@AbW)))) (And.intro (And.intro (@AcZ) (@AbZ)) (And.intro (@Abe) (And.intro (@AbY) (@AfT)))))) (And.intro (And.intro (And.intro (And.intro (@APq) (@APZ)) (And.intro (@AdR) (And.intro (@AXR) (@Aao)))) (And.intro (And.intro (@AeT) (@AUW)) (And.intro (@AYm) (And.intro (@AMc) (@bytesOf_map))))) (And.intro (And.intro (And.intro (@Nl) (@AJX)) (And.intro (@AIs) (And.intro (@AdT) (And.intro (@Ae8) (@Ae7))))) (And.intro (And.intro (@List.append_eq.{0}) (@List.map_append.{0,0})) (And.intro (@List.length_append.{0}) (And.intro (@Int.le_refl) (@Int.natCast_nonneg))))))))) (And.intro (And.intro (And.intro (And.intro (And.intro (And.intro (And.intro (@List.take_length.{0}) (@List.take_zero.{0})) (And.intro (@Nat.sub_zero) (@Int.toNat_zero))) (And.intro (And.intro (@Bool.true_and) (@Bool.not_true)) (And.intro (@Bool.not_false) (And.intro (@List.length_map.{0,0}) (@Nat.left_eq_add))))) (And.intro (And.intro (And.intro (@Nat.add_eq_left) (@Nat.one_ne_zero)) (And.intro (@Nat.succ_ne_self) (And.intro (@Nat.add_left_cancel_iff) (@Nat.add_assoc)))) (And.intro (And.intro (@List.length_cons.{0}) (@List.length_nil.{0})) (And.intro (@List.replicate_succ.{0}) (And.intro (@List.replicate_zero.{0}) (@List.cons_append.{0})))))) (And.intro (And.intro (And.intro (And.intro (@List.nil_append.{0}) (@List.append_nil.{0})) (And.intro (@List.getD_cons_zero.{0}) (@List.getD_cons_succ.{0}))) (And.intro (And.intro (@List.set_cons_zero.{0}) (@List.set_cons_succ.{0})) (And.intro (@Option.map_some.{0,0}) (And.intro (@Option.map_none.{0,0}) (@Option.bind_some.{0,0}))))) (And.intro (And.intro (And.intro (@Option.bind_none.{0,0}) (@List.contains_nil.{0})) (And.intro (@List.contains_cons.{0}) (And.intro (@List.elem_nil.{0}) (@List.elem_cons.{0})))) (And.intro (And.intro (@if_true.{1}) (@if_false.{1})) (And.intro (@Bool.false_eq_true) (And.intro (@Bool.true_eq_false) (@List.drop_zero.{0}))))))) (And.intro (And.intro (And.intro (And.intro (And.intro (@List.drop_succ_cons.{0}) (@List.take_succ_cons.{0})) (And.intro (@Nat.add_zero) (@Nat.zero_add))) (And.intro (And.intro (@List.getElem?_cons_zero.{0}) (@List.getElem?_cons_succ.{0})) (And.intro (@beq_self_eq_true.{0}) (And.intro (@Bool.or_true) (@Bool.true_or))))) (And.intro (And.intro (And.intro (@Bool.or_false) (@Bool.false_or)) (And.intro (@Option.isNone_none.{0}) (And.intro (@Option.isNone_some.{0}) (@Option.isSome_none.{0})))) (And.intro (And.intro (@Option.isSome_some.{0}) (@decide_true)) (And.intro (@decide_false) (And.intro (@and_self) (@true_and)))))) (And.intro (And.intro (And.intro (And.intro (@and_true) (@Nat.le_refl)) (And.intro (@List.getElem?_toArray.{0}) (And.intro (@Option.getD_some.{0}) (@Option.getD_none.{0})))) (And.intro (And.intro (@ite_self.{1}) (@List.map_cons.{0,0})) (And.intro (@List.map_nil.{0,0}) (And.intro (@List.range_succ) (@List.range_zero))))) (And.intro (And.intro (And.intro (@List.all_cons.{0}) (@List.all_nil.{0})) (And.intro (@Bool.and_true) (And.intro (@Bool.and_self) (@Option.some.injEq.{0})))) (And.intro (And.intro (@Int.toNat_natCast) (@true_or)) (And.intro (@or_true) (And.intro (@false_or) (@or_false)))))))) (And.intro (And.intro (And.intro (And.intro (And.intro (And.intro (@not_true_eq_false) (@not_false_eq_true)) (And.intro (@ne_eq.{1}) (@rdL.eq_1))) (And.intro (And.intro (@rdL.eq_2) (@rdL.eq_3)) (And.intro (@rdo.eq_1) (And.intro (@rdo.eq_2) (@BI.eq_1))))) (And.intro (And.intro (And.intro (@BI.eq_2) (@LK.eq_1)) (And.intro (@LK.eq_2) (And.intro (@La.eq_1) (@La.eq_2)))) (And.intro (And.intro (@La.eq_3) (@opAt.eq_1)) (And.intro (@opAt.eq_2) (And.intro (@opAt.eq_3) (@Ro.eq_1)))))) (And.intro (And.intro (And.intro (And.intro (@Ro.eq_2) (@AQ.eq_1)) (And.intro (@Bq.eq_1) (@Bq.eq_2))) (And.intro (And.intro (@Bq.eq_3) (@putCells.eq_1)) (And.intro (@putCells.eq_2) (And.intro (@Qe.eq_1) (@Nj.eq_1))))) (And.intro (And.intro (And.intro (@NK.eq_1) (@NK.eq_2)) (And.intro (@OH.eq_1) (And.intro (@OH.eq_2) (@Kb.eq_1)))) (And.intro (And.intro (@AaC) (@AVs)) (And.intro (@J7.eq_1) (And.intro (@J7.eq_2) (@J7.eq_3))))))) (And.intro (And.intro (And.intro (And.intro (And.intro (@J7.eq_4) (@H6.eq_1)) (And.intro (@H6.eq_2) (@H6.eq_3))) (And.intro (And.intro (@H6.eq_4) (@H6.eq_5)) (And.intro (@H6.eq_6) (And.intro (@H6.eq_7) (@H6.eq_8))))) (And.intro (And.intro (And.intro (@PO.eq_1) (@Ty.eq_1)) (And.intro (@Ty.eq_2) (And.intro (@Ew.eq_1) (@NA.eq_1)))) (And.intro (And.intro (@NA.eq_2) (@AP1.eq_1)) (And.intro (@AP1.eq_2) (And.intro (@AQv.eq_1) (@AQv.eq_2)))))) (And.intro (And.intro (And.intro (And.intro (@Bl.eq_1) (@Me.eq_1)) (And.intro (@Me.eq_2) (And.intro (@Me.eq_3) (@SV.eq_1)))) (And.intro (And.intro (@SV.eq_2) (@Aal)) (And.intro (@AUZ) (And.intro (@Ach) (@AcH))))) (And.intro (And.intro (And.intro (@Aax) (@AUg)) (And.intro (@AYp) (And.intro (@AdO) (@APT)))) (And.intro (And.intro (@APV) (@ZV)) (And.intro (@AQ4) (And.intro (@ARm) (@AWR)))))))))) (And.intro (And.intro (And.intro (And.intro (And.intro (And.intro (And.intro (And.intro (@AcI) (@AbO)) (And.intro (@AcF) (@AUm))) (And.intro (And.intro (@AZF) (@Aez)) (And.intro (@AP8) (And.intro (@ASZ) (@AC9))))) (And.intro (And.intro (And.intro (@Aa5) (@ATB)) (And.intro (@AeR) (And.intro (@Ahk) (@AcX)))) (And.intro (And.intro (@Ahb) (@AhT)) (And.intro (@AgN) (And.intro (@Agy) (@AXz)))))) (And.intro (And.intro (And.intro (And.intro (@AcB) (@AVU)) (And.intro (@AcW) (@AVD))) (And.intro (And.intro (@AQR) (@AQ7)) (And.intro (@ANC) (And.intro (@AgQ) (@AWj))))) (And.intro (And.intro (And.intro (@AXH) (@AcA)) (And.intro (@AcJ) (And.intro (@Ab9) (@Afc)))) (And.intro (And.intro (@Adi) (@AfX)) (And.intro (@Afl) (And.intro (@Afg) (@AN2))))))) (And.intro (And.intro (And.intro (And.intro (And.intro (@AOx) (@Aa9)) (And.intro (@Abf) (@AbQ))) (And.intro (And.intro (@AWt) (@APt)) (And.intro (@AfC) (And.intro (@AaH) (@AfY))))) (And.intro (And.intro (And.intro (@Abw) (@AV6)) (And.intro (@AYg) (And.intro (@Abs) (@ARa)))) (And.intro (And.intro (@AYQ) (@AXi)) (And.intro (@Aai) (And.intro (@AWV) (@Aas)))))) (And.intro (And.intro (And.intro (And.intro (@AbT) (@Acc)) (And.intro (@AVB) (And.intro (@AVO) (@Ad4)))) (And.intro (And.intro (@AQi) (@AQj)) (And.intro (@Yu) (And.intro (@AaP) (@ARt))))) (And.intro (And.intro (And.intro (@ASR) (@AYo)) (And.intro (@AYT) (And.intro (@ATH) (@Ad8)))) (And.intro (And.intro (@Adk) (@AdN)) (And.intro (@Aek) (And.intro (@AXA) (@Abn)))))))) (And.intro (And.intro (And.intro (And.intro (And.intro (And.intro (@Abg) (@Abk)) (And.intro (@ARe) (@ARR))) (And.intro (And.intro (@ARl) (@ACB)) (And.intro (@AYx) (And.intro (@AaF) (@AeL))))) (And.intro (And.intro (And.intro (@Afq) (@Adj)) (And.intro (@Ada) (And.intro (@AfA) (@AdV)))) (And.intro (And.intro (@AfP) (@AeJ)) (And.intro (@Aer) (And.intro (@AWE) (@AUG)))))) (And.intro (And.intro (And.intro (And.intro (@Ads) (@AZK)) (And.intro (@Ae1) (@AWm))) (And.intro (And.intro (@AcQ) (@Ae6)) (And.intro (@AVE) (And.intro (@Aeg) (@AXI))))) (And.intro (And.intro (And.intro (@AhQ) (@Ael)) (And.intro (@AfI) (And.intro (@AUo) (@Ado)))) (And.intro (And.intro (@Aep) (@AdY)) (And.intro (@AeG) (And.intro (@AfV) (@Adc))))))) (And.intro (And.intro (And.intro (And.intro (And.intro (@Acr) (@AaJ)) (And.intro (@AfU) (@Abz))) (And.intro (And.intro (@Acb) (@Ae3)) (And.intro (@AWq) (And.intro (@Ace) (@ARC))))) (And.intro (And.intro (And.intro (@Ab6) (@AWu)) (And.intro (@Abr) (And.intro (@ASu) (@Abc)))) (And.intro (And.intro (@Acg) (@AQQ)) (And.intro (@Aba) (And.intro (@AXU) (@AQu)))))) (And.intro (And.intro (And.intro (And.intro (@AQE) (@ATE)) (And.intro (@AS4) (And.intro (@AXS) (@AYr)))) (And.intro (And.intro (@ASU) (@Vb)) (And.intro (@ARx) (And.intro (@ART) (@Aam))))) (And.intro (And.intro (And.intro (@Abd) (@AQP)) (And.intro (@AVc) (And.intro (@AMS) (@Tw)))) (And.intro (And.intro (@SQ) (@APs)) (And.intro (@AdH) (And.intro (@AdA) (@AeE))))))))) (And.intro (And.intro (And.intro (And.intro (And.intro (And.intro (And.intro (@AN5) (@TJ.eq_1)) (And.intro (@Aa0) (@AYn))) (And.intro (And.intro (@Abt) (@Abm)) (And.intro (@Ab7) (And.intro (@AP2) (@AS6))))) (And.intro (And.intro (And.intro (@Aag) (@AYE)) (And.intro (@AUt) (And.intro (@Aec) (@ASX)))) (And.intro (And.intro (@AO5) (@ABc)) (And.intro (@AaE) (And.intro (@ARW) (@Abh)))))) (And.intro (And.intro (And.intro (And.intro (@AVC) (@ARD)) (And.intro (@AN0) (@AVv))) (And.intro (And.intro (@AXj) (@AUL)) (And.intro (@AU0) (And.intro (@AYw) (@Adb))))) (And.intro (And.intro (And.intro (@AcT) (@Adg)) (And.intro (@AX7) (And.intro (@AUv) (@Aau)))) (And.intro (And.intro (@Aay) (@AU1)) (And.intro (@AX8) (And.intro (@AUS) (@AV3))))))) (And.intro (And.intro (And.intro (And.intro (And.intro (@AYN) (@AX6)) (And.intro (@AUl) (@AZB))) (And.intro (And.intro (@AdC) (@AY5)) (And.intro (@AX1) (And.intro (@Aae) (@Af1))))) (And.intro (And.intro (And.intro (@AX9) (@Afj)) (And.intro (@Af5) (And.intro (@AgJ) (@AeV)))) (And.intro (And.intro (@Adz) (@Af7)) (And.intro (@AgW) (And.intro (@AY7) (@AfM)))))) (And.intro (And.intro (And.intro (And.intro (@Adq) (@Ae5)) (And.intro (@AdS) (And.intro (@AfD) (@Aen)))) (And.intro (And.intro (@AeH) (@AaR)) (And.intro (@Ahc) (And.intro (And.intro (@Aav) (And.intro (@Afd) (@Agx))) (And.intro (@AbD) (@AbE)))))) (And.intro (And.intro (And.intro (@Agv) (@Agk)) (And.intro (@AVM) (And.intro (@AbA) (@Afi)))) (And.intro (And.intro (@AVu) (@AVg)) (And.intro (@AQY) (And.intro (@AXq) (@AWO)))))))) (And.intro (And.intro (And.intro (And.intro (And.intro (And.intro (@AaI) (@AcM)) (And.intro (@AWi) (@Adl))) (And.intro (And.intro (@AfH) (@Adw)) (And.intro (@Acm) (And.intro (@AfL) (@Aed))))) (And.intro (And.intro (And.intro (@AXp) (@AUI)) (And.intro (@Aeo) (And.intro (@AeM) (@AaV)))) (And.intro (And.intro (@AgR) (@Ad7)) (And.intro (@Aea) (And.intro (@AaT) (@AWN)))))) (And.intro (And.intro (And.intro (And.intro (@AVT) (@AXO)) (And.intro (@AWd) (@AXa))) (And.intro (And.intro (@AVx) (@Aaa)) (And.intro (@AdW) (And.intro (@AUR) (@ASw))))) (And.intro (And.intro (And.intro (@Ag7) (@Aef)) (And.intro (@AVo) (And.intro (@AS9) (@ARr)))) (And.intro (And.intro (@AWA) (@AV7)) (And.intro (@Afz) (And.intro (@AVK) (@AXK))))))) (And.intro (And.intro (And.intro (And.intro (And.intro (@AgY) (@AU7)) (And.intro (@Afa) (@AU9))) (And.intro (And.intro (@AUw) (@AXk)) (And.intro (@AYv) (And.intro (@AYB) (@AcP))))) (And.intro (And.intro (And.intro (@AWb) (@AUe)) (And.intro (@AgM) (And.intro (@Af0) (@AgE)))) (And.intro (And.intro (@AXl) (@AVy)) (And.intro (@Agf) (And.intro (@Ag5) (@AYZ)))))) (And.intro (And.intro (And.intro (And.intro (@Ag3) (@Agu)) (And.intro (@AbP) (And.intro (@Aga) (@AWK)))) (And.intro (And.intro (@AUQ) (@AbC)) (And.intro (@Aby) (And.intro (@AXh) (@Aaf))))) (And.intro (And.intro (And.intro (And.intro (@AcV) (And.intro (@AcC) (@AZG))) (And.intro (And.intro (And.intro (@AWl) (@AWU)) (And.intro (@Ag4) (@Agb))) (And.intro (@Aa2) (@AWv)))) (And.intro (@AgB) (And.intro (And.intro (And.intro (@AgT) (@AYM)) (And.intro (And.intro (@Aeq) (@Adu)) (@AZL))) (And.intro (And.intro (And.intro (@Aex) (@AeP)) (And.intro (@Ad9) (@Aeb))) (And.intro (And.intro (And.intro (@AgS) (@Afx)) (And.intro (@AYt) (@AWa))) (And.intro (And.intro (@Af4) (@AgL)) (And.intro (@AgG) (@Ag2)))))))) (And.intro (And.intro (@List.getElem?_drop.{0}) (@List.getElem?_map.{0,0})) (And.intro (@List.length_set.{0}) (And.intro (@Nat.mul_one) (@List.length_replicate.{0}))))))))))
def liE:=And.intro (And.intro (And.intro (And.intro (And.intro (And.intro (@List.append_eq.{0}) (@List.map_append.{0,0})) (And.intro (@List.length_append.{0}) (And.intro (@Int.le_refl) (@Int.natCast_nonneg)))) (And.intro (And.intro (@List.take_length.{0}) (@List.take_zero.{0})) (And.intro (@Nat.sub_zero) (And.intro (@Int.toNat_zero) (@Bool.true_and))))) (And.intro (And.intro (And.intro (@Bool.not_true) (@Bool.not_false)) (And.intro (@List.length_map.{0,0}) (And.intro (@Nat.left_eq_add) (@Nat.add_eq_left)))) (And.intro (And.intro (@Nat.one_ne_zero) (And.intro (@Nat.succ_ne_self) (@Nat.add_left_cancel_iff))) (And.intro (@Nat.add_assoc) (And.intro (@List.length_cons.{0}) (@List.length_nil.{0})))))) (And.intro (And.intro (And.intro (And.intro (@List.replicate_succ.{0}) (@List.replicate_zero.{0})) (And.intro (@List.cons_append.{0}) (And.intro (@List.nil_append.{0}) (@List.append_nil.{0})))) (And.intro (And.intro (@List.getD_cons_zero.{0}) (@List.getD_cons_succ.{0})) (And.intro (@List.set_cons_zero.{0}) (And.intro (@List.set_cons_succ.{0}) (@Option.map_some.{0,0}))))) (And.intro (And.intro (And.intro (@Option.map_none.{0,0}) (@Option.bind_some.{0,0})) (And.intro (@Option.bind_none.{0,0}) (And.intro (@List.contains_nil.{0}) (@List.contains_cons.{0})))) (And.intro (And.intro (@List.elem_nil.{0}) (And.intro (@List.elem_cons.{0}) (@if_true.{1}))) (And.intro (@if_false.{1}) (And.intro (@Bool.false_eq_true) (@Bool.true_eq_false))))))) (And.intro (And.intro (And.intro (And.intro (And.intro (@List.drop_zero.{0}) (@List.drop_succ_cons.{0})) (And.intro (@List.take_succ_cons.{0}) (And.intro (@Nat.add_zero) (@Nat.zero_add)))) (And.intro (And.intro (@List.getElem?_cons_zero.{0}) (@List.getElem?_cons_succ.{0})) (And.intro (@beq_self_eq_true.{0}) (And.intro (@Bool.or_true) (@Bool.true_or))))) (And.intro (And.intro (And.intro (@Bool.or_false) (@Bool.false_or)) (And.intro (@Option.isNone_none.{0}) (And.intro (@Option.isNone_some.{0}) (@Option.isSome_none.{0})))) (And.intro (And.intro (@Option.isSome_some.{0}) (And.intro (@decide_true) (@decide_false))) (And.intro (@and_self) (And.intro (@true_and) (@and_true)))))) (And.intro (And.intro (And.intro (And.intro (@Nat.le_refl) (@List.getElem?_toArray.{0})) (And.intro (@Option.getD_some.{0}) (And.intro (@Option.getD_none.{0}) (@ite_self.{1})))) (And.intro (And.intro (@List.map_cons.{0,0}) (And.intro (@List.map_nil.{0,0}) (@List.range_succ))) (And.intro (@List.range_zero) (And.intro (@List.all_cons.{0}) (@List.all_nil.{0}))))) (And.intro (And.intro (And.intro (@Bool.and_true) (@Bool.and_self)) (And.intro (@Option.some.injEq.{0}) (And.intro (@Int.toNat_natCast) (@true_or)))) (And.intro (And.intro (@or_true) (And.intro (@false_or) (@or_false))) (And.intro (@not_true_eq_false) (And.intro (@not_false_eq_true) (@ne_eq.{1})))))))
end Go.VM
set_option linter.unusedVariables false
set_option linter.unusedSimpArgs false
namespace Go.VM
abbrev DT:=List (Nat×List Tmp×Plan)
def Vx:DT→Nat→List Tmp
  |[],_=>[]
  |(i,m,_)::D,j=>if i=j then m else Vx D j
def AaZ:DT→Nat→Plan
  |[],_=>.done
  |(i,_,p)::D,j=>if i=j then p else AaZ D j
inductive DD (D:DT):Prop
  |mk
def AKw (l:List Tmp) (F:List Tmp→Prop):Prop:=F l
def TA:Plan→Bool
  |.stop=>true
  |_=>false
def AO8:DT→Nat→Bool
  |[],_=>false
  |(i,_,p)::D,j=>if i=j then TA p else AO8 D j
def AFN (b:Bool) (X Y:Prop):Prop:=if b=true then X else Y
def wpd (E:Env) (D:DT):Code→APost→List AVal→St→Prop
  |.skip,K=>fun af st=>K .normal af st
  |.label _,K=>fun af st=>K .normal af st
  |.ret,K=>fun af st=>K .ret af st
  |.exit id,K=>fun af st=>K (.exit id) af st
  |.seq (.region id os false) y,K=>fun af st=>AFN (AO8 D id) (AWp E (.seq (.region id os false) y) K af st) (AKw (Vx D id) fun mv=>JJ E mv os os.toList (nK (GI (wpd E D y K) K)) af st)
  |.cond c x y,K=>fun af st=>Po (rd E af 0 c) (wpd E D x K) (wpd E D y K) af st
  |.block id c,K=>wpd E D c (Ul id K)
  |.scope c,K=>wpd E D c K
  |.region id os false,K=>fun af st=>AKw (Vx D id) fun mv=>JJ E mv os os.toList (nK K) af st
  |c,K=>AWp E c K
section
variable{E:Env}{D:DT}{K:APost}{af:List AVal}{st:St}{x y:Code}{F:List AVal→St→Prop}
theorem AW6:wpd E D .skip K af st=K .normal af st:=by rw[wpd]
theorem APA{l:Nat}:wpd E D (.label l) K af st=K .normal af st:=by rw[wpd]
theorem AaQ:wpd E D .ret K af st=K .ret af st:=by rw[wpd]
theorem AWg{id:Nat}:wpd E D (.exit id) K af st=K (.exit id) af st:=by rw[wpd]
theorem AVW{id:Nat}{os:List Oper}:wpd E D (.seq (.region id (List.toArray os) false) y) K af st=AFN (AO8 D id) (AWp E (.seq (.region id (List.toArray os) false) y) K af st) (AKw (Vx D id) fun mv=>JJ E mv ⟨os⟩ os (nK (GI (wpd E D y K) K)) af st):=by rw[wpd]
theorem AeC{X Y:Prop}:AFN true X Y=X:=by simp[AFN]
theorem AeY{X Y:Prop}:AFN false X Y=Y:=by simp[AFN]
theorem AWf{j:Nat}:AO8 [] j=false:=rfl
theorem AP6{i j:Nat}{m:List Tmp}{p:Plan}:AO8 ((i,m,p)::D) j=if i=j then TA p else AO8 D j:=rfl
theorem AYh:TA .stop=true:=rfl
theorem AUX:TA .done=false:=rfl
theorem AYk{i:Nat}{p:Plan}:TA (.take i p)=false:=rfl
theorem Acv{i:Nat}{c:List Nat}{p q:Plan}:TA (.alt i c p q)=false:=rfl
@[congr] theorem AhC {b b' : Bool} {X Y : Prop} (h : b = b') : AFN b X Y = AFN b' X Y := by grind
theorem AYK{c:Operand}:wpd E D (.cond c x y) K af st=Po (rd E af 0 c) (wpd E D x K) (wpd E D y K) af st:=by rw[wpd]
theorem AQH{id:Nat}:wpd E D (.block id x) K af st=wpd E D x (Ul id K) af st:=by rw[wpd]
theorem ASL:wpd E D (.scope x) K af st=wpd E D x K af st:=by rw[wpd]
theorem AMb{id:Nat}{os:List Oper}:wpd E D (.region id (List.toArray os) false) K af st=AKw (Vx D id) fun mv=>JJ E mv ⟨os⟩ os (nK K) af st:=by rw[wpd]
theorem AYA{l:List Tmp}{F:List Tmp→Prop}:AKw l F=F l:=rfl
theorem AVm{id:Nat}{os:Array Oper}:wpd E D (.region id os true) K af st=AWp E (.region id os true) K af st:=by rw[wpd]<;>simp
theorem AWy:wpd E D (.loop x) K af st=AWp E (.loop x) K af st:=by rw[wpd]<;>simp
theorem Ad2{a b:Code}:wpd E D (.seq (.seq a b) y) K af st=AWp E (.seq (.seq a b) y) K af st:=by rw[wpd]<;>simp
theorem AfO{c:Operand}{a b:Code}:wpd E D (.seq (.cond c a b) y) K af st=AWp E (.seq (.cond c a b) y) K af st:=by rw[wpd]<;>simp
theorem AeQ{id:Nat}{a:Code}:wpd E D (.seq (.block id a) y) K af st=AWp E (.seq (.block id a) y) K af st:=by rw[wpd]<;>simp
theorem Ae9{l:Nat}:wpd E D (.seq (.label l) y) K af st=AWp E (.seq (.label l) y) K af st:=by rw[wpd]<;>simp
theorem Aej{a:Code}:wpd E D (.seq (.loop a) y) K af st=AWp E (.seq (.loop a) y) K af st:=by rw[wpd]<;>simp
theorem Aei{id:Nat}{os:Array Oper}:wpd E D (.seq (.region id os true) y) K af st=AWp E (.seq (.region id os true) y) K af st:=by rw[wpd]<;>simp
theorem Aee{a:Code}:wpd E D (.seq (.scope a) y) K af st=AWp E (.seq (.scope a) y) K af st:=by rw[wpd]<;>simp
theorem Afb:wpd E D (.seq .skip y) K af st=AWp E (.seq .skip y) K af st:=by rw[wpd]<;>simp
theorem AGU{j:Nat}:Vx [] j=[]:=rfl
theorem X4{i j:Nat}{m:List Tmp}{p:Plan}:Vx ((i,m,p)::D) j=if i=j then m else Vx D j:=rfl
theorem ASm{i j:Nat}{m:List Tmp}{p:Plan}:AaZ ((i,m,p)::D) j=if i=j then p else AaZ D j:=rfl
theorem Dr: ∀ {c:Code}{K:APost}{af:List AVal}{st:St},wpd E D c K af st→AWp E c K af st:=by
  intro c
  induction c with
  |skip=>intro K af st h;rw[wpd]at h;exact AHq h
  |ret=>intro K af st h;rw[wpd]at h;exact AOw h
  |exit id=>intro K af st h;rw[wpd]at h;exact AGu h
  | seq x y ihx ihy=>
    intro K af st h
    cases x with
    | region id os d=>
      cases d with
      |true=>(rw[wpd]at h;exact h)<;>(intros;simp_all)
      | false=>
        rw[wpd]at h
        unfold AFN at h
        split at h
        · exact h
        refine QE ((RL (Vx D id) h).mono fun e af' st' _ q=>?_)
        cases e with
        |normal=>exact ihy q
        |_=>exact q
    |_=>(rw[wpd]at h;exact h)<;>(intros;simp_all)
  | cond c x y ihx ihy=>
    intro K af st h
    rw[wpd]at h
    unfold Po at h
    split at h
    · rename_i b hb
      refine AKI b hb ?_
      cases b with
      |true=>simp_all
      |false=>simp_all
    grind
  | block id c ih=>
    intro K af st h
    rw[wpd]at h
    exact Xo ((ih h).mono fun e af' st' _ q=>by cases e<;>exact q)
  | region id os d=>
    intro K af st h
    cases d with
    |true=>(rw[wpd]at h;exact h)<;>(intros;simp_all)
    |false=>rw[wpd]at h;exact RL (Vx D id) h
  |loop c ih=>intro K af st h;(rw[wpd]at h;exact h)<;>(intros;simp_all)
  |rangeFunc f ps x y ihx ihy=>intro K af st h;(rw[wpd]at h;exact h)<;>(intros;simp_all)
  |scope c ih=>intro K af st h;rw[wpd]at h;grind[Xj]
  |label l=>intro K af st h;rw[wpd]at h;exact AR3 h
  |goto l=>intro K af st h;(rw[wpd]at h;exact h)<;>(intros;simp_all)
  |refuse w=>intro K af st h;(rw[wpd]at h;exact h)<;>(intros;simp_all)
@[congr] theorem AhI {c : Code} {L : APost} {af' : List AVal} {st' : St} (h0 : af = af') (h1 : st = st') : wpd E D c L af st = wpd E D c L af' st' := by grind
def rgs:List (Nat×Nat)→List Tmp
  |[]=>[]
  |(a,n)::l=>List.range' a n++rgs l
def ALB:Nat→List AVal→List AVal
  |n+1,_::l=>.any::ALB n l
  |_,l=>l
def maskN:Nat→Nat→List AVal→List AVal
  |0,n,l=>ALB n l
  |a+1,n,x::l=>x::maskN a n l
  |_+1,_,[]=>[]
def CJ:List (Nat×Nat)→List AVal→List AVal
  |[],af=>af
  |(a,n)::l,af=>CJ l (maskN a n af)
theorem YB: ∀(js ks:List Tmp) (af:List AVal),Ae (js++ks) af=Ae ks (Ae js af)
  |[],_,_=>rfl
  |j::js,ks,af=>by rw[List.cons_append,Ae,Ae,YB js]
theorem RU: ∀(js:List Tmp) (x:AVal) (l:List AVal),Ae (js.map (· +1)) (x::l)=x::Ae js l
  |[],_,_=>rfl
  |j::js,x,l=>by rw[List.map_cons,Ae,List.set_cons_succ,RU js,Ae]
theorem TK: ∀js:List Tmp,Ae js []=[]
  |[]=>rfl
  |j::js=>by rw[Ae,List.set_nil,TK js]
theorem Vv: ∀(a n:Nat),List.range' (a+1) n=(List.range' a n).map (· +1)
  |a,0=>rfl
  |a,n+1=>by rw[List.range'_succ,List.range'_succ,List.map_cons,Vv (a+1) n]
theorem Vq: ∀(a n:Nat) (l:List AVal),maskN a n l=Ae (List.range' a n) l
  |0,0,l=>by rw[maskN];cases l<;>rfl
  |0,n+1,[]=>by rw[TK];rfl
  | 0,n+1,x::l=>by
    rw[maskN,ALB,List.range'_succ,Ae,List.set_cons_zero,show List.range' (0+1) n=(List.range' 0 n).map (· +1)from Vv _ _,RU,←Vq 0 n l,maskN]
  |a+1,n,[]=>by rw[TK];rfl
  | a+1,n,x::l=>by
    rw[maskN,show List.range' (a+1) n=(List.range' a n).map (· +1)from Vv _ _,RU,Vq a n l]
theorem Cm: ∀(js:List (Nat×Nat)) (af:List AVal),CJ js af=Ae (rgs js) af
  |[],_=>rfl
  |(a,n)::js,af=>by rw[CJ,Vq,Cm js,rgs,YB]
theorem Adx:CJ [] af=af:=rfl
theorem AcU{a n:Nat}{l:List (Nat×Nat)}:CJ ((a,n)::l) af=CJ l (maskN a n af):=rfl
theorem AhW{a n:Nat}{v:AVal}{l:List AVal}:maskN (a+1) n (v::l)=v::maskN a n l:=rfl
theorem Ahu{n:Nat}{l:List AVal}:maskN 0 n l=ALB n l:=by cases l<;>rfl
theorem Aht{n:Nat}{v:AVal}{l:List AVal}:ALB (n+1) (v::l)=.any::ALB n l:=rfl
theorem Ahq{l:List AVal}:ALB 0 l=l:=by cases l<;>rfl
def U1:List PC→List AVal→List AVal
  |.k::l,x::xs=>x::U1 l xs
  |.w::l,x::xs=>x.strip::U1 l xs
  |.v y::l,_::xs=>y::U1 l xs
  |_,xs=>xs
def reB:List BX→MS→MS
  |.k::l,p::m=>p::reB l m
  |.d::l,_::m=>reB l m
  |.s c::l,p::m=>(p.1,c)::reB l m
  |.t c::l,p::m=>(p.1,c p.1)::reB l m
  |.p ps::l,p::m=>(p.1,U1 ps p.2)::reB l m
  |_,m=>m
theorem AhL{m:MS}:reB [] m=m:=by cases m<;>rfl
theorem Ahp{l:List BX}{p:Nat×List AVal}{m:MS}:reB (.k::l) (p::m)=p::reB l m:=rfl
theorem Ahd{l:List BX}{p:Nat×List AVal}{m:MS}:reB (.d::l) (p::m)=reB l m:=rfl
theorem Ahr{l:List BX}{c x:List AVal}{i:Nat}{m:MS}:reB (.s c::l) ((i,x)::m)=(i,c)::reB l m:=rfl
theorem Ahj{l:List BX}{c:Nat→List AVal}{x:List AVal}{i:Nat}{m:MS}:reB (.t c::l) ((i,x)::m)=(i,c i)::reB l m:=rfl
theorem AhN{l:List BX}{ps:List PC}{x:List AVal}{i:Nat}{m:MS}:reB (.p ps::l) ((i,x)::m)=(i,U1 ps x)::reB l m:=rfl
theorem Ahs{xs:List AVal}:U1 [] xs=xs:=by cases xs<;>rfl
theorem AhP{l:List PC}{x:AVal}{xs:List AVal}:U1 (.k::l) (x::xs)=x::U1 l xs:=rfl
theorem AhK{l:List PC}{x:AVal}{xs:List AVal}:U1 (.w::l) (x::xs)=x.strip::U1 l xs:=rfl
theorem Ahf{l:List PC}{x y:AVal}{xs:List AVal}:U1 (.v y::l) (x::xs)=y::U1 l xs:=rfl
def Rz:Code→Nat×Nat
  |.seq x y=>((Rz x).1,(Rz x).2+(Rz y).2+1)
  |.cond _ x y=>((Rz x).1,(Rz x).2+(Rz y).2+1)
  |.block id x=>(id,(Rz x).2+1)
  |.loop x=>((Rz x).1,(Rz x).2+1)
  |.scope x=>((Rz x).1,(Rz x).2+1)
  |.region id _ _=>(id,1)
  |_=>(0,1)
end
inductive Wk:AVal→AVal→Prop
  |same (x:AVal):Wk x x
  |strip (x:AVal):Wk x x.strip
inductive WkL:List AVal→List AVal→Prop
  |nil:WkL [] []
  |cons{x y:AVal}{xs ys:List AVal} (h:Wk x y) (t:WkL xs ys):WkL (x::xs) (y::ys)
inductive SubW:MS→MS→Prop
  |refl (m:MS):SubW m m
  |keep{m0 m1:MS}{i:Nat}{cs cs':List AVal} (h:WkL cs cs') (t:SubW m0 m1):SubW ((i,cs')::m0) ((i,cs)::m1)
  |drop{m0 m1:MS}{p:Nat×List AVal} (t:SubW m0 m1):SubW m0 (p::m1)
theorem WkL.refl: ∀xs:List AVal,WkL xs xs
  |[]=>.nil
  |x::xs=>.cons (.same x) (WkL.refl xs)
theorem WkL.stripB{xs ys:List AVal} (h:WkL xs ys): ∃bs,VM.stripB bs xs=ys:=by
  induction h with
  |nil=>exact⟨[],rfl⟩
  | cons h t ih=>
    obtain⟨bs,rfl⟩:=ih
    cases h with
    |same=>exact⟨false::bs,by rw[VM.stripB]⟩
    |strip=>exact⟨true::bs,by rw[VM.stripB]⟩
theorem WkL.set{v u:AVal} (h:Wk u v): ∀ {xs ys:List AVal} (c:Nat),WkL xs ys→WkL (xs.set c u) (ys.set c v)
  |_,_,_,.nil=>by simpa using WkL.nil
  |_,_,0,.cons _ t=>.cons h t
  |_,_,c+1,.cons k t=>.cons k (WkL.set h c t)
theorem WkL.setVals: ∀ {cs:List Tmp}{us vs xs ys:List AVal},WkL xs ys→WkL us vs→WkL (VM.setVals xs cs us) (VM.setVals ys cs vs)
  |[],us,vs,xs,ys,h,k=>by cases k<;>(rw[VM.setVals,VM.setVals];exact h)<;>simp
  | c::cs,_,_,xs,ys,h,.nil=>by
    grind[VM.setVals]
  |c::cs,_,_,xs,ys,h,.cons h1 t=>by rw[VM.setVals,VM.setVals];exact WkL.setVals (WkL.set h1 c h) t
section
variable{E:Env}{F:Nat→Nat}{Γ:Ghost}{st:St}{w:World}{af af2:List AVal}{a:Act}{Q:APost}{c:Code}{n:Nat}
theorem Sim.wkF (hs:Sim E F Γ st w af a.tmps.toList) (h:WkL af af2):Sim E F Γ st w af2 a.tmps.toList:=by
  obtain⟨bs,rfl⟩:=h.stripB
  exact {hs with rep:=MO bs _ _ hs.rep,own:=Mc bs _ _ hs.own,tok:=fun b=>by have:=MZ b bs af a.tmps.toList;have:=hs.tok b;omega}
theorem AOo: ∀ {pre m:MS}{i:Nat}{cs:List AVal},((pre++(i,cs)::m).map (·.1)).Nodup→AZ (pre++(i,cs)::m) i=some cs∧ ∀x,Ao (pre++(i,cs)::m) i x=pre++(i,x)::m
  |[],m,i,cs,_=>⟨AAo,fun x=>AOc⟩
  | (j,d)::pre,m,i,cs,h=>by
    rw[List.cons_append,List.map_cons,List.nodup_cons]at h
    have hne:i≠j:=by
      rintro rfl
      grind
    have:=AOo (pre:=pre) h.2
    rw[List.cons_append,R9 hne]
    exact⟨this.1,fun x=>by rw[AOz hne,this.2 x,List.cons_append]⟩
theorem Sim.wkM{m0 m1:MS} (h:SubW m0 m1): ∀ {pre:MS},Sim E F Γ ⟨pre++m1,n⟩ w af a.tmps.toList→Sim E F Γ ⟨pre++m0,n⟩ w af a.tmps.toList:=by
  induction h with
  |refl m=>simp
  | @drop m0 m1 p t ih=>intro pre hs;exact ih (hs.fewer (m:=pre++m1) (List.Sublist.append (List.Sublist.refl _) (List.Sublist.cons _ (List.Sublist.refl _))))
  | @keep m0 m1 i cs cs' h t ih=>
    intro pre hs
    obtain⟨bs,rfl⟩:=h.stripB
    obtain⟨h1,h2⟩:=AOo hs.keys
    have:=hs.stripCells bs h1
    rw[h2]at this
    have e: ∀m:MS,pre++(i,VM.stripB bs cs)::m=(pre++[(i,VM.stripB bs cs)])++m:=fun m=>by simp
    grind
theorem AWp.wk{m m2:MS} (h:AWp E c Q af2 ⟨m2,n⟩) (h1:WkL af af2) (h2:SubW m2 m):AWp E c Q af ⟨m,n⟩:=
  ⟨fun F Γ w a hd hs=>h.go F Γ w a hd ((Sim.wkM (pre:=[]) h2 hs).wkF h1)⟩
theorem RP (js cs:List Tmp) (I:Nat→List AVal→St→Prop) (n₀:Nat){vs0:List AVal}{m m0:MS} (hv:WkL (Bw (Ae js af) cs) vs0) (hm:SubW m0 m) (h₀:I n₀ vs0 ⟨m0,n⟩)
    (round: ∀k vs st',I k vs st'→ ∀J:List AVal→St→Prop,
      (∀k' af' st' m vs',k'<k→SubW m st'.m→Ae cs (Ae js af')=Ae cs (Ae js af)→WkL (Bw (Ae js af') cs) vs'→I k' vs' {st' with m:=m}→J af' st')→
      AWp E c (kPost J Q) (setVals (Ae js af) cs vs) st'):AWp E (.loop c) Q af ⟨m,n⟩:=by
  refine PL js ?_
  constructor
  intro F Γ w a hd hs
  have hs0:Sim E F Γ ⟨m0,n⟩ w (setVals (Ae js af) cs vs0) a.tmps.toList:=by
    have h1:=Sim.wkM (pre:=[]) hm hs
    rw[Ii cs _ _ (rfl:Ae cs (Ae js af)=Ae cs (Ae js af))]at h1
    exact h1.wkF (WkL.setVals (WkL.refl _) hv)
  refine wp_loop_ghost (fun k a' w'=>a'.defers=[]∧ ∃Γ' vs st',Ext F Γ w Γ' w'∧n≤st'.next∧Sim E F Γ' st' w' (setVals (Ae js af) cs vs) a'.tmps.toList∧I k vs st') n₀
    ⟨hd,Γ,vs0,⟨m0,n⟩,Ext.refl _ _ _,Nat.le_refl _,hs0,h₀⟩ ?_
  intro k a₁ w₁ ⟨hd1,Γ₁,vs₁,st₁,h2,h3,h4,h5⟩
  refine wp_mono ((round k vs₁ st₁ h5 (fun af' st'=> ∃k' m vs',k'<k∧SubW m st'.m∧Ae cs (Ae js af')=Ae cs (Ae js af)∧WkL (Bw (Ae js af') cs) vs'∧I k' vs' {st' with m:=m}) (fun k' af' st' m vs' k1 k2 k3 k4 k5=>⟨k',m,vs',k1,k2,k3,k4,k5⟩)).go F Γ₁ w₁ a₁ hd1 h4) ?_
  intro e a' w' hq
  have hq:=Nq h2 h3 hq
  cases e with
  | normal=>
    obtain⟨_,k1,Γ',af',st',k2,k3,k4,kk⟩:=hq
    obtain⟨k',m,vs',k5,k6,k7,k9,k8⟩:=kk.get
    refine⟨k',k5,k1,Γ',vs',{st' with m:=m},k2,k3,?_,k8⟩
    have h1:=Sim.wkM (pre:=[]) k6 (k4.mask js)
    rw[Ii cs _ _ k7]at h1
    exact h1.wkF (WkL.setVals (WkL.refl _) k9)
  | _=>
    obtain⟨k0,k1,Γ',af',st',k2,k3,k4,kk⟩:=hq
    exact⟨k0,k1,Γ',af',st',k2,k3,k4,kk.out (by simp)⟩
end
@[congr] theorem AhA {l l' : List Tmp} {F : List Tmp → Prop} (h : l = l') : AKw l F = AKw l' F := by grind
def stp (b:Bool) (v:AVal):AVal:=if b=true then v.strip else v
theorem AOt{v:AVal}:stp true v=v.strip:=rfl
theorem AON{v:AVal}:stp false v=v:=rfl
structure RH (E:Env) (rs:List ResultVar) (R:APost) (b:Bool) (m':MS) (n:Nat) (r':AVal):Prop where
  go: ∀af st xs m0 m1 n',Me E rs af st=some (xs,⟨m1,n'⟩)→m0.Sublist m1→m0=m'→n≤n'→stp b (Oc xs)=r'→R .ret af st∧R .normal af st
structure JOK{α β:Type} (k:α→Option β) (r:β) (js:List (Nat×Nat)) (cs:List Tmp) (V:α→List AVal) (Ms:α→List BX) (af0:List AVal) (m:MS) (n:Nat) (J:List AVal→St→Prop):Prop where
  go: ∀j af' m0 m1 n',k j=some r→SubW m0 m1→m0=reB (Ms j) m→Ae cs (CJ js af')=Ae cs (CJ js af0)→WkL (Bw (CJ js af') cs) (V j)→n≤n'→J af' ⟨m1,n'⟩
def AGJ:AVal→Nat
  |.ptr i _=>i
  |.sh i=>i
  |_=>0
theorem Aa6{i:Nat}:AGJ (.sh i)=i:=rfl
theorem AZJ{i o:Nat}:AGJ (.ptr i o)=i:=rfl
structure JNK{α β:Type} (k:α→Option β) (r:β) (js:List (Nat×Nat)) (cs:List Tmp) (p:Tmp) (V:α→Nat→List AVal) (Ms:α→Nat→List BX) (C:α→Nat→List AVal) (af0:List AVal) (m:MS) (n:Nat) (J:List AVal→St→Prop):Prop where
  go: ∀j g af' m0 m1 n',k j=some r→SubW m0 m1→m0=(g,C j g)::reB (Ms j g) m→Ae cs (CJ js af')=Ae cs (CJ js af0)→WkL (Bw (CJ js af') cs) (V j g)→n≤g∧g<n'→J af' ⟨m1,n'⟩
structure LOK{σ β:Type} (G:Nat→σ→Option β) (r:β) (k:Nat) (js:List (Nat×Nat)) (cs:List Tmp) (V:σ→List AVal) (Ms:σ→List BX) (af0:List AVal) (m:MS) (n:Nat) (J:List AVal→St→Prop):Prop where
  go: ∀s af' m0 m1 n',G k s=some r→SubW m0 m1→m0=reB (Ms s) m→Ae cs (CJ js af')=Ae cs (CJ js af0)→WkL (Bw (CJ js af') cs) (V s)→n≤n'→J af' ⟨m1,n'⟩
structure ROK{α σ β:Type} (G:List α→Int→σ→Option β) (r:β) (xs:List α) (i:Int) (js:List (Nat×Nat)) (cs:List Tmp) (V:Int→σ→List AVal) (Ms:Int→σ→List BX) (af0:List AVal) (m:MS) (n:Nat) (J:List AVal→St→Prop):Prop where
  go: ∀s af' m0 m1 n',G xs i s=some r→SubW m0 m1→m0=reB (Ms i s) m→Ae cs (CJ js af')=Ae cs (CJ js af0)→WkL (Bw (CJ js af') cs) (V i s)→n≤n'→J af' ⟨m1,n'⟩
structure COK{σ β:Type} (G:Nat→Int→σ→Option β) (r:β) (k:Nat) (i:Int) (js:List (Nat×Nat)) (cs:List Tmp) (V:Int→σ→List AVal) (Ms:Int→σ→List BX) (af0:List AVal) (m:MS) (n:Nat) (J:List AVal→St→Prop):Prop where
  go: ∀s af' m0 m1 n',G k i s=some r→SubW m0 m1→m0=reB (Ms i s) m→Ae cs (CJ js af')=Ae cs (CJ js af0)→WkL (Bw (CJ js af') cs) (V i s)→n≤n'→J af' ⟨m1,n'⟩
class CF (E:Env){ρ:Type} (X:Option ρ) (f:outParam FuncId) (args:outParam (List AVal)) (er:outParam (ρ→AVal)):Prop where
  go: ∀ {r:ρ}{n:Nat}{m:MS}{Q:PQ},X=some r→(∀n',n≤n'→Gl (Q (er r) ⟨m,n'⟩))→ACall E f args ⟨m,n⟩ Q
theorem CF.freeze{E:Env}{ρ:Type}{X:Option ρ}{f:FuncId}{args:List AVal}{w:Nat}{g:ρ→List AVal} (h:CF E (Ack X) f args fun r=>.vec w (g r)):CF E X f args fun r=>.slice w (g r) false:=
  ⟨fun hx hQ=>ACall.giveS (h.go hx fun n' hn=>⟨⟨w,_,rfl,fun k hk=>(hQ k (Nat.le_trans hn hk)).go⟩⟩)⟩
class CB (E:Env){ρ:Type} (X:Option ρ) (f:outParam FuncId) (args:outParam (Nat→List AVal)) (pre:outParam (Nat→List AVal)) (er:outParam (ρ→AVal)) (post:outParam (Nat→ρ→List AVal)):Prop where
  go: ∀ {r:ρ}{n i:Nat}{m:MS}{Q:PQ},X=some r→AZ m i=some (pre i)→(∀n',n≤n'→Gl (Q (er r) ⟨Ao m i (post i r),n'⟩))→ACall E f (args i) ⟨m,n⟩ Q
class CT (E:Env){ρ:Type} (X:Option ρ) (f:outParam FuncId) (pre:outParam (Nat→List AVal)) (er:outParam (ρ→AVal)) (post:outParam (Nat→ρ→List AVal)):Prop where
  go: ∀ {r:ρ}{n i j:Nat}{m:MS}{Q:PQ},X=some r→AZ m j=some [.ptr i 0]→AZ m i=some (pre i)→i≠j→(∀n',n≤n'→Gl (Q (er r) ⟨Ao m i (post i r),n'⟩))→ACall E f [.ptr j 0] ⟨m,n⟩ Q
class XC (E:Env) (f:FuncId) (args:List AVal) (r:outParam AVal):Prop where
  go: ∀ {st:St}{Q:PQ},Gl (Q r st)→UL E f args st Q
class CN (E:Env){ρ:Type} (X:Option ρ) (f:outParam FuncId) (args:outParam (List AVal)) (rv:outParam (Nat→AVal)) (cells:outParam (ρ→Nat→List AVal)):Prop where
  go: ∀ {r:ρ}{n:Nat}{m:MS}{Q:PQ},X=some r→(∀i n',n≤i→i<n'→Gl (Q (rv i) ⟨(i,cells r i)::m,n'⟩))→ACall E f args ⟨m,n⟩ Q
class LF{β:Type} (X:Option β){σ:outParam Type} (G B:outParam (Nat→σ→Option β)) (k:outParam Nat) (s:outParam σ) (js:outParam (List (Nat×Nat))) (cs:outParam (List Tmp)) (V:outParam (σ→List AVal)) (Ms:outParam (σ→List BX)):Prop where
  eq:X=G k s
  z: ∀s,G 0 s=none
  u: ∀k s,G (k+1) s=B k s
class LR{β:Type} (X:Option β){α σ:outParam Type} (G:outParam (List α→Int→σ→Option β)) (Bn:outParam (Int→σ→Option β)) (Bc:outParam (α→List α→Int→σ→Option β)) (L:outParam (List α)) (i:outParam Int) (s:outParam σ) (js:outParam (List (Nat×Nat))) (cs:outParam (List Tmp)) (V:outParam (Int→σ→List AVal)) (Ms:outParam (Int→σ→List BX)):Prop where
  eq:X=G L i s
  un: ∀i s,G [] i s=Bn i s
  uc: ∀x xs i s,G (x::xs) i s=Bc x xs i s
class LQ{β:Type} (X:Option β){α σ:outParam Type} (G:outParam (List α→Int→σ→Option β)) (Bn:outParam (Int→σ→Option β)) (Bc:outParam (α→List α→Int→σ→Option β)) (L:outParam (List α)) (s:outParam σ) (js:outParam (List (Nat×Nat))) (cs:outParam (List Tmp)) (V:outParam (Int→σ→List AVal)) (Ms:outParam (Int→σ→List BX)):Prop where
  eq: ∀i,X=G L i s
  un: ∀i s,G [] i s=Bn i s
  uc: ∀x xs i s,G (x::xs) i s=Bc x xs i s
class LC{β:Type} (X:Option β){σ:outParam Type} (G:outParam (Nat→Int→σ→Option β)) (Bn:outParam (Int→σ→Option β)) (Bc:outParam (Nat→Int→σ→Option β)) (k:outParam Nat) (i:outParam Int) (s:outParam σ) (js:outParam (List (Nat×Nat))) (cs:outParam (List Tmp)) (V:outParam (Int→σ→List AVal)) (Ms:outParam (Int→σ→List BX)):Prop where
  eq:X=G k i s
  un: ∀i s,G 0 i s=Bn i s
  uc: ∀k i s,G (k+1) i s=Bc k i s
class LU{β:Type} (X:Option β){σ:outParam Type} (G:outParam (Nat→Int→σ→Option β)) (Bn:outParam (Int→σ→Option β)) (Bc:outParam (Nat→Int→σ→Option β)) (k:outParam Nat) (s:outParam σ) (js:outParam (List (Nat×Nat))) (cs:outParam (List Tmp)) (V:outParam (Int→σ→List AVal)) (Ms:outParam (Int→σ→List BX)):Prop where
  eq: ∀i,X=G k i s
  un: ∀i s,G 0 i s=Bn i s
  uc: ∀k i s,G (k+1) i s=Bc k i s
class MX (E:Env):Prop where
  ok:E.P.follows .mixedOrders=true
section rules
variable{E:Env}{D:DT}{β ρ:Type}{r:β}{T:Prop}{n n':Nat}{m m0 m1:MS}{af af0:List AVal}{st:St}{Q K:APost}{x y c:Code}{js:List (Nat×Nat)}{cs:List Tmp}{J:List AVal→St→Prop}
theorem mkF{X B:Option ρ}{f:FuncId}{fn:Func}{nt:Nat}{rs:List ResultVar}{args:List AVal}{er:ρ→AVal} (hx:X=B) (hf:E.P.funcs[f]?=some fn) (hb:fn.body=some c) (hn:fn.ntmps=nt) (hr:fn.results=rs.toArray) (D:DT) (b:Bool)
    (w: ∀(r:ρ) (n:Nat) (m:MS) (R:APost),RH E rs R b m n (er r)→True∧B=some r→DD D→Gl (wpd E D c R (args++List.replicate (nt-args.length) .any) ⟨m,n⟩)):CF E X f args er:=by
  constructor
  intro r n m Q h hQ
  subst hn
  have e:fn.results.toList=rs:=by rw[hr]
  cases b with
  | false=>
    refine JZ hf hb (Dr (w r n m (H5 E fn Q) ⟨?_⟩ ⟨trivial,hx▸h⟩ ⟨⟩).go)
    intro af st xs m0 m1 n' h1 h2 h0 h3 h4
    subst h0;rw[AON]at h4
    exact⟨IA (by rw[e];omega) h2 (h4▸(hQ n' h3).go),IP (by rw[e];omega) h2 (h4▸(hQ n' h3).go)⟩
  | true=>
    refine ACall.strip (JZ hf hb (Dr (w r n m (H5 E fn fun r st'=>Q r.strip st') ⟨?_⟩ ⟨trivial,hx▸h⟩ ⟨⟩).go))
    intro af st xs m0 m1 n' h1 h2 h0 h3 h4
    subst h0;rw[AOt]at h4
    exact⟨IA (by rw[e];omega) h2 (by rw[h4];exact(hQ n' h3).go),IP (by rw[e];omega) h2 (by rw[h4];exact(hQ n' h3).go)⟩
theorem mkB{X B:Option ρ}{f:FuncId}{fn:Func}{nt:Nat}{rs:List ResultVar}{args:Nat→List AVal}{pre:Nat→List AVal}{er:ρ→AVal}{post:Nat→ρ→List AVal} (hx:X=B) (hf:E.P.funcs[f]?=some fn) (hb:fn.body=some c) (hn:fn.ntmps=nt) (hr:fn.results=rs.toArray) (D:DT) (b:Bool)
    (w: ∀(r:ρ) (n i:Nat) (m:MS) (R:APost),i<n→RH E rs R b ((i,post i r)::m) n (er r)→True∧B=some r→DD D→Gl (wpd E D c R (args i++List.replicate (nt-(args i).length) .any) ⟨(i,pre i)::m,n⟩)):CB E X f args pre er post:=by
  constructor
  intro r n i m Q h hi hQ
  subst hn
  have e:fn.results.toList=rs:=by rw[hr]
  refine ACall.front hi fun hin=>?_
  cases b with
  | false=>
    refine JZ hf hb (Dr (w r n i _ (H5 E fn _) hin ⟨?_⟩ ⟨trivial,hx▸h⟩ ⟨⟩).go)
    intro af st xs m0 m1 n' h1 h2 h0 h3 h4
    subst h0;rw[AON]at h4
    exact⟨IA (by rw[e];omega) h2 ⟨_,rfl,h4▸(hQ n' h3).go⟩,IP (by rw[e];omega) h2 ⟨_,rfl,h4▸(hQ n' h3).go⟩⟩
  | true=>
    refine ACall.strip (JZ hf hb (Dr (w r n i _ (H5 E fn fun r st'=>_) hin ⟨?_⟩ ⟨trivial,hx▸h⟩ ⟨⟩).go))
    intro af st xs m0 m1 n' h1 h2 h0 h3 h4
    subst h0;rw[AOt]at h4
    exact⟨IA (by rw[e];omega) h2 ⟨_,rfl,by rw[h4];exact(hQ n' h3).go⟩,IP (by rw[e];omega) h2 ⟨_,rfl,by rw[h4];exact(hQ n' h3).go⟩⟩
theorem AgP{b:Bool}{u v:Option β}{A B:List AVal→St→Prop} (h:T∧(if b=true then u else v)=some r) (a:(b=true∧T)∧u=some r→Gl (A af st)) (a':(b=false∧T)∧v=some r→Gl (B af st)):Gl (Po (.bool b) A B af st):=by
  rcases Ec h with h|h
  · grind[AN2]
  grind[AOx]
theorem SH{X:Option ρ}{f:FuncId}{args args':List AVal}{er:ρ→AVal}{y:ρ}{Q:PQ} [i:CF E X f args er] (h:X=some y) (ha:args'=args) (k: ∀n',n≤n'→Gl (Q (er y) ⟨m,n'⟩)):Gl (ACall E f args' ⟨m,n⟩ Q):=⟨ha▸i.go h k⟩
theorem AJL{X:Option ρ}{f:FuncId}{args:Nat→List AVal}{tl:List AVal}{pre:Nat→List AVal}{er:ρ→AVal}{post:Nat→ρ→List AVal}{y:ρ}{Q:PQ}{j:Nat} [i:CB E X f args pre er post] (h:X=some y) (ha: .ptr j 0::tl=args j) (hm:AZ m j=some (pre j)) (k: ∀n',n≤n'→Gl (Q (er y) ⟨Ao m j (post j y),n'⟩)):Gl (ACall E f (.ptr j 0::tl) ⟨m,n⟩ Q):=⟨ha▸i.go h hm k⟩
theorem ALi{X:Option ρ}{f:FuncId}{args:Nat→List AVal}{x:AVal}{g:Fn}{pre:Nat→List AVal}{er:ρ→AVal}{post:Nat→ρ→List AVal}{y:ρ}{Q:PQ}{j:Nat} [i:CB E X f args pre er post] (h:X=some y) (ha:[x,.fn g [] [.ptr j 0]]=args j) (hm:AZ m j=some (pre j)) (k: ∀n',n≤n'→Gl (Q (er y) ⟨Ao m j (post j y),n'⟩)):Gl (ACall E f [x,.fn g [] [.ptr j 0]] ⟨m,n⟩ Q):=⟨ha▸i.go h hm k⟩
theorem ANP{X:Option ρ}{f:FuncId}{args:Nat→List AVal}{x:AVal}{g:Fn}{pre:Nat→List AVal}{er:ρ→AVal}{post:Nat→ρ→List AVal}{y:ρ}{Q:PQ}{j:Nat} [i:CB E X f args pre er post] (h:X=some y) (ha:[x,.fn g [.ptr j 0] []]=args j) (hm:AZ m j=some (pre j)) (k: ∀n',n≤n'→Gl (Q (er y) ⟨Ao m j (post j y),n'⟩)):Gl (ACall E f [x,.fn g [.ptr j 0] []] ⟨m,n⟩ Q):=⟨ha▸i.go h hm k⟩
theorem Agd{f:FuncId}{args:List AVal}{x:AVal}{Q:PQ} [i:XC E f args x] (h:Gl (Q x st)):Gl (UL E f args st Q):=⟨i.go h⟩
theorem AXT{X:Option ρ}{f:FuncId}{args args':List AVal}{rv:Nat→AVal}{cells:ρ→Nat→List AVal}{y:ρ}{Q:PQ} [i:CN E X f args rv cells] (h:X=some y) (ha:args'=args) (k: ∀i n',n≤i→i<n'→Gl (Q (rv i) ⟨(i,cells y i)::m,n'⟩)):Gl (ACall E f args' ⟨m,n⟩ Q):=⟨ha▸i.go h k⟩
theorem AZC{X:Option ρ}{f:FuncId}{pre:Nat→List AVal}{er:ρ→AVal}{post:Nat→ρ→List AVal}{y:ρ}{Q:PQ}{i j:Nat} [c:CT E X f pre er post] (h:X=some y) (hj:AZ m j=some [.ptr i 0]) (hm:AZ m i=some (pre i)) (hne:i≠j) (k: ∀n',n≤n'→Gl (Q (er y) ⟨Ao m i (post i y),n'⟩)):Gl (ACall E f [.ptr j 0] ⟨m,n⟩ Q):=⟨c.go h hj hm hne k⟩
theorem ANQ{X:Option ρ}{f:FuncId}{args:Nat→List AVal}{x:AVal}{tl:List AVal}{pre:Nat→List AVal}{er:ρ→AVal}{post:Nat→ρ→List AVal}{y:ρ}{Q:PQ}{j:Nat} [i:CB E X f args pre er post] (h:X=some y) (ha:x:: .ptr j 0::tl=args j) (hm:AZ m j=some (pre j)) (k: ∀n',n≤n'→Gl (Q (er y) ⟨Ao m j (post j y),n'⟩)):Gl (ACall E f (x:: .ptr j 0::tl) ⟨m,n⟩ Q):=⟨ha▸i.go h hm k⟩
theorem AL1{X:Option ρ}{f:FuncId}{args:Nat→List AVal}{x y:AVal}{pre:Nat→List AVal}{er:ρ→AVal}{post:Nat→ρ→List AVal}{yy:ρ}{Q:PQ}{j:Nat} [i:CB E X f args pre er post] (h:X=some yy) (ha:[x,y,.ptr j 0]=args j) (hm:AZ m j=some (pre j)) (k: ∀n',n≤n'→Gl (Q (er yy) ⟨Ao m j (post j yy),n'⟩)):Gl (ACall E f [x,y,.ptr j 0] ⟨m,n⟩ Q):=⟨ha▸i.go h hm k⟩
theorem AhX{id:Nat}{os:List Oper}{mv:List Tmp}{p:Plan} (hD:DD D) [i:MX E] (hm:Vx D id=mv) (hp:AaZ D id=p) (hok:G7 (List.toArray os) p false (Array.replicate (List.toArray os).size false) []=true)
    (h:Gl (Eu E mv ⟨os⟩ p [] (nK Q) af st)):Gl (AWp E (.region id (List.toArray os) true) Q af st):=⟨Oa mv p i.ok hok h.go⟩
theorem AhS (hD:DD D) (h:Gl (wpd E D x (GI (wpd E D y Q) Q) af st)):Gl (AWp E (.seq x y) Q af st):=
  ⟨QE ((Dr h.go).mono fun e af' st' _ q=>by cases e<;>first|exact Dr q|exact q)⟩
theorem Acz{α:Type}{id:Nat×Nat}{V:α→List AVal}{Ms:α→List BX}{k0:α→Option β}{body:(α→Option β)→Option β} (h:T∧AA k0 body (.b id js cs V Ms)=some r) (hD:DD D) (hid:Rz x=id)
    (rest: ∀j n',n≤n'→T∧k0 j=some r→Gl (wpd E D y Q (setVals (CJ js af) cs (V j)) ⟨reB (Ms j) m,n'⟩))
    (first: ∀(k:α→Option β) (J:List AVal→St→Prop),JOK k r js cs V Ms af m n J→T∧body k=some r→Gl (wpd E D x (GI J Q) af ⟨m,n⟩)):Gl (AWp E (.seq x y) Q af ⟨m,n⟩):=by
  refine⟨QE ?_⟩
  have key:=Dr (first k0 (fun af' st'=>AWp E y Q af' ⟨st'.m,st'.next⟩) ⟨?_⟩ h).go
  · exact key.mono fun e af' st' _ q=>by cases e<;>exact q
  · intro j af' m0 m1 n' h1 h2 h3 h4 h5 h6
    subst h3
    refine PL (rgs js) ?_
    have:=Dr (rest j n' h6 ⟨h.1,h1⟩).go
    rw[Cm,Cm]at h4
    rw[Cm]at h5 this
    rw[Ii cs _ _ h4]
    exact this.wk (WkL.setVals (WkL.refl _) h5) h2
theorem AgH{α:Type}{id:Nat×Nat}{V:α→List AVal}{k0:α→Option β}{body:(α→Option β)→Option β} (h:T∧AA k0 body (.a id js cs V)=some r) (hD:DD D) (hid:Rz x=id)
    (rest: ∀j n',n≤n'→T∧k0 j=some r→Gl (wpd E D y Q (setVals (CJ js af) cs (V j)) ⟨m,n'⟩))
    (first: ∀(k:α→Option β) (J:List AVal→St→Prop),JOK k r js cs V (fun _=>[]) af m n J→T∧body k=some r→Gl (wpd E D x (GI J Q) af ⟨m,n⟩)):Gl (AWp E (.seq x y) Q af ⟨m,n⟩):=by
  refine Acz (Ms:=fun _=>[]) (k0:=k0) (body:=body) h hD hid (fun j n' hn h=>?_) first
  grind[reB]
theorem AgI{α:Type}{id:Nat×Nat}{p:Tmp}{V:α→Nat→List AVal}{Ms:α→Nat→List BX}{C:α→Nat→List AVal}{k0:α→Option β}{body:(α→Option β)→Option β} (h:T∧AA k0 body (.n id js cs p V Ms C)=some r) (hD:DD D) (hid:Rz x=id)
    (rest: ∀j n' g,n≤g∧g<n'→T∧k0 j=some r→Gl (wpd E D y Q (setVals (CJ js af) cs (V j g)) ⟨(g,C j g)::reB (Ms j g) m,n'⟩))
    (first: ∀(k:α→Option β) (J:List AVal→St→Prop),JNK k r js cs p V Ms C af m n J→True→T∧body k=some r→Gl (wpd E D x (GI J Q) af ⟨m,n⟩)):Gl (AWp E (.seq x y) Q af ⟨m,n⟩):=by
  refine⟨QE ?_⟩
  have key:=Dr (first k0 (fun af' st'=>AWp E y Q af' ⟨st'.m,st'.next⟩) ⟨?_⟩ trivial h).go
  · exact key.mono fun e af' st' _ q=>by cases e<;>exact q
  · intro j g af' m0 m1 n' h1 h2 h3 h4 h5 h6
    subst h3
    refine PL (rgs js) ?_
    have:=Dr (rest j n' g h6 ⟨h.1,h1⟩).go
    rw[Cm,Cm]at h4
    rw[Cm]at h5 this
    rw[Ii cs _ _ h4]
    exact this.wk (WkL.setVals (WkL.refl _) h5) h2
theorem Ahi{α:Type}{p:Tmp}{V:α→Nat→List AVal}{Ms:α→Nat→List BX}{C:α→Nat→List AVal}{k:α→Option β}{v:α} (hj:JNK k r js cs p V Ms C af0 m n J) (h:T∧k v=some r) (h2:SubW ((AGJ (af.getD p .any),C v (AGJ (af.getD p .any)))::reB (Ms v (AGJ (af.getD p .any))) m) m1) (h4:Ae cs (CJ js af)=Ae cs (CJ js af0)) (h5:WkL (Bw (CJ js af) cs) (V v (AGJ (af.getD p .any)))) (h6:n≤AGJ (af.getD p .any)∧AGJ (af.getD p .any)<n'):Gl (J af ⟨m1,n'⟩):=⟨hj.go v _ af _ m1 n' h.2 h2 rfl h4 h5 h6⟩
theorem Ahh{α:Type}{V:α→List AVal}{Ms:α→List BX}{k:α→Option β}{v:α} (hj:JOK k r js cs V Ms af0 m n J) (h:T∧k v=some r) (h2:SubW (reB (Ms v) m) m1) (h4:Ae cs (CJ js af)=Ae cs (CJ js af0)) (h5:WkL (Bw (CJ js af) cs) (V v)) (h6:n≤n'):Gl (J af ⟨m1,n'⟩):=⟨hj.go v af _ m1 n' h.2 h2 rfl h4 h5 h6⟩
theorem Af6{σ:Type}{V:σ→List AVal}{Ms:σ→List BX}{X:Option β}{G B:Nat→σ→Option β}{k:Nat}{s:σ} [i:LF X G B k s js cs V Ms] (h:T∧X=some r) (hj:LOK G r k js cs V Ms af0 m n J) (h2:SubW (reB (Ms s) m) m1) (h4:Ae cs (CJ js af)=Ae cs (CJ js af0)) (h5:WkL (Bw (CJ js af) cs) (V s)) (h6:n≤n'):Gl (J af ⟨m1,n'⟩):=⟨hj.go s af _ m1 n' (i.eq▸h.2) h2 rfl h4 h5 h6⟩
theorem Agi{α σ:Type}{V:Int→σ→List AVal}{Ms:Int→σ→List BX}{X:Option β}{G:List α→Int→σ→Option β}{Bn:Int→σ→Option β}{Bc:α→List α→Int→σ→Option β}{L:List α}{i:Int}{s:σ} [ii:LR X G Bn Bc L i s js cs V Ms] (h:T∧X=some r) (hj:ROK G r L i js cs V Ms af0 m n J) (h2:SubW (reB (Ms i s) m) m1) (h4:Ae cs (CJ js af)=Ae cs (CJ js af0)) (h5:WkL (Bw (CJ js af) cs) (V i s)) (h6:n≤n'):Gl (J af ⟨m1,n'⟩):=⟨hj.go s af _ m1 n' (ii.eq▸h.2) h2 rfl h4 h5 h6⟩
theorem AhJ{R:APost}{rs:List ResultVar}{b:Bool}{r':AVal}{xs:List AVal} (hR:RH E rs R b m n r') (h1:Me E rs af st=some (xs,⟨m1,n'⟩)) (h2:m.Sublist m1) (h4:n≤n') (h5:stp b (Oc xs)=r'):Gl (R .ret af st):=⟨(hR.go af st xs m m1 n' h1 h2 rfl h4 h5).1⟩
theorem AhM{R:APost}{rs:List ResultVar}{b:Bool}{r':AVal}{xs:List AVal} (hR:RH E rs R b m n r') (h1:Me E rs af st=some (xs,⟨m1,n'⟩)) (h2:m.Sublist m1) (h4:n≤n') (h5:stp b (Oc xs)=r'):Gl (R .normal af st):=⟨(hR.go af st xs m m1 n' h1 h2 rfl h4 h5).2⟩
theorem Ad1{v:β} (h:T∧some v=some r):T∧v=r:=⟨h.1,Option.some.inj h.2⟩
theorem Agq{σ:Type}{V:σ→List AVal}{Ms:σ→List BX}{X:Option β}{G B:Nat→σ→Option β}{k:Nat}{s:σ} [i:LF X G B k s js cs V Ms] (h:T∧X=some r) (hD:DD D) (hm:SubW (reB (Ms s) m) m) (hv:WkL (Bw (CJ js af) cs) (V s))
    (round: ∀k s n',n≤n'→T∧B k s=some r→ ∀J,LOK G r k js cs V Ms af m n' J→Gl (wpd E D c (GI J Q) (setVals (CJ js af) cs (V s)) ⟨reB (Ms s) m,n'⟩)):Gl (AWp E (.loop c) Q af ⟨m,n⟩):=by
  rw[Cm]at hv
  refine⟨RP (rgs js) cs (fun k vs st'=> ∃s,vs=V s∧st'.m=reB (Ms s) m∧n≤st'.next∧G k s=some r) k hv hm ⟨s,rfl,rfl,Nat.le_refl _,i.eq▸h.2⟩ ?_⟩
  rintro k vs ⟨m',n'⟩ ⟨s,rfl,hm',hn,hG⟩ J hJ
  simp only at hm' hn
  subst hm'
  cases k with
  |zero=>rw[i.z]at hG;grind
  | succ k=>
    have key:=fun hJ'=>Dr (round k s n' hn ⟨h.1,i.u k s▸hG⟩ J hJ').go
    rw[Cm]at key
    refine(key ⟨fun s' af' m0 m1 n'' h1 h2 h3 h4 h5 h6=>?_⟩).mono fun e af' st' _ q=>by cases e<;>first|exact I1 q|exact .oth (by simp) q
    subst h3
    rw[Cm,Cm]at h4
    rw[Cm]at h5
    exact hJ k af' ⟨m1,n''⟩ _ _ (Nat.lt_succ_self _) h2 h4 h5 ⟨s',rfl,rfl,Nat.le_trans hn h6,h1⟩
theorem AVt{α σ:Type}{V:Int→σ→List AVal}{Ms:Int→σ→List BX}{X:Option β}{G:List α→Int→σ→Option β}{Bn:Int→σ→Option β}{Bc:α→List α→Int→σ→Option β}{L:List α}{s:σ} [ii:LR X G Bn Bc L 0 s js cs V Ms] (h:T∧X=some r) (hD:DD D) (hL:AB L.length) (hm:SubW (reB (Ms 0 s) m) m) (hv:WkL (Bw (CJ js af) cs) (V 0 s))
    (rnil: ∀i s n',n≤n'→(decide (i<(L.length:Int))=false∧T)∧Bn i s=some r→Gl (wpd E D c (GI (fun _ _=>False) Q) (setVals (CJ js af) cs (V i s)) ⟨reB (Ms i s) m,n'⟩))
    (rcons: ∀x xs i s n',n≤n'→(decide (i<(L.length:Int))=true∧(idx L i=some x∧L[i.toNat]?=some x)∧wr .i64 (i+1)=i+1∧T)∧Bc x xs i s=some r→ ∀J,ROK G r xs (i+1) js cs V Ms af m n' J→Gl (wpd E D c (GI J Q) (setVals (CJ js af) cs (V i s)) ⟨reB (Ms i s) m,n'⟩)):Gl (AWp E (.loop c) Q af ⟨m,n⟩):=by
  rw[Cm]at hv
  refine⟨RP (rgs js) cs (fun k vs st'=> ∃pre suf s,L=pre++suf∧k=suf.length∧vs=V pre.length s∧st'.m=reB (Ms pre.length s) m∧n≤st'.next∧G suf pre.length s=some r) L.length hv hm ⟨[],L,s,rfl,rfl,rfl,rfl,Nat.le_refl _,ii.eq▸h.2⟩ ?_⟩
  rintro k vs ⟨m',n'⟩ ⟨pre,suf,s,hp,rfl,rfl,hm',hn,hG⟩ J hJ
  simp only at hm' hn
  subst hm'
  cases suf with
  | nil=>
    have key:=Dr (rnil _ s n' hn ⟨⟨by grind,h.1⟩,ii.un _ s▸hG⟩).go
    rw[Cm]at key
    exact key.mono fun e af' st' _ q=>by cases e<;>first|exact q.elim|exact .oth (by simp) q
  | cons x xs=>
    obtain⟨f1,f2,f3⟩:=AP5 hp hL
    have key:=fun hJ'=>Dr (rcons x xs _ s n' hn ⟨⟨f1,⟨f2,AOk f2⟩,f3,h.1⟩,ii.uc x xs _ s▸hG⟩ J hJ').go
    rw[Cm]at key
    refine(key ⟨fun s' af' m0 m1 n'' h1 h2 h3 h4 h5 h6=>?_⟩).mono fun e af' st' _ q=>by cases e<;>first|exact I1 q|exact .oth (by simp) q
    have e1:((pre.length:Int)+1)=((pre++[x]).length:Int):=by simp
    rw[e1]at h1 h3 h5
    subst h3
    rw[Cm,Cm]at h4
    rw[Cm]at h5
    exact hJ xs.length af' ⟨m1,n''⟩ _ _ (by simp) h2 h4 h5 ⟨pre++[x],xs,s',by grind,rfl,rfl,rfl,Nat.le_trans hn h6,h1⟩
theorem Agw{α σ:Type}{V:Int→σ→List AVal}{Ms:Int→σ→List BX}{X:Option β}{G:List α→Int→σ→Option β}{Bn:Int→σ→Option β}{Bc:α→List α→Int→σ→Option β}{L:List α}{i:Int}{s:σ} [ii:LQ X G Bn Bc L s js cs V Ms] (h:T∧X=some r) (hj:ROK G r L i js cs V Ms af0 m n J) (h2:SubW (reB (Ms i s) m) m1) (h4:Ae cs (CJ js af)=Ae cs (CJ js af0)) (h5:WkL (Bw (CJ js af) cs) (V i s)) (h6:n≤n'):Gl (J af ⟨m1,n'⟩):=⟨hj.go s af _ m1 n' (ii.eq i▸h.2) h2 rfl h4 h5 h6⟩
theorem AeZ{α σ:Type}{V:Int→σ→List AVal}{Ms:Int→σ→List BX}{X:Option β}{G:List α→Int→σ→Option β}{Bn:Int→σ→Option β}{Bc:α→List α→Int→σ→Option β}{L:List α}{s:σ} [ii:LQ X G Bn Bc L s js cs V Ms] (h:T∧X=some r) (hD:DD D) (hL:AB L.length) (hm:SubW (reB (Ms 0 s) m) m) (hv:WkL (Bw (CJ js af) cs) (V 0 s))
    (rnil: ∀i s n',n≤n'→(decide (i<(L.length:Int))=false∧T)∧Bn i s=some r→Gl (wpd E D c (GI (fun _ _=>False) Q) (setVals (CJ js af) cs (V i s)) ⟨reB (Ms i s) m,n'⟩))
    (rcons: ∀x xs i s n',n≤n'→(decide (i<(L.length:Int))=true∧(idx L i=some x∧L[i.toNat]?=some x)∧wr .i64 (i+1)=i+1∧T)∧Bc x xs i s=some r→ ∀J,ROK G r xs (i+1) js cs V Ms af m n' J→Gl (wpd E D c (GI J Q) (setVals (CJ js af) cs (V i s)) ⟨reB (Ms i s) m,n'⟩)):Gl (AWp E (.loop c) Q af ⟨m,n⟩):=
  haveI:LR X G Bn Bc L 0 s js cs V Ms:=⟨ii.eq 0,ii.un,ii.uc⟩
  AVt h hD hL hm hv rnil rcons
theorem AgC{σ:Type}{V:Int→σ→List AVal}{Ms:Int→σ→List BX}{X:Option β}{G:Nat→Int→σ→Option β}{Bn:Int→σ→Option β}{Bc:Nat→Int→σ→Option β}{k:Nat}{i:Int}{s:σ} [ii:LC X G Bn Bc k i s js cs V Ms] (h:T∧X=some r) (hj:COK G r k i js cs V Ms af0 m n J) (h2:SubW (reB (Ms i s) m) m1) (h4:Ae cs (CJ js af)=Ae cs (CJ js af0)) (h5:WkL (Bw (CJ js af) cs) (V i s)) (h6:n≤n'):Gl (J af ⟨m1,n'⟩):=⟨hj.go s af _ m1 n' (ii.eq▸h.2) h2 rfl h4 h5 h6⟩
theorem Agl{σ:Type}{V:Int→σ→List AVal}{Ms:Int→σ→List BX}{X:Option β}{G:Nat→Int→σ→Option β}{Bn:Int→σ→Option β}{Bc:Nat→Int→σ→Option β}{k:Nat}{i:Int}{s:σ} [ii:LU X G Bn Bc k s js cs V Ms] (h:T∧X=some r) (hj:COK G r k i js cs V Ms af0 m n J) (h2:SubW (reB (Ms i s) m) m1) (h4:Ae cs (CJ js af)=Ae cs (CJ js af0)) (h5:WkL (Bw (CJ js af) cs) (V i s)) (h6:n≤n'):Gl (J af ⟨m1,n'⟩):=⟨hj.go s af _ m1 n' (ii.eq i▸h.2) h2 rfl h4 h5 h6⟩
theorem AWX{σ:Type}{V:Int→σ→List AVal}{Ms:Int→σ→List BX}{X:Option β}{G:Nat→Int→σ→Option β}{Bn:Int→σ→Option β}{Bc:Nat→Int→σ→Option β}{i0 b:Int}{s:σ} [ii:LC X G Bn Bc (b-i0).toNat i0 s js cs V Ms] (h:T∧X=some r) (hD:DD D) (hL: -4611686018427387904≤i0∧b≤4611686018427387904) (hm:SubW (reB (Ms i0 s) m) m) (hv:WkL (Bw (CJ js af) cs) (V i0 s))
    (rnil: ∀i s n',n≤n'→(decide (i<b)=false∧T)∧Bn i s=some r→Gl (wpd E D c (GI (fun _ _=>False) Q) (setVals (CJ js af) cs (V i s)) ⟨reB (Ms i s) m,n'⟩))
    (rcons: ∀k i s n',n≤n'→(decide (i<b)=true∧wr .i64 (i+1)=i+1∧T)∧Bc k i s=some r→ ∀J,COK G r k (i+1) js cs V Ms af m n' J→Gl (wpd E D c (GI J Q) (setVals (CJ js af) cs (V i s)) ⟨reB (Ms i s) m,n'⟩)):Gl (AWp E (.loop c) Q af ⟨m,n⟩):=by
  rw[Cm]at hv
  refine⟨RP (rgs js) cs (fun k vs st'=> ∃i s,i0≤i∧k=(b-i).toNat∧vs=V i s∧st'.m=reB (Ms i s) m∧n≤st'.next∧G k i s=some r) (b-i0).toNat hv hm ⟨i0,s,Int.le_refl _,rfl,rfl,rfl,Nat.le_refl _,ii.eq▸h.2⟩ ?_⟩
  rintro k vs ⟨m',n'⟩ ⟨i,s,hi,hk',rfl,hm',hn,hG⟩ J hJ
  simp only at hm' hn
  subst hm'
  cases k with
  | zero=>
    have key:=Dr (rnil _ s n' hn ⟨⟨by grind,h.1⟩,ii.un _ s▸hG⟩).go
    rw[Cm]at key
    exact key.mono fun e af' st' _ q=>by cases e<;>first|exact q.elim|exact .oth (by simp) q
  | succ k=>
    have hw:wr .i64 (i+1)=i+1:=by
      grind[wr,IntKind.wrap,IntKind.bits,IntKind.signed]
    have key:=fun hJ'=>Dr (rcons k i s n' hn ⟨⟨by simp only[decide_eq_true_eq];omega,hw,h.1⟩,ii.uc k i s▸hG⟩ J hJ').go
    rw[Cm]at key
    refine(key ⟨fun s' af' m0 m1 n'' h1 h2 h3 h4 h5 h6=>?_⟩).mono fun e af' st' _ q=>by cases e<;>first|exact I1 q|exact .oth (by simp) q
    subst h3
    rw[Cm,Cm]at h4
    rw[Cm]at h5
    exact hJ k af' ⟨m1,n''⟩ _ _ (by simp) h2 h4 h5 ⟨i+1,s',by omega,by omega,rfl,rfl,Nat.le_trans hn h6,h1⟩
theorem Ad6{σ:Type}{V:Int→σ→List AVal}{Ms:Int→σ→List BX}{X:Option β}{G:Nat→Int→σ→Option β}{Bn:Int→σ→Option β}{Bc:Nat→Int→σ→Option β}{i0 b:Int}{s:σ} [ii:LU X G Bn Bc (b-i0).toNat s js cs V Ms] (h:T∧X=some r) (hD:DD D) (hL: -4611686018427387904≤i0∧b≤4611686018427387904) (hm:SubW (reB (Ms i0 s) m) m) (hv:WkL (Bw (CJ js af) cs) (V i0 s))
    (rnil: ∀i s n',n≤n'→(decide (i<b)=false∧T)∧Bn i s=some r→Gl (wpd E D c (GI (fun _ _=>False) Q) (setVals (CJ js af) cs (V i s)) ⟨reB (Ms i s) m,n'⟩))
    (rcons: ∀k i s n',n≤n'→(decide (i<b)=true∧wr .i64 (i+1)=i+1∧T)∧Bc k i s=some r→ ∀J,COK G r k (i+1) js cs V Ms af m n' J→Gl (wpd E D c (GI J Q) (setVals (CJ js af) cs (V i s)) ⟨reB (Ms i s) m,n'⟩)):Gl (AWp E (.loop c) Q af ⟨m,n⟩):=
  haveI:LC X G Bn Bc (b-i0).toNat i0 s js cs V Ms:=⟨ii.eq i0,ii.un,ii.uc⟩
  AWX h hD hL hm hv rnil rcons
theorem Af9{G:Prop} (h:T∧(none:Option β)=some r):G:=by grind
theorem Aho{α:Type}{u:α}{f:α→Option β} (h:T∧letL u f=some r): ∃y,u=y∧T∧f y=some r:=⟨u,rfl,h⟩
theorem Af2{α:Type}{l:List α}{i:Int}{f:α→Option β} (h:T∧Option.bind (idx l i) f=some r): ∃y,((idx l i=some y∧l[i.toNat]?=some y)∧T)∧f y=some r:=by
  obtain⟨y,h1,h2⟩:=Cu h
  exact⟨y,⟨⟨h1.1,AOk h1.1⟩,h1.2⟩,h2⟩
theorem Ag0{α:Type}{l:List α}{i j:Int}{f:List α→Option β} (h:T∧Option.bind (sub l i j) f=some r): ∃y,(sub l i j=some y∧T)∧f y=some r:=Cu h
theorem isW (x:Gl (wpd E D c K af st)):Gl (wpd E D c K af st):=x
theorem isC{f:FuncId}{args:List AVal}{Q:PQ} (x:Gl (ACall E f args st Q)):Gl (ACall E f args st Q):=x
theorem isA (x:Gl (AWp E c K af st)):Gl (AWp E c K af st):=x
end rules
end Go.VM
namespace Go.VM
theorem tD{G:Prop} (x:G:=by first|(simp(disch:=omega) only[vm,seval,h.1];done)|rfl):G:=x
theorem tR{G:Prop} (x:G:=by
  obtain⟨H,h⟩:=h
  cases h
  simp(disch:=omega) only[vm,seval,H]
  refine⟨(hR _ _ _ _ _ _ (by simp(disch:=omega) only[vm,seval,H];rfl) ?_ rfl (by omega) ?_).1⟩
  · first|((repeat (first|exact List.Sublist.refl _|apply List.Sublist.cons));done)|(simp(disch:=omega) only[vm,seval,H];(repeat (first|exact List.Sublist.refl _|apply List.Sublist.cons));done)
  · first|(simp(disch:=omega) only[vm,seval,H];done)|rfl):G:=x
theorem tJ{A G:Prop} (a:A) (x:A→G:=by
  intro hz
  simp(disch:=omega) only[vm,seval,h.1]
  refine⟨hz _ _ _ _ h.2 ?_ rfl ?_ ?_ (by omega)⟩
  · first|((repeat (first|exact List.Sublist.refl _|apply List.Sublist.cons));done)|(simp(disch:=omega) only[vm,seval,h.1];(repeat (first|exact List.Sublist.refl _|apply List.Sublist.cons));done)
  all_goals first|(simp(disch:=omega) only[vm,seval,h.1];done)|rfl):G:=x a
end Go.VM
