import Derived.Laws.RangeString
import Derived.Laws.RangeAny
import Derived.Lib.OthersKept
import Derived.Lib.MakeNoZero
import Derived.Test.YtfknikagmmfakaaGreatDoorVM4
import Derived.Scope
set_option linter.unusedSimpArgs false
set_option linter.unusedVariables false
namespace Go.VM
def XP (mv:List Tmp) (dst:Option Tmp):Bool:=match dst with|some d=>mv.contains (d+1000000)|none=>false
def Ld (mv:List Tmp) (dst:Option Tmp):Bool:=match dst with|some d=>mv.contains d|none=>false
def ET (s:List UInt8) (pos:Nat):Nat×Nat:=Utf8.decode ⟨s.toArray⟩ pos
def Yh (s:List UInt8) (pos:Nat) (t:Tmp) (d:Option Tmp) (af:List AVal):List AVal:=
  if decide (pos<s.length)=true then AZ (af.set t (.iter s (pos+(ET s pos).2))) d (.tuple [.bool true,.int .i64 pos,.int .i32 (ET s pos).1])
  else AZ af d (.tuple [.bool false])
def Cy (E:Env) (mv:List Tmp) (o:Oper) (af:List AVal) (st:St):Option (List AVal×St):=
  match o.op with
  | .move x=>
    if Ld mv o.dst=true then
      match nameV af x with
      |some (d,w,xs)=>some (AZ (af.set d (.sh st.next)) o.dst (.sh st.next),{m:=(st.next,[.vec w xs])::st.m,next:=st.next+1})
      | none=>
        match Xd (XP mv o.dst) af x st with
        |some (j,i,w,xs)=>some (AZ (af.set j (.slice w xs false)) o.dst (.slice w xs false),{st with m:=Ak st.m i [.any]})
        |none=>some (AZ (stripAt af x) o.dst (rd E af o.type x),st)
    else some (AZ af o.dst (rd E af o.type x).strip,st)
  | .assign x=>
    if Ld mv o.dst=true then
      match VX E o with
      |some w=>some (AZ af o.dst (.vec w []),st)
      | none=>
        match UG E af x o.type st with
        |some p=>some (AZ af o.dst (.vec p.2.1 p.2.2),{st with m:=Ak st.m p.1 [.any]})
        |none=>some (AZ (stripAt af x) o.dst (rd E af o.type x),st)
    else some (AZ (stripAt af x) o.dst (rd E af o.type x),st)
  |.alloc t=>(if Ld mv o.dst=true then RD E.P t st.next else BU E.P t st.next).map fun cs=>(AZ af o.dst (.ptr st.next 0),{m:=(st.next,cs)::st.m,next:=st.next+1})
  |.box t x=>if Bo (rd E af t x)=true then some (AZ (stripAt af x) o.dst (.ptr st.next 0),{m:=(st.next,AV (rd E af t x))::st.m,next:=st.next+1})else none
  |.build t ⟨ps⟩=>(Pw E t (BC E (AC E.P t) af ps).2).map fun r=>(AZ (BC E (AC E.P t) af ps).1 o.dst r,st)
  | .buildSlice t len ⟨ps⟩=>
    if Ld mv o.dst=true then(Fy E t len (BC E (fun _=>AC E.P t 0) af ps).2).map fun p=>(AZ (BC E (fun _=>AC E.P t 0) af ps).1 o.dst (.gsl p.1 st.next len),{m:=(st.next,p.2)::st.m,next:=st.next+1})
    else(EZ E t len (BC E (fun _=>AC E.P t 0) af ps).2).map fun r=>(AZ af o.dst r,st)
  | .load t x=>
    if Ld mv o.dst=true then(Nb E t (rd E af 0 x) st).map fun p=>(AZ af o.dst p.1,p.2)
    else(Nq E t (rd E af 0 x) st).map fun r=>(AZ af o.dst r.strip,st)
  |.store t x y=>if o.dst.isNone=true then(Kn E t (rd E af 0 x) (rd E af t y) st).map fun st'=>(stripAt af y,st')else none
  | .extract (.tmp t) n=>
    match af.getD t .any with
    |.tuple vs=>(vs[n]?).map fun r=>(AZ (af.set t (.tuple (vs.set n r.strip))) o.dst r,st)
    |_=>none
  | .range t x=>
    match rd E af t x with
    |.str s=>if CZ E.P t=true then some (AZ af o.dst (.iter s 0),st)else none
    |_=>none
  | .next (.tmp t) true=>
    match af.getD t .any with
    |.iter s pos=>some (Yh s pos t o.dst af,st)
    |_=>none
  | .slice t x lo hi mx=>
    match rdo E af lo,rdo E af hi,rdo E af mx with
    | some l,some h,some m=>
      match Dw E t (rd E af t x) l h m with
      |some r=>some (AZ af o.dst r,st)
      |none=>(Ni E t (rd E af t x) l h m st).map fun st'=>(AZ af o.dst (.sh st.next),st')
    |_,_,_=>none
  | .call {callee:=.builtin .append,args:=⟨[x,y]⟩,argTypes:=⟨t0::t1::_⟩}=>
    if Ld mv o.dst=true then
      match Lm E t0 t1 (rd E af t0 x) (rd E af t1 y)with
      |some r=>some (AZ (stripAt af x) o.dst (.sh st.next),{m:=(st.next,[r])::st.m,next:=st.next+1})
      |none=>(appW E x t0 t1 (rd E af t0 x) (rd E af t1 y) st).map fun p=>(AZ af o.dst p.1,p.2)
    else match Fx E t0 t1 (rd E af t0 x) (rd E af t1 y)with
      |some r=>some (AZ (stripAt af x) o.dst r,st)
      |none=>(U9 E t0 t1 (rd E af t0 x) (rd E af t1 y) st).map fun st'=>(AZ af o.dst (.sh st.next),st')
  | .call {callee:=.builtin .len,args:=⟨[x]⟩,argTypes:=⟨t::_⟩}=>
    match Ck E o af with
    |some r=>some (AZ af o.dst r.strip,st)
    |none=>(V3 E t (rd E af t x) st).map fun r=>(AZ af o.dst r,st)
  |.makeMap t none=>some (AZ af o.dst (.sh st.next),{m:=(st.next,[.map [] []])::st.m,next:=st.next+1})
  |.lookup t m k ok=>(PE E t (rd E af t m) (rd E af 0 k) ok st).map fun r=>(AZ af o.dst r,st)
  |.mapUpdate t m k x=>if o.dst.isNone=true then(QX E t (rd E af t m) (rd E af 0 k) (rd E af 0 x) st).map fun st'=>(af,st')else none
  |.insert t m k x=>if o.dst.isNone=true then(QX E t (rd E af t m) (rd E af 0 k) (rd E af 0 x) st).map fun st'=>(af,st')else none
  | .indexAddr t x i=>
    match Ck E o af with
    |some r=>some (AZ af o.dst r.strip,st)
    | none=>
      match EL E t (rd E af t x) (rd E af 0 i) st with
      |some r=>some (AZ af o.dst r,st)
      |none=>(Mk E t (rd E af t x) (rd E af 0 i) st).map fun r=>(AZ af o.dst r,st)
  |.makeSlice t x y=>(if Ld mv o.dst=true then SH E t (rd E af 0 x) (rd E af 0 y) st else SA E t (rd E af 0 x) (rd E af 0 y) st).map fun p=>(AZ af o.dst p.1,p.2)
  | .convert s d x=>
    match Ck E o af with
    |some r=>some (AZ af o.dst r.strip,st)
    | none=>
      match QA E s d (rd E af s x) st with
      |some r=>some (AZ af o.dst r,st)
      |none=>(Np E s d (rd E af s x) st).map fun p=>(AZ af o.dst p.1,p.2)
  |.call {callee:=.builtin .unsafeSliceData,args:=⟨[x]⟩,argTypes:=⟨t0::_⟩}=>(P7 (rd E af t0 x)).map fun r=>(AZ (stripAt af x) o.dst r,st)
  |.call {callee:=.builtin .unsafeString,args:=⟨[x,y]⟩,argTypes:=⟨[t0,t1]⟩}=>(SS E t0 (rd E af t0 x) (rd E af t1 y)).map fun r=>(AZ (stripAt af x) o.dst r,st)
  |_=>(Ck E o af).map fun r=>(AZ af o.dst r.strip,st)
section
variable{E:Env}{F:Nat→Nat}{Γ:Ghost}{st:St}{w:World}{af:List AVal}{a:Act}
theorem AWj (vs:List Value) (t:Nat) (d:Value):vs.set t (vs.getD t d)=vs:=by
  apply List.ext_getElem?
  grind
theorem Sim.newIter (hs:Sim E F Γ st w af a.tmps.toList) (sb:ByteArray) (p:Nat):Sim E F Γ st (w.iter sb p) af a.tmps.toList∧Ext F Γ w Γ (w.iter sb p):=by
  have hold: ∀n,n<w.heap.size→(w.iter sb p).heap[n]?=w.heap[n]?:=fun n hn=>alloc_old (.stringIter sb p) hn
  have hsz:(w.iter sb p).heap.size=w.heap.size+1:=by simp[World.iter]
  refine⟨hs.elsewhere (b:=w.heap.size) (fun n hn _=>hold n hn) (by omega) (hs.com_none (Nat.le_refl _)) (fun i hi h=>?_) ?_ ?_,⟨Γ.le_refl,fun n hn=>⟨hold n (hs.F_of hn),rfl⟩,by omega,rfl,rfl,rfl⟩⟩
  · have:=hs.bx_lt _ _ h;omega
  · rcases Nat.lt_or_ge 0 (AP w.heap.size af a.tmps.toList)with h|h
    · have:=(BO _ _ hs.own h).1;omega
    omega
  · rcases Nat.lt_or_ge 0 (Af Γ w w.heap.size st.m)with h|h
    · have:=VD hs h;omega
    omega
theorem Sim.iterTo (hs:Sim E F Γ st w af a.tmps.toList){t:Tmp}{s:List UInt8}{pos:Nat} (hx:af.getD t .any=.iter s pos){b:Nat}{sb:ByteArray} (hv:a.tmps.toList.getD t undef=.pointer (some ⟨b,0,none⟩))
    (hsb:sb.data.toList=s) (hh:w.heap[b]?=some (.stringIter sb pos)) (pos':Nat):Sim E F Γ st (w.iterAt b sb pos') (af.set t (.iter s pos')) a.tmps.toList∧Ext F Γ w Γ (w.iterAt b sb pos'):=by
  have e:=JZ b af a.tmps.toList t undef hs.rep.length
  rw[hx,hv]at e
  have e1:cnt b (.iter s pos) (.pointer (some ⟨b,0,none⟩))=1:=by simp[cnt,Mv]
  rw[e1]at e
  have e2:(AVal.iter s pos).strip=.any:=by simp[AVal.strip]
  rw[e2]at e
  have tk:=hs.tok b
  have hlt:b<w.heap.size:=(Array.getElem?_eq_some_iff.1 hh).1
  have hold: ∀n,n≠b→(w.iterAt b sb pos').heap[n]?=w.heap[n]?:=fun n hn=>by
    grind[World.iterAt]
  have hsz:(w.iterAt b sb pos').heap.size=w.heap.size:=by simp[World.iterAt]
  have hnew:(w.iterAt b sb pos').heap[b]?=some (.stringIter sb pos'):=by grind[World.iterAt]
  have hs0:Sim E F Γ st w (af.set t .any) a.tmps.toList:=by
    have:=hs.stripAt (.tmp t)
    grind[VM.stripAt]
  have hcom:Γ.com b=none:=by
    cases hc:Γ.com b with
    |none=>rfl
    |some cs=>obtain⟨ar,e',fz,q2,_⟩:=hs.com_ok b cs hc;grind
  have s1:Sim E F Γ st (w.iterAt b sb pos') (af.set t .any) a.tmps.toList:=hs0.elsewhere (b:=b) (fun n _ hn=>hold n hn) (by omega) hcom (fun i hi h=>by
    obtain⟨p,hp,rfl⟩:=List.mem_map.1 hi
    rcases hs.box_ok p hp with⟨k,ar,e',hb⟩|⟨v,hv⟩
    rotate_left
    · have:=hv.bx;grind
    obtain⟨lo,hh2,q3,_⟩:=hb.heap
    have:=hb.bx;grind) (by omega) (by omega)
  refine⟨?_,⟨Γ.le_refl,fun n hn=>⟨hold n (fun e=>by grind),rfl⟩,by omega,rfl,rfl,rfl⟩⟩
  have hset:a.tmps.toList=a.tmps.toList.set t (.pointer (some ⟨b,0,none⟩)):=by grind[AWj]
  have hss:af.set t (.iter s pos')=(af.set t .any).set t (.iter s pos'):=by simp
  rw[hss]
  have h5: ∀n,AP n ((af.set t .any).set t (.iter s pos')) a.tmps.toList≤AP n (af.set t .any) a.tmps.toList+cnt n (.iter s pos') (.pointer (some ⟨b,0,none⟩)):=fun n=>by
    grind[EY]
  refine {s1 with rep:=?_,own:=?_,tok:=?_}
  · have:=s1.rep.set t (x:=.iter s pos') (v:=.pointer (some ⟨b,0,none⟩)) (.iter _ _ _)
    grind
  · have:=s1.own.set t (x:=.iter s pos') (v:=.pointer (some ⟨b,0,none⟩)) (by simp only[VM.own];exact⟨b,sb,rfl,hsb,hnew⟩)
    grind
  · intro n
    have q1:=h5 n
    have q2:=s1.tok n
    by_cases hn:n=b
    · subst hn
      have q3:Af Γ (w.iterAt n sb pos') n st.m=0:=by
        rw[Dn (w:=w) fun p hp=>⟨rfl,fun k hk=>hold k (fun e=>by
          subst e
          rcases hs.box_ok p hp with⟨k2,ar,e',hb⟩|⟨v,hv⟩
          rotate_left
          · have:=hv.bx;grind
          obtain⟨lo,hh2,q3,_⟩:=hb.heap
          have:=hb.bx;grind)⟩]
        omega
      grind[cnt,Mv]
    grind[cnt,Mv]
theorem Ux{b:ByteArray}{s:List UInt8} (h:b.data.toList=s):b=⟨s.toArray⟩:=by
  subst h;simp
theorem AQI (hs:Sim E F Γ st w af a.tmps.toList){o:Oper}{t:TypeId}{x:Operand}{s:List UInt8} (hop:o.op=.range t x) (hx:rd E af t x=.str s) (ht:CZ E.P t=true):
    ∃nx w' a' Γ',Stepped E F Γ st w a o (AZ af o.dst (.iter s 0)) st nx w' a' Γ':=by
  have hr:=hs.rd t x
  rw[hx]at hr
  generalize hv:a.eval x=v at hr
  cases hr
  rename_i sb hn
  have hrun:=run_range_string (P:=E.P) w t sb (Be ht)
  refine⟨.value (.pointer (some ⟨w.heap.size,0,none⟩)),w.iter sb 0,a.put o.dst (.pointer (some ⟨w.heap.size,0,none⟩)),Γ,?_,fun K Q hk=>hk,put_defers _ _ _,?_,Nat.le_refl _,?_⟩
  · simp_all[execOp]
  · exact(hs.newIter sb 0).2
  · refine(hs.newIter sb 0).1.put o.dst (.iter _ _ _) ?_ ?_
    · simp only[VM.own];exact⟨_,sb,rfl,rfl,World.iter_heap w sb 0⟩
    · intro b
      have h1:=hs.tok b
      have h2:=(hs.newIter sb 0).1.tok b
      simp only[cnt,Mv]
      split
      · rename_i e
        have h3:F b=0:=hs.F_lt b (by omega)
        have h4:AP b af a.tmps.toList=0:=by
          rcases Nat.lt_or_ge 0 (AP b af a.tmps.toList)with h|h
          · have:=(BO _ _ hs.own h).1;omega
          omega
        have h5:Af Γ (w.iter sb 0) b st.m=0:=by
          rw[Dn (Γ:=Γ) (w:=w) (w':=w.iter sb 0) fun p hp=>⟨rfl,fun k hk=>alloc_old (.stringIter sb 0) (hs.bx_lt _ _ hk)⟩]
          rcases Nat.lt_or_ge 0 (Af Γ w b st.m)with h|h
          · have:=VD hs h;omega
          omega
        omega
      omega
theorem AW6 (hs:Sim E F Γ st w af a.tmps.toList){o:Oper}{t:Tmp}{s:List UInt8}{pos:Nat} (hop:o.op=.next (.tmp t) true) (hx:af.getD t .any=.iter s pos):
    ∃nx w' a' Γ',Stepped E F Γ st w a o (Yh s pos t o.dst af) st nx w' a' Γ':=by
  have ho:=hs.own.get hs.rep.length t undef
  rw[hx]at ho
  simp only[VM.own]at ho
  obtain⟨b,sb,hv,hsb,hh⟩:=ho
  have hev:a.eval (.tmp t)=.pointer (some ⟨b,0,none⟩):=by grind[Act.eval,Array.getD_toList']
  have hlen:sb.size=s.length:=by rw[←hsb,Array.length_toList];rfl
  unfold Yh
  split
  · rename_i hlt
    have hlt:pos<sb.size:=by grind
    have hrun:=Go.Lib.run_next_any_at (P:=E.P) w b sb pos o.type hh hlt
    have hde:Utf8.decode sb pos=ET s pos:=by rw[Ux hsb];rfl
    rw[hde]at hrun
    obtain⟨s1,x1⟩:=hs.iterTo (t:=t) hx hv hsb hh (pos+(ET s pos).2)
    refine⟨.value (.tuple #[.bool true,.int .i64 pos,.int .i32 (ET s pos).1]),w.iterAt b sb (pos+(ET s pos).2),a.put o.dst (.tuple #[.bool true,.int .i64 pos,.int .i32 (ET s pos).1]),Γ,?_,fun K Q hk=>hk,put_defers _ _ _,x1,Nat.le_refl _,?_⟩
    · simp_all[execOp]
    · refine s1.put o.dst (r:=.tuple [.bool true,.int .i64 pos,.int .i32 (ET s pos).1]) (.tuple (.cons (.bool _) (.cons (.int _ _) (.cons (.int _ _) .nil)))) (by simp[VM.own,ownL]) fun n=>?_
      have:=s1.tok n
      grind[cnt,AP]
  · rename_i hlt
    have hlt: ¬pos<sb.size:=by grind
    have hrun:=Go.Lib.run_next_end_at (P:=E.P) w b sb pos o.type hh hlt
    refine⟨.value (.tuple #[.bool false]),w,a.put o.dst (.tuple #[.bool false]),Γ,?_,fun K Q hk=>hk,put_defers _ _ _,Ext.refl _ _ _,Nat.le_refl _,?_⟩
    · simp_all[execOp]
    · refine hs.put o.dst (r:=.tuple [.bool false]) (.tuple (.cons (.bool _) .nil)) (by simp[VM.own,ownL]) fun n=>?_
      have:=hs.tok n
      grind[cnt,AP]
theorem Og (hs:Sim E F Γ st w af a.tmps.toList){mv:List Tmp}{o:Oper}{af':List AVal}{st':St} (h:Cy E mv o af st=some (af',st')):
    ∃nx w' a' Γ',Stepped E F Γ st w a o af' st' nx w' a' Γ':=by
  unfold Cy at h
  split at h
  · rename_i x hop
    split at h
    · split at h
      · rename_i hz
        simp only[Option.some.injEq,Prod.mk.injEq]at h;obtain⟨rfl,rfl⟩:=h
        exact AQu hs hop hz
      · split at h
        · rename_i hz
          simp only[Option.some.injEq,Prod.mk.injEq]at h;obtain⟨rfl,rfl⟩:=h
          exact AWm hs hop hz
        · simp only[Option.some.injEq,Prod.mk.injEq]at h;obtain⟨rfl,rfl⟩:=h
          exact Tm hs (.inl hop)
    · simp only[Option.some.injEq,Prod.mk.injEq]at h;obtain⟨rfl,rfl⟩:=h
      exact⟨.value (a.eval x),w,a.put o.dst (a.eval x),Γ,by simp[execOp,hop],fun K Q hk=>hk,put_defers _ _ _,Ext.refl _ _ _,Nat.le_refl _,hs.putStrip o.dst (hs.rd o.type x)⟩
  · rename_i x hop
    split at h
    · split at h
      · rename_i hz
        simp only[Option.some.injEq,Prod.mk.injEq]at h;obtain⟨rfl,rfl⟩:=h
        exact AOO hs hz
      · split at h
        · rename_i z hz
          simp only[Option.some.injEq,Prod.mk.injEq]at h;obtain⟨rfl,rfl⟩:=h
          exact APn hs hop hz
        · simp only[Option.some.injEq,Prod.mk.injEq]at h;obtain⟨rfl,rfl⟩:=h
          exact Tm hs (.inr hop)
    · simp only[Option.some.injEq,Prod.mk.injEq]at h;obtain⟨rfl,rfl⟩:=h
      exact Tm hs (.inr hop)
  · rename_i t hop
    split at h
    · cases hz:RD E.P t st.next with
      |none=>grind
      | some z=>
        simp only[hz,Option.map_some,Option.some.injEq,Prod.mk.injEq]at h;obtain⟨rfl,rfl⟩:=h
        grind[AOd]
    · cases hz:BU E.P t st.next with
      |none=>grind
      | some z=>
        simp only[hz,Option.map_some,Option.some.injEq,Prod.mk.injEq]at h;obtain⟨rfl,rfl⟩:=h
        grind[ARR]
  · rename_i t x hop
    split at h
    · rename_i hx
      simp only[Option.some.injEq,Prod.mk.injEq]at h;obtain⟨rfl,rfl⟩:=h
      grind[APN]
    grind
  · rename_i t ps hop
    cases hz:Pw E t (BC E (AC E.P t) af ps).2 with
    |none=>grind
    | some z=>
      simp only[hz,Option.map_some,Option.some.injEq,Prod.mk.injEq]at h;obtain⟨rfl,rfl⟩:=h
      grind[AQa]
  · rename_i t len ps hop
    split at h
    · cases hz:Fy E t len (BC E (fun _=>AC E.P t 0) af ps).2 with
      |none=>grind
      | some z=>
        obtain⟨z,cs⟩:=z
        simp only[hz,Option.map_some,Option.some.injEq,Prod.mk.injEq]at h;obtain⟨rfl,rfl⟩:=h
        grind[TB]
    cases hz:EZ E t len (BC E (fun _=>AC E.P t 0) af ps).2 with
    |none=>grind
    | some z=>
      simp only[hz,Option.map_some,Option.some.injEq,Prod.mk.injEq]at h;obtain⟨rfl,rfl⟩:=h
      grind[U5]
  · rename_i t x hop
    split at h
    · cases hz:Nb E t (rd E af 0 x) st with
      |none=>grind
      | some z=>
        obtain⟨r,s⟩:=z
        simp only[hz,Option.map_some,Option.some.injEq,Prod.mk.injEq]at h;obtain⟨rfl,rfl⟩:=h
        grind[ALH]
    · cases hz:Nq E t (rd E af 0 x) st with
      |none=>grind
      | some z=>
        simp only[hz,Option.map_some,Option.some.injEq,Prod.mk.injEq]at h;obtain⟨rfl,rfl⟩:=h
        grind[AXY]
  · rename_i t x y hop
    split at h
    · rename_i hd
      cases hz:Kn E t (rd E af 0 x) (rd E af t y) st with
      |none=>grind
      | some z=>
        simp only[hz,Option.map_some,Option.some.injEq,Prod.mk.injEq]at h;obtain⟨rfl,rfl⟩:=h
        exact ART hs hop (by simp_all) hz
    grind
  · rename_i t n hop
    split at h
    · rename_i vs hv
      cases hz:vs[n]? with
      |none=>grind
      | some z=>
        simp only[hz,Option.map_some,Option.some.injEq,Prod.mk.injEq]at h;obtain⟨rfl,rfl⟩:=h
        exact AIJ hs hop hv hz
    grind
  · rename_i t x hop
    split at h
    · rename_i s hx
      split at h
      · rename_i ht
        simp only[Option.some.injEq,Prod.mk.injEq]at h;obtain⟨rfl,rfl⟩:=h
        grind[AQI]
      grind
    grind
  · rename_i t hop
    split at h
    · rename_i s pos hx
      simp only[Option.some.injEq,Prod.mk.injEq]at h;obtain⟨rfl,rfl⟩:=h
      grind[AW6]
    grind
  · rename_i t x lo hi mx hop
    split at h
    · rename_i l hh m h1 h2 h3
      split at h
      · rename_i r hz
        simp only[Option.some.injEq,Prod.mk.injEq]at h;obtain⟨rfl,rfl⟩:=h
        exact ARn hs hop h1 h2 h3 hz
      · cases hz:Ni E t (rd E af t x) l hh m st with
        |none=>rw[hz]at h;cases h
        | some z=>
          simp only[hz,Option.map_some,Option.some.injEq,Prod.mk.injEq]at h;obtain⟨rfl,rfl⟩:=h
          exact AOC hs hop h1 h2 h3 hz
    grind
  · rename_i x y t0 t1 ts hop
    split at h
    · split at h
      · rename_i z hz
        simp only[Option.some.injEq,Prod.mk.injEq]at h;obtain⟨rfl,rfl⟩:=h
        grind[ABp]
      · cases hz:appW E x t0 t1 (rd E af t0 x) (rd E af t1 y) st with
        |none=>rw[hz]at h;cases h
        | some z=>
          obtain⟨r,s⟩:=z
          simp only[hz,Option.map_some,Option.some.injEq,Prod.mk.injEq]at h;obtain⟨rfl,rfl⟩:=h
          exact AUM hs hop hz
    split at h
    · rename_i z hz
      simp only[Option.some.injEq,Prod.mk.injEq]at h;obtain⟨rfl,rfl⟩:=h
      grind[ANy]
    · cases hz:U9 E t0 t1 (rd E af t0 x) (rd E af t1 y) st with
      |none=>rw[hz]at h;cases h
      | some z=>
        simp only[hz,Option.map_some,Option.some.injEq,Prod.mk.injEq]at h;obtain⟨rfl,rfl⟩:=h
        exact Yu hs hop hz
  · rename_i x t0 ts hop
    split at h
    · rename_i r hz
      simp only[Option.some.injEq,Prod.mk.injEq]at h;obtain⟨rfl,rfl⟩:=h
      grind[QI]
    · cases hz:V3 E t0 (rd E af t0 x) st with
      |none=>rw[hz]at h;cases h
      | some z=>
        simp only[hz,Option.map_some,Option.some.injEq,Prod.mk.injEq]at h;obtain⟨rfl,rfl⟩:=h
        exact AXj hs hop hz
  · rename_i t hop
    simp only[Option.some.injEq,Prod.mk.injEq]at h;obtain⟨rfl,rfl⟩:=h
    grind[ACi]
  · rename_i t m k ok hop
    cases hz:PE E t (rd E af t m) (rd E af 0 k) ok st with
    |none=>grind
    | some z=>
      simp only[hz,Option.map_some,Option.some.injEq,Prod.mk.injEq]at h;obtain⟨rfl,rfl⟩:=h
      grind[ARX]
  · rename_i t m k x hop
    split at h
    · rename_i hd
      cases hz:QX E t (rd E af t m) (rd E af 0 k) (rd E af 0 x) st with
      |none=>grind
      | some z=>
        simp only[hz,Option.map_some,Option.some.injEq,Prod.mk.injEq]at h;obtain⟨rfl,rfl⟩:=h
        exact Yy hs (.inl hop) (by simp_all) hz
    grind
  · rename_i t m k x hop
    split at h
    · rename_i hd
      cases hz:QX E t (rd E af t m) (rd E af 0 k) (rd E af 0 x) st with
      |none=>grind
      | some z=>
        simp only[hz,Option.map_some,Option.some.injEq,Prod.mk.injEq]at h;obtain⟨rfl,rfl⟩:=h
        exact Yy hs (.inr hop) (by simp_all) hz
    grind
  · rename_i t x i hop
    split at h
    · rename_i r hz
      simp only[Option.some.injEq,Prod.mk.injEq]at h;obtain⟨rfl,rfl⟩:=h
      grind[QI]
    · split at h
      · rename_i r hz
        simp only[Option.some.injEq,Prod.mk.injEq]at h;obtain⟨rfl,rfl⟩:=h
        grind[U1]
      · cases hz:Mk E t (rd E af t x) (rd E af 0 i) st with
        |none=>rw[hz]at h;cases h
        | some z=>
          simp only[hz,Option.map_some,Option.some.injEq,Prod.mk.injEq]at h;obtain⟨rfl,rfl⟩:=h
          exact AM8 hs hop hz
  · rename_i t x y hop
    split at h
    · cases hz:SH E t (rd E af 0 x) (rd E af 0 y) st with
      |none=>grind
      | some z=>
        simp only[hz,Option.map_some,Option.some.injEq,Prod.mk.injEq]at h;obtain⟨rfl,rfl⟩:=h
        grind[APg]
    · cases hz:SA E t (rd E af 0 x) (rd E af 0 y) st with
      |none=>grind
      | some z=>
        simp only[hz,Option.map_some,Option.some.injEq,Prod.mk.injEq]at h;obtain⟨rfl,rfl⟩:=h
        grind[AUA]
  · rename_i s d x hop
    split at h
    · rename_i r hz
      simp only[Option.some.injEq,Prod.mk.injEq]at h;obtain⟨rfl,rfl⟩:=h
      grind[QI]
    · split at h
      · rename_i r hz
        simp only[Option.some.injEq,Prod.mk.injEq]at h;obtain⟨rfl,rfl⟩:=h
        grind[ASi]
      · cases hz:Np E s d (rd E af s x) st with
        |none=>grind
        | some z=>
          simp only[hz,Option.map_some,Option.some.injEq,Prod.mk.injEq]at h;obtain⟨rfl,rfl⟩:=h
          grind[AQ1]
  · rename_i x t0 ts hop
    cases hz:P7 (rd E af t0 x)with
    |none=>grind
    | some z=>
      simp only[hz,Option.map_some,Option.some.injEq,Prod.mk.injEq]at h;obtain⟨rfl,rfl⟩:=h
      grind[ASq]
  · rename_i x y t0 t1 hop
    cases hz:SS E t0 (rd E af t0 x) (rd E af t1 y)with
    |none=>grind
    | some z=>
      simp only[hz,Option.map_some,Option.some.injEq,Prod.mk.injEq]at h;obtain⟨rfl,rfl⟩:=h
      grind[AWn]
  · cases hz:Ck E o af with
    |none=>grind
    | some z=>
      simp only[hz,Option.map_some,Option.some.injEq,Prod.mk.injEq]at h;obtain⟨rfl,rfl⟩:=h
      grind[QI]
end
def rdL (E:Env) (af:List AVal):List Operand→List TypeId→List AVal
  |[],_=>[]
  |x::xs,[]=>rd E af 0 x::rdL E af xs []
  |x::xs,t::ts=>rd E af t x::rdL E af xs ts
def callable (P:Program) (g:FuncId):Bool:=
  match P.funcs[g]? with
  | some fn => fn.name != "runtime.NumGoroutine" && fn.body.isSome
  |none=>false
def AlT (E:Env) (g:FuncId) (args:List AVal) (st:St) (Q:AVal→St→Prop):Prop:=
  ∃ fn e r, E.P.funcs[g]? = some fn ∧ (fn.name == "runtime.NumGoroutine") = false ∧ fn.body.isNone = true ∧ Extern.findNext fn = none ∧ Extern.find fn = some e ∧
    (∀Γ vs w,RepL Γ args vs→ ∃v,(e vs.toArray).run E.P w=.ok v w∧Rep Γ r v)∧Q r.strip st
def AlX (E:Env) (g:FuncId) (args:List AVal) (st:St) (Q:AVal→St→Prop):Prop:=
  ∃ fn ps t el, ∃ n : Nat, E.P.funcs[g]? = some fn ∧ (fn.name == "runtime.NumGoroutine") = false ∧ fn.body.isNone = true ∧ Extern.findNext fn = none ∧ Extern.find fn = some (Extern.BytealgMakeNoZero.makeNoZero ps #[t]) ∧
    E.P.underlying t=some (.slice el)∧1≤n∧n≤140737488355328∧args=[.int .i64 n]∧Q (.trow el st.next n) {m:=(st.next,[.any])::st.m,next:=st.next+1}
def UJ (E:Env) (g:FuncId) (args:List AVal) (st:St) (Q:AVal→St→Prop):Prop:=AlT E g args st Q∨AlX E g args st Q
theorem V8: ∀(n t:Nat) (acc:Array Value),(∀v,v∈acc.toList→v.oneCell'=true)→ ∀v,v∈(Extern.BytealgMakeNoZero.digits n t acc).toList→v.oneCell'=true
  |0,_,_,h=>h
  | n+1,t,acc,h=>by
    rw[Extern.BytealgMakeNoZero.digits]
    refine V8 n _ _ fun v hv=>?_
    rw[Array.toList_push,List.mem_append]at hv
    rcases hv with hv|hv
    · grind
    · rw[List.mem_singleton]at hv;subst hv;rfl
theorem AhI{P:Program} (w:World) (ps:Array TypeId) (t e:TypeId) (ht:P.underlying t=some (.slice e)) (n:Nat) (hn:n≤281474976710656):
    ∃cs:Array Value,(Extern.BytealgMakeNoZero.makeNoZero ps #[t] #[.int .i64 n]).run P w=.ok (.slice (some ⟨w.heap.size,0,none⟩) n cs.size) (w.drew.drew.alloc (.cells cs e))∧n≤cs.size∧ ∀v,v∈cs.toList→v.oneCell'=true:=by
  have h1: ¬(n:Int)<0:=by omega
  have h2: ¬(281474976710656:Int)<(n:Int):=by omega
  refine ⟨Extern.BytealgMakeNoZero.digits (grownCap w n 0 e) ((Question.extern "internal/bytealg.MakeNoZero.bytes" 0).cut (w.tape (w.drawn + 1) (.extern "internal/bytealg.MakeNoZero.bytes" 0))) #[], ?_, ?_, V8 _ _ _ (by simp)⟩
  · show Sem.run P (do
        let TypeDesc.slice el←underlying t|stuck _
        if(n:Int)<0||(n:Int)>2^48 then runtimePanic _
        let c←choose (.appendCap (n:Int).toNat 0 el)
        askRoom c
        let bs←choose (.extern _ 0)
        let a←newRow el (Extern.BytealgMakeNoZero.digits c bs #[])
        pure (Value.slice (some a) (n:Int).toNat c):Sem Value) w=_
    simp[run_underlying ht,h1,h2,Question.forced,newRow,Go.Lib.size_digits,grownCap]
  grind[Go.Lib.size_digits,grownCap_ge]
def CallX (E:Env) (g:FuncId) (args:List AVal) (st:St) (Q:AVal→St→Prop):Prop:=if callable E.P g=true then ACall E g args st Q else UJ E g args st Q
theorem CallX.mono{E:Env}{st:St}{g:FuncId}{args:List AVal}{Q Q':AVal→St→Prop} (h:CallX E g args st Q) (k: ∀r st',st.next≤st'.next→Q r st'→Q' r st'):CallX E g args st Q':=by
  unfold CallX at *
  split
  · rename_i hc;rw[if_pos hc]at h;exact h.mono k
  · rename_i hc;rw[if_neg hc]at h
    rcases h with h|h
    · obtain⟨fn,e,r,h1,h2,h3,h4,h5,h6,h7⟩:=h
      exact .inl ⟨fn,e,r,h1,h2,h3,h4,h5,h6,k _ _ (Nat.le_refl _) h7⟩
    · obtain⟨fn,ps,t,el,n,h1,h2,h3,h4,h5,h6,h7,h8,h9,h10⟩:=h
      exact .inr ⟨fn,ps,t,el,n,h1,h2,h3,h4,h5,h6,h7,h8,h9,k _ _ (Nat.le_succ _) h10⟩
def Ot:AVal→Bool
  |.gsl _ _ _=>true
  |_=>false
def VV (x y:AVal):Bool:=Ot y||Ot x
def QZ:BinOp→Operand→Bool
  |.eql,.const (.slice none 0 0)=>true
  |_,_=>false
def AaQ (b:Bool) (v:AVal) (K:AVal→Prop):Prop:=
  match b,v with
  |true,.slice _ xs _=> ∀c:Bool,(c=true→xs=[])→K (.bool c)
  |_,_=>False
def CR (E:Env) (mv:List Tmp) (o:Oper) (af:List AVal) (st:St) (K:List AVal→St→Prop):Prop:=
  match o.op with
  | .call {callee:=.value f,args,argTypes}=>
    match rd E af 0 f with
    |.fn (.func g) p q=>CallX E g (stripL (p++rdL E af args.toList argTypes.toList++q)) st fun r st'=>K (AZ af o.dst r) st'
    |_=>False
  | .call {callee:=.builtin .append,args:=⟨[x,y]⟩,argTypes:=⟨t0::t1::_⟩}=>
    if VV (rd E af t0 x) (rd E af t1 y)=true then
      match appG E t0 t1 (rd E af t0 x) (rd E af t1 y) st with
      |some (wd,l,cs,rest,jo)=> ∀i,i=st.next∨jo=some i→K (AZ af o.dst (.gsl wd i l)) {m:=(i,cs)::rest,next:=st.next+1}
      |none=>False
    else
      match Cy E mv o af st with
      |some (af',st')=>K af' st'
      |none=>False
  | .binOp op t x y _=>
    if QZ op y=true then AaQ (Ar E.P t) (rd E af t x) fun v=>K (AZ af o.dst v) st
    else
      match Cy E mv o af st with
      |some (af',st')=>K af' st'
      |none=>False
  | _=>
    match Cy E mv o af st with
    |some (af',st')=>K af' st'
    |none=>False
def AoG (E:Env) (o:Oper) (af:List AVal) (st:St) (K:List AVal→St→Prop):Prop:=
  ∀(F:Nat→Nat) (Γ:Ghost) (w:World) (a:Act),a.defers=[]→Sim E F Γ st w af a.tmps.toList→ ∀(K':Act→World→Prop) (Qx:Exit→Act→World→Prop),
    (∀Γ' af' st' a' w',Ext F Γ w Γ' w'→st.next≤st'.next→a'.defers=[]→Sim E F Γ' st' w' af' a'.tmps.toList→K af' st'→K' a' w')→o.wp E.P a w K' Qx
section
variable{E:Env}{F:Nat→Nat}{Γ:Ghost}{st:St}{w:World}{af:List AVal}{a:Act}
theorem RepL.append{xs ys:List AVal}{us vs:List Value} (h:RepL Γ xs us) (k:RepL Γ ys vs):RepL Γ (xs++ys) (us++vs):=by
  induction xs generalizing us with
  |nil=>cases h;exact k
  |cons x xs ih=>cases h with|cons h t=>exact .cons h (ih t)
theorem Z7 (hs:Sim E F Γ st w af a.tmps.toList): ∀(xs:List Operand) (ts:List TypeId),RepL Γ (rdL E af xs ts) (xs.map a.eval)
  |[],_=>.nil
  |x::xs,[]=>.cons (hs.rd _ x) (Z7 hs xs [])
  |x::xs,t::ts=>.cons (hs.rd _ x) (Z7 hs xs ts)
theorem Sim.aside (hs:Sim E F Γ st w af a.tmps.toList){xs:List AVal}{vs:List Value} (hr:RepL Γ xs vs):Sim E (fun b=>F b+AP b af a.tmps.toList) Γ st w (stripL xs) vs:=by
  refine {hs with bx_F:=?_,F_lt:=?_,rep:=hr.strip,own:=G9 _ _ _ _,tok:=?_}
  · intro p b hp hb
    have h1:=hs.bx_F p b hp hb
    have h2:AP b af a.tmps.toList=0:=by
      rcases Nat.lt_or_ge 0 (AP b af a.tmps.toList)with h|h
      · rcases hs.box_ok p hp with⟨b',arr,e,hk⟩|⟨v,hv⟩
        rotate_left
        · have:=hv.bx;grind
        have:=hk.bx;rw[hb]at this;cases this
        rcases (BO _ _ hs.own h).2 with⟨c,hc⟩|⟨s0,p0,hc⟩|⟨s0,p0,hc⟩
        · rw[hk.com]at hc;grind
        · obtain⟨lo,hi,hh,_⟩:=hk.heap;grind
        · obtain⟨lo,hi,hh,_⟩:=hk.heap;grind
      omega
    omega
  · intro b hb
    have h1:=hs.F_lt b hb
    have h2:AP b af a.tmps.toList=0:=by
      rcases Nat.lt_or_ge 0 (AP b af a.tmps.toList)with h|h
      · have:=(BO _ _ hs.own h).1;omega
      omega
    omega
  · intro b
    have:=hs.tok b
    grind[Es]
theorem Sim.back (hs:Sim E F Γ st w af a.tmps.toList){Γ':Ghost}{st':St}{w':World}{r:AVal}{v:Value} (hx:Ext (fun b=>F b+AP b af a.tmps.toList) Γ w Γ' w') (h:Sim E (fun b=>F b+AP b af a.tmps.toList) Γ' st' w' [r] [v]) (dst:Option Tmp):
    Sim E F Γ' st' w' (AZ af dst r) (a.put dst v).tmps.toList:=by
  have hown:ownL Γ' w' af a.tmps.toList:=BL hx.le _ _ hs.own fun b hb=>hx.keep b (by omega)
  have hmid:Sim E F Γ' st' w' af a.tmps.toList:=by
    refine {h with bx_F:=?_,F_lt:=?_,rep:=hs.rep.mono hx.le,own:=hown,tok:=?_}
    · intro p b hp hb;have:=h.bx_F p b hp hb;omega
    · intro b hb;have:=h.F_lt b hb;omega
    · intro b;have:=h.tok b;omega
  have hr:Rep Γ' r v:=by have:=h.rep;cases this;omega
  have ho:VM.own Γ' w' r v:=by have:=h.own;grind[ownL]
  refine hmid.put dst hr ho fun b=>?_
  have:=h.tok b
  grind[AP,cnt]
theorem Xv{P:Program}{w:World}{t e:TypeId} (h:P.underlying t=some (.slice e)) (p:Option Addr) (n k:Nat):
    (binOp .eql t (.slice p n k) (.slice none 0 0)).run P w=.ok (.bool p.isNone) w:=by
  have key: ∀d:Nat,(Op.equalIn (d+1) t (.slice p n k) (.slice none 0 0)).run P w=.ok p.isNone w:=fun d=>by
    cases p<;>simp[Op.equalIn,run_underlying h]
  simp_all[binOp,Op.equal,Op.maxDepth]
theorem ATU{op:BinOp}{y:Operand} (h:QZ op y=true):op=.eql∧y=.const (.slice none 0 0):=by
  unfold QZ at h
  split at h
  · exact⟨rfl,rfl⟩
  · cases h
theorem Q7 {mv:List Tmp}{o:Oper}{K:List AVal→St→Prop} (h:CR E mv o af st K):AoG E o af st K:=by
  intro F Γ w a hd hs K' Qx hK
  unfold CR at h
  split at h
  · rename_i f args ts hop
    have hf:=hs.rd 0 f
    split at h
    · rename_i g p q e
      rw[e]at hf
      generalize hfv:a.eval f=fv at hf
      cases hf with
      | fn hp hq=>
        rename_i vp vq
        have hargs:=Z7 hs args.toList ts.toList
        have hall:=hp.append (hargs.append hq)
        rw[←List.append_assoc]at hall
        unfold CallX at h
        split at h
        rotate_left
        · rcases h with h|h
          · obtain⟨fn,e2,r,h1,h2,h3,h4,h5,h6,h7⟩:=h
            obtain⟨v,hv,hr⟩:=h6 Γ (vp.toList++args.toList.map a.eval++vq.toList) w (by
              have:=hall.strip
              grind)
            have harr:(vp.toList++args.toList.map a.eval++vq.toList).toArray=vp++args.map a.eval++vq:=by
              simp
            rw[harr]at hv
            have hrun:(execOp a.eval o).run E.P w=.ok (.value v) w:=by
              grind[run_callFunc_extern,execOp,resolve,Deferred.ofValue,Sem.run_bind,Sem.run_pure,Result.andThen_ok,invoke]
            unfold Oper.wp
            rw[hrun]
            exact hK Γ _ st (a.put o.dst v) w (Ext.refl _ _ _) (Nat.le_refl _) (by grind[put_defers]) (hs.putStrip o.dst hr) h7
          · obtain⟨fn,ps,t,el,n,h1,h2,h3,h4,h5,h6,h7,h8,h9,h10⟩:=h
            have hst:=hall.strip
            have harr:(vp.toList++args.toList.map a.eval++vq.toList).toArray=vp++args.map a.eval++vq:=by
              simp
            obtain⟨v0,hv0,hrv⟩: ∃v0,vp.toList++args.toList.map a.eval++vq.toList=[v0]∧Rep Γ (.int .i64 n) v0:=by
              have hst':RepL Γ [.int .i64 n] (vp.toList++args.toList.map a.eval++vq.toList):=by grind
              generalize vp.toList++args.toList.map a.eval++vq.toList=vs at hst'
              cases hst' with
              |cons q t=>cases t;grind
            cases hrv
            rw[hv0]at harr
            obtain⟨cs,r1,r2,r3⟩:=AhI (P:=E.P) w ps t el h6 n (by omega)
            have hrun:(execOp a.eval o).run E.P w=.ok (.value (.slice (some ⟨w.drew.drew.heap.size,0,none⟩) n cs.size)) (w.drew.drew.alloc (.cells cs el (0,0))):=by
              have hcf:=run_callFunc_extern (P:=E.P) h1 h2 h3 h4 h5 (vp++args.map a.eval++vq) w
              rw[←harr]at hcf
              rw[r1]at hcf
              simp only[execOp,hop,resolve,hfv,Deferred.ofValue,Sem.run_bind,Sem.run_pure,Result.andThen_ok,invoke]
              rw[←harr,hcf];rfl
            have hx:Ext F Γ w Γ w.drew.drew:=⟨Γ.le_refl,fun _ _=>⟨rfl,rfl⟩,Nat.le_refl _,rfl,rfl,rfl⟩
            obtain⟨nx,w',a',Γ',hp⟩:=Uh (o:=o) (r:=.trow el st.next n) (w1:=w.drew.drew) (cells:=cs) (e:=el) (cs:=[.any]) (fz:=(0,0)) (cap:=cs.size) (len:=n) hs hs.drew.drew hx (by simp)
              (by
                have hl:1≤cs.toList.length:=by grind
                match hc:cs.toList,hl with
                |v::vs,_=>exact .cons (.any v) .nil)
              (fun v hv=>r3 v (List.mem_of_mem_take hv)) (fun x hx=>by grind[VM.own,cnt]) (fun Γ' q1 q2=>.trow q1 q2 ⟨r2,by grind[Bf]⟩ rfl) (fun _ _ _=>by simp[VM.own]) (fun _ _=>by simp[cnt]) hrun
            unfold Oper.wp
            rw[hp.run]
            exact hp.upon _ _ (hK Γ' _ _ a' w' hp.ext hp.next (by rw[hp.defers];omega) hp.sim h10)
        rename_i hcall
        have hac:=h
        have hrun:(execOp a.eval o).run E.P w=.ok (.enter g (vp++args.map a.eval++vq)) w:=by
          unfold callable at hcall
          split at hcall
          · rename_i fn hfn
            simp only[Bool.and_eq_true,bne_iff_ne,ne_eq]at hcall
            have hb:fn.body.isNone=false:=by have:=hcall.2;cases hfb:fn.body<;>simp_all
            simp only[execOp,hop,resolve,hfv,Deferred.ofValue,Sem.run_bind,Sem.run_pure,Result.andThen_ok,invoke,callFunc,run_program,hfn]
            have hname : (fn.name == "runtime.NumGoroutine") = false := by grind
            simp only[hname,hb,Bool.false_eq_true,if_false]
            rfl
          grind
        have key:=hac.go (fun b=>F b+AP b af a.tmps.toList) Γ w (vp++args.map a.eval++vq) (by
          have e2:(vp++args.map a.eval++vq).toList=vp.toList++(args.toList.map a.eval++vq.toList):=by simp
          rw[e2,←List.append_assoc]
          refine hs.aside ?_
          grind)
        unfold Oper.wp
        rw[hrun,Oper.upon_enter]
        refine key.mono ?_
        rintro e' w' ⟨v,rfl,Γ',r,st',x1,n1,s1,q1⟩
        exact hK Γ' _ st' (a.put o.dst v) w' (x1.less fun b=>by omega) n1 (by grind[put_defers]) (hs.back x1 s1 o.dst) q1
    grind
  · rename_i x y t0 t1 ts hop
    split at h
    · split at h
      · rename_i wd l cs rest jo hab
        obtain⟨i,hi,nx,w',a',Γ',hp⟩:=AXy hs hop hab
        unfold Oper.wp
        rw[hp.run]
        exact hp.upon _ _ (hK Γ' _ _ a' w' hp.ext hp.next (by rw[hp.defers];omega) hp.sim (h i hi))
      grind
    · split at h
      · rename_i af' st' hst
        obtain⟨nx,w',a',Γ',hp⟩:=Og hs hst
        unfold Oper.wp
        rw[hp.run]
        exact hp.upon _ _ (hK Γ' af' st' a' w' hp.ext hp.next (by rw[hp.defers];omega) hp.sim h)
      grind
  · rename_i op t x y _ hop
    split at h
    · rename_i hn
      obtain⟨rfl,rfl⟩:=ATU hn
      have hx:=hs.rd t x
      unfold AaQ at h
      split at h
      · rename_i xs ow ht hr
        rw[hr]at hx
        obtain⟨e,hu⟩: ∃e,E.P.underlying t=some (.slice e):=by
          grind[Ar]
        have main: ∀(p:Option Addr) (n k:Nat),a.eval x=.slice p n k→(p.isNone=true→xs=[])→o.wp E.P a w K' Qx:=by
          intro p n k hv hc
          have hrun:(execOp a.eval o).run E.P w=.ok (.value (.bool p.isNone)) w:=by
            simp only[execOp,hop]
            have hc:a.eval (.const (.slice none 0 0))=.slice none 0 0:=rfl
            simp[hv,hc,eqGuard,Xv hu]
          unfold Oper.wp
          rw[hrun]
          exact hK Γ _ st (a.put o.dst (.bool p.isNone)) w (Ext.refl _ _ _) (Nat.le_refl _) (by grind[put_defers]) (hs.putStrip o.dst (.bool _)) (h _ hc)
        generalize hv:a.eval x=v at hx
        cases hx with
        |snil w o a=>simp_all
        |slice=>grind
      grind
    · split at h
      · rename_i af' st' hst
        obtain⟨nx,w',a',Γ',hp⟩:=Og hs hst
        unfold Oper.wp
        rw[hp.run]
        exact hp.upon _ _ (hK Γ' af' st' a' w' hp.ext hp.next (by rw[hp.defers];omega) hp.sim h)
      grind
  · split at h
    · rename_i af' st' hst
      obtain⟨nx,w',a',Γ',hp⟩:=Og hs hst
      unfold Oper.wp
      rw[hp.run]
      exact hp.upon _ _ (hK Γ' af' st' a' w' hp.ext hp.next (by rw[hp.defers];omega) hp.sim h)
    grind
def gd (x:AVal) (want:Bool):Option Bool:=
  match x with
  |.bool b=>some (b==want)
  |.tuple []=>some false
  |_=>none
def gdA (ops:Array Oper) (af:List AVal) (j:Nat) (want:Bool):Option Bool:=
  match(ops[j]?).bind (·.dst)with
  |some d=>gd (af.getD d .any) want
  |none=>none
def JL (E:Env) (mv:List Tmp) (ops:Array Oper):List Oper→(List AVal→St→Prop)→List AVal→St→Prop
  |[],K,af,st=>K af st
  | o::rest,K,af,st=>
    match o.guard with
    |none=>CR E mv o af st (JL E mv ops rest K)
    | some (j,want)=>
      match gdA ops af j want with
      |some true=>CR E mv o af st (JL E mv ops rest K)
      |some false=>JL E mv ops rest K (AZ af o.dst (.tuple [])) st
      |none=>False
theorem QP (hs:Sim E F Γ st w af a.tmps.toList){ops:Array Oper}{j:Nat}{want t:Bool} (h:gdA ops af j want=some t):(yielded ops a.tmps j==some want)=t:=by
  unfold gdA at h
  split at h
  · rename_i d hd
    have hr:=hs.rep.get d undef
    unfold yielded
    rw[hd]
    simp only[Option.bind_some]
    unfold gd at h
    have hlt:d<a.tmps.size:=by
      rcases Nat.lt_or_ge d a.tmps.size with h'|h'
      · omega
      · have:af.length=a.tmps.size:=by rw[hs.rep.length,Array.length_toList]
        grind
    have e:a.tmps.toList.getD d undef=a.tmps[d]:=by grind
    rw[e]at hr
    rw[Array.getElem?_eq_getElem hlt]
    generalize a.tmps[d]=v at hr
    split at h
    · rename_i b hb
      rw[hb]at hr
      cases hr
      grind[Option.some.injEq]
    · rename_i hb
      rw[hb]at hr
      cases hr
      grind
    grind
  grind
theorem Lr{ops:Array Oper}{o:Oper}{tmps:Array Value}{j:Nat}{want:Bool} (hg:o.guard=some (j,want)):Region.wanted o (yielded ops tmps)=(yielded ops tmps j==some want):=by
  grind[Region.wanted]
theorem Sim.skipped (hs:Sim E F Γ st w af a.tmps.toList) (d:Option Tmp):Sim E F Γ st w (AZ af d (.tuple [])) (a.put d undef).tmps.toList:=
  hs.put d (r:=.tuple []) (v:=undef) (.tuple .nil) (by simp[VM.own,undef,ownL]) fun n=>by
    have:=hs.tok n
    grind[cnt,undef,AP]
theorem AN4{mv:List Tmp}{ops:Array Oper}{Qc:Exit→Act→World→Prop}: ∀(rest:List Oper) (i:Nat),ops.toList.drop i=rest→ ∀ {K:List AVal→St→Prop}{F:Nat→Nat}{Γ:Ghost}{st:St}{w:World}{af:List AVal}{a:Act},
    a.defers=[]→Sim E F Γ st w af a.tmps.toList→JL E mv ops rest K af st→
    (∀Γ' af' st' a' w',Ext F Γ w Γ' w'→st.next≤st'.next→a'.defers=[]→Sim E F Γ' st' w' af' a'.tmps.toList→K af' st'→Qc .normal a' w')→
    wpOps E.P ops Qc (List.range' i rest.length) a w:=by
  intro rest
  induction rest with
  |nil=>intro i hi K F Γ st w af a hd hs h hK;exact hK Γ af st a w (Ext.refl _ _ _) (Nat.le_refl _) hd hs h
  | cons o rest ih=>
    intro i hi K F Γ st w af a hd hs h hK
    have hoi:ops[i]?=some o:=by
      have:ops.toList[i]?=some o:=by
        have:=congrArg (·[0]?) hi
        grind
      grind
    have hi':ops.toList.drop (i+1)=rest:=by
      grind[List.tail_drop]
    rw[List.length_cons,List.range'_succ]
    simp only[wpOps,hoi]
    have go:CR E mv o af st (JL E mv ops rest K)→o.wp E.P a w (wpOps E.P ops Qc (List.range' (i+1) rest.length)) Qc:=fun h=>
      Q7 h F Γ w a hd hs _ _ fun Γ' af' st' a' w' x1 n1 d1 s1 k1=>
        ih (i+1) hi' d1 s1 k1 fun Γ2 af2 st2 a2 w2 x2 n2 d2 s2 k2=>hK Γ2 af2 st2 a2 w2 (x1.trans x2) (Nat.le_trans n1 n2) d2 s2 k2
    simp only[JL]at h
    split at h
    · simp_all[Region.wanted]
    · rename_i j want hg
      split at h
      · rename_i hgd
        rw[if_pos (by rw[Lr hg,QP hs hgd])]
        grind
      · rename_i hgd
        rw[if_neg (by rw[Lr hg,QP hs hgd];simp)]
        exact ih (i+1) hi' (by grind[put_defers]) (hs.skipped o.dst) h fun Γ2 af2 st2 a2 w2 x2 n2 d2 s2 k2=>hK Γ2 af2 st2 a2 w2 x2 n2 d2 s2 k2
      grind
theorem RA{Q:APost}{id:Nat}{ops:Array Oper} (mv:List Tmp) (h:JL E mv ops ops.toList (fun af st=>Q .normal af st) af st):AWp E (.region id ops false) Q af st:=by
  constructor
  intro F Γ w a hd hs
  refine wp_region ?_
  have key:=AN4 (Qc:=lift E F Γ w st.next Q) ops.toList 0 rfl hd hs h fun Γ' af' st' a' w' x1 n1 d1 s1 k1=>⟨trivial,d1,Γ',af',st',x1,n1,s1,k1⟩
  grind[Array.length_toList,List.range_eq_range']
theorem AKe{Q:APost}{c:Operand}{x y:Code} (b:Bool) (hb:rd E af 0 c=.bool b) (h:if b=true then AWp E x Q af st else AWp E y Q af st):AWp E (.cond c x y) Q af st:=by
  constructor
  intro F Γ w a hd hs
  have hr:=hs.rd 0 c
  rw[hb]at hr
  generalize hv:a.eval c=v at hr
  cases hr
  refine wp_cond hv ?_
  cases b
  · exact h.go F Γ w a hd hs
  · exact h.go F Γ w a hd hs
theorem AYQ{Q:APost}{c:Code}{m:List (Nat×List AVal)} (hm:m.Sublist st.m) (h:AWp E c Q af {st with m:=m}):AWp E c Q af st:=
  ⟨fun F Γ w a hd hs=>h.go F Γ w a hd (hs.fewer hm)⟩
def Si (E:Env) (t:TypeId) (addr:AVal) (st:St):Option (AVal×St):=
  match addr with
  | .ptr i 0=>
    match Ab st.m i with
    | some cs=>
      if Aa E.P t=true then
        if Al E.P t=true then(if Az E.P t=some cs.length then some (.agg cs,{st with m:=Ak st.m i (stripL cs)})else none)
        else match cs with
          |[c]=>some (c,{st with m:=Ak st.m i (stripL cs)})
          |_=>none
      else none
    |none=>none
  |_=>none
def Mq (E:Env):List ResultVar→List AVal→St→Option (List AVal×St)
  |[],af,st=>some ([],st)
  |.tmp t::rs,af,st=>(Mq E rs (stripAt af (.tmp t)) st).map fun p=>(af.getD t .any::p.1,p.2)
  | .cell i t::rs,af,st=>
    match Si E t (af.getD i .any) st with
    |some (r,st')=>(Mq E rs af st').map fun p=>(r::p.1,p.2)
    |none=>none
def He (E:Env) (fn:Func) (Q:AVal→St→Prop):APost:=fun e af st=>
  match e with
  | .normal|.ret=>
    match Mq E fn.results.toList af st with
    |some (rs,st')=> ∃m,m.Sublist st'.m∧Q (match rs with|[r]=>r|rs=>.tuple rs) {st' with m:=m}
    |none=>False
  |_=>False
end
end Go.VM
set_option linter.unusedVariables false
namespace Go.VM
section
variable{E:Env}{F:Nat→Nat}{Γ:Ghost}{st:St}{w:World}{af:List AVal}{a:Act}
theorem Wo (hs:Sim E F Γ st w af a.tmps.toList){t:TypeId}{x:AVal}{v:Value}{r:AVal}{st':St} (hx:Rep Γ x v) (h:Si E t x st=some (r,st')):
    ∃u,(do loadVar t (←asAddr v):Sem Value).run E.P w=.ok u w∧Rep Γ r u∧VM.own Γ w r u∧Sim E F Γ st' w af a.tmps.toList∧st'.next=st.next∧ ∀b,cnt b r u+Af Γ w b st'.m=Af Γ w b st.m:=by
  unfold Si at h
  split at h
  · rename_i i
    cases hx with
    |ptr hbx=>
    rename_i b
    split at h
    · rename_i cs hg
      split at h
      · rename_i hk
        obtain⟨b',arr,e,hb⟩:=hs.box hg hbx
        have:b'=b:=by have:=hb.bx;grind
        subst this
        obtain⟨lo,hi,hh,hf⟩:=hb.heap
        obtain⟨L,hL⟩: ∃L,L=arr.toList.take cs.length:=⟨_,rfl⟩
        have hrepL:RepL Γ cs L:=by rw[hL];exact hb.rep
        have hone: ∀v,v∈L→v.oneCell'=true:=by rw[hL];exact hb.one
        have hownL:VM.ownL Γ w cs L:=by rw[hL];exact(Jq Γ w cs arr.toList).2 hb.own
        have hcntL: ∀n,AP n cs L=AP n cs arr.toList:=fun n=>by grind[Jr]
        obtain⟨s1,x1⟩:=hs.setBox (w':=w) (cs':=stripL cs) (arr':=arr) (lo:=lo) (hi:=hi) hg hb hh hf (fun _ _=>rfl) rfl rfl rfl rfl (by rw[JW];exact hb.rep.strip) (G9 _ _ _ _) (by grind[JW])
          (fun n=>by rw[Es];have:=hs.tok n;omega)
        have hcnt: ∀n,AP n cs arr.toList+Af Γ w n (Ak st.m i (stripL cs))=Af Γ w n st.m:=by
          intro n
          have e1:=FE (Γ:=Γ) (Γ':=Γ) (w:=w) (w':=w) (b:=n) (x:=stripL cs) hs.keys hg (fun p hp hne=>rfl)
          grind[CO,AP,hcells,stripL,Es]
        have hcell: ∀j u,L[j]?=some u→w.cell? ⟨b',0+j,none⟩=some u:=by
          intro j u hj
          rw[hL]at hj
          have hj:=List.getElem?_take_some hj
          simp_all[World.cell?]
        have ha:=Mg (w:=w) hk
        split at h
        · rename_i hag
          rw[hag]at ha
          split at h
          · rename_i hz
            simp only[Option.some.injEq,Prod.mk.injEq]at h;obtain⟨rfl,rfl⟩:=h
            have key:=run_loadCells_list (P:=E.P) w ⟨b',0,none⟩ L (fun j v hj=>by grind[addr_add])
            rw[←hrepL.length]at key
            refine⟨.agg L.toArray,?_,.agg (by omega) (by omega),by grind[VM.own],s1,rfl,fun n=>by grind[cnt]⟩
            simp[asAddr,loadVar,ha,CV hz,key]
          grind
        · rename_i hag
          rw[Bool.not_eq_true]at hag
          rw[hag]at ha
          split at h
          · rename_i c
            simp only[Option.some.injEq,Prod.mk.injEq]at h;obtain⟨rfl,rfl⟩:=h
            obtain⟨u,hu,hrep⟩:=hrepL.get? (i:=0) (x:=c) rfl
            have h1:L=[u]:=by
              have:L.length=1:=by grind
              clear hL hcell
              match L,this,hu with
              |[x],_,hu=>grind
            refine⟨u,?_,hrep,?_,s1,rfl,fun n=>?_⟩
            · simp_all[asAddr,loadVar]
            · grind[VM.ownL]
            grind[AP]
          grind
      grind
    grind
  grind
theorem ANu{m m':List (Nat×List AVal)} (h:m.Sublist m') (n:Nat):Af Γ w n m≤Af Γ w n m':=by
  induction h with
  |slnil=>omega
  |cons p _ ih=>grind[Af]
  |cons_cons p _ ih=>grind[Af]
def AGR (tmps:Array Value) (r:ResultVar):Sem Value:=
  match r with
  |.tmp t=>pure (tmps.getD t undef)
  |.cell i t=>do loadVar t (←asAddr (tmps.getD i undef))
theorem AQQ (rs:List ResultVar): ∀ {af:List AVal}{st:St}{xs:List AVal}{st':St},Sim E F Γ st w af a.tmps.toList→Mq E rs af st=some (xs,st')→
    ∃vs,(rs.mapM (AGR a.tmps)).run E.P w=.ok vs w∧RepL Γ xs vs∧ownL Γ w xs vs∧st'.next=st.next∧
      ∃af',Sim E F Γ st' w af' a.tmps.toList∧ ∀b,AP b af' a.tmps.toList+AP b xs vs+Af Γ w b st'.m=AP b af a.tmps.toList+Af Γ w b st.m:=by
  induction rs with
  | nil=>
    intro af st xs st' hs h
    simp only[Mq,Option.some.injEq,Prod.mk.injEq]at h;obtain⟨rfl,rfl⟩:=h
    exact⟨[],by simp,.nil,by simp[ownL],rfl,af,hs,fun b=>by simp[AP]⟩
  | cons x rs ih=>
    intro af st xs st' hs h
    cases x with
    | tmp t=>
      simp only[Mq]at h
      cases hr:Mq E rs (stripAt af (.tmp t)) st with
      |none=>grind
      | some p=>
        simp only[hr,Option.map_some,Option.some.injEq,Prod.mk.injEq]at h;obtain⟨rfl,rfl⟩:=h
        obtain⟨vs,r1,r2,r3,r4,af',r5,r6⟩:=ih (hs.stripAt (.tmp t)) hr
        refine⟨a.tmps.getD t undef::vs,?_,.cons (hs.rd 0 (.tmp t)) r2,?_,r4,af',r5,fun b=>?_⟩
        · rw[List.mapM_cons,Sem.run_bind];simp only[AGR,Sem.run_pure,Result.andThen_ok];rw[Sem.run_bind,r1];rfl
        · rw[ownL];exact⟨hs.rd_own 0 (.tmp t),r3⟩
        · have:=r6 b
          have:=hs.rd_cnt 0 (.tmp t) b
          grind[rd,Act.eval,AP]
    | cell i t=>
      simp only[Mq]at h
      split at h
      · rename_i r st1 hc
        cases hr:Mq E rs af st1 with
        |none=>grind
        | some p=>
          simp only[hr,Option.map_some,Option.some.injEq,Prod.mk.injEq]at h;obtain⟨rfl,rfl⟩:=h
          obtain⟨u,c1,c2,c3,c4,c5,c6⟩:=Wo hs (hs.rd 0 (.tmp i)) hc
          obtain⟨vs,r1,r2,r3,r4,af',r5,r6⟩:=ih c4 hr
          refine⟨u::vs,?_,.cons c2 r2,by grind[ownL],by omega,af',r5,fun b=>?_⟩
          · rw[List.mapM_cons,Sem.run_bind]
            simp_all[Act.eval,AGR]
          grind[AP]
      grind
theorem Ja {f:FuncId}{fn:Func}{c:Code}{args:List AVal}{Q:AVal→St→Prop} (hf:E.P.funcs[f]?=some fn) (hb:fn.body=some c)
    (h:AWp E c (He E fn Q) (args++List.replicate (fn.ntmps-args.length) .any) st):ACall E f args st Q:=by
  constructor
  intro F Γ w cargs hs
  have hlen:args.length=cargs.size:=by rw[hs.rep.length,Array.length_toList]
  have hrepl: ∀n,RepL Γ (List.replicate n .any) (List.replicate n undef)∧ownL Γ w (List.replicate n .any) (List.replicate n undef)∧ ∀b,AP b (List.replicate n .any) (List.replicate n undef)=0:=by
    intro n
    induction n with
    |zero=>exact⟨.nil,by simp[ownL],fun b=>by simp[AP]⟩
    |succ n ih=>exact⟨.cons (.any _) ih.1,by grind[ownL,VM.own],fun b=>by grind[AP,cnt]⟩
  have happ: ∀(xs:List AVal) (vs:List Value),xs.length=vs.length→ownL Γ w xs vs→ ∀n,ownL Γ w (xs++List.replicate n .any) (vs++List.replicate n undef)∧ ∀b,AP b (xs++List.replicate n .any) (vs++List.replicate n undef)=AP b xs vs:=by
    intro xs
    induction xs with
    |nil=>grind[AP]
    | cons x xs ih=>intro vs hl ho n;cases vs with
      |nil=>grind
      | cons v vs=>
        grind[ownL,AP]
  have htm:(cargs++Array.replicate (fn.ntmps-cargs.size) undef).toList=cargs.toList++List.replicate (fn.ntmps-args.length) undef:=by
    grind[Array.toList_append,Array.toList_replicate]
  refine calls_of_wp hf hb (wp_mono (h.go F Γ w {tmps:=cargs++Array.replicate (fn.ntmps-cargs.size) undef,defers:=[]} rfl ?_) ?_)
  · simp only
    rw[htm]
    obtain⟨o1,o2⟩:=happ args cargs.toList hs.rep.length hs.own (fn.ntmps-args.length)
    exact {hs with rep:=hs.rep.append (hrepl _).1,own:=o1,tok:=fun b=>by rw[o2 b];exact hs.tok b}
  · intro e a' w' hq
    obtain⟨h0,hd,Γ',af',st',x1,n1,s1,q1⟩:=hq
    have fin:(match Mq E fn.results.toList af' st' with
        |some (rs,st')=> ∃m,m.Sublist st'.m∧Q (match rs with|[r]=>r|rs=>.tuple rs) {st' with m:=m}
        |none=>False)→ ∃v,(results fn a'.tmps).run E.P w'=.ok v w'∧ ∃v1,Ending.returned v=.returned v1∧ ∃Γ' r st',Ext F Γ w Γ' w'∧st.next≤st'.next∧Sim E F Γ' st' w' [r] [v1]∧Q r st':=by
      intro q
      split at q
      · rename_i rs st2 hres
        obtain⟨m,hm,hQ⟩:=q
        obtain⟨vs,r1,r2,r3,r4,af2,r5,r6⟩:=AQQ fn.results.toList s1 hres
        have hrun:(results fn a'.tmps).run E.P w'=.ok (if h:vs.toArray.size=1 then vs.toArray[0]else .tuple vs.toArray) w':=by
          have e:results fn a'.tmps=(do
            let vs←fn.results.mapM (AGR a'.tmps)
            pure (if h:vs.size=1 then vs[0]else .tuple vs)):=rfl
          rw[e,Array.mapM_eq_mapM_toList,Sem.run_bind,Sem.run_map,r1]
          rfl
        refine⟨_,hrun,_,rfl,Γ',_,{st2 with m:=m},x1,by grind,?_,hQ⟩
        have s2:=r5.fewer hm
        have hcm: ∀n,Af Γ' w' n m≤Af Γ' w' n st2.m:=fun n=>ANu hm n
        have htok: ∀b,F b+AP b rs vs+Af Γ' w' b m≤1:=by
          intro b
          have:=r6 b
          have:=s1.tok b
          grind
        cases r2 with
        | nil=>
          simp only[List.size_toArray,List.length_nil]
          exact {s2 with rep:=.cons (.tuple .nil) .nil,own:=by simp[ownL,VM.own],tok:=fun b=>by grind[AP,cnt]}
        | cons hr t=>
          cases t with
          | nil=>
            simp only[List.size_toArray,List.length_cons,List.length_nil,Nat.zero_add,dite_true]
            exact {s2 with rep:=.cons hr .nil,own:=r3,tok:=htok}
          | cons hy t=>
            rename_i x v y u xs us
            have hne: ¬((v::u::us:List Value).toArray.size=1):=by simp
            rw[dif_neg hne]
            have hrp:RepL Γ' (x::y::xs) (v::u::us):=.cons hr (.cons hy t)
            exact {s2 with rep:=.cons (.tuple (by omega)) .nil,own:=by grind[ownL,VM.own],tok:=fun b=>by grind[AP,cnt]}
      grind
    cases e with
    |normal=>obtain⟨v,hr,hR⟩:=fin q1;exact⟨hd,v,hr,hR⟩
    |ret=>obtain⟨v,hr,hR⟩:=fin q1;exact⟨hd,v,hr,hR⟩
    |exit id=>exact q1.elim
    |goto l=>grind
    |panic c=>grind
    |outgrown=>grind
end
end Go.VM
set_option linter.unusedVariables false
namespace Go.VM
section
variable{E:Env}{st:St}{af:List AVal}{Q:APost}
inductive kPost (K:List AVal→St→Prop) (Q:APost):APost
  |nrm{af:List AVal}{st:St} (h:K af st):kPost K Q .normal af st
  |oth{e:Exit}{af:List AVal}{st:St} (hne:e≠ .normal) (h:Q e af st):kPost K Q e af st
theorem kPost.get{K:List AVal→St→Prop} (h:kPost K Q .normal af st):K af st:=by
  cases h with
  |nrm h=>exact h
  |oth hne h=>grind
theorem kPost.out{K:List AVal→St→Prop}{e:Exit} (h:kPost K Q e af st) (hne:e≠ .normal):Q e af st:=by
  cases h with
  |nrm h=>grind
  |oth hne h=>exact h
theorem KZ{K:List AVal→St→Prop} (h:K af st):kPost K Q .normal af st:=.nrm h
end
end Go.VM
set_option linter.unusedVariables false
namespace Go.VM
def slots (o:Oper):List Tmp:=o.op.operands.toList.filterMap fun|.tmp t=>some t|_=>none
theorem NJ{o:Oper}{d:Tmp} (h:d∉slots o){x:Operand} (hx:x∈o.op.operands):x≠ .tmp d:=by
  intro e;subst e
  exact h (List.mem_filterMap.2 ⟨.tmp d,by grind,rfl⟩)
section
variable{E:Env}{af:List AVal}{st:St}{d:Tmp}{v:AVal}
theorem A8{t:TypeId}{x:Operand} (h:x≠ .tmp d):rd E (af.set d v) t x=rd E af t x:=by
  cases x with
  | tmp i=>
    grind[rd,List.getD]
  |_=>rfl
theorem Fp{x:Operand} (h:x≠ .tmp d):stripAt (af.set d v) x=(stripAt af x).set d v:=by
  cases x with
  | tmp i=>
    grind[stripAt,List.set_comm,List.getD,List.getElem?_set_ne]
  |_=>rfl
theorem Aq{dst:Option Tmp} (h:dst≠some d) (r:AVal):AZ (af.set d v) dst r=(AZ af dst r).set d v:=by
  cases dst with
  |none=>rfl
  | some e=>
    grind[AZ,List.set_comm]
theorem VC{x:Option Operand} (h: ∀y,x=some y→y≠ .tmp d):rdo E (af.set d v) x=rdo E af x:=by
  cases x with
  |none=>rfl
  |some y=>simp only[rdo,A8 (h y rfl)]
theorem ADX: ∀(xs:List Operand) (ts:List TypeId),(∀x,x∈xs→x≠ .tmp d)→rdL E (af.set d v) xs ts=rdL E af xs ts
  |[],_,_=>rfl
  |x::xs,[],h=>by simp only[rdL,A8 (h x (by simp)),ADX xs [] (fun y hy=>h y (List.mem_cons_of_mem _ hy))]
  |x::xs,t::ts,h=>by simp only[rdL,A8 (h x (by simp)),ADX xs ts (fun y hy=>h y (List.mem_cons_of_mem _ hy))]
theorem M4{ty:Nat→TypeId}: ∀(ps:List (Nat×Operand)){af:List AVal},(∀p,p∈ps→p.2≠ .tmp d)→(BC E ty (af.set d v) ps).1=(BC E ty af ps).1.set d v∧(BC E ty (af.set d v) ps).2=(BC E ty af ps).2
  |[],_,_=>⟨rfl,rfl⟩
  | (i,x)::ps,af,h=>by
    have hx:=h (i,x) (by simp)
    obtain⟨h1,h2⟩:=M4 ps (af:=stripAt af x) (fun p hp=>h p (List.mem_cons_of_mem _ hp))
    simp only[BC,Fp hx,A8 hx]
    exact⟨h1,by rw[h2]⟩
theorem Ir{o:Oper} (h:d∉slots o):Ck E o (af.set d v)=Ck E o af:=by
  have hx:=fun x=>NJ h (x:=x)
  unfold Ck
  split
  · grind[Op.operands,A8]
  · grind[Op.operands,A8]
  · grind[Op.operands,A8]
  · grind[Op.operands,A8]
  · grind[Op.operands,A8]
  · grind[Op.operands,rd,List.map_congr_left,A8]
  · grind[Op.operands,A8]
  · grind[Op.operands,A8]
  · grind[Op.operands,A8]
  · grind[Op.operands,A8]
  · grind[Op.operands,Call.operands,A8]
  · rename_i x y ts hop
    simp only[hop,Op.operands,Call.operands]at hx
    grind[A8]
  · rename_i x y ts hop
    simp only[hop,Op.operands,Call.operands]at hx
    grind[A8]
  · grind[Op.operands,Call.operands,A8]
  · rename_i x y t s hop
    simp only[hop,Op.operands,Call.operands]at hx
    grind[A8]
  · rfl
theorem AUN{x:Operand} (h:x≠ .tmp d):nameV (af.set d v) x=nameV af x:=by
  cases x with
  | tmp i=>
    have:d≠i:=fun e=>h (by rw[e])
    simp[nameV,List.getD,List.getElem?_set_ne this]
  |_=>rfl
theorem AaE{b:Bool}{x:Operand} (h:x≠ .tmp d):Xd b (af.set d v) x st=Xd b af x st:=by
  cases b<;>cases x<;>try rfl
  rename_i j
  have:j≠d:=fun e=>h (by rw[e])
  simp[Xd,List.getD,List.getElem?_set_ne (Ne.symm this)]
theorem Aep{b:Bool}{x:Operand}{j i w:Nat}{xs:List AVal} (h:Xd b af x st=some (j,i,w,xs)):x=.tmp j:=by
  unfold Xd at h
  split at h
  · obtain⟨p,_,e⟩:=Option.map_eq_some_iff.1 h;cases e;rfl
  · cases h
theorem AWE{x:Operand}{i w:Nat}{xs:List AVal} (h:nameV af x=some (i,w,xs)):x=.tmp i:=by
  unfold nameV at h
  split at h
  · split at h
    · cases h;rfl
    · cases h
  · cases h
theorem AYV{x:Operand}{t:TypeId} (h:x≠ .tmp d):UG E (af.set d v) x t st=UG E af x t st:=by
  cases x with
  |tmp i=>simp only[UG,A8 h]
  |_=>rfl
theorem Qw{mv:List Tmp}{o:Oper} (h:d∉slots o) (hd:o.dst≠some d):Cy E mv o (af.set d v) st=(Cy E mv o af st).map fun p=>(p.1.set d v,p.2):=by
  have hx:=fun x=>NJ h (x:=x)
  unfold Cy
  split
  · rename_i x hop
    simp only[hop,Op.operands]at hx
    split
    · rw [AUN (hx x (by simp))]
      cases hn:nameV af x with
      | none=>
        rw[AaE (hx x (by simp))]
        cases hf:Xd (XP mv o.dst) af x st with
        |none=>simp[A8 (hx x (by simp)),Fp (hx x (by simp)),Aq hd]
        | some p=>
          obtain⟨j,i,w,xs⟩:=p
          have hi:j≠d:=fun e=>hx x (by simp) (by rw[Aep hf,e])
          simp only[Option.map_some]
          rw[List.set_comm _ _ (Ne.symm hi)]
          simp[Aq hd]
      | some p=>
        obtain⟨i,w,xs⟩:=p
        have hi:i≠d:=fun e=>hx x (by simp) (by rw[AWE hn,e])
        simp only[Option.map_some]
        rw[List.set_comm _ _ (Ne.symm hi)]
        simp[Aq hd]
    · simp[A8 (hx x (by simp)),Aq hd]
  · rename_i x hop
    simp only[hop,Op.operands]at hx
    split
    · rw[AYV (hx x (by simp))]
      cases VX E o with
      |some w=>simp[Aq hd]
      |none=>cases UG E af x o.type st<;>simp[A8 (hx x (by simp)),Fp (hx x (by simp)),Aq hd]
    · simp[A8 (hx x (by simp)),Fp (hx x (by simp)),Aq hd]
  · rename_i t hop
    split
    · cases RD E.P t st.next<;>simp[Aq hd]
    · cases BU E.P t st.next<;>simp[Aq hd]
  · rename_i t x hop
    simp only[hop,Op.operands]at hx
    rw[A8 (hx x (by simp)),Fp (hx x (by simp))]
    split<;>simp[Aq hd]
  · rename_i t ps hop
    simp only[hop,Op.operands]at hx
    obtain⟨h1,h2⟩:=M4 (E:=E) (v:=v) (ty:=AC E.P t) ps (af:=af) (fun p hp=>hx p.2 (by grind))
    rw[h1,h2]
    cases Pw E t (BC E (AC E.P t) af ps).2<;>simp[Aq hd]
  · rename_i t len ps hop
    simp only[hop,Op.operands]at hx
    obtain⟨h1,h2⟩:=M4 (E:=E) (v:=v) (ty:=fun _=>AC E.P t 0) ps (af:=af) (fun p hp=>hx p.2 (by grind))
    rw[h2,h1]
    split
    · cases Fy E t len (BC E (fun _=>AC E.P t 0) af ps).2<;>simp[Aq hd]
    · cases EZ E t len (BC E (fun _=>AC E.P t 0) af ps).2<;>simp[Aq hd]
  · rename_i t x hop
    simp only[hop,Op.operands]at hx
    rw[A8 (hx x (by simp))]
    split
    · cases Nb E t (rd E af 0 x) st<;>simp[Aq hd]
    · cases Nq E t (rd E af 0 x) st<;>simp[Aq hd]
  · rename_i t x y hop
    simp only[hop,Op.operands]at hx
    rw[A8 (hx x (by simp)),A8 (hx y (by simp)),Fp (hx y (by simp))]
    split
    · cases Kn E t (rd E af 0 x) (rd E af t y) st<;>simp
    · simp
  · rename_i t n hop
    simp only[hop,Op.operands]at hx
    have ht:d≠t:=fun e=>hx (.tmp t) (by simp) (by rw[e])
    have hg:(af.set d v).getD t .any=af.getD t .any:=by grind
    rw[hg]
    split
    · rename_i vs hvs
      cases vs[n]? with
      |none=>simp
      |some r=>grind[List.set_comm,Aq]
    · simp
  · rename_i t x hop
    simp only[hop,Op.operands]at hx
    rw[A8 (hx x (by simp))]
    split<;>grind[Aq]
  · grind[Op.operands,List.getD,List.getElem?_set_ne,Yh,List.set_comm,Aq]
  · rename_i t x lo hi mx hop
    simp only[hop,Op.operands]at hx
    rw[A8 (hx x (by simp)),VC (fun y hy=>hx y (by grind)),VC (fun y hy=>hx y (by grind)),VC (fun y hy=>hx y (by grind))]
    split
    · rename_i l hh m h1 h2 h3
      cases Dw E t (rd E af t x) l hh m with
      |some r=>simp[Aq hd]
      |none=>cases Ni E t (rd E af t x) l hh m st<;>simp[Aq hd]
    · simp
  · rename_i x y t0 t1 ts hop
    simp only[hop,Op.operands,Call.operands]at hx
    rw[A8 (hx x (by simp)),A8 (hx y (by simp)),Fp (hx x (by simp))]
    split
    · cases Lm E t0 t1 (rd E af t0 x) (rd E af t1 y)with
      |some r=>simp[Aq hd]
      |none=>cases appW E x t0 t1 (rd E af t0 x) (rd E af t1 y) st<;>simp[Aq hd]
    · cases Fx E t0 t1 (rd E af t0 x) (rd E af t1 y)with
      |some r=>simp[Aq hd]
      |none=>cases U9 E t0 t1 (rd E af t0 x) (rd E af t1 y) st<;>simp[Aq hd]
  · rename_i x t0 ts hop
    simp only[hop,Op.operands,Call.operands]at hx
    rw[Ir h]
    cases Ck E o af with
    |some r=>simp[Aq hd]
    | none=>
      rw[A8 (hx x (by simp))]
      cases V3 E t0 (rd E af t0 x) st<;>simp[Aq hd]
  · grind[Aq]
  · rename_i t m k ok hop
    simp only[hop,Op.operands]at hx
    rw[A8 (hx m (by simp)),A8 (hx k (by simp))]
    cases PE E t (rd E af t m) (rd E af 0 k) ok st<;>simp[Aq hd]
  · rename_i t m k x hop
    simp only[hop,Op.operands]at hx
    rw[A8 (hx m (by simp)),A8 (hx k (by simp)),A8 (hx x (by simp))]
    split
    · cases QX E t (rd E af t m) (rd E af 0 k) (rd E af 0 x) st<;>simp
    · simp
  · rename_i t m k x hop
    simp only[hop,Op.operands]at hx
    rw[A8 (hx m (by simp)),A8 (hx k (by simp)),A8 (hx x (by simp))]
    split
    · cases QX E t (rd E af t m) (rd E af 0 k) (rd E af 0 x) st<;>simp
    · simp
  · rename_i t x i hop
    simp only[hop,Op.operands]at hx
    rw[Ir h]
    cases Ck E o af with
    |some r=>grind[Aq]
    | none=>
      rw[A8 (hx x (by simp)),A8 (hx i (by simp))]
      cases EL E t (rd E af t x) (rd E af 0 i) st with
      |some r=>simp[Aq hd]
      |none=>cases Mk E t (rd E af t x) (rd E af 0 i) st<;>simp[Aq hd]
  · rename_i t x y hop
    simp only[hop,Op.operands]at hx
    rw[A8 (hx x (by simp)),A8 (hx y (by simp))]
    split
    · cases SH E t (rd E af 0 x) (rd E af 0 y) st<;>simp[Aq hd]
    · cases SA E t (rd E af 0 x) (rd E af 0 y) st<;>simp[Aq hd]
  · rename_i s e x hop
    simp only[hop,Op.operands]at hx
    rw[Ir h]
    cases Ck E o af with
    |some r=>grind[Aq]
    | none=>
      rw[A8 (hx x (by simp))]
      cases QA E s e (rd E af s x) st with
      |some r=>grind[Aq]
      |none=>cases Np E s e (rd E af s x) st<;>simp[Aq hd]
  · rename_i x t0 ts hop
    simp only[hop,Op.operands,Call.operands]at hx
    rw[A8 (hx x (by simp)),Fp (hx x (by simp))]
    cases P7 (rd E af t0 x)<;>simp[Aq hd]
  · rename_i x y t0 t1 hop
    simp only[hop,Op.operands,Call.operands]at hx
    rw[A8 (hx x (by simp)),A8 (hx y (by simp)),Fp (hx x (by simp))]
    cases SS E t0 (rd E af t0 x) (rd E af t1 y)<;>simp[Aq hd]
  · rw[Ir h]
    cases Ck E o af<;>simp[Aq hd]
theorem AK7{mv:List Tmp}{o:Oper}{K:List AVal→St→Prop} (h:d∉slots o) (hd:o.dst≠some d) (hw:CR E mv o (af.set d v) st K):CR E mv o af st fun af' st'=>K (af'.set d v) st':=by
  have hx:=fun x=>NJ h (x:=x)
  unfold CR at *
  split at hw
  · grind[Op.operands,Call.operands,A8,ADX,Aq]
  · rename_i x y t0 t1 ts hop
    simp only[hop,Op.operands,Call.operands]at hx
    rw[A8 (hx x (by simp)),A8 (hx y (by simp)),Qw h hd]at hw
    split at hw
    · split at hw
      · rename_i wd l cs rest jo hab
        rw[if_pos (by omega)]
        grind[Aq]
      grind
    · rw[if_neg (by omega)]
      grind
  · rename_i op t x y _ hop
    simp only[hop,Op.operands]at hx
    rw[Qw h hd,A8 (hx x (by simp))]at hw
    split at hw
    · rename_i hn
      rw[if_pos hn]
      grind[Aq]
    · rename_i hn
      rw[if_neg hn]
      grind
  grind[Qw,Cy]
end
def DN (E:Env) (o:Oper) (af:List AVal) (st:St):Option AVal:=
  match o.op with
  |.move x=>some (rd E af o.type x).strip
  |.load t x=>(Nq E t (rd E af 0 x) st).map AVal.strip
  | .slice t x lo hi mx=>
    match rdo E af lo,rdo E af hi,rdo E af mx with
    |some l,some h,some m=>Dw E t (rd E af t x) l h m
    |_,_,_=>none
  |.buildSlice t len ⟨ps⟩=>EZ E t len (BC E (fun _=>AC E.P t 0) af ps).2
  |.assign _=>none
  |.alloc _=>none
  |.box _ _=>none
  |.build _ _=>none
  |.store _ _ _=>none
  |.extract _ _=>none
  |.range _ _=>none
  |.next _ _=>none
  |.call {callee:=.builtin .append,args:=_,argTypes:=_}=>none
  | .indexAddr t x i=>
    match Ck E o af with
    |some r=>some r.strip
    | none=>
      match EL E t (rd E af t x) (rd E af 0 i) st with
      |some _=>none
      |none=>Mk E t (rd E af t x) (rd E af 0 i) st
  | .call {callee:=.builtin .len,args:=⟨[x]⟩,argTypes:=⟨t::_⟩}=>
    match Ck E o af with
    |some r=>some r.strip
    |none=>V3 E t (rd E af t x) st
  |_=>(Ck E o af).map AVal.strip
theorem AOX{E:Env}{o:Oper}{af:List AVal}{st:St}{r:AVal} (h:DN E o af st=some r):Cy E [] o af st=some (AZ af o.dst r,st):=by
  have hm: ∀dst,Ld [] dst=false:=fun dst=>by cases dst<;>rfl
  unfold DN at h
  unfold Cy
  split at h
  · grind
  · rename_i t x hop
    simp only[hop,hm,Bool.false_eq_true,if_false]
    cases hl:Nq E t (rd E af 0 x) st with
    |none=>grind
    |some z=>grind
  · grind
  · grind
  all_goals (try (cases h;done))
  · rename_i t x i hop
    simp only[hop]
    split at h
    · rename_i z hz
      cases h
      simp only[hz]
    · rename_i hz
      split at h
      · cases h
      · rename_i hz2
        simp only[hz,hz2,h,Option.map_some]
  · rename_i x t ts hop
    simp only[hop]
    split at h
    · rename_i z hz
      cases h
      simp only[hz]
    · rename_i hz
      simp only[hz,h,Option.map_some]
  · split
    all_goals first
      |grind
      |grind[Ck]
      | (cases hp:Ck E o af with
         |none=>grind
         |some z=>grind)
theorem APz{E:Env}{o:Oper}{af:List AVal}{st:St}{d:Tmp}{v:AVal} (h:d∉slots o):DN E o (af.set d v) st=DN E o af st:=by
  have hx:=fun x=>NJ h (x:=x)
  unfold DN
  split
  · grind[Op.operands,A8]
  · grind[Op.operands,A8]
  · grind[Op.operands,A8,VC]
  · grind[Op.operands,M4,AC]
  all_goals (try (first|rfl|(rw[Ir h];done)))
  · rename_i t x i hop
    simp only[hop,Op.operands]at hx
    rw[Ir h,A8 (hx x (by simp)),A8 (hx i (by simp))]
  · rename_i x t ts hop
    simp only[hop,Op.operands,Call.operands]at hx
    rw[Ir h,A8 (hx x (by simp))]
def KI (E:Env) (ops:Array Oper) (o:Oper) (af:List AVal) (st:St):Option AVal:=
  match o.guard with
  |none=>DN E o af st
  | some (j,want)=>
    match gdA ops af j want with
    |some true=>DN E o af st
    |some false=>some (.tuple [])
    |none=>none
def gWp (E:Env) (mv:List Tmp) (ops:Array Oper) (o:Oper) (af:List AVal) (st:St) (K:List AVal→St→Prop):Prop:=
  match o.guard with
  |none=>CR E mv o af st K
  | some (j,want)=>
    match gdA ops af j want with
    |some true=>CR E mv o af st K
    |some false=>K (AZ af o.dst (.tuple [])) st
    |none=>False
theorem QB{ops:Array Oper}{o:Oper}{d:Tmp} (h:d∉o.looksAt ops):d∉slots o:=fun hm=>h (List.mem_append_left _ hm)
theorem guard_looks{ops:Array Oper}{o:Oper}{d g j:Nat}{want:Bool} (h:d∉o.looksAt ops) (hg:o.guard=some (j,want)) (hd:(ops[j]?).bind (·.dst)=some g):d≠g:=fun e=>by
  subst e
  exact h (List.mem_append_right _ (by grind))
theorem ATo{ops:Array Oper}{o:Oper}{af:List AVal}{d j:Nat}{want:Bool}{v:AVal} (h:d∉o.looksAt ops) (hg:o.guard=some (j,want)):gdA ops (af.set d v) j want=gdA ops af j want:=by
  grind[gdA,guard_looks,List.getD,List.getElem?_set_ne]
theorem TU{E:Env}{ops:Array Oper}{o:Oper}{af:List AVal}{st:St}{d:Tmp}{v:AVal} (h:d∉o.looksAt ops):KI E ops o (af.set d v) st=KI E ops o af st:=by
  grind[KI,APz,QB,ATo]
theorem AiP{E:Env}{mv:List Tmp}{ops:Array Oper}{o:Oper}{af:List AVal}{st:St}{d:Tmp}{v:AVal}{K:List AVal→St→Prop} (h:d∉o.looksAt ops) (hd:o.dst≠some d) (hw:gWp E mv ops o (af.set d v) st K):
    gWp E mv ops o af st fun af' st'=>K (af'.set d v) st':=by
  unfold gWp at *
  split at hw
  · exact AK7 (QB h) hd hw
  · rename_i j want hg
    rw[ATo h hg]at hw
    split at hw
    · exact AK7 (QB h) hd hw
    · grind[Aq]
    omega
section
variable{E:Env}{F:Nat→Nat}{Γ:Ghost}{st:St}{w:World}{af:List AVal}{a:Act}
theorem YZ{mv:List Tmp}{ops:Array Oper}{i:Nat}{o:Oper} (ho:ops[i]?=some o){K:List AVal→St→Prop}{K':Act→World→Prop}{Qc:Exit→Act→World→Prop} (hd:a.defers=[]) (hs:Sim E F Γ st w af a.tmps.toList) (h:gWp E mv ops o af st K)
    (hK: ∀Γ' af' st' a' w',Ext F Γ w Γ' w'→st.next≤st'.next→a'.defers=[]→Sim E F Γ' st' w' af' a'.tmps.toList→K af' st'→K' a' w'):wpOp E.P ops Qc i K' a w:=by
  unfold wpOp
  simp only[ho]
  unfold gWp at h
  split at h
  · rename_i hg
    rw[if_pos (by grind[Region.wanted])]
    exact .inl (Q7 h F Γ w a hd hs K' Qc hK)
  · rename_i j want hg
    split at h
    · rename_i hgd
      rw[if_pos (by rw[Lr hg,QP hs hgd])]
      exact .inl (Q7 h F Γ w a hd hs K' Qc hK)
    · rename_i hgd
      rw[if_neg (by rw[Lr hg,QP hs hgd];simp)]
      exact hK Γ _ st _ w (Ext.refl _ _ _) (Nat.le_refl _) (by grind[put_defers]) (hs.skipped o.dst) h
    grind
theorem AeH{E:Env}{t:TypeId}{w:Nat}{x:AVal}:Dh E .eql t x (.slice w [] true)=none:=by
  cases x<;>simp[Dh,NS,Yn]
theorem AWl{mv:List Tmp}{ops:Array Oper}{o:Oper}{r:AVal} (h:KI E ops o af st=some r):gWp E [] ops o af st fun af' st'=>af'=AZ af o.dst r∧st'=st:=by
  have key: ∀r,DN E o af st=some r→CR E [] o af st fun af' st'=>af'=AZ af o.dst r∧st'=st:=by
    intro r hr
    have hst:=AOX hr
    unfold CR
    split
    · grind[DN,Ck]
    · grind[DN]
    · rename_i op t x y _ hop
      split
      · rename_i hn
        obtain⟨rfl,rfl⟩:=ATU hn
        grind[DN,Ck,rd,HZ,AeH]
      simp_all
    simp_all
  unfold KI at h
  unfold gWp
  split at h
  · grind
  · split at h
    · exact key r h
    · simp only[Option.some.injEq]at h;subst h;exact⟨rfl,rfl⟩
    · cases h
end
end Go.VM
set_option linter.unusedVariables false
namespace Go.VM
inductive Plan where
  |done
  |take (i:Nat) (p:Plan)
  |alt (i:Nat) (chk:List Nat) (p rest:Plan)
  |stop
def Plan.alts:Plan→List Nat
  |.alt i _ _ rest=>i::rest.alts
  |_=>[]
def Plan.sub (j:Nat):Plan→Option (List Nat×Plan)
  |.alt i chk p rest=>if i=j then some (chk,p)else rest.sub j
  |_=>none
def AmO (o:Oper) (k:Nat):Bool:=o.after.any fun e=>Region.binds .any e&&e.on==k
def ASe (ops:Array Oper) (listed:Array Bool) (taken:List Nat) (i:Nat):Bool:=
  match ops[i]? with
  | some o=>
    match o.dst with
    |some d=>Region.free .any ops listed i&&!(o.looksAt ops).contains d&&taken.all fun j=>match ops[j]? with|some oj=>!(oj.looksAt ops).contains d&&oj.dst !=some d|none=>false
    |none=>false
  |none=>false
def ATO (ops:Array Oper) (taken:List Nat) (i:Nat) (chk:List Nat):Bool:=
  match ops[i]? with
  |some o=>taken.all fun k=>chk.contains k||AmO o k
  |none=>false
def GV (ops:Array Oper):Plan→Bool→Array Bool→List Nat→Bool
  |.done,mode,listed,_=>!mode&&(Region.ready .any ops listed).isEmpty
  |.take i p,mode,listed,taken=>!mode&&(Region.ready .any ops listed).contains i&&ASe ops listed taken i&&GV ops p false (listed.setIfInBounds i true) (i::taken)
  | .alt i chk p rest,mode,listed,taken=>
    (mode||(Region.ready .any ops listed).all fun j=>(i::rest.alts).contains j)&&(Region.ready .any ops listed).contains i&&ATO ops taken i chk&&GV ops p false (listed.setIfInBounds i true) taken&&GV ops rest true listed taken
  |.stop,mode,_,_=>mode
def Rv:List (Nat×AVal)→Nat→Option AVal
  |[],_=>none
  |(j,r)::tv,k=>if k=j then some r else Rv tv k
def NN (E:Env) (ops:Array Oper) (tv:List (Nat×AVal)) (af:List AVal) (st:St):List Nat→Prop
  |[]=>True
  |k::ks=>(match Rv tv k,ops[k]? with|some r,some o=>KI E ops o af st=some r|_,_=>False)∧NN E ops tv af st ks
def EX (E:Env) (mv:List Tmp) (ops:Array Oper):Plan→List (Nat×AVal)→(List AVal→St→Prop)→List AVal→St→Prop
  |.done,_,K,af,st=>K af st
  | .take i p,tv,K,af,st=>
    match ops[i]? with
    | some o=>
      match KI E ops o af st with
      |some r=>EX E mv ops p ((i,r)::tv) K (AZ af o.dst r) st
      |none=>False
    |none=>False
  | .alt i chk p rest,tv,K,af,st=>
    (match ops[i]? with
      |some o=>gWp E mv ops o af st fun af' st'=>NN E ops tv af' st' chk∧EX E mv ops p tv K af' st'
      |none=>False)∧EX E mv ops rest tv K af st
  |.stop,_,_,_,_=>True
def Ie (ops:Array Oper) (i:Nat):Option Tmp:=(ops[i]?).bind (·.dst)
def Ez (ops:Array Oper) (af:List AVal):List (Nat×AVal)→List AVal
  |[]=>af
  |(i,r)::pend=>Ez ops (AZ af (Ie ops i) r) pend
theorem Pt (ops:Array Oper) (pend:List (Nat×AVal)) (i:Nat) (r:AVal): ∀af,Ez ops af (pend++[(i,r)])=AZ (Ez ops af pend) (Ie ops i) r:=by
  induction pend with
  |nil=>intro af;rfl
  |cons p pend ih=>intro af;exact ih _
theorem AFE{E:Env}{ops:Array Oper}{o:Oper}{st:St} (pend:List (Nat×AVal)): ∀af,(∀p,p∈pend→ ∀d,Ie ops p.1=some d→d∉o.looksAt ops)→KI E ops o (Ez ops af pend) st=KI E ops o af st:=by
  induction pend with
  |nil=>intro af _;rfl
  | cons p pend ih=>
    intro af h
    obtain⟨i,r⟩:=p
    simp only[Ez]
    rw[ih _ (fun q hq=>h q (List.mem_cons_of_mem _ hq))]
    cases hd:Ie ops i with
    |none=>rfl
    |some d=>exact TU (h (i,r) (by simp) d hd)
theorem APM{E:Env}{mv:List Tmp}{ops:Array Oper}{o:Oper}{st:St} (pend:List (Nat×AVal)): ∀ {af:List AVal}{K:List AVal→St→Prop},(∀p,p∈pend→ ∀d,Ie ops p.1=some d→d∉o.looksAt ops∧o.dst≠some d)→gWp E mv ops o (Ez ops af pend) st K→gWp E mv ops o af st fun af' st'=>K (Ez ops af' pend) st':=by
  induction pend with
  |nil=>intro af K _ h;exact h
  | cons p pend ih=>
    intro af K h hw
    obtain⟨i,r⟩:=p
    simp only[Ez]at hw⊢
    have h1:=ih (fun q hq=>h q (List.mem_cons_of_mem _ hq)) hw
    cases hd:Ie ops i with
    |none=>rw[hd]at h1;exact h1
    | some d=>
      rw[hd]at h1
      obtain⟨a1,a2⟩:=h (i,r) (by simp) d hd
      exact AiP (K:=fun af' st'=>K (Ez ops af' pend) st') a1 a2 h1
theorem AY6{af:List AVal}{d e:Option Tmp}{x y:AVal} (h: ∀t,d=some t→e≠some t):AZ (AZ af d x) e y=AZ (AZ af e y) d x:=by
  cases d with
  |none=>rfl
  | some d=>
    cases e with
    |none=>rfl
    | some e=>
      have:d≠e:=fun he=>h d rfl (by rw[he])
      grind[AZ,List.set_comm]
theorem R7{ops:Array Oper}{i:Nat}{r:AVal} (pend:List (Nat×AVal)): ∀af,(i,r)∈pend→(pend.map (·.1)).Nodup→(∀p q,p∈pend→q∈pend→p.1≠q.1→ ∀t,Ie ops p.1=some t→Ie ops q.1≠some t)→
    Ez ops af pend=Ez ops (AZ af (Ie ops i) r) (pend.filter fun p=>p.1 !=i):=by
  induction pend with
  |nil=>simp
  | cons p pend ih=>
    intro af h hn hd
    obtain⟨j,s⟩:=p
    simp only[List.map_cons,List.nodup_cons]at hn
    by_cases hij:j=i
    · subst hij
      have hsr:s=r:=by
        rcases List.mem_cons.1 h with e|e
        · grind
        · exact absurd (List.mem_map.2 ⟨(j,r),e,rfl⟩) hn.1
      subst hsr
      have hf:pend.filter (fun p=>p.1 !=j)=pend:=List.filter_eq_self.2 fun q hq=>by
        simp only[bne_iff_ne,ne_eq]
        grind
      grind[Ez]
    · have hm:(i,r)∈pend:=by
        rcases List.mem_cons.1 h with e|e
        · cases e;omega
        omega
      have hne:(j !=i)=true:=by grind
      rw[List.filter_cons,if_pos hne]
      simp only[Ez]
      rw[ih _ hm hn.2 (fun p q hp hq=>hd p q (List.mem_cons_of_mem _ hp) (List.mem_cons_of_mem _ hq))]
      rw[AY6 (fun t ht=>hd (j,s) (i,r) (by simp) h (by omega) t ht)]
def OrdP (ops:Array Oper):(Nat→Prop)→List (Nat×AVal)→Prop
  |_,[]=>True
  |P,(i,_)::rest=>(∀o,ops[i]?=some o→ ∀e,e∈o.after→Region.binds .any e=true→P e.on)∧OrdP ops (fun k=>P k∨k=i) rest
theorem OrdP.mono{ops:Array Oper}: ∀ {pend:List (Nat×AVal)}{P P':Nat→Prop},(∀k,P k→P' k)→OrdP ops P pend→OrdP ops P' pend
  |[],_,_,_,_=>trivial
  |(i,_)::rest,_,_,h,⟨h1,h2⟩=>⟨fun o ho e he hb=>h _ (h1 o ho e he hb),OrdP.mono (fun k hk=>hk.imp (h k) id) h2⟩
theorem OrdP.snoc{ops:Array Oper}{i:Nat}{r:AVal}: ∀ {pend:List (Nat×AVal)}{P:Nat→Prop},OrdP ops P pend→(∀o,ops[i]?=some o→ ∀e,e∈o.after→Region.binds .any e=true→P e.on∨e.on∈pend.map (·.1))→OrdP ops P (pend++[(i,r)])
  |[],P,_,h=>⟨fun o ho e he hb=>(h o ho e he hb).resolve_right (by simp),trivial⟩
  |(j,_)::rest,P,⟨h1,h2⟩,h=>⟨h1,OrdP.snoc h2 fun o ho e he hb=>by
      grind⟩
theorem OrdP.erase{ops:Array Oper}{k:Nat}: ∀ {pend:List (Nat×AVal)}{P:Nat→Prop},OrdP ops P pend→OrdP ops (fun j=>P j∨j=k) (pend.filter fun p=>p.1 !=k)
  |[],_,_=>trivial
  | (i,s)::rest,P,⟨h1,h2⟩=>by
    have ih:=OrdP.erase (k:=k) h2
    by_cases hik:i=k
    · grind
    · have hne:(i !=k)=true:=by grind
      rw[List.filter_cons,if_pos hne]
      exact⟨fun o ho e he hb=>.inl (h1 o ho e he hb),ih.mono fun j hj=>by grind⟩
def LP (n:Nat) (listed:Array Bool):Nat:=(List.range n).countP fun k=>!listed.getD k true
theorem Vr{i:Nat}{f g:Nat→Bool} (hf:f i=false) (hg:g i=true) (h: ∀k,k≠i→f k=g k): ∀l:List Nat,l.countP f+l.count i=l.countP g
  |[]=>rfl
  | k::l=>by
    have ih:=Vr hf hg h l
    grind
theorem Sd{n i:Nat}{listed:Array Bool} (hi:listed.getD i true=false) (hn:i<n):LP n (listed.setIfInBounds i true)+1≤LP n listed:=by
  have hlt:i<listed.size:=by
    grind
  have hset:(listed.setIfInBounds i true).getD i true=true:=by simp
  have hother: ∀k,k≠i→(listed.setIfInBounds i true).getD k true=listed.getD k true:=fun k hk=>getD_set_ne true (Ne.symm hk)
  unfold LP
  have key:=fun l=>Vr (i:=i) (f:=fun k=>!(listed.setIfInBounds i true).getD k true) (g:=fun k=>!listed.getD k true) (by simp) (by grind) (fun k hk=>by grind) l
  grind
theorem Qg{n:Nat}{listed:Array Bool} (h:LP n listed=0){k:Nat} (hk:k<n):listed.getD k true=true:=by
  have:=List.countP_eq_zero.1 h k (List.mem_range.2 hk)
  grind
structure Inv (E:Env) (ops:Array Oper) (act asap:Array Bool) (taken:List Nat) (pend tv:List (Nat×AVal)) (af:List AVal) (st:St):Prop where
  sz1:act.size=ops.size
  sz2:asap.size=ops.size
  list: ∀k,k<ops.size→(asap.getD k true=true↔act.getD k true=true∨k∈pend.map (·.1))
  notin: ∀p,p∈pend→act.getD p.1 true=false∧p.1<ops.size∧p.1∈taken
  nodup:(pend.map (·.1)).Nodup
  tvl: ∀p,p∈pend→Rv tv p.1=some p.2
  val: ∀p,p∈pend→ ∀o,ops[p.1]?=some o→KI E ops o (Ez ops af pend) st=some p.2
  free: ∀p,p∈pend→ ∀d,Ie ops p.1=some d→ ∀j oj,ops[j]?=some oj→asap.getD j true=false→(∀e,e∈oj.after→Region.binds .any e=true→e.on≠p.1)→d∉oj.looksAt ops∧oj.dst≠some d
  self: ∀p,p∈pend→ ∀d o,Ie ops p.1=some d→ops[p.1]?=some o→d∉o.looksAt ops
  pair: ∀p q,p∈pend→q∈pend→p.1≠q.1→ ∀d,Ie ops p.1=some d→Ie ops q.1≠some d∧ ∀oq,ops[q.1]?=some oq→(∀e,e∈oq.after→Region.binds .any e=true→e.on≠p.1)→d∉oq.looksAt ops
  ord:OrdP ops (fun k=>act.getD k false=true) pend
theorem OZ{l:Array Bool}{k:Nat} (h:k<l.size):l.getD k false=l.getD k true:=by
  grind
section
variable{E:Env}{ops:Array Oper}
theorem Inv.ready_sub{act asap:Array Bool}{taken:List Nat}{pend tv:List (Nat×AVal)}{af:List AVal}{st:St} (I:Inv E ops act asap taken pend tv af st){j:Nat} (hj:j∈Region.ready .any ops act) (hp:j∉pend.map (·.1)):j∈Region.ready .any ops asap:=by
  obtain⟨h0,o,ho,h1⟩:=mem_ready.1 hj
  have hlt:j<ops.size:=(Array.getElem?_eq_some_iff.1 ho).1
  refine mem_ready.2 ⟨?_,o,ho,fun e he hb=>?_⟩
  · cases h:asap.getD j true with
    |false=>rfl
    | true=>
      rcases (I.list j hlt).1 h with h|h<;>grind[absurd]
  · have:=h1 e he hb
    have hlt':e.on<act.size:=by
      grind
    rw[OZ hlt']at this
    rw[OZ (by rw[I.sz2,←I.sz1];omega)]
    exact(I.list e.on (by rw[←I.sz1];omega)).2 (.inl this)
theorem Inv.some_ready{act asap:Array Bool}{taken:List Nat}{pend tv:List (Nat×AVal)}{af:List AVal}{st:St} (I:Inv E ops act asap taken pend tv af st) (h:Region.ready .any ops act=[]):pend=[]:=by
  cases hp:pend with
  |nil=>rfl
  | cons p rest=>
    exfalso
    obtain⟨i,r⟩:=p
    have hm:(i,r)∈pend:=by grind
    obtain⟨h0,hlt,_⟩:=I.notin _ hm
    have hord:=I.ord
    rw[hp]at hord
    obtain⟨o,ho⟩: ∃o,ops[i]?=some o:=⟨ops[i],Array.getElem?_eq_getElem hlt⟩
    have:i∈Region.ready .any ops act:=mem_ready.2 ⟨h0,o,ho,fun e he hb=>hord.1 o ho e he hb⟩
    grind
theorem Inv.asap_ready{act asap:Array Bool}{taken:List Nat}{tv:List (Nat×AVal)}{af:List AVal}{st:St} (I:Inv E ops act asap taken [] tv af st){j:Nat} (hj:j∈Region.ready .any ops asap):j∈Region.ready .any ops act:=by
  obtain⟨h0,o,ho,h1⟩:=mem_ready.1 hj
  have hlt:j<ops.size:=(Array.getElem?_eq_some_iff.1 ho).1
  refine mem_ready.2 ⟨?_,o,ho,fun e he hb=>?_⟩
  · cases h:act.getD j true with
    |false=>rfl
    |true=>have:=(I.list j hlt).2 (.inl h);grind
  · have:=h1 e he hb
    have hlt':e.on<asap.size:=by
      grind
    rw[OZ hlt']at this
    rw[OZ (by rw[I.sz1,←I.sz2];omega)]
    rcases (I.list e.on (by rw[←I.sz2];exact hlt')).1 this with h|h<;>grind
theorem WP{tv:List (Nat×AVal)}{af:List AVal}{st:St}: ∀ {chk:List Nat},NN E ops tv af st chk→ ∀ {k:Nat},k∈chk→ ∃r o,Rv tv k=some r∧ops[k]?=some o∧KI E ops o af st=some r
  |[],_,_,h=>by cases h
  | x::xs,⟨h1,h2⟩,k,h=>by
    rcases List.mem_cons.1 h with rfl|h
    · grind
    · exact WP h2 h
theorem AKc{mv:List Tmp}{listed:Array Bool}{taken:List Nat}{tv:List (Nat×AVal)}{K:List AVal→St→Prop}{af:List AVal}{st:St}: ∀ {p:Plan},GV ops p true listed taken=true→EX E mv ops p tv K af st→ ∀ {j:Nat},j∈p.alts→
    ∃chk q o,ops[j]?=some o∧ATO ops taken j chk=true∧GV ops q false (listed.setIfInBounds j true) taken=true∧gWp E mv ops o af st fun af' st'=>NN E ops tv af' st' chk∧EX E mv ops q tv K af' st'
  | .alt i chk p rest,hok,hw,j,hj=>by
    simp only[GV,Bool.and_eq_true]at hok
    simp only[EX]at hw
    rcases List.mem_cons.1 hj with rfl|hj
    · grind
    · exact AKc hok.2 hw.2 hj
  |.done,_,_,_,h=>by cases h
  |.take _ _,_,_,_,h=>by cases h
  |.stop,_,_,_,h=>by cases h
theorem Inv.take{act asap:Array Bool}{taken:List Nat}{pend tv:List (Nat×AVal)}{af:List AVal}{st:St} (I:Inv E ops act asap taken pend tv af st){i:Nat}{o:Oper}{r:AVal}
    (hr:i∈Region.ready .any ops asap) (hok:ASe ops asap taken i=true) (ho:ops[i]?=some o) (hv:KI E ops o (Ez ops af pend) st=some r):
    Inv E ops act (asap.setIfInBounds i true) (i::taken) (pend++[(i,r)]) ((i,r)::tv) af st:=by
  obtain⟨h0,o',ho',hw⟩:=mem_ready.1 hr
  rw[ho]at ho';cases ho'
  have hlt:i<ops.size:=(Array.getElem?_eq_some_iff.1 ho).1
  have hact:act.getD i true=false:=by
    cases h:act.getD i true with
    |false=>rfl
    |true=>have:=(I.list i hlt).2 (.inl h);grind
  have hnp:i∉pend.map (·.1):=fun h=>by have:=(I.list i hlt).2 (.inr h);grind
  unfold ASe at hok
  rw[ho]at hok
  simp only at hok
  split at hok
  · rename_i d hd
    simp only[Bool.and_eq_true,Bool.not_eq_true',List.all_eq_true]at hok
    obtain⟨⟨hfree,hself⟩,htk⟩:=hok
    have hself':d∉o.looksAt ops:=by grind
    have hdst:Ie ops i=some d:=by grind[Ie]
    have hfr:=fun j oj hj hne hun hno=>Oper.apart_spec (Region.free_spec ho hfree j oj hj hne hun hno)
    have htk': ∀j,j∈taken→ ∀oj,ops[j]?=some oj→d∉oj.looksAt ops∧oj.dst≠some d:=by
      intro j hj oj hoj
      have:=htk j hj
      simp_all
    have hset: ∀k,k≠i→(asap.setIfInBounds i true).getD k true=asap.getD k true:=fun k hk=>getD_set_ne true (Ne.symm hk)
    have hseti:(asap.setIfInBounds i true).getD i true=true:=by simp
    have hpne: ∀p,p∈pend→p.1≠i:=fun p hp e=>hnp (List.mem_map.2 ⟨p,hp,e⟩)
    refine {sz1:=I.sz1,sz2:=by simp[I.sz2],list:=?_,notin:=?_,nodup:=?_,tvl:=?_,val:=?_,free:=?_,self:=?_,pair:=?_,ord:=?_}
    · intro k hk
      rw[List.map_append,List.mem_append]
      by_cases hki:k=i
      · grind
      · rw[hset k hki,I.list k hk];grind
    · intro p hp
      rcases List.mem_append.1 hp with hp|hp
      · obtain⟨a,b,c⟩:=I.notin p hp;grind
      grind
    · rw[List.map_append,List.nodup_append]
      refine⟨I.nodup,by simp,?_⟩
      grind
    · intro p hp
      rcases List.mem_append.1 hp with hp|hp
      · simp only[Rv];rw[if_neg (hpne p hp)];exact I.tvl p hp
      grind[Rv]
    · intro p hp op hop
      rw[Pt,hdst]
      rcases List.mem_append.1 hp with hp|hp
      · rw[show AZ (Ez ops af pend) (some d) r=(Ez ops af pend).set d r from rfl,TU (htk' p.1 (I.notin p hp).2.2 op hop).1]
        exact I.val p hp op hop
      · simp only[List.mem_singleton]at hp;subst hp
        rw[ho]at hop;cases hop
        rw[show AZ (Ez ops af pend) (some d) r=(Ez ops af pend).set d r from rfl,TU hself']
        omega
    · intro p hp dd hdd j oj hoj hun hno
      have hji:j≠i:=fun e=>by grind
      rw[hset j hji]at hun
      rcases List.mem_append.1 hp with hp|hp
      · exact I.free p hp dd hdd j oj hoj hun hno
      grind
    · intro p hp dd op hdd hop
      rcases List.mem_append.1 hp with hp|hp
      · exact I.self p hp dd op hdd hop
      grind
    · intro p q hp hq hne dd hdd
      rcases List.mem_append.1 hp with hp|hp<;>rcases List.mem_append.1 hq with hq|hq
      · exact I.pair p q hp hq hne dd hdd
      · simp only[List.mem_singleton]at hq;subst hq
        simp only at hne⊢
        refine⟨?_,fun oq hoq hno=>?_⟩
        · rw[hdst]
          intro e
          simp only[Option.some.injEq]at e
          have hpo: ∃op,ops[p.1]?=some op:=⟨_,Array.getElem?_eq_getElem (I.notin p hp).2.1⟩
          obtain⟨op,hop⟩:=hpo
          have:=(htk' p.1 (I.notin p hp).2.2 op hop).2
          have hdd':op.dst=some dd:=by grind[Ie]
          rw[hdd',e]at this;grind
        · rw[ho]at hoq;cases hoq
          exact(I.free p hp dd hdd i o ho h0 hno).1
      · simp only[List.mem_singleton]at hp;subst hp
        simp only at hne hdd⊢
        rw[hdst]at hdd;cases hdd
        obtain⟨oq,hoq⟩: ∃oq,ops[q.1]?=some oq:=⟨_,Array.getElem?_eq_getElem (I.notin q hq).2.1⟩
        have hh:=htk' q.1 (I.notin q hq).2.2
        grind[Ie]
      · simp only[List.mem_singleton]at hp hq;subst hp;subst hq;omega
    · refine I.ord.snoc fun o'' ho'' e he hb=>?_
      rw[ho]at ho'';cases ho''
      have:=hw e he hb
      have hlt':e.on<asap.size:=by
        grind
      rw[OZ hlt']at this
      rcases (I.list e.on (by rw[←I.sz2];omega)).1 this with h|h
      · exact .inl (by rw[OZ (by rw[I.sz1,←I.sz2];omega)];exact h)
      grind
  grind
theorem Inv.come{act asap:Array Bool}{taken:List Nat}{pend tv:List (Nat×AVal)}{af:List AVal}{st:St} (I:Inv E ops act asap taken pend tv af st){i:Nat}{r:AVal} (hm:(i,r)∈pend):
    Inv E ops (act.setIfInBounds i true) asap taken (pend.filter fun p=>p.1 !=i) tv (AZ af (Ie ops i) r) st:=by
  obtain⟨h0,hlt,htk⟩:=I.notin _ hm
  have hmem: ∀p,p∈pend.filter (fun p=>p.1 !=i)→p∈pend∧p.1≠i:=fun p hp=>by
    grind
  have hset: ∀k,k≠i→(act.setIfInBounds i true).getD k true=act.getD k true:=fun k hk=>getD_set_ne true (Ne.symm hk)
  have hseti:(act.setIfInBounds i true).getD i true=true:=by simp
  have herase:=R7 pend af hm I.nodup (fun p q hp hq hne t ht=>(I.pair p q hp hq hne t ht).1)
  refine {sz1:=by simp[I.sz1],sz2:=I.sz2,list:=?_,notin:=?_,nodup:=?_,tvl:=fun p hp=>I.tvl p (hmem p hp).1,val:=?_,free:=fun p hp=>I.free p (hmem p hp).1,self:=fun p hp=>I.self p (hmem p hp).1,pair:=fun p q hp hq=>I.pair p q (hmem p hp).1 (hmem q hq).1,ord:=?_}
  · intro k hk
    by_cases hki:k=i
    · subst hki
      rw[hseti]
      simp only[true_or,iff_true]
      exact(I.list k hk).2 (.inr (List.mem_map.2 ⟨_,hm,rfl⟩))
    · rw[hset k hki,I.list k hk]
      simp_all
  · intro p hp
    obtain⟨a,b⟩:=hmem p hp
    obtain⟨c,d,e⟩:=I.notin p a
    grind
  · exact(List.filter_sublist.map _).nodup I.nodup
  · intro p hp o ho
    rw[←herase]
    exact I.val p (hmem p hp).1 o ho
  · refine(I.ord.erase (k:=i)).mono fun k hk=>?_
    grind
theorem Inv.step{act asap:Array Bool}{taken:List Nat}{pend tv:List (Nat×AVal)}{af af':List AVal}{st st':St} (I:Inv E ops act asap taken pend tv af st){i:Nat}{chk:List Nat}{o:Oper} (hr:i∈Region.ready .any ops act) (hp:i∉pend.map (·.1)) (ho:ops[i]?=some o)
    (hchk:ATO ops taken i chk=true) (hall:NN E ops tv (Ez ops af' pend) st' chk):Inv E ops (act.setIfInBounds i true) (asap.setIfInBounds i true) taken pend tv af' st':=by
  obtain⟨h0,o',ho',hw⟩:=mem_ready.1 hr
  rw[ho]at ho';cases ho'
  have hlt:i<ops.size:=(Array.getElem?_eq_some_iff.1 ho).1
  have hset: ∀(l:Array Bool) k,k≠i→(l.setIfInBounds i true).getD k true=l.getD k true:=fun l k hk=>getD_set_ne true (Ne.symm hk)
  have hseti: ∀(l:Array Bool),l.size=ops.size→(l.setIfInBounds i true).getD i true=true:=fun l hl=>by simp
  have hpne: ∀p,p∈pend→p.1≠i:=fun p hpm e=>hp (List.mem_map.2 ⟨p,hpm,e⟩)
  refine {sz1:=by simp[I.sz1],sz2:=by simp[I.sz2],list:=?_,notin:=?_,nodup:=I.nodup,tvl:=I.tvl,val:=?_,free:=?_,self:=I.self,pair:=I.pair,ord:=?_}
  · intro k hk
    by_cases hki:k=i
    · simp_all
    · rw[hset act k hki,hset asap k hki];exact I.list k hk
  · intro p hpm
    obtain⟨a,b,c⟩:=I.notin p hpm
    grind
  · intro p hpm op hop
    unfold ATO at hchk
    rw[ho]at hchk
    simp only[List.all_eq_true,Bool.or_eq_true]at hchk
    obtain⟨a,b,c⟩:=I.notin p hpm
    rcases hchk p.1 c with h|h
    · obtain⟨r,o2,e1,e2,e3⟩:=WP hall (by simpa using h)
      rw[I.tvl p hpm]at e1;grind
    · exfalso
      obtain⟨e,he,hb⟩:=Array.any_eq_true'.1 h
      simp only[Bool.and_eq_true,beq_iff_eq]at hb
      have:=hw e he hb.1
      rw[hb.2,OZ (by grind),a]at this
      grind
  · intro p hpm d hd j oj hoj hun hno
    have hji:j≠i:=fun e=>by simp_all
    rw[hset asap j hji]at hun
    exact I.free p hpm d hd j oj hoj hun hno
  · exact I.ord.mono fun k hk=>getD_set_true hk
theorem ASG{mv:List Tmp}{K:List AVal→St→Prop}{Qc:Exit→Act→World→Prop}{F:Nat→Nat} (fuel:Nat): ∀(plan:Plan){act asap:Array Bool}{taken:List Nat}{pend tv:List (Nat×AVal)}{af:List AVal}{st:St}{a:Act}{w:World}{Γ:Ghost},
    GV ops plan false asap taken=true→LP ops.size act≤fuel→Inv E ops act asap taken pend tv af st→a.defers=[]→Sim E F Γ st w af a.tmps.toList→EX E mv ops plan tv K (Ez ops af pend) st→
    (∀Γ' af' st' a' w',Ext F Γ w Γ' w'→st.next≤st'.next→a'.defers=[]→Sim E F Γ' st' w' af' a'.tmps.toList→K af' st'→Qc .normal a' w')→
    wpAny E.P .any ops Qc fuel act a w:=by
  induction fuel with
  | zero=>
    intro plan
    induction plan with
    | done=>
      intro act asap taken pend tv af st a w Γ hok hn I hd hs hw hK
      have hrd:Region.ready .any ops act=[]:=List.eq_nil_iff_forall_not_mem.2 fun j hj=>by
        obtain⟨h0,o,ho,_⟩:=mem_ready.1 hj
        rw[Qg (Nat.le_zero.1 hn) (Array.getElem?_eq_some_iff.1 ho).1]at h0;grind
      have:=I.some_ready hrd
      subst this
      exact⟨hrd,hK Γ af st a w (Ext.refl _ _ _) (Nat.le_refl _) hd hs hw⟩
    | take i p ih=>
      intro act asap taken pend tv af st a w Γ hok hn I hd hs hw hK
      simp only[GV,Bool.and_eq_true]at hok
      simp only[EX]at hw
      split at hw
      · rename_i o ho
        split at hw
        · rename_i r hr
          have I2:=I.take (by grind) hok.1.2 ho hr
          grind[Pt,Ie]
        grind
      grind
    | alt i chk p rest _ _=>
      intro act asap taken pend tv af st a w Γ hok hn I hd hs hw hK
      exfalso
      simp only[GV,Bool.and_eq_true]at hok
      have hi:i∈Region.ready .any ops asap:=by grind
      obtain⟨h0,o,ho,_⟩:=mem_ready.1 hi
      have hlt:=(Array.getElem?_eq_some_iff.1 ho).1
      have:=(I.list i hlt).2 (.inl (Qg (Nat.le_zero.1 hn) hlt))
      grind
    |stop=>grind[GV]
  | succ fuel ihf=>
    have come: ∀(plan:Plan){act asap:Array Bool}{taken:List Nat}{pend tv:List (Nat×AVal)}{af:List AVal}{st:St}{a:Act}{w:World}{Γ:Ghost},
        GV ops plan false asap taken=true→LP ops.size act≤fuel+1→Inv E ops act asap taken pend tv af st→a.defers=[]→Sim E F Γ st w af a.tmps.toList→EX E mv ops plan tv K (Ez ops af pend) st→
        (∀Γ' af' st' a' w',Ext F Γ w Γ' w'→st.next≤st'.next→a'.defers=[]→Sim E F Γ' st' w' af' a'.tmps.toList→K af' st'→Qc .normal a' w')→
        ∀j,j∈Region.ready .any ops act→j∈pend.map (·.1)→wpOp E.P ops Qc j (wpAny E.P .any ops Qc fuel (act.setIfInBounds j true)) a w:=by
      intro plan act asap taken pend tv af st a w Γ hok hn I hd hs hw hK j hj hjp
      obtain⟨p,hp,rfl⟩:=List.mem_map.1 hjp
      obtain⟨h0,o,ho,hwt⟩:=mem_ready.1 hj
      have hlt:=(Array.getElem?_eq_some_iff.1 ho).1
      have hlooks: ∀q,q∈pend→ ∀d,Ie ops q.1=some d→d∉o.looksAt ops:=by
        intro q hq d hdd
        by_cases hqp:q.1=p.1
        · exact I.self q hq d o hdd (by grind)
        · refine(I.pair q p hq hp hqp d hdd).2 o ho fun e he hb heq=>?_
          have:=hwt e he hb
          obtain⟨a1,b1,_⟩:=I.notin q hq
          grind
      have hval:=I.val p hp o ho
      rw[AFE pend af hlooks]at hval
      refine YZ ho hd hs (AWl (mv:=mv) hval) fun Γ' af' st' a' w' x1 n1 d1 s1 k1=>?_
      obtain⟨rfl,rfl⟩:=k1
      have hdst:Ie ops p.1=o.dst:=by grind[Ie]
      have hpm:(p.1,p.2)∈pend:=hp
      have I2:=I.come hpm
      rw[hdst]at I2
      refine ihf plan hok (by have:=Sd h0 hlt;omega) I2 d1 s1 ?_ fun Γ2 af2 st2 a2 w2 x2 n2 d2 s2 k2=>hK Γ2 af2 st2 a2 w2 (x1.trans x2) (Nat.le_trans n1 n2) d2 s2 k2
      rw[R7 pend af hpm I.nodup (fun p q hp hq hne t ht=>(I.pair p q hp hq hne t ht).1),hdst]at hw
      omega
    intro plan
    induction plan with
    | done=>
      intro act asap taken pend tv af st a w Γ hok hn I hd hs hw hK
      refine⟨fun hrd=>?_,fun j hj=>?_⟩
      · have:=I.some_ready hrd
        subst this
        exact hK Γ af st a w (Ext.refl _ _ _) (Nat.le_refl _) hd hs hw
      · by_cases hjp:j∈pend.map (·.1)
        · grind
        · exfalso
          have:=I.ready_sub hj hjp
          simp only[GV,Bool.not_false,Bool.true_and,List.isEmpty_iff]at hok
          grind
    | take i p ih=>
      intro act asap taken pend tv af st a w Γ hok hn I hd hs hw hK
      simp only[GV,Bool.and_eq_true]at hok
      simp only[EX]at hw
      split at hw
      · rename_i o ho
        split at hw
        · rename_i r hr
          have I2:=I.take (by grind) hok.1.2 ho hr
          grind[Pt,Ie]
        grind
      grind
    | alt i chk p rest _ _=>
      intro act asap taken pend tv af st a w Γ hok hn I hd hs hw hK
      have hok0:=hok
      simp only[GV,Bool.and_eq_true]at hok
      have hi:i∈Region.ready .any ops asap:=by grind
      refine⟨fun hrd=>?_,fun j hj=>?_⟩
      · exfalso
        have:=I.some_ready hrd
        subst this
        have:=I.asap_ready hi
        grind
      · by_cases hjp:j∈pend.map (·.1)
        · grind
        · have hja:=I.ready_sub hj hjp
          have hall:=hok.1.1.1.1
          simp only[Bool.false_or,List.all_eq_true]at hall
          have hjm:j∈(Plan.alt i chk p rest).alts:=by grind[Plan.alts]
          have hok':GV ops (.alt i chk p rest) true asap taken=true:=by
            simp only[GV,Bool.true_or,Bool.true_and,Bool.and_eq_true]
            grind
          obtain⟨chk',q,o,ho,hc,hq,hg⟩:=AKc hok' hw hjm
          obtain⟨h0,o',ho',hwt⟩:=mem_ready.1 hj
          rw[ho]at ho';cases ho'
          have hlt:=(Array.getElem?_eq_some_iff.1 ho).1
          have hun:asap.getD j true=false:=(mem_ready.1 hja).1
          have hlooks: ∀p,p∈pend→ ∀d,Ie ops p.1=some d→d∉o.looksAt ops∧o.dst≠some d:=by
            intro p hp d hdd
            refine I.free p hp d hdd j o ho hun fun e he hb heq=>?_
            have:=hwt e he hb
            obtain⟨a1,b1,_⟩:=I.notin p hp
            grind
          refine YZ ho hd hs (APM pend hlooks hg) fun Γ' af' st' a' w' x1 n1 d1 s1 k1=>?_
          have I2:=I.step hj hjp ho hc k1.1
          exact ihf q hq (by have:=Sd h0 hlt;omega) I2 d1 s1 k1.2 fun Γ2 af2 st2 a2 w2 x2 n2 d2 s2 k2=>hK Γ2 af2 st2 a2 w2 (x1.trans x2) (Nat.le_trans n1 n2) d2 s2 k2
    |stop=>grind[GV]
end
theorem Oo{E:Env}{Q:APost}{af:List AVal}{st:St}{id:Nat}{ops:Array Oper} (mv:List Tmp) (plan:Plan) (hm:E.P.follows .mixedOrders=true) (hok:GV ops plan false (Array.replicate ops.size false) []=true)
    (h:EX E mv ops plan [] (fun af st=>Q .normal af st) af st):AWp E (.region id ops true) Q af st:=by
  constructor
  intro F Γ w a hd hs
  refine wp_region_any hm ?_
  have I:Inv E ops (Array.replicate ops.size false) (Array.replicate ops.size false) [] [] [] af st:=by
    have hno: ∀p:Nat×AVal,p∈([]:List (Nat×AVal))→False:=fun p hp=>by grind
    exact {sz1:=(by simp),sz2:=(by simp),list:=(fun k hk=>by simp),notin:=(fun p hp=>(hno p hp).elim),nodup:=(by simp),tvl:=(fun p hp=>(hno p hp).elim),val:=(fun p hp=>(hno p hp).elim),free:=(fun p hp=>(hno p hp).elim),self:=(fun p hp=>(hno p hp).elim),pair:=(fun p q hp=>(hno p hp).elim),ord:=trivial}
  have hun:LP ops.size (Array.replicate ops.size false)≤ops.size:=by
    grind[LP,List.countP_le_length,Array.replicate,List.range]
  exact ASG ops.size plan hok hun I hd hs.drew h fun Γ' af' st' a' w' x1 n1 d1 s1 k1=>⟨trivial,d1,Γ',af',st',⟨x1.le,x1.keep,x1.size,x1.os,x1.output,x1.tape⟩,n1,s1,k1⟩
end Go.VM
set_option linter.unusedVariables false
namespace Go.VM
def Ad:List Tmp→List AVal→List AVal
  |[],af=>af
  |j::js,af=>Ad js (af.set j .any)
def setVals:List AVal→List Tmp→List AVal→List AVal
  |af,c::cs,v::vs=>setVals (af.set c v) cs vs
  |af,_,_=>af
def Bt (af:List AVal) (cs:List Tmp):List AVal:=cs.map fun c=>af.getD c .any
section
variable{E:Env}{F:Nat→Nat}{Γ:Ghost}{st:St}{w:World}{af:List AVal}{a:Act}{Q:APost}
theorem Sim.setAny (hs:Sim E F Γ st w af a.tmps.toList) (j:Tmp):Sim E F Γ st w (af.set j .any) a.tmps.toList:=by
  have key: ∀ {xs:List AVal}{vs:List Value} (j:Nat),RepL Γ xs vs→RepL Γ (xs.set j .any) vs:=by
    intro xs
    induction xs with
    |nil=>simp
    | cons x xs ih=>intro vs j h;cases h with
      | cons h t=>cases j with
        |zero=>exact .cons (.any _) t
        |succ j=>exact .cons h (ih j t)
  have keyo: ∀ {xs:List AVal}{vs:List Value} (j:Nat),ownL Γ w xs vs→ownL Γ w (xs.set j .any) vs:=by
    intro xs
    induction xs with
    |nil=>simp
    | cons x xs ih=>intro vs j h;cases vs with
      |nil=>cases j<;>simp[ownL]
      | cons v vs=>
        rw[ownL]at h
        cases j with
        |zero=>grind[ownL,VM.own]
        |succ j=>grind[ownL]
  have keyc: ∀(xs:List AVal) (vs:List Value) (j b:Nat),AP b (xs.set j .any) vs≤AP b xs vs:=by
    intro xs
    induction xs with
    |nil=>simp
    | cons x xs ih=>intro vs j b;cases vs with
      |nil=>cases j<;>simp[AP]
      | cons v vs=>cases j with
        |zero=>grind[AP,cnt]
        |succ j=>grind[AP]
  exact {hs with rep:=key j hs.rep,own:=keyo j hs.own,tok:=fun b=>by have:=keyc af a.tmps.toList j b;have:=hs.tok b;omega}
theorem Sim.mask (js:List Tmp): ∀ {af:List AVal},Sim E F Γ st w af a.tmps.toList→Sim E F Γ st w (Ad js af) a.tmps.toList:=by
  induction js with
  |nil=>intro af hs;exact hs
  |cons j js ih=>intro af hs;exact ih (hs.setAny j)
theorem PX{c:Code} (js:List Tmp) (h:AWp E c Q (Ad js af) st):AWp E c Q af st:=⟨fun F Γ w a hd hs=>h.go F Γ w a hd (hs.mask js)⟩
theorem PW (js:List Tmp): ∀(af:List AVal) (j:Tmp),Ad js (af.set j .any)=(Ad js af).set j .any:=by
  induction js<;>grind[Ad,List.set_set,List.set_comm]
theorem Iq: ∀(cs:List Tmp) (af af0:List AVal),Ad cs af=Ad cs af0→af=setVals af0 cs (Bt af cs):=by
  intro cs
  induction cs with
  |nil=>intro af af0 h;exact h
  | cons c cs ih=>
    intro af af0 h
    simp only[Ad]at h
    simp only[Bt,List.map_cons,setVals]
    have h2:Ad cs af=Ad cs (af0.set c (af.getD c .any)):=by
      have hl:af.length=af0.length:=by
        have hlen: ∀(l:List Tmp) (x:List AVal),(Ad l x).length=x.length:=by
          intro l
          induction l<;>grind[Ad]
        have:=congrArg List.length h
        grind
      rw[PW,PW]at h
      apply List.ext_getElem?
      intro i
      have hi:=congrArg (·[i]?) h
      simp only[List.getElem?_set]at hi
      have hmask: ∀(l:List Tmp) (x:List AVal) (k:Nat),(Ad l x)[k]?=if k∈l then(if k<x.length then some .any else none)else x[k]?:=by
        intro l
        induction l with
        |nil=>grind[Ad]
        | cons j l ih=>
          intro x k
          simp only[Ad,ih,List.length_set,List.mem_cons]
          by_cases hkl:k∈l
          · grind
          · by_cases hkj:k=j
            · subst hkj
              simp only[hkl,if_false,true_or,if_true,List.getElem?_set]
            · simp only[hkl,if_false,hkj,or_false,List.getElem?_set]
              rw[if_neg (fun e=>hkj e.symm)]
      rw[hmask,hmask]
      rw[hmask,hmask]at hi
      by_cases hic:i∈cs
      · grind
      · simp only[hic,if_false]at hi⊢
        rw[List.getElem?_set]
        by_cases hci:c=i
        · subst hci
          simp only[if_true]
          by_cases hlt:c<af.length<;>simp_all[List.getD]
        simp_all
    exact ih af _ h2
theorem Vl{c:Code} (js cs:List Tmp) (I:Nat→List AVal→St→Prop) (n₀:Nat) (h₀:I n₀ (Bt (Ad js af) cs) st)
    (round: ∀n vs st',I n vs st'→ ∀J:List AVal→St→Prop,
      (∀n' af' st' m,n'<n→m.Sublist st'.m→Ad cs (Ad js af')=Ad cs (Ad js af)→I n' (Bt (Ad js af') cs) {st' with m:=m}→J af' st')→
      AWp E c (kPost J Q) (setVals (Ad js af) cs vs) st'):AWp E (.loop c) Q af st:=by
  refine PX js ?_
  constructor
  intro F Γ w a hd hs
  refine wp_loop_ghost (fun n a' w'=>a'.defers=[]∧ ∃Γ' vs st',Ext F Γ w Γ' w'∧st.next≤st'.next∧Sim E F Γ' st' w' (setVals (Ad js af) cs vs) a'.tmps.toList∧I n vs st') n₀
    ⟨hd,Γ,Bt (Ad js af) cs,st,Ext.refl _ _ _,Nat.le_refl _,by rw[←Iq cs _ _ rfl];omega,h₀⟩ ?_
  intro n a₁ w₁ ⟨hd1,Γ₁,vs₁,st₁,h2,h3,h4,h5⟩
  refine wp_mono ((round n vs₁ st₁ h5 (fun af' st'=> ∃n' m,n'<n∧m.Sublist st'.m∧Ad cs (Ad js af')=Ad cs (Ad js af)∧I n' (Bt (Ad js af') cs) {st' with m:=m}) (fun n' af' st' m k1 k2 k3 k4=>⟨n',m,k1,k2,k3,k4⟩)).go F Γ₁ w₁ a₁ hd1 h4) ?_
  intro e a' w' hq
  have hq:=Ra h2 h3 hq
  cases e with
  | normal=>
    obtain⟨_,k1,Γ',af',st',k2,k3,k4,kk⟩:=hq
    obtain⟨n',m,k5,k6,k7,k8⟩:=kk.get
    refine⟨n',k5,k1,Γ',Bt (Ad js af') cs,{st' with m:=m},k2,k3,?_,k8⟩
    rw[←Iq cs _ _ k7]
    exact(k4.mask js).fewer k6
  | _=>
    obtain⟨k0,k1,Γ',af',st',k2,k3,k4,kk⟩:=hq
    exact⟨k0,k1,Γ',af',st',k2,k3,k4,kk.out (by simp)⟩
theorem ACall.strip{f:FuncId}{args:List AVal}{Q:AVal→St→Prop} (h:ACall E f args st fun r st'=>Q r.strip st'):ACall E f args st Q:=
  ⟨fun F Γ w cargs hs=>(h.go F Γ w cargs hs).mono fun e w' ⟨v,he,Γ',r,st',h1,h2,h3,h4⟩=>⟨v,he,Γ',r.strip,st',h1,h2,by
    have hr:Rep Γ' r v:=by have:=h3.rep;cases this;omega
    have ht: ∀b,F b+AP b [r.strip] [v]+Af Γ' w' b st'.m≤1:=fun b=>by
      have:=h3.tok b
      grind[AP,FM]
    exact {h3 with rep:=.cons hr.strip .nil,own:=(by grind[ownL,JK]),tok:=ht},h4⟩⟩
end
end Go.VM
set_option linter.unusedVariables false
namespace Go.VM
mutual
def bnd:AVal→Prop
  |.agg cs=>bndL cs
  |.tuple cs=>bndL cs
  |.slice _ xs _=>xs.length≤Bf
  |.str s=>s.length≤Bf
  |.buf _ l _=>l.length≤Bf
  |_=>True
def bndL:List AVal→Prop
  |[]=>True
  |x::xs=>bnd x∧bndL xs
end
mutual
theorem Rep.bnd{Γ:Ghost}: {x:AVal}→ {v:Value}→Rep Γ x v→VM.bnd x
  |_,_,.any v=>by simp[VM.bnd]
  |_,_,.bool b=>by simp[VM.bnd]
  |_,_,.int k n=>by simp[VM.bnd]
  |_,_,.str b h=>by grind[VM.bnd]
  |_,_,.agg h o=>by simp only[VM.bnd];exact RepL.bndL h
  |_,_,.tuple h=>by simp only[VM.bnd];exact RepL.bndL h
  |_,_,.snil w o a=>by simp[VM.bnd]
  |_,_,.slice o hb hl hc h _=>by grind[VM.bnd]
  |_,_,.ptr h=>by simp[VM.bnd]
  |_,_,.nilp=>by simp[VM.bnd]
  |_,_,.cptr hb hd h _=>by simp[VM.bnd]
  |_,_,.fn h k=>by simp[VM.bnd]
  |_,_,.nilFn=>by simp[VM.bnd]
  |_,_,.iface h=>by simp[VM.bnd]
  |_,_,.nilIface=>by simp[VM.bnd]
  |_,_,.iter _ _ _=>by simp[VM.bnd]
  |_,_,.bsl _ _ _=>by simp[VM.bnd]
  |_,_,.nself _=>by simp[VM.bnd]
  | _,_,.buf _ h _=>by
    have:=Rep.bnd h
    grind[VM.bnd,u8s]
  |_,_,.bnil _ _=>by simp[VM.bnd]
  |_,_,.bufp _ _ _ _ _=>by simp[VM.bnd]
  |_,_,.map _ _ _=>by simp[VM.bnd]
  |_,_,.slop _ _ _ _=>by simp[VM.bnd]
  |_,_,.sh _ _=>by simp[VM.bnd]
  |_,_,.sptr _=>by simp[VM.bnd]
  |_,_,.gsl _ _ _ _=>by simp[VM.bnd]
  |_,_,.nmap=>by simp[VM.bnd]
  |_,_,.vec _ _ _=>by simp[VM.bnd]
  |_,_,.hset _ _=>by simp[VM.bnd]
  |_,_,.vptr _=>by simp[VM.bnd]
  |_,_,.num _ _=>by simp[VM.bnd]
  |_,_,.nbuf _=>by simp[VM.bnd]
  |_,_,.trow _ _ _ _=>by simp[VM.bnd]
theorem RepL.bndL{Γ:Ghost}: {xs:List AVal}→ {vs:List Value}→RepL Γ xs vs→VM.bndL xs
  |_,_,.nil=>by simp[VM.bndL]
  |_,_,.cons h t=>by simp only[VM.bndL];exact⟨Rep.bnd h,RepL.bndL t⟩
end
theorem RepS.bndL{Γ:Ghost}{w:Nat}{xs:List AVal}{cs:List Value} (h:RepS Γ w xs cs):VM.bndL xs:=by
  induction xs generalizing cs with
  |nil=>simp[VM.bndL]
  | cons x xs ih=>cases h with
    |cons h hw t=>simp only[VM.bndL];exact⟨h.bnd,ih t⟩
def keysLt (n:Nat) (m:List (Nat×List AVal)):Prop:= ∀i,n≤i→Ab m i=none
theorem Sim.keysLt{E:Env}{F:Nat→Nat}{Γ:Ghost}{st:St}{w:World}{af:List AVal}{tm:List Value} (hs:Sim E F Γ st w af tm):keysLt st.next st.m:=by
  intro i hi
  cases hm:Ab st.m i with
  |none=>rfl
  | some c=>
    have:=hs.key_lt (Ip hm)
    omega
theorem AWp.known{E:Env}{c:Code}{Q:APost}{af:List AVal}{st:St} (h:bndL af→keysLt st.next st.m→AWp E c Q af st):AWp E c Q af st:=
  ⟨fun F Γ w a hd hs=>(h hs.rep.bndL hs.keysLt).go F Γ w a hd hs⟩
theorem ACall.known{E:Env}{f:FuncId}{args:List AVal}{st:St}{Q:AVal→St→Prop} (h:bndL args→keysLt st.next st.m→ACall E f args st Q):ACall E f args st Q:=
  ⟨fun F Γ w cargs hs=>(h hs.rep.bndL hs.keysLt).go F Γ w cargs hs⟩
inductive Deep:AVal→Prop
  |leaf{x:AVal} (h:bnd x) (hc:match x with|.agg _|.tuple _|.slice _ _ _=>False|_=>True):Deep x
  |agg{cs:List AVal} (h: ∀x,x∈cs→Deep x):Deep (.agg cs)
  |tuple{cs:List AVal} (h: ∀x,x∈cs→Deep x):Deep (.tuple cs)
  |slice{w:Nat}{xs:List AVal}{o:Bool} (hl:xs.length≤Bf) (h: ∀x,x∈xs→Deep x):Deep (.slice w xs o)
theorem Deep.bnd{x:AVal} (h:Deep x):VM.bnd x:=by
  induction h with
  |leaf h hc=>exact h
  | agg h ih=>
    rename_i cs
    simp only[VM.bnd]
    clear h
    induction cs<;>grind[VM.bndL]
  | tuple h ih=>
    rename_i cs
    simp only[VM.bnd]
    clear h
    induction cs<;>grind[VM.bndL]
  |slice hl h ih=>grind[VM.bnd]
theorem ALK{n:Nat} (h:n≤Bf):IntKind.i64.wrap (n:Int)=n:=by
  grind[Bf,IntKind.wrap,IntKind.bits,IntKind.signed]
theorem Y5{n:Nat} (h:n≤Bf):IntKind.i64.wrap ((n:Int)+1)=((n+1:Nat):Int):=by
  grind[Bf,IntKind.wrap,IntKind.bits,IntKind.signed]
end Go.VM
set_option linter.unusedVariables false
namespace Go.VM
section
variable{E:Env}{mv:List Tmp}{ops:Array Oper}{K:List AVal→St→Prop}{af:List AVal}{st:St}
def Nn (x:Option AVal) (d:Option Tmp) (K:List AVal→St→Prop) (af:List AVal) (st:St):Prop:=
  match x with|some r=>K (AZ af d r) st|none=>False
def J9 (x:Option AVal) (d:Option Tmp) (K:List AVal→St→Prop) (af:List AVal) (st:St):Prop:=
  match x with|some r=>K (AZ af d r.strip) st|none=>False
def MR (x:Option (AVal×St)) (d:Option Tmp) (K:List AVal→St→Prop) (af:List AVal):Prop:=
  match x with|some p=>K (AZ af d p.1) p.2|none=>False
def AUO (b:Bool) (x:AVal) (d:Option Tmp) (K:List AVal→St→Prop) (af:List AVal) (st:St):Prop:=
  if b=true then K (AZ af d (.ptr st.next 0)) {m:=(st.next,AV x)::st.m,next:=st.next+1}else False
def Vb (x:Option (List AVal)) (d:Option Tmp) (K:List AVal→St→Prop) (af:List AVal) (st:St):Prop:=
  match x with|some cs=>K (AZ af d (.ptr st.next 0)) {m:=(st.next,cs)::st.m,next:=st.next+1}|none=>False
def APb (x u:Option AVal) (y:Option (AVal×St)) (st:St):Option (AVal×St):=
  match x with
  |some r=>some (r.strip,st)
  |none=>match u with|some r=>some (r,st)|none=>y
def Ob (x:Option St) (K:List AVal→St→Prop) (af:List AVal):Prop:=
  match x with|some st=>K af st|none=>False
def ARK (x:AVal) (n:Nat):Option AVal:=match x with|.tuple vs=>vs[n]?|_=>none
def AQ6 (x:AVal) (n:Nat):AVal:=match x with|.tuple vs=>.tuple (vs.set n ((vs.getD n .any).strip))|x=>x
def Ab0 (x:Option AVal) (y:Option St) (d:Option Tmp) (K:List AVal→St→Prop) (af:List AVal) (st:St):Prop:=
  match x with
  |some r=>K (AZ af d r) st
  |none=>match y with|some st'=>K (AZ af d (.sh st.next)) st'|none=>False
def Vd (E:Env) (t:TypeId) (x:AVal) (lo hi mx:Option (Option Int)) (d:Option Tmp) (K:List AVal→St→Prop) (af:List AVal) (st:St):Prop:=
  match lo,hi,mx with
  |some l,some h,some m=>Ab0 (Dw E t x l h m) (Ni E t x l h m st) d K af st
  |_,_,_=>False
def AUu (d:Option Tmp) (K:List AVal→St→Prop) (af:List AVal):AVal→St→Prop:=fun r st=>K (AZ af d r) st
def AMB (E:Env) (f:AVal) (xs:List AVal) (d:Option Tmp) (K:List AVal→St→Prop) (af:List AVal) (st:St):Prop:=
  match f with
  |.fn (.func g) p q=>CallX E g (stripL (p++xs++q)) st (AUu d K af)
  |_=>False
theorem AVf{r:AVal}{d:Option Tmp}:Nn (some r) d K af st=K (AZ af d r) st:=rfl
theorem ASc{r:AVal}{d:Option Tmp}:J9 (some r) d K af st=K (AZ af d r.strip) st:=rfl
theorem ARZ{r:AVal}{s:St}{d:Option Tmp}:MR (some (r,s)) d K af=K (AZ af d r) s:=rfl
theorem AUY{x:AVal}{d:Option Tmp}:AUO true x d K af st=K (AZ af d (.ptr st.next 0)) {m:=(st.next,AV x)::st.m,next:=st.next+1}:=by simp[AUO]
theorem ANJ{cs:List AVal}{d:Option Tmp}:Vb (some cs) d K af st=K (AZ af d (.ptr st.next 0)) {m:=(st.next,cs)::st.m,next:=st.next+1}:=rfl
theorem AlW{r:AVal}{u:Option AVal}{y:Option (AVal×St)}:APb (some r) u y st=some (r.strip,st):=rfl
theorem Akn{r:AVal}{y:Option (AVal×St)}:APb none (some r) y st=some (r,st):=rfl
theorem Akv{y:Option (AVal×St)}:APb none none y st=y:=rfl
theorem AK6:Ob (some st) K af=K af st:=rfl
theorem ABC{n:Nat}{vs:List AVal}:ARK (.tuple vs) n=vs[n]?:=rfl
theorem AHF{n:Nat}{vs:List AVal}:AQ6 (.tuple vs) n=.tuple (vs.set n ((vs.getD n .any).strip)):=rfl
theorem AVU{r:AVal}{y:Option St}{d:Option Tmp}:Ab0 (some r) y d K af st=K (AZ af d r) st:=rfl
theorem AVT{s:St}{d:Option Tmp}:Ab0 none (some s) d K af st=K (AZ af d (.sh st.next)) s:=rfl
theorem ANj{t:TypeId}{x:AVal}{lo hi mx:Option Int}{d:Option Tmp}:Vd E t x (some lo) (some hi) (some mx) d K af st=Ab0 (Dw E t x lo hi mx) (Ni E t x lo hi mx st) d K af st:=rfl
theorem AfP{d:Option Tmp}{r:AVal}:AUu d K af r st=K (AZ af d r) st:=rfl
theorem AeL{g:FuncId}{p q xs:List AVal}{d:Option Tmp}:AMB E (.fn (.func g) p q) xs d K af st=if callable E.P g=true then ACall E g (stripL (p++xs++q)) st (AUu d K af)else UJ E g (stripL (p++xs++q)) st (AUu d K af):=rfl
theorem AaA{d:Option Tmp}:Ld [] d=false:=by cases d<;>rfl
section ops
variable{d:Option Tmp}{ty:TypeId}{pos:String}{aft:Array Edge}{g:Option (Nat×Bool)}
def fzK (fz:Bool) (y:Option (Nat×Nat×List AVal)) (j:Tmp) (v:AVal) (d:Option Tmp) (K:List AVal→St→Prop) (af:List AVal) (st:St):Prop:=
  match fz,y with
  |true,some (i,w,xs)=>K (AZ (af.set j (.slice w xs false)) d (.slice w xs false)) {st with m:=Ak st.m i [.any]}
  |_,_=>K (AZ (stripAt af (.tmp j)) d v) st
theorem Am5{y:Option (Nat×Nat×List AVal)}{j:Tmp}{v:AVal}:fzK false y j v d K af st=K (AZ (stripAt af (.tmp j)) d v) st:=rfl
theorem Ann{i w:Nat}{xs:List AVal}{j:Tmp}{v:AVal}:fzK true (some (i,w,xs)) j v d K af st=K (AZ (af.set j (.slice w xs false)) d (.slice w xs false)) {st with m:=Ak st.m i [.any]}:=rfl
theorem AnZ{fz:Bool}{j:Tmp}{v:AVal}:fzK fz none j v d K af st=K (AZ (stripAt af (.tmp j)) d v) st:=by cases fz<;>rfl
def nmK (fz:Bool) (v:AVal) (x:Operand) (d:Option Tmp) (K:List AVal→St→Prop) (af:List AVal) (st:St):Prop:=
  match v,x with
  |.vec w xs,.tmp i=>K (AZ (af.set i (.sh st.next)) d (.sh st.next)) {m:=(st.next,[.vec w xs])::st.m,next:=st.next+1}
  |.sh i,.tmp j=>fzK fz (Hg st (.sh i)) j (.sh i) d K af st
  |v,x=>K (AZ (stripAt af x) d v) st
def mvK (b fz:Bool) (x:Operand) (ty:TypeId) (E:Env) (d:Option Tmp) (K:List AVal→St→Prop) (af:List AVal) (st:St):Prop:=
  if b=true then nmK fz (rd E af ty x) x d K af st else K (AZ af d (rd E af ty x).strip) st
theorem AeS{fz:Bool}{x:Operand}:mvK true fz x ty E d K af st=nmK fz (rd E af ty x) x d K af st:=by simp[mvK]
theorem AlC{fz:Bool}{i w:Nat}{xs:List AVal}:nmK fz (.vec w xs) (.tmp i) d K af st=K (AZ (af.set i (.sh st.next)) d (.sh st.next)) {m:=(st.next,[.vec w xs])::st.m,next:=st.next+1}:=rfl
theorem Alv{fz:Bool}{x:Operand}:nmK fz .any x d K af st=K (AZ (stripAt af x) d .any) st:=by cases x<;>rfl
theorem Al4{fz:Bool}{x:Operand}{k:IntKind}{n:Int}:nmK fz (.int k n) x d K af st=K (AZ (stripAt af x) d (.int k n)) st:=by cases x<;>rfl
theorem Ag0{fz:Bool}{x:Operand}{b:Bool}:nmK fz (.bool b) x d K af st=K (AZ (stripAt af x) d (.bool b)) st:=by cases x<;>rfl
theorem AkD{fz:Bool}{x:Operand}{s:List UInt8}:nmK fz (.str s) x d K af st=K (AZ (stripAt af x) d (.str s)) st:=by cases x<;>rfl
theorem AkB{fz:Bool}{x:Operand}{c:List AVal}:nmK fz (.agg c) x d K af st=K (AZ (stripAt af x) d (.agg c)) st:=by cases x<;>rfl
theorem Acg{fz:Bool}{x:Operand}{c:List AVal}:nmK fz (.tuple c) x d K af st=K (AZ (stripAt af x) d (.tuple c)) st:=by cases x<;>rfl
theorem Aed{fz:Bool}{x:Operand}{w:Nat}{c:List AVal}{o:Bool}:nmK fz (.slice w c o) x d K af st=K (AZ (stripAt af x) d (.slice w c o)) st:=by cases x<;>rfl
theorem Alw{fz:Bool}{x:Operand}{i f:Nat}:nmK fz (.ptr i f) x d K af st=K (AZ (stripAt af x) d (.ptr i f)) st:=by cases x<;>rfl
theorem AmQ{fz:Bool}{x:Operand}{e:TypeId}{l:List UInt8}{o:Bool}:nmK fz (.buf e l o) x d K af st=K (AZ (stripAt af x) d (.buf e l o)) st:=by cases x<;>rfl
theorem Ag7{fz:Bool}{x:Operand}{e:TypeId}{l:List UInt8}{o:Bool}:nmK fz (.bufp e l o) x d K af st=K (AZ (stripAt af x) d (.bufp e l o)) st:=by cases x<;>rfl
theorem Amz{fz:Bool}{j:Tmp}{i:Nat}:nmK fz (.sh i) (.tmp j) d K af st=fzK fz (Hg st (.sh i)) j (.sh i) d K af st:=rfl
theorem AmP{fz:Bool}{x:Operand}{w i l:Nat}:nmK fz (.gsl w i l) x d K af st=K (AZ (stripAt af x) d (.gsl w i l)) st:=by cases x<;>rfl
theorem AmB{fz:Bool}{x:Operand}{w i o l:Nat}:nmK fz (.bsl w i o l) x d K af st=K (AZ (stripAt af x) d (.bsl w i o l)) st:=by cases x<;>rfl
theorem AjY{fz:Bool}{x:Operand}{s:List UInt8}{p:Nat}:nmK fz (.iter s p) x d K af st=K (AZ (stripAt af x) d (.iter s p)) st:=by cases x<;>rfl
def tkK (y:Option (Nat×Nat×List AVal)) (v:AVal) (x:Operand) (d:Option Tmp) (K:List AVal→St→Prop) (af:List AVal) (st:St):Prop:=
  match y with|some (i,w,xs)=>K (AZ af d (.vec w xs)) {st with m:=Ak st.m i [.any]}|none=>K (AZ (stripAt af x) d v) st
theorem AfM{i w:Nat}{xs:List AVal}{v:AVal}{x:Operand}:tkK (some (i,w,xs)) v x d K af st=K (AZ af d (.vec w xs)) {st with m:=Ak st.m i [.any]}:=rfl
theorem Aej{v:AVal}{x:Operand}:tkK none v x d K af st=K (AZ (stripAt af x) d v) st:=rfl
def vnK (y:Option Nat) (X:Prop) (d:Option Tmp) (K:List AVal→St→Prop) (af:List AVal) (st:St):Prop:=
  match y with|some w=>K (AZ af d (.vec w [])) st|none=>X
theorem AdC{w:Nat}{X:Prop}:vnK (some w) X d K af st=K (AZ af d (.vec w [])) st:=rfl
theorem AbF{X:Prop}:vnK none X d K af st=X:=rfl
theorem Acf{t:TypeId}:ASg E (.const (.slice none 0 0)) t=BB E.P t:=rfl
theorem Abi{i:Tmp}{t:TypeId}:ASg E (.tmp i) t=none:=rfl
def atK (x:Operand) (ty:TypeId) (E:Env) (d:Option Tmp) (K:List AVal→St→Prop) (af:List AVal) (st:St):Prop:=
  match x with
  |.tmp i=>tkK (Hg st (af.getD i .any)) (af.getD i .any) (.tmp i) d K af st
  |x=>K (AZ (stripAt af x) d (rd E af ty x)) st
theorem AiO{i:Tmp}:atK (.tmp i) ty E d K af st=tkK (Hg st (af.getD i .any)) (af.getD i .any) (.tmp i) d K af st:=rfl
def asT (x:Operand) (ty:TypeId) (E:Env) (d:Option Tmp) (K:List AVal→St→Prop) (af:List AVal) (st:St):Prop:=vnK (ASg E x ty) (atK x ty E d K af st) d K af st
theorem Akm{x:Operand}:asT x ty E d K af st=vnK (ASg E x ty) (atK x ty E d K af st) d K af st:=rfl
def asK (b:Bool) (x:Operand) (ty:TypeId) (E:Env) (d:Option Tmp) (K:List AVal→St→Prop) (af:List AVal) (st:St):Prop:=
  if b=true then asT x ty E d K af st else K (AZ (stripAt af x) d (rd E af ty x)) st
theorem Abo{x:Operand}:asK true x ty E d K af st=asT x ty E d K af st:=by simp[asK]
theorem AXT{x:Operand}:asK false x ty E d K af st=K (AZ (stripAt af x) d (rd E af ty x)) st:=by simp[asK]
def vaR (i:Nat) (y:Option (List AVal)):Option (Nat×Nat×List AVal):=match y with|some [.vec w xs]=>some (i,w,xs)|_=>none
theorem AkC{w:Nat}{xs:List AVal}:Hg st (.vec w xs)=none:=rfl
theorem AnW{i:Nat}:Hg st (.sh i)=vaR i (Ab st.m i):=by unfold vaR;rfl
theorem AfF{i w:Nat}{xs:List AVal}:vaR i (some [.vec w xs])=some (i,w,xs):=rfl
theorem AVd{fz:Bool}{x:Operand}:mvK false fz x ty E d K af st=K (AZ af d (rd E af ty x).strip) st:=by simp[mvK]
def ldK (b:Bool) (t:TypeId) (x:AVal) (E:Env) (d:Option Tmp) (K:List AVal→St→Prop) (af:List AVal) (st:St):Prop:=
  if b=true then MR (Nb E t x st) d K af else J9 (Nq E t x st) d K af st
theorem Ae8{t:TypeId}{x:AVal}:ldK true t x E d K af st=MR (Nb E t x st) d K af:=by simp[ldK]
theorem AVt{t:TypeId}{x:AVal}:ldK false t x E d K af st=J9 (Nq E t x st) d K af st:=by simp[ldK]
theorem AWU{d:Tmp}:XP mv (some d)=mv.contains (d+1000000):=rfl
theorem AYi:XP mv none=false:=rfl
theorem AjO{x:Operand}:CR E mv ⟨d,.move x,ty,pos,aft,g⟩ af st K=mvK (Ld mv d) (XP mv d) x ty E d K af st:=by
  simp only[CR,Cy,mvK]
  cases Ld mv d
  · simp
  · simp only[if_true]
    cases x with
    | tmp i=>
      have e:Xd (XP mv d) af (.tmp i) st=if XP mv d=true then(Hg st (af.getD i .any)).map fun p=>(i,p.1,p.2.1,p.2.2)else none:=by cases XP mv d<;>rfl
      rw[e]
      simp only[nameV,rd]
      generalize af.getD i .any=v
      cases v<;>cases XP mv d<;>try rfl
      rename_i j
      simp only[nmK,fzK,if_true]
      rcases Hg st (.sh j)with _|⟨i',w,xs⟩<;>simp
    |_=>simp only[nameV];cases XP mv d<;>cases (rd E af ty _)<;>rfl
theorem AWJ{x:Operand}:CR E mv ⟨d,.assign x,ty,pos,aft,g⟩ af st K=asK (Ld mv d) x ty E d K af st:=by
  simp only[CR,Cy,asK]
  cases Ld mv d
  · simp
  · simp only[if_true,VX,asT,vnK]
    cases ASg E x ty with
    |some w=>rfl
    | none=>
      cases x with
      | tmp i=>
        simp only[UG,rd,atK,tkK]
        cases Hg st (af.getD i .any)<;>rfl
      |_=>rfl
def alG{α:Type} (b:Bool) (x y:Option α):Option α:=if b=true then x else y
theorem Amy{α:Type}{x y:Option α}:alG false x y=y:=rfl
theorem Amr{α:Type}{x y:Option α}:alG true x y=x:=rfl
theorem Ac1{t:TypeId}:CR E mv ⟨d,.alloc t,ty,pos,aft,g⟩ af st K=Vb (alG (Ld mv d) (RD E.P t st.next) (BU E.P t st.next)) d K af st:=by
  simp only[CR,Cy,Vb,alG];cases Ld mv d<;>simp only[if_true,if_false,Bool.false_eq_true]
  · cases BU E.P t st.next<;>rfl
  grind
theorem Alx{t:TypeId}{x:Operand}:CR E mv ⟨d,.box t x,ty,pos,aft,g⟩ af st K=AUO (Bo (rd E af t x)) (rd E af t x) d K (stripAt af x) st:=by
  simp only[CR,Cy,AUO];cases Bo (rd E af t x)<;>simp
theorem AbZ{t:TypeId}{ps:List (Nat×Operand)}:CR E mv ⟨d,.build t ⟨ps⟩,ty,pos,aft,g⟩ af st K=Nn (Pw E t (BC E (AC E.P t) af ps).2) d K (BC E (AC E.P t) af ps).1 st:=by
  simp only[CR,Cy,Nn];cases Pw E t (BC E (AC E.P t) af ps).2<;>rfl
def bsK (b:Bool) (u:Option (Nat×List AVal)) (v:Option AVal) (n:Nat) (d:Option Tmp) (K:List AVal→St→Prop) (af1 af:List AVal) (st:St):Prop:=
  if b=true then(match u with|some p=>K (AZ af1 d (.gsl p.1 st.next n)) {m:=(st.next,p.2)::st.m,next:=st.next+1}|none=>False)else Nn v d K af st
theorem AYa{u:Option (Nat×List AVal)}{v:Option AVal}{n:Nat}{af1:List AVal}:bsK false u v n d K af1 af st=Nn v d K af st:=by simp[bsK]
theorem V5{v:Option AVal}{n w:Nat}{cs af1:List AVal}:bsK true (some (w,cs)) v n d K af1 af st=K (AZ af1 d (.gsl w st.next n)) {m:=(st.next,cs)::st.m,next:=st.next+1}:=by simp[bsK]
theorem Xk{t:TypeId}{n:Nat}{ps:List (Nat×Operand)}:CR E mv ⟨d,.buildSlice t n ⟨ps⟩,ty,pos,aft,g⟩ af st K=bsK (Ld mv d) (Fy E t n (BC E (fun _=>AC E.P t 0) af ps).2) (EZ E t n (BC E (fun _=>AC E.P t 0) af ps).2) n d K (BC E (fun _=>AC E.P t 0) af ps).1 af st:=by
  simp only[CR,Cy,Nn,bsK]
  cases Ld mv d
  · simp only[Bool.false_eq_true,if_false];cases EZ E t n (BC E (fun _=>AC E.P t 0) af ps).2<;>rfl
  · simp only[if_true];cases Fy E t n (BC E (fun _=>AC E.P t 0) af ps).2<;>rfl
theorem Agt{t:TypeId}{x:Operand}:CR E mv ⟨d,.load t x,ty,pos,aft,g⟩ af st K=ldK (Ld mv d) t (rd E af 0 x) E d K af st:=by
  simp only[CR,Cy,ldK,MR,J9]
  cases Ld mv d
  · simp only[Bool.false_eq_true,if_false];cases Nq E t (rd E af 0 x) st<;>rfl
  · simp only[if_true];cases Nb E t (rd E af 0 x) st<;>rfl
theorem AdQ{t:TypeId}{x y:Operand}:CR E mv ⟨none,.store t x y,ty,pos,aft,g⟩ af st K=Ob (Kn E t (rd E af 0 x) (rd E af t y) st) K (stripAt af y):=by
  simp only[CR,Cy,Ob,Option.isNone_none,if_true];cases Kn E t (rd E af 0 x) (rd E af t y) st<;>rfl
theorem ARW{t n:Nat}:CR E mv ⟨d,.extract (.tmp t) n,ty,pos,aft,g⟩ af st K=Nn (ARK (af.getD t .any) n) d K (af.set t (AQ6 (af.getD t .any) n)) st:=by
  grind[CR,Cy,ARK,AQ6,Nn,List.getD]
theorem AbP{t:TypeId}{x:Operand}{lo hi mx:Option Operand}:CR E mv ⟨d,.slice t x lo hi mx,ty,pos,aft,g⟩ af st K=Vd E t (rd E af t x) (rdo E af lo) (rdo E af hi) (rdo E af mx) d K af st:=by
  simp only[CR,Cy,Vd]
  cases rdo E af lo<;>cases rdo E af hi<;>cases rdo E af mx<;>(try rfl)
  simp only[Ab0]
  cases Dw E t (rd E af t x) _ _ _ with
  |some r=>rfl
  |none=>simp only[];cases Ni E t (rd E af t x) _ _ _ st<;>rfl
def WW (g:Bool) (x:AVal) (d:Option Tmp) (K:List AVal→St→Prop) (af:List AVal) (st:St):Prop:=match x with|.str s=>if g=true then K (AZ af d (.iter s 0)) st else False|_=>False
theorem AcD{t:TypeId}{x:Operand}:CR E mv ⟨d,.range t x,ty,pos,aft,g⟩ af st K=WW (CZ E.P t) (rd E af t x) d K af st:=by
  grind[CR,Cy,WW,rd,CZ]
theorem APl{s:List UInt8}:WW true (.str s) d K af st=K (AZ af d (.iter s 0)) st:=rfl
def Va (x:AVal) (t:Tmp) (d:Option Tmp) (K:List AVal→St→Prop) (af:List AVal) (st:St):Prop:=match x with|.iter s pos=>K (Yh s pos t d af) st|_=>False
theorem Ais{t:Tmp}:CR E mv ⟨d,.next (.tmp t) true,ty,pos,aft,g⟩ af st K=Va (af.getD t .any) t d K af st:=by
  simp only[CR,Cy,Va]
  cases af.getD t .any<;>rfl
theorem APK{t:Tmp}{s:List UInt8}{p:Nat}:Va (.iter s p) t d K af st=if decide (p<s.length)=true then K (AZ (af.set t (.iter s (p+(ET s p).2))) d (.tuple [.bool true,.int .i64 p,.int .i32 (ET s p).1])) st else K (AZ af d (.tuple [.bool false])) st:=by
  simp only[Va,Yh];split<;>rfl
theorem Ahy:JA (.any)=false:=rfl
theorem AfA{b:Bool}:JA (.bool b)=false:=rfl
theorem AiH{k:IntKind}{n:Int}:JA (.int k n)=false:=rfl
theorem Ah9{s:List UInt8}:JA (.str s)=false:=rfl
theorem AiK{c:List AVal}:JA (.agg c)=false:=rfl
theorem AYx{c:List AVal}:JA (.tuple c)=false:=rfl
theorem AXW{w:Nat}{c:List AVal}{o:Bool}:JA (.slice w c o)=false:=rfl
theorem Ahq{i f:Nat}:JA (.ptr i f)=false:=rfl
theorem Acp:JA (.nilp)=false:=rfl
theorem AaH{c:List AVal}:JA (.cptr c)=false:=rfl
theorem Aj7{f:Fn}{p q:List AVal}:JA (.fn f p q)=false:=rfl
theorem AZC:JA (.nilFn)=false:=rfl
theorem AZB{t:TypeId}{v:AVal}:JA (.iface t v)=false:=rfl
theorem ZX:JA (.nilIface)=false:=rfl
theorem Ahm{w i f n:Nat}:JA (.bsl w i f n)=false:=rfl
theorem AWM{i:Nat}{T:TypeId}{n:Nat}:JA (.nself i T n)=false:=rfl
theorem Agq{e:TypeId}{l:List UInt8}{o:Bool}:JA (.buf e l o)=false:=rfl
theorem Acw{e:TypeId}{l:List UInt8}{o:Bool}:JA (.bufp e l o)=false:=rfl
def shS (b:Bool) (x y:Option St):Option St:=if b=true then x else y
theorem Ajj{x y:Option St}:shS false x y=y:=by simp[shS]
theorem Ajp{x y:Option St}:shS true x y=x:=by simp[shS]
def PI (E:Env) (t:TypeId) (addr v:AVal) (st:St):Option St:=
  match v with
  | .sh i=>
    match Ab st.m i with
    |some [.slice w xs o]=>if JA addr=false then NQ E t addr (.slice w xs o) {st with m:=Ak st.m i [.slice w xs false]}else none
    |_=>NQ E t addr (.sh i) st
  |v=>NQ E t addr v st
theorem UA{t:TypeId}{x v:AVal}:Kn E t x v st=shS (JA v) (PI E t x v st) (NQ E t x v st):=by
  cases v<;>first|rfl|(simp only[shS,JA,if_true];rfl)
theorem Akr{t:TypeId}{i f:Nat}{v:AVal}:Kn E t (.ptr i f) v st=shS (JA v) (PI E t (.ptr i f) v st) (TP E t (.ptr i f) v st):=UA
theorem ATq{t:TypeId}{i w n:Nat}{v:AVal}:Kn E t (.sptr i w n) v st=shS (JA v) (PI E t (.sptr i w n) v st) (V7 E t (.sptr i w n) v st):=UA
def agK (b:Bool) (u:Option (Nat×Nat×List AVal×List (Nat×List AVal)×Option Nat)) (X:Prop) (d:Option Tmp) (K:List AVal→St→Prop) (af:List AVal) (st:St):Prop:=
  if b=true then(match u with|some (wd,l,cs,rest,jo)=> ∀i,i=st.next∨jo=some i→K (AZ af d (.gsl wd i l)) {m:=(i,cs)::rest,next:=st.next+1}|none=>False)else X
theorem AVJ{u:Option (Nat×Nat×List AVal×List (Nat×List AVal)×Option Nat)}{X:Prop}:agK false u X d K af st=X:=by simp[agK]
theorem AUp{w:Nat}{l:List AVal}{o:Bool}:Ot (.slice w l o)=false:=rfl
theorem Ahg{l:List UInt8}:Ot (.str l)=false:=rfl
theorem AiG{w i n:Nat}:Ot (.gsl w i n)=true:=rfl
theorem AcW{w:Nat}{l:List AVal}{o:Bool}{y:AVal}:VV (.slice w l o) y=Ot y:=by simp[VV,Ot]
theorem AkZ{e:TypeId}{l:List UInt8}{o:Bool}{y:AVal}:VV (.buf e l o) y=Ot y:=by simp[VV,Ot]
theorem Akf{w i n:Nat}{y:AVal}:VV (.gsl w i n) y=true:=by simp[VV,Ot]
theorem AmG{t0 t1:TypeId}{x:AVal}{w i n:Nat}:appG E t0 t1 x (.gsl w i n) st=ANx E t0 t1 x (.gsl w i n) st:=rfl
theorem AhT{wd l:Nat}{cs:List AVal}{rest:List (Nat×List AVal)}{jo:Option Nat}{X:Prop}{d:Option Tmp}{K:List AVal→St→Prop}{af:List AVal}{st:St} (h: ∀i,i=st.next∨jo=some i→K (AZ af d (.gsl wd i l)) {m:=(i,cs)::rest,next:=st.next+1}):agK true (some (wd,l,cs,rest,jo)) X d K af st:=by grind[agK]
theorem AkM{t0 t1:TypeId}{x:AVal}{l:List UInt8}:appG E t0 t1 x (.str l) st=AV9 E t0 t1 x (.str l) st:=rfl
def vpK (v:Option AVal) (y:Option St) (d:Option Tmp) (K:List AVal→St→Prop) (af1 af:List AVal) (st:St):Prop:=
  match v with
  |some r=>K (AZ af1 d r) st
  |none=>match y with|some st'=>K (AZ af d (.sh st.next)) st'|none=>False
theorem AaI{r:AVal}{y:Option St}{af1:List AVal}:vpK (some r) y d K af1 af st=K (AZ af1 d r) st:=rfl
theorem AbU{s:St}{af1:List AVal}:vpK none (some s) d K af1 af st=K (AZ af d (.sh st.next)) s:=rfl
def apK (b:Bool) (u v:Option AVal) (y:Option St) (f:Option (AVal×St)) (d:Option Tmp) (K:List AVal→St→Prop) (af af0:List AVal) (st:St):Prop:=
  if b=true then(match u with|some r=>K (AZ af d (.sh st.next)) {m:=(st.next,[r])::st.m,next:=st.next+1}|none=>MR f d K af0)else vpK v y d K af af0 st
theorem AYb{u v:Option AVal}{y:Option St}{f:Option (AVal×St)}{af0:List AVal}:apK false u v y f d K af af0 st=vpK v y d K af af0 st:=by simp[apK]
theorem AnK{v:Option AVal}{y:Option St}{f:Option (AVal×St)}{af0:List AVal}:apK true none v y f d K af af0 st=MR f d K af0:=by simp[apK]
theorem AbS{v:Option AVal}{r:AVal}{y:Option St}{f:Option (AVal×St)}{af0:List AVal}:apK true (some r) v y f d K af af0 st=K (AZ af d (.sh st.next)) {m:=(st.next,[r])::st.m,next:=st.next+1}:=by simp[apK]
theorem ASI{t:TypeId}:CR E mv ⟨d,.makeMap t none,ty,pos,aft,g⟩ af st K=K (AZ af d (.sh st.next)) {m:=(st.next,[.map [] []])::st.m,next:=st.next+1}:=rfl
theorem TZ{t:TypeId}{m k:Operand}{ok:Bool}:CR E mv ⟨d,.lookup t m k ok,ty,pos,aft,g⟩ af st K=Nn (PE E t (rd E af t m) (rd E af 0 k) ok st) d K af st:=by
  simp only[CR,Cy,Nn];cases PE E t (rd E af t m) (rd E af 0 k) ok st<;>rfl
theorem SI{t:TypeId}{m k x:Operand}:CR E mv ⟨none,.mapUpdate t m k x,ty,pos,aft,g⟩ af st K=Ob (QX E t (rd E af t m) (rd E af 0 k) (rd E af 0 x) st) K af:=by
  simp only[CR,Cy,Ob,Option.isNone_none,if_true];cases QX E t (rd E af t m) (rd E af 0 k) (rd E af 0 x) st<;>rfl
theorem AVs{t:TypeId}{m k x:Operand}:CR E mv ⟨none,.insert t m k x,ty,pos,aft,g⟩ af st K=Ob (QX E t (rd E af t m) (rd E af 0 k) (rd E af 0 x) st) K af:=by
  simp only[CR,Cy,Ob,Option.isNone_none,if_true];cases QX E t (rd E af t m) (rd E af 0 k) (rd E af 0 x) st<;>rfl
theorem AVy{x y:Operand}{t0 t1:TypeId}{ts:List TypeId}:CR E mv ⟨d,.call {callee:=.builtin .append,args:=⟨[x,y]⟩,argTypes:=⟨t0::t1::ts⟩},ty,pos,aft,g⟩ af st K=agK (VV (rd E af t0 x) (rd E af t1 y)) (appG E t0 t1 (rd E af t0 x) (rd E af t1 y) st) (apK (Ld mv d) (Lm E t0 t1 (rd E af t0 x) (rd E af t1 y)) (Fx E t0 t1 (rd E af t0 x) (rd E af t1 y)) (U9 E t0 t1 (rd E af t0 x) (rd E af t1 y) st) (appW E x t0 t1 (rd E af t0 x) (rd E af t1 y) st) d K (stripAt af x) af st) d K af st:=by
  simp only[CR,Cy,Nn,apK,agK]
  cases VV (rd E af t0 x) (rd E af t1 y)
  rotate_left
  · first|rfl|(simp only[if_true];done)|(simp only[if_true];rfl)
  simp only[Bool.false_eq_true,if_false]
  cases Ld mv d
  · simp only[Bool.false_eq_true,if_false,vpK]
    cases Fx E t0 t1 (rd E af t0 x) (rd E af t1 y)with
    |some r=>rfl
    |none=>simp only[];cases U9 E t0 t1 (rd E af t0 x) (rd E af t1 y) st<;>rfl
  · simp only[if_true,MR]
    cases Lm E t0 t1 (rd E af t0 x) (rd E af t1 y)with
    |some r=>rfl
    |none=>simp only[];cases appW E x t0 t1 (rd E af t0 x) (rd E af t1 y) st<;>rfl
theorem AiR{f:Operand}{xs:List Operand}{ts:List TypeId}:CR E mv ⟨d,.call {callee:=.value f,args:=⟨xs⟩,argTypes:=⟨ts⟩},ty,pos,aft,g⟩ af st K=AMB E (rd E af 0 f) (rdL E af xs ts) d K af st:=by
  simp only[CR,AMB]
  rfl
theorem KP{o:Oper} (h:CR E mv o af st K=(match(Ck E o af).map fun r=>(AZ af o.dst r.strip,st)with|some (af',st')=>K af' st'|none=>False)):CR E mv o af st K=J9 (Ck E o af) o.dst K af st:=by
  rw[h];simp only[J9];cases Ck E o af<;>rfl
def Abd (c x y:AVal):Option AVal:=match c with|.bool t=>some (if t=true then x else y)|_=>none
theorem AQL{b:Bool}{x y:AVal}:Abd (.bool b) x y=some (if b=true then x else y):=rfl
theorem Ah6{c x y:Operand}:CR E mv ⟨d,.pick c x y,ty,pos,aft,g⟩ af st K=J9 (Abd (rd E af 0 c) (rd E af ty x) (rd E af ty y)) d K af st:=KP rfl
theorem ALQ{x:Operand}:CR E mv ⟨d,.nilCheck x,ty,pos,aft,g⟩ af st K=J9 (Jt (rd E af 0 x)) d K af st:=KP rfl
def bnK (c b:Bool) (v:AVal) (d:Option Tmp) (K:List AVal→St→Prop) (af:List AVal) (st:St) (X:Prop):Prop:=if c=true then AaQ b v (fun r=>K (AZ af d r) st)else X
theorem Anu{b:Bool}{v:AVal}{X:Prop}:bnK false b v d K af st X=X:=by simp[bnK]
theorem Amw{w:Nat}{xs:List AVal}{o:Bool}{X:Prop}:bnK true true (.slice w xs o) d K af st X= ∀c:Bool,(c=true→xs=[])→K (AZ af d (.bool c)) st:=by simp[bnK,AaQ]
theorem Ad0{op:BinOp}{k:Tmp}:QZ op (.tmp k)=false:=by cases op<;>rfl
theorem Ag3{op:BinOp}{k:FuncId}:QZ op (.func k)=false:=by cases op<;>rfl
theorem Aln{op:BinOp}{k:Nat}:QZ op (.global k)=false:=by cases op<;>rfl
theorem AdA{op:BinOp}{k:IntKind}{n:Int}:QZ op (.const (.int k n))=false:=by cases op<;>rfl
theorem Adb{op:BinOp}{s:ByteArray}:QZ op (.const (.string s))=false:=by cases op<;>rfl
theorem AYO{op:BinOp}{s:Bool}:QZ op (.const (.bool s))=false:=by cases op<;>rfl
theorem AdP{op:BinOp}{s:Option Addr}:QZ op (.const (.pointer s))=false:=by cases op<;>rfl
theorem AaJ{op:BinOp}{s:Array Value}:QZ op (.const (.agg s))=false:=by cases op<;>rfl
theorem AiY{op:BinOp}:QZ op (.const .nilFunc)=false:=by cases op<;>rfl
theorem Agw{op:BinOp}:QZ op (.const .nilIface)=false:=by cases op<;>rfl
theorem AaP:QZ .eql (.const (.slice none 0 0))=true:=rfl
theorem Acy{op:BinOp}{t u:TypeId}{x y:Operand}:CR E mv ⟨d,.binOp op t x y u,ty,pos,aft,g⟩ af st K=bnK (QZ op y) (Ar E.P t) (rd E af t x) d K af st (J9 (Dh E op t (rd E af t x) (rd E af t y)) d K af st):=by
  have e:CR E mv ⟨d,.binOp op t x y u,ty,pos,aft,g⟩ af st K=if QZ op y=true then AaQ (Ar E.P t) (rd E af t x) (fun v=>K (AZ af d v) st)else(match(Dh E op t (rd E af t x) (rd E af t y)).map (fun r=>(AZ af d r.strip,st))with|some (af',st')=>K af' st'|none=>False):=rfl
  rw[e]
  unfold bnK J9
  split
  · rfl
  · cases Dh E op t (rd E af t x) (rd E af t y)<;>rfl
theorem Ai4{op:UnOp}{t:TypeId}{x:Operand}:CR E mv ⟨d,.unOp op t x,ty,pos,aft,g⟩ af st K=J9 (unA op (rd E af 0 x)) d K af st:=KP rfl
theorem ASR{s t:TypeId}{x:Operand}:CR E mv ⟨d,.convert s t x,ty,pos,aft,g⟩ af st K=MR (APb (Nj E s t (rd E af s x)) (QA E s t (rd E af s x) st) (Np E s t (rd E af s x) st) st) d K af:=by
  have h:Ck E ⟨d,.convert s t x,ty,pos,aft,g⟩ af=Nj E s t (rd E af s x):=rfl
  simp only[CR,Cy,MR,h]
  grind[Nj,rd,APb,QA,Np]
theorem AER{t:TypeId}{x y:Operand}:CR E mv ⟨d,.makeSlice t x y,ty,pos,aft,g⟩ af st K=MR (alG (Ld mv d) (SH E t (rd E af 0 x) (rd E af 0 y) st) (SA E t (rd E af 0 x) (rd E af 0 y) st)) d K af:=by
  simp only[CR,Cy,MR,alG];cases Ld mv d<;>simp only[if_true,if_false,Bool.false_eq_true]
  · cases SA E t (rd E af 0 x) (rd E af 0 y) st<;>rfl
  · cases SH E t (rd E af 0 x) (rd E af 0 y) st<;>rfl
theorem AdW{x:Operand}{t0:TypeId}{ts:List TypeId}:CR E mv ⟨d,.call {callee:=.builtin .unsafeSliceData,args:=⟨[x]⟩,argTypes:=⟨t0::ts⟩},ty,pos,aft,g⟩ af st K=Nn (P7 (rd E af t0 x)) d K (stripAt af x) st:=by
  simp only[CR,Cy,Nn];cases P7 (rd E af t0 x)<;>rfl
theorem Aip{x y:Operand}{t0 t1:TypeId}:CR E mv ⟨d,.call {callee:=.builtin .unsafeString,args:=⟨[x,y]⟩,argTypes:=⟨[t0,t1]⟩},ty,pos,aft,g⟩ af st K=Nn (SS E t0 (rd E af t0 x) (rd E af t1 y)) d K (stripAt af x) st:=by
  simp only[CR,Cy,Nn];cases SS E t0 (rd E af t0 x) (rd E af t1 y)<;>rfl
theorem ANK{f:Fn}{p q:List Operand}:CR E mv ⟨d,.makeFunc f ⟨p⟩ ⟨q⟩,ty,pos,aft,g⟩ af st K=K (AZ af d (AVal.fn f (p.map (rd E af 0)) (q.map (rd E af 0))).strip) st:=KP rfl
theorem ACS{s:TypeId}{x:Operand}{f:Nat}:CR E mv ⟨d,.fieldAddr s x f,ty,pos,aft,g⟩ af st K=J9 (Kr E s (rd E af 0 x) f) d K af st:=KP rfl
theorem Acc{s:TypeId}{x:Operand}{f:Nat}:CR E mv ⟨d,.field s x f,ty,pos,aft,g⟩ af st K=J9 (RI E s (rd E af s x) f) d K af st:=KP rfl
def ixV (y:Option AVal) (st:St):Option (AVal×St):=match y with|some r=>some (r,st)|none=>none
theorem Abx{r:AVal}:ixV (some r) st=some (r,st):=rfl
theorem AJi{t:TypeId}{x i:Operand}:CR E mv ⟨d,.indexAddr t x i,ty,pos,aft,g⟩ af st K=MR (APb (CW E t (rd E af t x) (rd E af 0 i)) (EL E t (rd E af t x) (rd E af 0 i) st) (ixV (Mk E t (rd E af t x) (rd E af 0 i) st) st) st) d K af:=by
  have h:Ck E ⟨d,.indexAddr t x i,ty,pos,aft,g⟩ af=CW E t (rd E af t x) (rd E af 0 i):=rfl
  simp only[CR,Cy,MR,h]
  cases CW E t (rd E af t x) (rd E af 0 i)with
  |some r=>rfl
  | none=>
    simp only[APb]
    cases EL E t (rd E af t x) (rd E af 0 i) st with
    |some r=>rfl
    |none=>simp only[ixV];cases Mk E t (rd E af t x) (rd E af 0 i) st<;>rfl
theorem AfS{t:TypeId}{x i:Operand}:CR E mv ⟨d,.index t x i,ty,pos,aft,g⟩ af st K=J9 (QC E t (rd E af t x) (rd E af 0 i)) d K af st:=KP rfl
def lnK (x y:Option AVal) (d:Option Tmp) (K:List AVal→St→Prop) (af:List AVal) (st:St):Prop:=
  match x with
  |some r=>K (AZ af d r.strip) st
  |none=>Nn y d K af st
theorem Aas{r:AVal}{y:Option AVal}:lnK (some r) y d K af st=K (AZ af d r.strip) st:=rfl
theorem Aei{y:Option AVal}:lnK none y d K af st=Nn y d K af st:=rfl
theorem AkF{x:Operand}{t:TypeId}{ts:List TypeId}:CR E mv ⟨d,.call {callee:=.builtin .len,args:=⟨[x]⟩,argTypes:=⟨t::ts⟩},ty,pos,aft,g⟩ af st K=lnK (Nf E t (rd E af t x)) (V3 E t (rd E af t x) st) d K af st:=by
  have h:Ck E ⟨d,.call {callee:=.builtin .len,args:=⟨[x]⟩,argTypes:=⟨t::ts⟩},ty,pos,aft,g⟩ af=Nf E t (rd E af t x):=rfl
  simp only[CR,Cy,lnK,h,Nn]
  cases Nf E t (rd E af t x)with
  |some r=>rfl
  |none=>simp only[];cases V3 E t (rd E af t x) st<;>rfl
def lvR (b:Bool) (y:Option (Nat×Nat×List AVal)):Option AVal:=match y with|some (_,_,xs)=>if b=true then some (.int .i64 xs.length)else none|none=>none
theorem Ang{t:TypeId}{i:Nat}:V3 E t (.sh i) st=lvR (Ar E.P t) (Hg st (.sh i)):=by unfold lvR V3;rfl
theorem Ab2{i w:Nat}{xs:List AVal}:lvR true (some (i,w,xs))=some (.int .i64 xs.length):=by simp[lvR]
theorem AkH{t:TypeId}{i:Nat}:Nf E t (.sh i)=none:=rfl
theorem Ak8{x:Operand}{t:TypeId}{ts:List TypeId}:CR E mv ⟨d,.call {callee:=.builtin .cap,args:=⟨[x]⟩,argTypes:=⟨t::ts⟩},ty,pos,aft,g⟩ af st K=J9 (AcH E t (rd E af t x)) d K af st:=KP rfl
theorem Aiw{x y:Operand}{t s:TypeId}:CR E mv ⟨d,.call {callee:=.builtin .copy,args:=⟨[x,y]⟩,argTypes:=⟨[t,s]⟩},ty,pos,aft,g⟩ af st K=J9 (ATP E t (rd E af t x) (rd E af s y)) d K af st:=KP rfl
theorem Akp{x y:Operand}{ts:Array TypeId}:CR E mv ⟨d,.call {callee:=.builtin .min,args:=⟨[x,y]⟩,argTypes:=ts},ty,pos,aft,g⟩ af st K=J9 (AVp (rd E af 0 x) (rd E af 0 y)) d K af st:=KP rfl
theorem AlL{x y:Operand}{ts:Array TypeId}:CR E mv ⟨d,.call {callee:=.builtin .max,args:=⟨[x,y]⟩,argTypes:=ts},ty,pos,aft,g⟩ af st K=J9 (AYN (rd E af 0 x) (rd E af 0 y)) d K af st:=KP rfl
def gdD (d:Option Tmp) (af:List AVal) (want:Bool):Option Bool:=match d with|some i=>gd (af.getD i .any) want|none=>none
def Ll:List Oper→Nat→Option Tmp
  |[],_=>none
  |o::_,0=>o.dst
  |_::os,n+1=>Ll os n
theorem AbY (os:List Oper) (j:Nat):Ll os j=((List.toArray os)[j]?).bind (·.dst):=by
  rw[List.getElem?_toArray]
  induction os generalizing j with
  |nil=>simp[Ll]
  | cons o os ih=>cases j with
    |zero=>simp[Ll]
    |succ j=>grind[Ll]
theorem AQf (os:List Oper) (j:Nat) (want:Bool):gdA ⟨os⟩ af j want=gdD (Ll os j) af want:=by
  rw[AbY];rfl
theorem Ag6:JL E mv ops [] K af st=K af st:=rfl
theorem Aat{op:Op}{os:List Oper}:JL E mv ops (⟨d,op,ty,pos,aft,none⟩::os) K af st=CR E mv ⟨d,op,ty,pos,aft,none⟩ af st (JL E mv ops os K):=rfl
theorem AU0{op:Op}:KI E ops ⟨d,op,ty,pos,aft,none⟩ af st=DN E ⟨d,op,ty,pos,aft,none⟩ af st:=rfl
theorem Ag2{op:Op}{os':List Oper}{j:Nat}{want:Bool}:KI E ⟨os'⟩ ⟨d,op,ty,pos,aft,some (j,want)⟩ af st=
    if gdD (Ll os' j) af want=some true then DN E ⟨d,op,ty,pos,aft,some (j,want)⟩ af st else if gdD (Ll os' j) af want=some false then some (.tuple [])else none:=by
  grind[KI,AQf,gdD,Ll]
def Km (x:Option AVal):Option AVal:=x.map AVal.strip
theorem AME{r:AVal}:Km (some r)=some r.strip:=rfl
theorem Ag8{x:Operand}:DN E ⟨d,.move x,ty,pos,aft,g⟩ af st=some (rd E af ty x).strip:=rfl
theorem AjH{t:TypeId}{x:Operand}:DN E ⟨d,.load t x,ty,pos,aft,g⟩ af st=Km (Nq E t (rd E af 0 x) st):=rfl
def AQ9 (E:Env) (t:TypeId) (x:AVal) (lo hi mx:Option (Option Int)):Option AVal:=match lo,hi,mx with|some l,some h,some m=>Dw E t x l h m|_,_,_=>none
theorem AMk{t:TypeId}{x:AVal}{lo hi mx:Option Int}:AQ9 E t x (some lo) (some hi) (some mx)=Dw E t x lo hi mx:=rfl
theorem AaL{t:TypeId}{x:Operand}{lo hi mx:Option Operand}:DN E ⟨d,.slice t x lo hi mx,ty,pos,aft,g⟩ af st=AQ9 E t (rd E af t x) (rdo E af lo) (rdo E af hi) (rdo E af mx):=by
  grind[DN,AQ9,rdo]
theorem Xr{t:TypeId}{n:Nat}{ps:List (Nat×Operand)}:DN E ⟨d,.buildSlice t n ⟨ps⟩,ty,pos,aft,g⟩ af st=EZ E t n (BC E (fun _=>AC E.P t 0) af ps).2:=rfl
theorem AiT{c x y:Operand}:DN E ⟨d,.pick c x y,ty,pos,aft,g⟩ af st=Km (Abd (rd E af 0 c) (rd E af ty x) (rd E af ty y)):=rfl
theorem AMw{x:Operand}:DN E ⟨d,.nilCheck x,ty,pos,aft,g⟩ af st=Km (Jt (rd E af 0 x)):=rfl
theorem Abh{op:BinOp}{t u:TypeId}{x y:Operand}:DN E ⟨d,.binOp op t x y u,ty,pos,aft,g⟩ af st=Km (Dh E op t (rd E af t x) (rd E af t y)):=rfl
theorem Aha{op:UnOp}{t:TypeId}{x:Operand}:DN E ⟨d,.unOp op t x,ty,pos,aft,g⟩ af st=Km (unA op (rd E af 0 x)):=rfl
theorem APe{s t:TypeId}{x:Operand}:DN E ⟨d,.convert s t x,ty,pos,aft,g⟩ af st=Km (Nj E s t (rd E af s x)):=rfl
theorem AMt{f:Fn}{p q:List Operand}:DN E ⟨d,.makeFunc f ⟨p⟩ ⟨q⟩,ty,pos,aft,g⟩ af st=some (AVal.fn f (p.map (rd E af 0)) (q.map (rd E af 0))).strip:=rfl
theorem AGW{s:TypeId}{x:Operand}{f:Nat}:DN E ⟨d,.fieldAddr s x f,ty,pos,aft,g⟩ af st=Km (Kr E s (rd E af 0 x) f):=rfl
theorem Acx{s:TypeId}{x:Operand}{f:Nat}:DN E ⟨d,.field s x f,ty,pos,aft,g⟩ af st=Km (RI E s (rd E af s x) f):=rfl
def ixO (x y z:Option AVal):Option AVal:=match x with|some r=>some r.strip|none=>match y with|some _=>none|none=>z
theorem Ac8{r:AVal}{y z:Option AVal}:ixO (some r) y z=some r.strip:=rfl
theorem Aes{z:Option AVal}:ixO none none z=z:=rfl
theorem AFe{t:TypeId}{x i:Operand}:DN E ⟨d,.indexAddr t x i,ty,pos,aft,g⟩ af st=ixO (CW E t (rd E af t x) (rd E af 0 i)) (EL E t (rd E af t x) (rd E af 0 i) st) (Mk E t (rd E af t x) (rd E af 0 i) st):=rfl
theorem Adn{t:TypeId}{x i:Operand}:DN E ⟨d,.index t x i,ty,pos,aft,g⟩ af st=Km (QC E t (rd E af t x) (rd E af 0 i)):=rfl
def lnO (x y:Option AVal):Option AVal:=match x with|some r=>some r.strip|none=>y
theorem AcR{r:AVal}{y:Option AVal}:lnO (some r) y=some r.strip:=rfl
theorem AeT{y:Option AVal}:lnO none y=y:=rfl
theorem AmU{x:Operand}{t:TypeId}{ts:List TypeId}:DN E ⟨d,.call {callee:=.builtin .len,args:=⟨[x]⟩,argTypes:=⟨t::ts⟩},ty,pos,aft,g⟩ af st=lnO (Nf E t (rd E af t x)) (V3 E t (rd E af t x) st):=rfl
theorem Aj8{x:Operand}{t:TypeId}{ts:List TypeId}:DN E ⟨d,.call {callee:=.builtin .cap,args:=⟨[x]⟩,argTypes:=⟨t::ts⟩},ty,pos,aft,g⟩ af st=Km (AcH E t (rd E af t x)):=rfl
theorem Alc{x y:Operand}{ts:Array TypeId}:DN E ⟨d,.call {callee:=.builtin .min,args:=⟨[x,y]⟩,argTypes:=ts},ty,pos,aft,g⟩ af st=Km (AVp (rd E af 0 x) (rd E af 0 y)):=rfl
theorem Ak5{x y:Operand}{ts:Array TypeId}:DN E ⟨d,.call {callee:=.builtin .max,args:=⟨[x,y]⟩,argTypes:=ts},ty,pos,aft,g⟩ af st=Km (AYN (rd E af 0 x) (rd E af 0 y)):=rfl
theorem AkX{op:Op}:gWp E mv ops ⟨d,op,ty,pos,aft,none⟩ af st K=CR E mv ⟨d,op,ty,pos,aft,none⟩ af st K:=rfl
theorem Anb:gd (.bool true) true=some true:=rfl
theorem AnN:gd (.bool true) false=some false:=rfl
theorem Am6:gd (.bool false) true=some false:=rfl
theorem AnR:gd (.bool false) false=some true:=rfl
theorem AfD{want:Bool}:gd (.tuple []) want=some false:=rfl
theorem AcE{i:Nat}{want:Bool}:gdD (some i) af want=gd (af.getD i .any) want:=rfl
def opAt:List Oper→Nat→Option Oper
  |[],_=>none
  |o::_,0=>some o
  |_::os,n+1=>opAt os n
theorem AJe (os:List Oper) (j:Nat):opAt os j=(List.toArray os)[j]?:=by
  rw[List.getElem?_toArray]
  induction os generalizing j with
  |nil=>simp[opAt]
  | cons o os ih=>cases j with
    |zero=>simp[opAt]
    |succ j=>grind[opAt]
def tkR (E:Env) (mv:List Tmp) (os:List Oper) (x:Option AVal) (i:Nat) (d:Option Tmp) (p:Plan) (tv:List (Nat×AVal)) (K:List AVal→St→Prop) (af:List AVal) (st:St):Prop:=
  match x with|some r=>EX E mv ⟨os⟩ p ((i,r)::tv) K (AZ af d r) st|none=>False
def tkO (E:Env) (mv:List Tmp) (os:List Oper) (x:Option Oper) (i:Nat) (p:Plan) (tv:List (Nat×AVal)) (K:List AVal→St→Prop) (af:List AVal) (st:St):Prop:=
  match x with|some o=>tkR E mv os (KI E ⟨os⟩ o af st) i o.dst p tv K af st|none=>False
def AaU (E:Env) (mv:List Tmp) (os:List Oper) (chk:List Nat) (p:Plan) (tv:List (Nat×AVal)) (K:List AVal→St→Prop) (af:List AVal) (st:St):Prop:=
  NN E ⟨os⟩ tv af st chk∧EX E mv ⟨os⟩ p tv K af st
def Agp (E:Env) (mv:List Tmp) (os:List Oper) (x:Option Oper) (chk:List Nat) (p:Plan) (tv:List (Nat×AVal)) (K:List AVal→St→Prop) (af:List AVal) (st:St):Prop:=
  match x with|some o=>gWp E mv ⟨os⟩ o af st (AaU E mv os chk p tv K)|none=>False
def AnJ (E:Env) (os:List Oper) (x:Option AVal) (o:Option Oper) (af:List AVal) (st:St):Prop:=
  match x,o with|some r,some o=>KI E ⟨os⟩ o af st=some r|_,_=>False
variable{os:List Oper}{tv:List (Nat×AVal)}{p rest:Plan}{chk:List Nat}{i:Nat}
theorem AcG{op:Op}:tkO E mv os (some ⟨d,op,ty,pos,aft,g⟩) i p tv K af st=tkR E mv os (KI E ⟨os⟩ ⟨d,op,ty,pos,aft,g⟩ af st) i d p tv K af st:=rfl
theorem AbX{r:AVal}:tkR E mv os (some r) i d p tv K af st=EX E mv ⟨os⟩ p ((i,r)::tv) K (AZ af d r) st:=rfl
theorem AYI{o:Oper}:Agp E mv os (some o) chk p tv K af st=gWp E mv ⟨os⟩ o af st (AaU E mv os chk p tv K):=rfl
theorem Ac6:AaU E mv os chk p tv K af st=(NN E ⟨os⟩ tv af st chk∧EX E mv ⟨os⟩ p tv K af st):=rfl
theorem AVb:EX E mv ⟨os⟩ .done tv K af st=K af st:=rfl
theorem AUy:EX E mv ⟨os⟩ .stop tv K af st=True:=rfl
theorem AVZ:EX E mv ⟨os⟩ (.take i p) tv K af st=tkO E mv os (opAt os i) i p tv K af st:=by
  rw[AJe];rfl
theorem Abc:EX E mv ⟨os⟩ (.alt i chk p rest) tv K af st=(Agp E mv os (opAt os i) chk p tv K af st∧EX E mv ⟨os⟩ rest tv K af st):=by
  rw[AJe];rfl
theorem Ahr:NN E ⟨os⟩ tv af st []=True:=rfl
theorem AbB{k:Nat}{ks:List Nat}:NN E ⟨os⟩ tv af st (k::ks)=(AnJ E os (Rv tv k) (opAt os k) af st∧NN E ⟨os⟩ tv af st ks):=by
  rw[AJe];rfl
theorem AU2{r:AVal}{o:Oper}:AnJ E os (some r) (some o) af st=(KI E ⟨os⟩ o af st=some r):=rfl
end ops
end
end Go.VM
set_option linter.unusedVariables false
namespace Go.VM
def grd{α:Type} (c:Prop) [Decidable c] (x:Option α):Option α:=if c then x else none
def Ak1{α:Type} (x:Option α):Option α:=x
theorem AiM{α:Type}{x:Option α}:Ak1 x=x:=rfl
inductive PC where
  |k
  |w
  |v (x:AVal)
inductive BX where
  |k
  |d
  |s (c:List AVal)
  |t (c:Nat→List AVal)
  |p (ps:List PC)
inductive JD (α:Type) where
  |z
  |a (id:Nat×Nat) (js:List (Nat×Nat)) (cs:List Tmp) (V:α→List AVal)
  |b (id:Nat×Nat) (js:List (Nat×Nat)) (cs:List Tmp) (V:α→List AVal) (Ms:α→List BX)
  |n (id:Nat×Nat) (js:List (Nat×Nat)) (cs:List Tmp) (p:Tmp) (V:α→Nat→List AVal) (Ms:α→Nat→List BX) (C:α→Nat→List AVal)
def AA{α β:Type} (k:α→Option β) (body:(α→Option β)→Option β) (d:JD α:=.z):Option β:=body k
theorem VQ{α:Type}{c:Prop} [Decidable c]{x:Option α}{r:α} (h:grd c x=some r):c∧x=some r:=by
  grind[grd]
theorem bind_some{α β:Type}{x:Option α}{f:α→Option β}{r:β} (h:Option.bind x f=some r): ∃y,x=some y∧f y=some r:=by
  cases x with
  |none=>cases h
  |some y=>grind
def letL{α β:Type} (x:α) (f:α→Option β):Option β:=f x
def idx{α:Type} (l:List α) (i:Int):Option α:=if 0≤i then l[i.toNat]? else none
def sub{α:Type} (l:List α) (a b:Int):Option (List α):=if 0≤a∧a≤b∧b≤l.length then some ((l.drop a.toNat).take (b.toNat-a.toNat))else none
theorem ATb{α:Type}{l:List α}{n:Int}{x:α} (h:idx l n=some x):l[n.toNat]?=some x:=by
  unfold idx at h;split at h<;>simp_all
theorem Ahk{α β:Type} (f:α→β) (l:List α) (i:Int):idx (l.map f) i=(idx l i).map f:=by
  unfold idx;split<;>simp
class EO (α:Type) (f:outParam (α→AVal)):Prop
theorem Anr{α:Type}{f:α→AVal} [EO α f]{a b:List α} (c:a=b):List.map f a=List.map f b:=congrArg _ c
theorem AjA{α β:Type} (f:α→β) (l:List α) (a b:Int):sub (l.map f) a b=(sub l a b).map (List.map f):=by
  unfold sub;simp only[List.length_map];split<;>simp[List.map_take,List.map_drop]
def Ah (n b:Nat):Prop:=n * b≤140737488355328∧n≤4611686018427387904
instance (n b:Nat):Decidable (Ah n b):=by unfold Ah;infer_instance
def AU (n:Nat):Prop:=n≤4611686018427387904
instance (n:Nat):Decidable (AU n):=by unfold AU;infer_instance
def wr (k:IntKind) (n:Int):Int:=k.wrap n
def LM (k:IntKind) (a b:Int):Int:=k.wrap (BitVec.ofInt k.bits a&&&BitVec.ofInt k.bits b).toNat
def Mt (k:IntKind) (a b:Int):Int:=k.wrap (BitVec.ofInt k.bits a|||BitVec.ofInt k.bits b).toNat
def Abs (k:IntKind) (a b:Int):Int:=k.wrap (BitVec.ofInt k.bits a^^^BitVec.ofInt k.bits b).toNat
def Vw (k:IntKind) (a b:Int):Int:=k.wrap (BitVec.ofInt k.bits a&&& ~~~ BitVec.ofInt k.bits b).toNat
def ASD (k:IntKind) (x y:Int):Int:=k.wrap (x * 2^min y.toNat k.bits)
def ABY (k:IntKind) (x y:Int):Int:=x.fdiv (2^min y.toNat k.bits)
section
variable{E:Env}{st:St}{af:List AVal}
def Alf (e:Option Nat) (w:Nat) (y:Option AVal):Option AVal:=
  match y with
  |some y=>if e=some w∧(AV y).length=w then some (.cptr (AV y))else none
  |none=>none
theorem Aef{t:TypeId}{w:Nat}{xs:List AVal}{o:Bool}{k:IntKind}{n:Int}:CW E t (.slice w xs o) (.int k n)=Alf (BB E.P t) w (idx xs n):=by
  simp only[CW,Alf,idx]
  by_cases h1:BB E.P t=some w<;>by_cases h2:0≤n<;>simp[h1,h2]<;>cases xs[n.toNat]?<;>simp
theorem AWf{e:Option Nat}{w:Nat}{y:AVal}:Alf e w (some y)=if e=some w∧(AV y).length=w then some (.cptr (AV y))else none:=rfl
def Al2 (b:Bool) (x:Option UInt8):Option AVal:=match x with|some c=>if b=true then some (.int .u8 c.toNat)else none|none=>none
theorem Alq{t:TypeId}{s:List UInt8}{k:IntKind}{n:Int}:QC E t (.str s) (.int k n)=Al2 (CZ E.P t) (idx s n):=by
  simp only[QC,Al2,idx]
  cases CZ E.P t<;>by_cases h2:0≤n<;>simp[h2]<;>cases s[n.toNat]?<;>simp
theorem AUz{c:UInt8}:Al2 true (some c)=some (.int .u8 (AX c)):=rfl
def AmR (b:Bool) (x:Option (List UInt8)):Option AVal:=match x with|some s=>if b=true then some (.str s)else none|none=>none
theorem AkJ{t:TypeId}{s:List UInt8}{lo hi:Option Int}:Dw E t (.str s) lo hi none=AmR (CZ E.P t) (sub s (lo.getD 0) (hi.getD s.length)):=by
  simp only[Dw,AmR,sub]
  by_cases h:0≤lo.getD 0∧lo.getD 0≤hi.getD s.length∧hi.getD s.length≤s.length
  · rw[if_pos h]
    cases CZ E.P t
    · rw[if_neg (by simp)];rfl
    · rw[if_pos ⟨rfl,trivial,h⟩];rfl
  · rw[if_neg h,if_neg (fun k=>h k.2.2)]
theorem AX9{s:List UInt8}:AmR true (some s)=some (.str s):=rfl
def Y7 (e:Option Nat) (w:Nat) (o:Bool) (x:Option (List AVal)):Option AVal:=match x with|some s=>if e=some w then some (.slice w s o)else none|none=>none
theorem AcI{t:TypeId}{w:Nat}{xs:List AVal}{o:Bool}{lo hi:Option Int}:Dw E t (.slice w xs o) lo hi none=Y7 (BB E.P t) w false (sub xs (lo.getD 0) (hi.getD xs.length)):=by
  grind[Dw,Y7,sub,BB]
theorem AXn{t:TypeId}{w:Nat}{xs:List AVal}{o:Bool}{lo:Option Int}{h:Int}:Dw E t (.slice w xs o) lo (some h) (some h)=Y7 (BB E.P t) w true (sub xs (lo.getD 0) h):=by
  grind[Dw,Y7,sub,BB]
theorem AXp{w:Nat}{o:Bool}{s:List AVal}:Y7 (some w) w o (some s)=some (.slice w s o):=by simp[Y7]
def ASA (e:Option (Nat×Nat)) (i:Option IntKind) (b:Bool) (wd:Nat) (xs:List AVal) (ys:Option (List AVal)):Option AVal:=
  match e,ys with
  |some (z,by_),some ys=>if z=wd∧i=none∧b=true∧Ah (xs.length+ys.length) by_ then some (.slice wd (xs++ys) true)else none
  |_,_=>none
set_option linter.unusedSimpArgs false in
theorem AaX{t0 t1:TypeId}{wd:Nat}{xs:List AVal}{y:AVal}:Fx E t0 t1 (.slice wd xs true) y=ASA (Ff E.P t0) (EI E.P t1) (Aa E.P t1) wd xs (Lu wd y):=by
  simp only[Fx,KY,ASA]
  rcases Ff E.P t0 with _|⟨z,b⟩<;>rcases Lu wd y with _|ys<;>try rfl
theorem AXl{wd by_:Nat}{xs ys:List AVal}:ASA (some (wd,by_)) none true wd xs (some ys)=if Ah (xs.length+ys.length) by_ then some (.slice wd (xs++ys) true)else none:=by simp[ASA]
theorem ASZ{wd:Nat}{ys:List AVal}{o:Bool}:Lu wd (.slice wd ys o)=some ys:=by simp[Lu]
theorem Acd{l:List UInt8}:Lu 1 (.str l)=some ((l.map AX).map (.int .u8)):=by simp[Lu,AX]
def apB (i:Bool) (e:Option (Nat×Nat)) (n:Option IntKind) (b:Bool) (el:TypeId) (l m:List UInt8):Option AVal:=
  match i,e,n,b with
  |true,some (1,by_),none,true=>if Ah (l.length+m.length) by_ then some (.buf el (l++m) true)else none
  |_,_,_,_=>none
theorem Ack{by_:Nat}{el:TypeId}{l m:List UInt8}:apB true (some (1,by_)) none true el l m=if Ah (l.length+m.length) by_ then some (.buf el (l++m) true)else none:=rfl
theorem AkP{t0 t1 el:TypeId}{l m:List UInt8}:Fx E t0 t1 (.buf el l true) (.str m)=apB (Vh E.P t0 el) (Ff E.P t0) (EI E.P t1) (Aa E.P t1) el l m:=by
  have hl:(u8s l).length=l.length:=by simp[u8s]
  cases h1:Vh E.P t0 el
  · grind[Fx,apB]
  rcases h2:Ff E.P t0 with _|⟨z,by_⟩
  · grind[Fx,KY,apB]
  cases h3:EI E.P t1
  · cases h4:Aa E.P t1
    · grind[Fx,KY,Lu,apB]
    · by_cases hz:z=1
      · subst hz
        rw[Ack]
        by_cases hf:Ah (l.length+m.length) by_
        · have hf':=hf
          unfold Ah at hf'
          simp[Fx,KY,h1,h2,h3,h4,Lu,hl,hf,Bf]
          exact hf'
        · have hf':=hf
          unfold Ah at hf'
          simp[Fx,KY,h1,h2,h3,h4,Lu,hl,hf,Bf]
          intro k1
          have:=fun k2=>hf' ⟨k1,k2⟩
          omega
      · have:apB true (some (z,by_)) none true el l m=none:=by
          unfold apB
          split
          · rename_i e1 e2 e3 e4;cases e2;exact absurd rfl hz
          · rfl
        rw[this]
        simp[Fx,KY,h2,h3,h4,Lu,hz]
  grind[Fx,KY,Lu,apB]
theorem Ag5{a b:List UInt8}:WS .add a b=if AU (a.length+b.length)then some (.str (a++b))else none:=by simp only[WS,Bf];by_cases h:a.length+b.length≤4611686018427387904<;>simp[h,AU]
theorem AA8{i:Nat}{c:List AVal}{m:List (Nat×List AVal)}:Ab ((i,c)::m) i=some c:=by simp[Ab]
theorem Sv{i j:Nat}{c:List AVal}{m:List (Nat×List AVal)} (h:i≠j):Ab ((j,c)::m) i=Ab m i:=by grind[Ab]
theorem ATu{i:Nat}{c x:List AVal}{m:List (Nat×List AVal)}:Ak ((i,c)::m) i x=(i,x)::m:=by simp[Ak]
theorem AS7{i j:Nat}{c x:List AVal}{m:List (Nat×List AVal)} (h:i≠j):Ak ((j,c)::m) i x=(j,c)::Ak m i x:=by grind[Ak]
theorem ACall.of{f:FuncId}{args args':List AVal}{Q Q':AVal→St→Prop} (hc:ACall E f args' st Q') (ha:args=args') (hq: ∀r st',st.next≤st'.next→Q' r st'→Q r st'):ACall E f args st Q:=by
  subst ha;exact hc.mono hq
def Om:List AVal→AVal
  |[r]=>r
  |rs=>.tuple rs
theorem Hz{fn:Func}{Q:AVal→St→Prop}{xs:List AVal}{st':St}{m:List (Nat×List AVal)} (h:Mq E fn.results.toList af st=some (xs,st')) (hm:m.Sublist st'.m)
    (hq:Q (Om xs) {st' with m:=m}):He E fn Q .ret af st:=by
  unfold He;rw[h];exact⟨m,hm,hq⟩
theorem IC{fn:Func}{Q:AVal→St→Prop}{xs:List AVal}{st':St}{m:List (Nat×List AVal)} (h:Mq E fn.results.toList af st=some (xs,st')) (hm:m.Sublist st'.m)
    (hq:Q (Om xs) {st' with m:=m}):He E fn Q .normal af st:=by
  unfold He;rw[h];exact⟨m,hm,hq⟩
theorem AWp.congr{c:Code}{Q:APost}{af':List AVal} (h:af=af') (k:AWp E c Q af' st):AWp E c Q af st:=h▸k
def stripB:List Bool→List AVal→List AVal
  |true::bs,x::xs=>x.strip::stripB bs xs
  |false::bs,x::xs=>x::stripB bs xs
  |[],xs=>xs
  |_::_,[]=>[]
theorem OH: ∀(bs:List Bool) (xs:List AVal),(stripB bs xs).length=xs.length
  |[],xs=>by rw[stripB]
  |_::_,[]=>by rw[stripB]
  |true::bs,x::xs=>by rw[stripB,List.length_cons,List.length_cons,OH bs xs]
  |false::bs,x::xs=>by rw[stripB,List.length_cons,List.length_cons,OH bs xs]
theorem Md{Γ:Ghost}: ∀(bs:List Bool) (xs:List AVal) (vs:List Value),RepL Γ xs vs→RepL Γ (stripB bs xs) vs
  |[],xs,vs,h=>by grind[stripB]
  |_::_,[],vs,h=>by grind[stripB]
  | true::bs,x::xs,vs,h=>by
    cases h with
    |cons h t=>rw[stripB];exact .cons h.strip (Md bs _ _ t)
  | false::bs,x::xs,vs,h=>by
    cases h with
    |cons h t=>rw[stripB];exact .cons h (Md bs _ _ t)
theorem MM{Γ:Ghost}{w:World}: ∀(bs:List Bool) (xs:List AVal) (vs:List Value),ownL Γ w xs vs→ownL Γ w (stripB bs xs) vs
  |[],xs,vs,h=>by grind[stripB]
  |_::_,[],vs,h=>by grind[stripB]
  |true::bs,x::xs,[],h=>by grind[stripB,ownL]
  |false::bs,x::xs,[],h=>by grind[stripB,ownL]
  |true::bs,x::xs,v::vs,h=>by rw[ownL]at h;rw[stripB,ownL];exact⟨JK _ _ _ _,MM bs xs vs h.2⟩
  |false::bs,x::xs,v::vs,h=>by rw[ownL]at h;rw[stripB,ownL];exact⟨h.1,MM bs xs vs h.2⟩
theorem Ma (b:Nat): ∀(bs:List Bool) (xs:List AVal) (vs:List Value),AP b (stripB bs xs) vs≤AP b xs vs
  |[],xs,vs=>by simp_all[stripB]
  |_::_,[],vs=>by simp_all[stripB]
  |true::bs,x::xs,[]=>by grind[stripB,AP]
  |false::bs,x::xs,[]=>by grind[stripB,AP]
  | true::bs,x::xs,v::vs=>by
    have:=Ma b bs xs vs
    grind[stripB,AP,FM]
  | false::bs,x::xs,v::vs=>by
    have:=Ma b bs xs vs
    grind[stripB,AP]
theorem Sim.stripCells{F:Nat→Nat}{Γ:Ghost}{w:World}{a:Act}{i:Nat}{cs:List AVal} (bs:List Bool) (hs:Sim E F Γ st w af a.tmps.toList) (hg:Ab st.m i=some cs):Sim E F Γ {st with m:=Ak st.m i (stripB bs cs)} w af a.tmps.toList:=by
  rcases hs.box_ok _ (Ip hg)with⟨b,arr,e,hb⟩|⟨v,hv⟩
  rotate_left
  · exact hs.setSh hg hv (Md bs _ _ hv.rep) (MM bs _ _ hv.own) fun n=>by
      have h1:=Ma n bs cs [v]
      have h2:=hs.tok n
      omega
  obtain⟨lo,hi,hh,hf⟩:=hb.heap
  exact(hs.setBox (w':=w) (cs':=stripB bs cs) (arr':=arr) (lo:=lo) (hi:=hi) hg hb hh hf (fun _ _=>rfl) rfl rfl rfl rfl (by rw[OH];exact Md bs _ _ hb.rep) (MM bs _ _ hb.own) (by rw[OH];exact hb.one)
          (fun n=>by
            have h1:=Ma n bs cs arr.toList
            have h2:=hs.tok n
            omega)).1
theorem AJq{c:Code}{Q:APost}{i j p:Nat}{cs:List AVal}{x:AVal} (hij:j≠i) (hg:Ab st.m j=some cs) (h2:2≤cs.length) (hc:cs[p]?=some (.sh i)) (hi:Ab st.m i=some [x]) (h:AWp E c Q af {st with m:=Ak (Ak st.m i [x.strip]) j (cs.set p x)}):AWp E c Q af st:=
  ⟨fun F Γ w a hd hs=>h.go F Γ w a hd (hs.unshCell hij hg h2 hc hi)⟩
theorem VP{c:Code}{Q:APost}{m m':List (Nat×List AVal)}{n:Nat} (hp:m.Perm m') (h:AWp E c Q af ⟨m',n⟩):AWp E c Q af ⟨m,n⟩:=
  ⟨fun F Γ w a hd hs=>h.go F Γ w a hd (hs.perm hp)⟩
theorem ACall.perm{f:FuncId}{args:List AVal}{Q:AVal→St→Prop}{m m':List (Nat×List AVal)}{n:Nat} (hp:m.Perm m') (h:ACall E f args ⟨m',n⟩ Q):ACall E f args ⟨m,n⟩ Q:=
  ⟨fun F Γ w cargs hs=>h.go F Γ w cargs (hs.perm hp)⟩
theorem AWp.nodup{c:Code}{Q:APost} (h:(st.m.map (·.1)).Nodup→AWp E c Q af st):AWp E c Q af st:=
  ⟨fun F Γ w a hd hs=>(h hs.keys).go F Γ w a hd hs⟩
theorem Nk: ∀ {m:List (Nat×List AVal)}{i:Nat}{c x:List AVal},Ab m i=some c→((i,x)::Ce m i).Perm (Ak m i x)
  |[],_,_,_,h=>by grind[Ab]
  | (j,d)::m,i,c,x,h=>by
    simp only[Ab]at h
    simp only[Ce,Ak]
    split at h
    · simp_all
    · rename_i e
      rw[if_neg e,if_neg e]
      exact(List.Perm.swap _ _ _).trans ((Nk h).cons _)
theorem TS: ∀ {m:List (Nat×List AVal)}{i j:Nat},i≠j→Ab (Ce m i) j=Ab m j
  |[],_,_,_=>rfl
  | (k,d)::m,i,j,h=>by
    simp only[Ce]
    split
    · rename_i e;subst e;simp only[Ab];rw[if_neg (fun e=>h e.symm)]
    · simp only[Ab];rw[TS h]
theorem Y0: ∀ {m:List (Nat×List AVal)}{i j:Nat}{x:List AVal},i≠j→Ak (Ce m i) j x=Ce (Ak m j x) i
  |[],_,_,_,_=>rfl
  | (k,d)::m,i,j,x,h=>by
    by_cases e:i=k
    · subst e;simp only[Ce,if_true,Ak];rw[if_neg (fun e=>h e.symm)];simp[Ce]
    · by_cases e2:j=k
      · grind[Ce,Ak]
      · simp only[Ce,Ak,if_neg e,if_neg e2];rw[Y0 h]
theorem ACall.front{f:FuncId}{args:List AVal}{m:List (Nat×List AVal)}{n i:Nat}{c:List AVal}{Q:AVal→St→Prop} (hi:Ab m i=some c)
    (h:i<n→ACall E f args ⟨(i,c)::Ce m i,n⟩ fun r st'=> ∃c',st'.m=(i,c')::Ce m i∧Q r ⟨Ak m i c',st'.next⟩):ACall E f args ⟨m,n⟩ Q:=by
  refine ACall.known fun _ hk=>?_
  have hin:i<n:=by
    rcases Nat.lt_or_ge i n with h'|h'
    · omega
    · have:=hk i h';grind
  constructor
  intro F Γ w cargs hs
  refine((h hin).go F Γ w cargs (hs.perm (IQ hi))).mono ?_
  rintro e w' ⟨v,he,Γ',r,⟨m',n'⟩,h1,h2,h3,c',hm,hq⟩
  simp only at hm
  subst hm
  exact⟨v,he,Γ',r,⟨Ak m i c',n'⟩,h1,h2,h3.perm (Nk hi),hq⟩
end
end Go.VM
set_option linter.unusedVariables false
set_option linter.defProp false
set_option maxRecDepth 100000
namespace Go.VM
section
variable{E:Env}{t:TypeId}{k:IntKind}{a b:Int}
theorem AlZ:Dh E .add t (.int k a) (.int k b)=some (.int k (wr k (a+b))):=by simp[Dh,Ia,wr]
theorem Akj:Dh E .sub t (.int k a) (.int k b)=some (.int k (wr k (a-b))):=by simp[Dh,Ia,wr]
theorem AkW:Dh E .mul t (.int k a) (.int k b)=some (.int k (wr k (a * b))):=by simp[Dh,Ia,wr]
theorem Al7:Dh E .quo t (.int k a) (.int k b)=if b=0 then none else some (.int k (wr k (a.tdiv b))):=by simp[Dh,Ia,wr]
theorem AlO:Dh E .rem t (.int k a) (.int k b)=if b=0 then none else some (.int k (a.tmod b)):=by simp[Dh,Ia]
theorem Ak3:Dh E .and t (.int k a) (.int k b)=some (.int k (LM k a b)):=by simp[Dh,Ia,LM]
theorem Amu:Dh E .or t (.int k a) (.int k b)=some (.int k (Mt k a b)):=by simp[Dh,Ia,Mt]
theorem Aki{n:Int}:unA .xor (.int .i64 n)=some (.int .i64 (Abs .i64 (-1) n)):=rfl
theorem Akq:Dh E .xor t (.int k a) (.int k b)=some (.int k (Abs k a b)):=by simp[Dh,Ia,Abs]
theorem AUS:Dh E .andNot t (.int k a) (.int k b)=some (.int k (Vw k a b)):=by simp[Dh,Ia,Vw]
theorem AlD:Dh E .eql t (.int k a) (.int k b)=some (.bool (a==b)):=by simp[Dh,Ia]
theorem Ali:Dh E .neq t (.int k a) (.int k b)=some (.bool (a !=b)):=by simp[Dh,Ia]
theorem AkS:Dh E .lss t (.int k a) (.int k b)=some (.bool (decide (a<b))):=by simp[Dh,Ia]
theorem Akx:Dh E .leq t (.int k a) (.int k b)=some (.bool (decide (a≤b))):=by simp[Dh,Ia]
theorem AmK:Dh E .gtr t (.int k a) (.int k b)=some (.bool (decide (a>b))):=by simp[Dh,Ia]
theorem Alk:Dh E .geq t (.int k a) (.int k b)=some (.bool (decide (a≥b))):=by simp[Dh,Ia]
theorem Ak0{j:IntKind}:Dh E .shl t (.int k a) (.int j b)=if b<0 then none else some (.int k (ASD k a b)):=by simp[Dh,Vi,ASD]
theorem AlE{j:IntKind}:Dh E .shr t (.int k a) (.int j b)=if b<0 then none else some (.int k (ABY k a b)):=by simp[Dh,Vi,ABY]
variable{x y:List UInt8}{p q:Bool}
theorem Ajb:Dh E .add t (.str x) (.str y)=if AU (x.length+y.length)then some (.str (x++y))else none:=Ag5
theorem Ahz:Dh E .eql t (.str x) (.str y)=some (.bool (x==y)):=rfl
theorem AiA:Dh E .neq t (.str x) (.str y)=some (.bool (!(x==y))):=rfl
theorem Aif:Dh E .lss t (.str x) (.str y)=some (.bool (Op.bytesLess x y)):=rfl
theorem AhR:Dh E .leq t (.str x) (.str y)=some (.bool (Op.bytesLess x y||x==y)):=rfl
theorem Ahx:Dh E .gtr t (.str x) (.str y)=some (.bool (!(Op.bytesLess x y||x==y))):=rfl
theorem Agk:Dh E .geq t (.str x) (.str y)=some (.bool (!(Op.bytesLess x y))):=rfl
theorem Agd:Dh E .eql t (.bool p) (.bool q)=if Ry E.P t=true then some (.bool (p==q))else none:=rfl
theorem AhQ:Dh E .neq t (.bool p) (.bool q)=if Ry E.P t=true then some (.bool (!(p==q)))else none:=rfl
def Aar (op:BinOp) (g:Bool) (e:Option Bool):Option AVal:=
  if g=true then none else
    match op,e with
    |.eql,some b=>some (.bool b)
    |.neq,some b=>some (.bool (!b))
    |_,_=>none
theorem Alu{op:BinOp}{xs ys:List AVal}:Dh E op t (.agg xs) (.agg ys)=Aar op (E.P.eqGuardType E.P.depth t) (eqA E.P 10000 t (.agg xs) (.agg ys)):=rfl
theorem AXU:Aar .eql false (some p)=some (.bool p):=rfl
theorem AXx:Aar .neq false (some p)=some (.bool (!p)):=rfl
def cvI (g:Bool) (st:Bool) (k:Option IntKind) (n:Int):Option AVal:=if(g&&st)=true then some (.str (AHs n))else if g=true then(match k with|some k=>some (.int k (wr k n))|none=>none)else none
theorem AlK{s d:TypeId}{n:Int}:Nj E s d (.int k n)=cvI (Aa E.P s) (CZ E.P d) (EI E.P d) n:=rfl
theorem Ab9{n:Int}:cvI true false (some k) n=some (.int k (wr k n)):=rfl
theorem AjZ{n:Int}{j:Option IntKind}:cvI true true j n=some (.str (AHs n)):=rfl
def cvS (g h:Bool) (l:List UInt8):Option AVal:=if(g&&h)=true then some (.str l)else none
theorem Aky{s d:TypeId}{l:List UInt8}:Nj E s d (.str l)=cvS (Aa E.P s) (CZ E.P d) l:=rfl
theorem Ael{l:List UInt8}:cvS true true l=some (.str l):=rfl
theorem Adf{s d:TypeId}{w:Nat}{xs:List AVal}{o:Bool}:Nj E s d (.slice w xs o)=strOf (u8T E.P s&&CZ E.P d) (bytesOf xs):=rfl
theorem AR7{l:List UInt8}:strOf true (some l)=some (.str l):=rfl
theorem bytesOf_map{l:List Int}:bytesOf (l.map (AVal.int .u8))=some (l.map Ij):=by
  induction l<;>grind[bytesOf]
theorem Od{n:Int}{xs:List AVal}:bytesOf (.int .u8 n::xs)=(bytesOf xs).map (Ij n:: ·):=rfl
theorem AML:bytesOf []=some []:=rfl
theorem AMS{xs ys:List AVal}:bytesOf (xs++ys)=(bytesOf xs).bind fun a=>(bytesOf ys).map (a++ ·):=by
  induction xs with
  |nil=>cases h:bytesOf ys<;>simp[bytesOf,h]
  | cons x xs ih=>
    rw[List.cons_append]
    cases x with
    | int k n=>
      cases k<;>try rfl
      rw[Od,Od,ih]
      cases bytesOf xs<;>cases bytesOf ys<;>simp
    |_=>rfl
theorem AkV{l:List UInt8}:cvS true false l=none:=rfl
theorem AkL{s d:TypeId}{w i l:Nat}:Nj E s d (.gsl w i l)=none:=rfl
theorem Alg{s d:TypeId}{w i o l:Nat}:Nj E s d (.bsl w i o l)=none:=rfl
theorem AkO{s d:TypeId}{i o:Nat}:Nj E s d (.ptr i o)=none:=rfl
section
variable{s d:TypeId}{st:St}
theorem AkQ{l:List UInt8}:QA E s d (.str l) st=none:=rfl
theorem AmM{w i l:Nat}:QA E s d (.gsl w i l) st=none:=rfl
theorem AkU{w i o l:Nat}:QA E s d (.bsl w i o l) st=none:=rfl
def cuB (b:Bool) (i:Nat):Option AVal:=if b=true then some (.ptr i 0)else none
theorem AaM{i:Nat}:cuB true i=some (.ptr i 0):=rfl
def cuR (E:Env) (s d:TypeId) (i:Nat) (x:Option (List AVal)):Option AVal:=
  match x with
  |some (.nself j T n::_)=>if j=i then cuB (Rw E.P s d T n) i else none
  |_=>none
theorem Ab8{i n:Nat}{T:TypeId}{cs:List AVal}:cuR E s d i (some (.nself i T n::cs))=cuB (Rw E.P s d T n) i:=by simp[cuR]
theorem Ald{i:Nat}:QA E s d (.ptr i 0) st=cuR E s d i (Ab st.m i):=by
  simp only[QA]
  generalize Ab st.m i=x
  unfold cuR
  split
  · rename_i j T n rest
    simp only[cuB]
    by_cases h1:j=i<;>by_cases h2:Rw E.P s d T n=true<;>simp[h1,h2]
  simp
def F8 (i:Nat) (T:TypeId) (n:Nat) (b:Bool):AVal:=if b=true then .ptr i 0 else .nself i T n
theorem Air{i n:Nat}{T:TypeId}:F8 i T n true=.ptr i 0:=rfl
theorem Agy{i n:Nat}{T:TypeId}:F8 i T n false=.nself i T n:=rfl
theorem AVL{i n:Nat}{T:TypeId}{b:Bool}:(F8 i T n b).strip=F8 i T n b:=by cases b<;>simp[F8,AVal.strip]
theorem AYl{i n:Nat}{T:TypeId}{b:Bool}:AV (F8 i T n b)=[F8 i T n b]:=by cases b<;>rfl
theorem AV0{i n:Nat}{T:TypeId}{b:Bool}:JA (F8 i T n b)=false:=by cases b<;>rfl
theorem AUx{i n:Nat}{T:TypeId}{b:Bool}:Bo (F8 i T n b)=true:=by cases b<;>rfl
def cmS (a b:Bool) (l:List UInt8) (st:St):Option (AVal×St):=if a=true∧b=true then some (.bsl 1 st.next 0 l.length,{m:=(st.next,List.map (AVal.int .u8) (List.map AX l))::st.m,next:=st.next+1})else none
theorem Ako{l:List UInt8}:Np E s d (.str l) st=cmS (u8T E.P d) (CZ E.P s) l st:=by
  simp only[Np,cmS,List.map_map];rfl
theorem Abn{l:List UInt8}:cmS true true l st=some (.bsl 1 st.next 0 l.length,{m:=(st.next,List.map (AVal.int .u8) (List.map AX l))::st.m,next:=st.next+1}):=by simp[cmS]
def cmB (b:Bool) (off n:Nat) (st:St) (x:Option (List AVal)):Option (AVal×St):=
  match x with
  |some cs=>if b=true then(match bytesOf ((cs.drop off).take n)with|some l=>if l.length=n∧AU n then some (.str l,st)else none|none=>none)else none
  |none=>none
theorem Ak2{i off n:Nat}:Np E s d (.bsl 1 i off n) st=cmB (u8T E.P s&&CZ E.P d) off n st (Ab st.m i):=by
  simp only[Np,cmB,true_and,Bf,AU]
  cases (u8T E.P s&&CZ E.P d)<;>cases Ab st.m i<;>simp
  grind
theorem Aeq{q:List Int}{off n:Nat}:cmB true off n st (some (List.map (AVal.int .u8) q))=if n≤q.length-off∧AU n then some (.str (List.map Ij (List.take n (List.drop off q))),st)else none:=by
  simp only[cmB,if_true,←List.map_take,←List.map_drop,bytesOf_map,List.length_map,List.length_take,List.length_drop]
  grind
def WB (n:Int) (b:Nat):Prop:=0≤n∧n≤4611686018427387904∧n * b≤140737488355328
instance (n:Int) (b:Nat):Decidable (WB n b):=by unfold WB;infer_instance
def mkR (e:Option (Nat×AVal)) (n:Int) (st:St):Option (AVal×St):=
  match e with
  |some (b,z)=>if 0≤n∧n≤Bf∧n * b≤140737488355328 then some (.bsl 1 st.next 0 n.toNat,{m:=(st.next,List.replicate n.toNat z)::st.m,next:=st.next+1})else none
  |none=>none
theorem Aht{b:Nat}{k:IntKind}{z n:Int}:mkR (some (b,.int k z)) n st=if WB n b then some (.bsl 1 st.next 0 n.toNat,{m:=(st.next,List.map (AVal.int k) (List.replicate n.toNat z))::st.m,next:=st.next+1})else none:=by
  grind[mkR,WB,Bf,List.map_replicate]
theorem Agh{b:Nat}{n:Int}:mkR (some (b,.str [])) n st=if WB n b then some (.bsl 1 st.next 0 n.toNat,{m:=(st.next,List.map AVal.str (List.replicate n.toNat []))::st.m,next:=st.next+1})else none:=by
  grind[mkR,WB,Bf,List.map_replicate]
def Qp (n n':Int) (b:Nat):Prop:=0≤n∧n≤n'∧n'≤4611686018427387904∧n' * b≤140737488355328
instance (n n':Int) (b:Nat):Decidable (Qp n n' b):=by unfold Qp;infer_instance
def mkV (a:Option (Nat×Nat)) (z:Option AVal) (n n':Int) (st:St):Option (AVal×St):=
  match a,z with
  |some (w,b),some z=>if Qp n n' b then some (.sh st.next,{m:=(st.next,[.vec w (List.replicate n.toNat z)])::st.m,next:=st.next+1})else none
  |_,_=>none
def mkG (e:Option (Nat×AVal)) (a:Option (Nat×Nat)) (y:Option AVal) (n n':Int) (st:St):Option (AVal×St):=
  match e with
  |some (b,.int k z)=>if Qp n n' b then some (.gsl 1 st.next n.toNat,{m:=(st.next,List.replicate n.toNat (.int k z))::st.m,next:=st.next+1})else mkV a y n n' st
  |_=>mkV a y n n' st
section
variable{a:Option (Nat×Nat)}{y:Option AVal}{n n':Int}
theorem Ahu{b:Nat}{k:IntKind}{z:Int}:mkG (some (b,.int k z)) a y n n' st=if Qp n n' b then some (.gsl 1 st.next n.toNat,{m:=(st.next,List.map (AVal.int k) (List.replicate n.toNat z))::st.m,next:=st.next+1})else mkV a y n n' st:=by
  simp only[mkG,List.map_replicate]
theorem AiI{b:Nat}{s:List UInt8}:mkG (some (b,.str s)) a y n n' st=mkV a y n n' st:=rfl
theorem AlS:mkG none a y n n' st=mkV a y n n' st:=rfl
theorem Ail{w b:Nat}:mkV (some (w,b)) (some (.str [])) n n' st=if Qp n n' b then some (.sh st.next,{m:=(st.next,[.vec w (List.map AVal.str (List.replicate n.toNat []))])::st.m,next:=st.next+1})else none:=by
  simp only[mkV,List.map_replicate]
theorem AnH{w b:Nat}{c:List AVal}:mkV (some (w,b)) (some (.agg c)) 0 n' st=if Qp 0 n' b then some (.sh st.next,{m:=(st.next,[.vec w []])::st.m,next:=st.next+1})else none:=rfl
theorem Aob{k k':IntKind}:SH E t (.int k n) (.int k' n') st=mkG (O5 E.P t) (Ff E.P t) (Rf E.P t) n n' st:=by
  have hv:AMV E t (.int k n) (.int k' n') st=mkV (Ff E.P t) (Rf E.P t) n n' st:=by
    unfold AMV mkV Qp
    rcases Ff E.P t with _|⟨_,_⟩<;>rcases Rf E.P t with _|_<;>rfl
  unfold SH
  rw[hv]
  unfold ATk mkG
  rcases O5 E.P t with _|⟨b,z⟩
  · rfl
  · cases z<;>try rfl
    simp only[]
    by_cases hc:Qp n n' b
    · have hc':0≤n∧n≤n'∧n'≤(Bf:Int)∧n' * b≤140737488355328:=hc
      rw[if_pos hc,if_pos hc']
    · have hc': ¬(0≤n∧n≤n'∧n'≤(Bf:Int)∧n' * b≤140737488355328):=hc
      rw[if_neg hc,if_neg hc']
end
theorem Akd{i n:Nat}:Np E s d (.gsl 1 i n) st=cmB (u8T E.P s&&CZ E.P d) 0 n st (Ab st.m i):=by
  simp only[Np,cmB,true_and,Bf,AU,List.drop_zero]
  cases (u8T E.P s&&CZ E.P d)<;>cases Ab st.m i<;>simp
  grind
theorem Aoj{k k':IntKind}{n:Int}:SA E t (.int k n) (.int k' n) st=mkR (O5 E.P t) n st:=by
  simp only[SA,mkR]
  rcases O5 E.P t with _|⟨b,z⟩<;>simp
end
theorem Alm{e:TypeId}{l:List UInt8}{o:Bool}:P7 (.buf e l o)=some (.bufp e l o):=rfl
def usB (b:Bool) (l:List UInt8):Option AVal:=if b=true then some (.str l)else none
theorem AeZ{l:List UInt8}:usB true l=some (.str l):=rfl
theorem AkT{t0 e:TypeId}{l:List UInt8}:SS E t0 (.bufp e l true) (.int .i64 (l.length:Int))=usB (ptrTo E.P t0 e) l:=by
  simp[SS,usB]
theorem AlY{op:BinOp}:Dh E op t .nilp .nilp=NS op (Oh E.P t) (some true):=rfl
theorem AmW{op:BinOp}{i n:Nat}{T:TypeId}:Dh E op t (.nself i T n) .nilp=NS op (Oh E.P t) (some true):=rfl
theorem Al6{op:BinOp}{i o:Nat}:Dh E op t (.ptr i o) .nilp=NS op (Oh E.P t) (some false):=rfl
theorem AmX{op:BinOp}{i o:Nat}:Dh E op t (.ptr i o) (.ptr i o)=NS op (Oh E.P t) (some true):=by simp[Dh,Yn]
theorem AkE:NS .eql true (some p)=some (.bool p):=rfl
theorem AmY:NS .neq true (some p)=some (.bool (!p)):=rfl
theorem AcT{e:TypeId}:Nf E t (.nbuf e)=if Ar E.P t=true then some (.int .i64 0)else none:=rfl
theorem Ad9{e:TypeId}:AcH E t (.nbuf e)=if Ar E.P t=true then some (.int .i64 0)else none:=rfl
theorem AhB{T:TypeId}{i:Nat}{e:TypeId}:ATP E t (.trow T i 0) (.nbuf e)=if BB E.P t=some 1 then some (.int .i64 0)else none:=rfl
theorem AjG{T:TypeId}{i len:Nat}{h:Int}:Dw E t (.trow T i len) none (some h) none=if BB E.P t=some 1 then(if 0≤h∧h≤len then some (.trow T i h.toNat)else none)else none:=by
  simp only[Dw]
  by_cases h1:BB E.P t=some 1<;>by_cases h2:0≤h<;>by_cases h3:h≤len<;>simp[h1,h2,h3]
theorem AdB{T:TypeId}{i l:Nat}:(AVal.trow T i l).strip=.trow T i l:=rfl
theorem Acv{T:TypeId}{i l:Nat}:AV (.trow T i l)=[.trow T i l]:=rfl
theorem AdX{T:TypeId}{i l:Nat}:Bo (.trow T i l)=true:=rfl
theorem AaD{T:TypeId}{i l:Nat}:JA (.trow T i l)=false:=rfl
theorem AeY{e:TypeId}:(AVal.nbuf e).strip=.nbuf e:=rfl
theorem Aee{e:TypeId}:AV (.nbuf e)=[.nbuf e]:=rfl
theorem AfO{e:TypeId}:Bo (.nbuf e)=true:=rfl
theorem Aa4{e:TypeId}:JA (.nbuf e)=false:=rfl
theorem Aho{e:TypeId}{l:List UInt8}{o:Bool}:Nf E t (.buf e l o)=if Ar E.P t=true then some (.int .i64 l.length)else none:=rfl
theorem Ahb{w i o l:Nat}:Nf E t (.bsl w i o l)=if Ar E.P t=true then some (.int .i64 l)else none:=rfl
theorem Bv{w i len:Nat}{k:IntKind}{n:Int}:CW E t (.gsl w i len) (.int k n)=if BB E.P t=some w then(if 0≤n∧n<len then some (.ptr i (n.toNat * w))else none)else none:=by
  simp only[CW]
  by_cases h1:BB E.P t=some w<;>by_cases h2:0≤n<;>by_cases h3:n<len<;>simp[h1,h2,h3]
theorem Bi{w i len:Nat}{h:Int}:Dw E t (.gsl w i len) none (some h) none=if BB E.P t=some w then(if 0≤h∧h≤len then some (.gsl w i h.toNat)else none)else none:=by
  simp only[Dw]
  by_cases h1:BB E.P t=some w<;>by_cases h2:0≤h<;>by_cases h3:h≤len<;>simp[h1,h2,h3]
theorem AlH{w i len:Nat}{h:Int}:Dw E t (.bsl w i 0 len) none (some h) none=if BB E.P t=some w then(if 0≤h∧h≤len then some (.bsl w i 0 h.toNat)else none)else none:=by
  simp only[Dw]
  by_cases h1:BB E.P t=some w<;>by_cases h2:0≤h<;>by_cases h3:h≤len<;>simp[h1,h2,h3]
def apT (e:Option (Nat×Nat)) (g:Bool) (x:Option (List AVal)) (m:List (Nat×List AVal)) (j len:Nat) (s:List UInt8):Option (Nat×Nat×List AVal×List (Nat×List AVal)×Option Nat):=
  match x,e with
  |some cs,some (z,by_)=>if z=1∧len≤cs.length∧(len+s.length) * by_≤140737488355328∧len+s.length≤Bf∧g=true then some (1,len+s.length,cs.take len++u8s s,Ce m j,some j)else none
  |_,_=>none
theorem Fq{t0 t1:TypeId}{j len:Nat}{s:List UInt8}{st:St}:AV9 E t0 t1 (.gsl 1 j len) (.str s) st=apT (Ff E.P t0) ((EI E.P t1).isNone&&Aa E.P t1) (Ab st.m j) st.m j len s:=by
  simp only[AV9,apT]
  rcases Ab st.m j with _|cs<;>rcases Ff E.P t0 with _|⟨z,b⟩<;>simp
theorem Am{b j len:Nat}{q:List Int}{m:List (Nat×List AVal)}{s:List UInt8}:apT (some (1,b)) true (some (List.map (AVal.int .u8) q)) m j len s=if len≤q.length∧Ah (len+s.length) b then some (1,len+s.length,List.map (AVal.int .u8) (List.take len q++List.map AX s),Ce m j,some j)else none:=by
  have e:u8s s=List.map (AVal.int .u8) (List.map AX s):=by simp[u8s,AX]
  simp_all[apT,Ah,Bf]
theorem Ao{w i l:Nat}:(AVal.gsl w i l).strip=.gsl w i l:=rfl
theorem BF{i:Nat}{c:List AVal}{m:List (Nat×List AVal)}:Ce ((i,c)::m) i=m:=by simp[Ce]
def lkV:List (List UInt8)→List AVal→List UInt8→AVal→AVal
  |k::ks,v::vs,s,z=>if(s==k)=true then v.strip else lkV ks vs s z
  |_,_,_,z=>z.strip
theorem Ace{k s:List UInt8}{ks:List (List UInt8)}{v z:AVal}{vs:List AVal}:lkV (k::ks) (v::vs) s z=if(s==k)=true then v.strip else lkV ks vs s z:=rfl
theorem AjT{s:List UInt8}{z:AVal}:lkV [] [] s z=z.strip:=rfl
def lkR (z:Option AVal) (x:Option (List AVal)) (s:List UInt8):Option AVal:=
  match z,x with
  |some z,some [.map ks vs]=>some (lkV ks vs s z)
  |_,_=>none
theorem AQc{s:List UInt8}{z:AVal}: ∀(ks:List (List UInt8)) (vs:List AVal),(match Im ks vs s with|some x=>x.strip|none=>z.strip)=lkV ks vs s z
  |[],_=>by simp[Im,lkV]
  |_::_,[]=>by simp[Im,lkV]
  | k::ks,v::vs=>by
    simp only[Im,lkV,beq_iff_eq]
    split
    · rename_i x hx
      split at hx
      · simp_all
      · rename_i e;rw[if_neg e,←AQc ks vs,hx]
    · rename_i hx
      split at hx
      · grind
      · rename_i e;rw[if_neg e,←AQc ks vs,hx]
theorem Aj4{i:Nat}{s:List UInt8}{st:St}:Mh E t (.sh i) (.str s) false st=lkR ((Oy E.P t).bind (Bb E.P)) (Ab st.m i) s:=by
  unfold Mh Qk lkR
  cases Oy E.P t with
  |none=>simp
  | some e=>
    simp only[Option.bind_some]
    cases hm:Ab st.m i with
    |none=>cases Bb E.P e<;>simp
    | some cs=>
      cases hz:Bb E.P e with
      | none=>
        match cs with
        |[]=>simp
        |[.map _ _]=>grind
        |x::y::_=>cases x<;>simp
        |[.any]|[.bool _]|[.int _ _]|[.str _]|[.agg _]|[.tuple _]|[.slice _ _ _]|[.ptr _ _]|[.nilp]|[.cptr _]|[.fn _ _ _]|[.nilFn]|[.iface _ _]|[.nilIface]|[.iter _ _]|[.bsl _ _ _ _]|[.nself _ _ _]|[.buf _ _ _]|[.bufp _ _ _]|[.slop _ _]|[.sh _]|[.sptr _ _ _]|[.gsl _ _ _]|[.nmap]|[.num _]|[.nbuf _]|[.trow _ _ _]|[.vec _ _]|[.vptr _ _ _ _]|[.hset _]=>simp
      | some z=>
        match cs with
        |[]=>simp
        |[.map ks vs]=>grind[AQc]
        |x::y::_=>cases x<;>simp
        |[.any]|[.bool _]|[.int _ _]|[.str _]|[.agg _]|[.tuple _]|[.slice _ _ _]|[.ptr _ _]|[.nilp]|[.cptr _]|[.fn _ _ _]|[.nilFn]|[.iface _ _]|[.nilIface]|[.iter _ _]|[.bsl _ _ _ _]|[.nself _ _ _]|[.buf _ _ _]|[.bufp _ _ _]|[.slop _ _]|[.sh _]|[.sptr _ _ _]|[.gsl _ _ _]|[.nmap]|[.num _]|[.nbuf _]|[.trow _ _ _]|[.vec _ _]|[.vptr _ _ _ _]|[.hset _]=>simp
theorem Abk{s:List UInt8}{z:AVal}{ks:List (List UInt8)}{vs:List AVal}:lkR (some z) (some [.map ks vs]) s=some (lkV ks vs s z):=rfl
def upR (b:Bool) (y:Option (List AVal)) (i:Nat) (s:List UInt8) (x:AVal) (st:St):Option St:=
  match b,y with
  |true,some [.map ks vs]=>some {st with m:=Ak st.m i [.map (EQ ks s) (Ic ks vs s x)]}
  |_,_=>none
theorem AnA{i:Nat}{s:List UInt8}{x:AVal}{st:St}:Vz E t (.sh i) (.str s) x st=upR (Oy E.P t).isSome (Ab st.m i) i s x st:=by
  simp only[Vz,Qk,upR]
  grind[Oy,Ab]
theorem AdT{i:Nat}{s:List UInt8}{x:AVal}{st:St}{ks:List (List UInt8)}{vs:List AVal}:upR true (some [.map ks vs]) i s x st=some {st with m:=Ak st.m i [.map (EQ ks s) (Ic ks vs s x)]}:=rfl
theorem Anc{op:BinOp}{f:Fn}{x y:List AVal}:Dh E op t (.fn f x y) .nilFn=UF op (WX E.P t) false:=rfl
theorem AnO{op:BinOp}:Dh E op t .nilFn .nilFn=UF op (WX E.P t) true:=rfl
theorem Ak9{b:Bool}:UF .eql true b=some (.bool b):=rfl
theorem AmL{b:Bool}:UF .neq true b=some (.bool (!b)):=rfl
theorem Aks{w i off len:Nat}{k:IntKind}{n:Int}:CW E t (.bsl w i off len) (.int k n)=if BB E.P t=some w then(if 0≤n∧n<len then some (.ptr i (off+n.toNat * w))else none)else none:=by
  simp only[CW]
  by_cases h1:BB E.P t=some w<;>by_cases h2:0≤n<;>by_cases h3:n<len<;>simp[h1,h2,h3]
def iaP (e:Option (Nat×Nat×Bool)) (j o:Nat) (n:Int):Option AVal:=
  match e with
  |some (len,z,_)=>if 0≤n∧n<len then some (.ptr j (o+n.toNat * z))else none
  |none=>none
theorem AlV{j o:Nat}{k:IntKind}{n:Int}:CW E t (.ptr j o) (.int k n)=iaP (Jj E.P t) j o n:=by
  simp only[CW,iaP]
  rcases Jj E.P t with _|⟨len,z,g⟩<;>rfl
theorem Ae7{len z j o:Nat}{g:Bool}{n:Int}:iaP (some (len,z,g)) j o n=if 0≤n∧n<(len:Int)then some (.ptr j (o+n.toNat * z))else none:=rfl
def slP (e:Option (Nat×Nat×Bool)) (i o:Nat) (l:Int) (h:Option Int):Option AVal:=
  match e with
  |some (len,z,_)=>if 0≤l∧l≤h.getD len∧h.getD len≤len∧len≤Bf then some (.bsl z i (o+l.toNat * z) ((h.getD len).toNat-l.toNat))else none
  |none=>none
theorem Ak6{i o:Nat}{lo hi:Option Int}:Dw E t (.ptr i o) lo hi none=slP (Jj E.P t) i o (lo.getD 0) hi:=by
  simp only[Dw,slP]
  rcases Jj E.P t with _|⟨len,z,g⟩<;>simp
theorem AeE{len z i o:Nat}{g:Bool}{l:Int}:slP (some (len,z,g)) i o l none=if 0≤l∧l≤(len:Int)∧len≤Bf then some (.bsl z i (o+l.toNat * z) (len-l.toNat))else none:=by
  simp[slP]
theorem Ahw{α:Type}{l:List α}{n:Int} (h:0≤n):l[n.toNat]?=idx l n:=by grind[idx]
theorem Ahs{α β:Type}{f:α→β}{l:List α}{k:Nat}{v:α}:(List.map f l).set k (f v)=List.map f (l.set k v):=List.map_set.symm
theorem AlB:unA .not (.bool p)=some (.bool (!p)):=rfl
theorem AkR:unA .neg (.int k a)=some (.int k (wr k (0-a))):=rfl
end
def AQp (n:Nat):List Bool:=List.replicate n false
theorem AdR{n:Nat}:(AQp n).length=n:=by simp[AQp]
theorem AT6{l:List Bool}:stripL (List.map AVal.bool l)=List.map AVal.bool l:=by
  induction l<;>grind[stripL,AVal.strip]
theorem AWV{k:IntKind}{l:List Int}:stripL (List.map (AVal.int k) l)=List.map (AVal.int k) l:=by
  induction l<;>grind[stripL,AVal.strip]
theorem AWC{l:List Bool}{n:Nat} (h:l.length=n):List.take n (List.map AVal.bool l)=List.map AVal.bool l:=by
  grind[List.take_of_length_le]
theorem AW8{k:IntKind}{l:List Int}{n:Nat} (h:l.length=n):List.take n (List.map (AVal.int k) l)=List.map (AVal.int k) l:=by
  grind[List.take_of_length_le]
theorem OG: ∀(l q p:List AVal),q.length=l.length→putCells (p++q) p.length l=p++l
  |[],q,p,h=>by grind[putCells]
  | x::l,q,p,h=>by
    cases q with
    |nil=>grind
    | cons y q=>
      rw[putCells]
      have e:(p++y::q).set p.length x=(p++[x])++q:=by simp
      have e2:p.length+1=(p++[x]).length:=by simp
      rw[e,e2,OG l q (p++[x]) (by grind)];simp
theorem AfJ{l q:List Bool} (h:q.length=l.length):putCells (List.map AVal.bool q) 0 (List.map AVal.bool l)=List.map AVal.bool l:=by
  have:=OG (List.map AVal.bool l) (List.map AVal.bool q) [] (by grind)
  grind
theorem Adt{k:IntKind}{l q:List Int} (h:q.length=l.length):putCells (List.map (AVal.int k) q) 0 (List.map (AVal.int k) l)=List.map (AVal.int k) l:=by
  have:=OG (List.map (AVal.int k) l) (List.map (AVal.int k) q) [] (by grind)
  grind
theorem AjP:AVal.strip (.any)=.any:=by simp[AVal.strip]
theorem Abz{b:Bool}:AVal.strip (.bool b)=.bool b:=by simp[AVal.strip]
theorem Aic{k:IntKind}{n:Int}:AVal.strip (.int k n)=.int k n:=by simp[AVal.strip]
theorem Ahv{l:List UInt8}:AVal.strip (.str l)=.str l:=by simp[AVal.strip]
theorem AhP{w i o l:Nat}:AVal.strip (.bsl w i o l)=.bsl w i o l:=by simp[AVal.strip]
theorem AX4{i n:Nat}{T:TypeId}:AVal.strip (.nself i T n)=.nself i T n:=by simp[AVal.strip]
theorem AiU{e:TypeId}{l:List UInt8}{o:Bool}:AVal.strip (.buf e l o)=.buf e l false:=by simp[AVal.strip]
theorem Aey{e:TypeId}{l:List UInt8}{o:Bool}:AVal.strip (.bufp e l o)=.bufp e l false:=by simp[AVal.strip]
theorem Ah4{w i o l:Nat}:AV (.bsl w i o l)=[.bsl w i o l]:=rfl
theorem AXZ{i n:Nat}{T:TypeId}:AV (.nself i T n)=[.nself i T n]:=rfl
theorem AjC{e:TypeId}{l:List UInt8}{o:Bool}:AV (.buf e l o)=[.buf e l o]:=rfl
theorem ASb{i:Nat}:(AVal.sh i).strip=.sh i:=rfl
theorem Aam{i w n:Nat}:(AVal.sptr i w n).strip=.sptr i w n:=rfl
theorem Aa6{i:Nat}:AV (.sh i)=[.sh i]:=rfl
theorem Aai{i w n:Nat}:AV (.sptr i w n)=[.sptr i w n]:=rfl
theorem Abq{i:Nat}:Bo (.sh i)=true:=rfl
theorem Adj{i w n:Nat}:Bo (.sptr i w n)=true:=rfl
theorem Ajf{w i o l:Nat}:Bo (.bsl w i o l)=true:=rfl
theorem AVD{i n:Nat}{T:TypeId}:Bo (.nself i T n)=true:=rfl
theorem AhO{e:TypeId}{l:List UInt8}{o:Bool}:Bo (.buf e l o)=true:=rfl
theorem AiZ{i o:Nat}:AVal.strip (.ptr i o)=.ptr i o:=by simp[AVal.strip]
theorem AfI:AVal.strip (.nilp)=.nilp:=by simp[AVal.strip]
theorem Aag{l:List AVal}:AVal.strip (.cptr l)=.cptr l:=by simp[AVal.strip]
theorem Akh{f:Fn}{p q:List AVal}:AVal.strip (.fn f p q)=.fn f p q:=by simp[AVal.strip]
theorem AYS:AVal.strip (.nilFn)=.nilFn:=by simp[AVal.strip]
theorem AT3{t:TypeId}{x:AVal}:AVal.strip (.iface t x)=.iface t x:=by simp[AVal.strip]
theorem AA4:AVal.strip (.nilIface)=.nilIface:=by simp[AVal.strip]
theorem Aig:AV (.any)=[.any]:=rfl
theorem Ae0{b:Bool}:AV (.bool b)=[.bool b]:=rfl
theorem Ag9{k:IntKind}{n:Int}:AV (.int k n)=[.int k n]:=rfl
theorem Aiu{l:List UInt8}:AV (.str l)=[.str l]:=rfl
theorem Agv{i o:Nat}:AV (.ptr i o)=[.ptr i o]:=rfl
theorem Adl:AV (.nilp)=[.nilp]:=rfl
theorem AeI{l:List AVal}:AV (.cptr l)=[.cptr l]:=rfl
theorem Akg{f:Fn}{p q:List AVal}:AV (.fn f p q)=[.fn f p q]:=rfl
theorem AYC:AV (.nilFn)=[.nilFn]:=rfl
theorem AVa{t:TypeId}{x:AVal}:AV (.iface t x)=[.iface t x]:=rfl
theorem AJD:AV (.nilIface)=[.nilIface]:=rfl
theorem AX3{l:List AVal}:AV (.tuple l)=[.tuple l]:=rfl
theorem AWK{w:Nat}{l:List AVal}{o:Bool}:AV (.slice w l o)=[.slice w l o]:=rfl
theorem AaO{b:Bool}:Bo (.bool b)=true:=rfl
theorem Ai5{k:IntKind}{n:Int}:Bo (.int k n)=true:=rfl
theorem Ah2{l:List UInt8}:Bo (.str l)=true:=rfl
theorem AhK{i o:Nat}:Bo (.ptr i o)=true:=rfl
theorem Aal:Bo (.nilp)=true:=rfl
theorem Aaq{l:List AVal}:Bo (.cptr l)=true:=rfl
theorem Aka{f:Fn}{p q:List AVal}:Bo (.fn f p q)=true:=rfl
theorem AXG:Bo (.nilFn)=true:=rfl
theorem AVX{t:TypeId}{x:AVal}:Bo (.iface t x)=true:=rfl
theorem ADZ:Bo (.nilIface)=true:=rfl
theorem Aia{l:List AVal}:Bo (.agg l)=true:=rfl
theorem AWh{w:Nat}{l:List AVal}{o:Bool}:Bo (.slice w l o)=true:=rfl
theorem AUo{af:List AVal}{v:Value}:stripAt af (.const v)=af:=rfl
theorem Ac3{af:List AVal}{v:Nat}:stripAt af (.global v)=af:=rfl
theorem AcF{af:List AVal}{v:FuncId}:stripAt af (.func v)=af:=rfl
end Go.VM
set_option linter.unusedVariables false
namespace Go.VM
section
variable{E:Env}{st:St}{t:TypeId}
theorem AiE{w:Nat}{xs:List AVal}:AVal.strip (.vec w xs)=.any:=by rw[AVal.strip]
theorem AbD{i w n k:Nat}:AVal.strip (.vptr i w n k)=.vptr i w n k:=rfl
theorem AaW{i w n k:Nat}:JA (.vptr i w n k)=false:=rfl
theorem Ams{i:Nat}{y:AVal}:VV (.sh i) y=Ot y:=by simp[VV,Ot]
theorem AnF{t0 t1:TypeId}{i:Nat}{y:AVal}:Fx E t0 t1 (.sh i) y=none:=by cases y<;>rfl
def avS (i:Nat) (x:Option AVal) (st:St):Option St:=
  match x with
  |some (.slice w zs _)=>some {m:=(st.next,[.vec w zs])::Ak st.m i [.any],next:=st.next+1}
  |_=>none
theorem AeD{i w:Nat}{zs:List AVal}{o:Bool}:avS i (some (.slice w zs o)) st=some {m:=(st.next,[.vec w zs])::Ak st.m i [.any],next:=st.next+1}:=rfl
def avR (e:Option (Nat×Nat)) (k:Option IntKind) (b:Bool) (y:AVal) (x:Option (Nat×Nat×List AVal)) (st:St):Option St:=
  match x with
  | some (i,wd,xs)=>
    avS i (ASA e k b wd xs (Lu wd y)) st
  |none=>none
theorem Anw{t0 t1:TypeId}{i:Nat}{y:AVal}:U9 E t0 t1 (.sh i) y st=avR (Ff E.P t0) (EI E.P t1) (Aa E.P t1) y (Hg st (.sh i)) st:=by
  unfold U9 avR ASA avS
  rcases Hg st (.sh i)with _|⟨i,wd,xs⟩
  · rfl
  · simp only
    rcases Ff E.P t0 with _|⟨z,b⟩
    · rfl
    · rcases Lu wd y with _|ys
      · rfl
      · simp only
        have e:(z=wd∧EI E.P t1=none∧Aa E.P t1=true∧(xs.length+ys.length) * b≤140737488355328∧xs.length+ys.length≤Bf)↔(z=wd∧EI E.P t1=none∧Aa E.P t1=true∧Ah (xs.length+ys.length) b):=Iff.rfl
        by_cases hc:z=wd∧EI E.P t1=none∧Aa E.P t1=true∧Ah (xs.length+ys.length) b
        · rw[if_pos (e.2 hc),if_pos hc]
        · rw[if_neg (fun h=>hc (e.1 h)),if_neg hc]
theorem AbO{e:Option (Nat×Nat)}{k:Option IntKind}{b:Bool}{i wd:Nat}{xs:List AVal}{y:AVal}:avR e k b y (some (i,wd,xs)) st=avS i (ASA e k b wd xs (Lu wd y)) st:=rfl
theorem Ane{i:Nat}{lo hi mx:Option Int}:Dw E t (.sh i) lo hi mx=none:=rfl
def svR (e:Option Nat) (x:Option (Nat×Nat×List AVal)) (lo hi:Option Int) (st:St):Option St:=
  match x with
  |some (i,wd,xs)=>avS i (Y7 e wd false (sub xs (lo.getD 0) (hi.getD xs.length))) st
  |none=>none
theorem Am3{i:Nat}{lo hi:Option Int}:Ni E t (.sh i) lo hi none st=svR (BB E.P t) (Hg st (.sh i)) lo hi st:=by
  unfold Ni svR
  rcases Hg st (.sh i)with _|⟨i,wd,xs⟩
  · rfl
  · simp only[Y7,sub,avS]
    by_cases h1:BB E.P t=some wd<;>by_cases h2:0≤lo.getD 0∧lo.getD 0≤hi.getD xs.length∧hi.getD xs.length≤xs.length<;>simp[h1,h2]
theorem Aau{e:Option Nat}{i wd:Nat}{xs:List AVal}{lo hi:Option Int}:svR e (some (i,wd,xs)) lo hi st=avS i (Y7 e wd false (sub xs (lo.getD 0) (hi.getD xs.length))) st:=rfl
theorem Anx{i:Nat}{k:IntKind}{n:Int}:CW E t (.sh i) (.int k n)=none:=rfl
def ioR (e:Option Nat) (j:Nat) (n:Int) (y:Option (List AVal)):Option AVal:=
  match y with
  |some [.slop w xs]=>if e=some w∧n=xs.length then some (.sptr j w xs.length)else none
  |_=>none
theorem Am8{j:Nat}{k:IntKind}{n:Int}:EL E t (.sh j) (.int k n) st=ioR (BB E.P t) j n (Ab st.m j):=by
  unfold EL ioR Ri
  grind
theorem Aje{e:Option Nat}{j w:Nat}{n:Int}{xs:List AVal}:ioR e j n (some [.vec w xs])=none:=rfl
def ivS (e:Option Nat) (j w:Nat) (n:Int) (y:Option AVal):Option AVal:=
  match y with
  |some _=>if e=some w then some (.vptr j w n.toNat 0)else none
  |none=>none
def ivR (e:Option Nat) (y:Option (Nat×Nat×List AVal)) (n:Int):Option AVal:=
  match y with
  |some (j,w,xs)=>ivS e j w n (idx xs n)
  |none=>none
theorem Am1{j:Nat}{k:IntKind}{n:Int}:Mk E t (.sh j) (.int k n) st=ivR (BB E.P t) (Hg st (.sh j)) n:=by
  unfold Mk ivR ivS idx
  rcases Hg st (.sh j)with _|⟨i,wd,xs⟩
  · rfl
  · simp only
    by_cases h1:BB E.P t=some wd<;>by_cases h2:0≤n<;>by_cases h3:n<xs.length<;>simp[h1,h2,h3]<;>grind
theorem AaS{e:Option Nat}{j w:Nat}{n:Int}{xs:List AVal}:ivR e (some (j,w,xs)) n=ivS e j w n (idx xs n):=rfl
theorem AfB{j w:Nat}{n:Int}{y:AVal}:ivS (some w) j w n (some y)=some (.vptr j w n.toNat 0):=by simp[ivS]
def caI (w w' k:Nat) (y:Option AVal):Option (List AVal):=
  match y with
  |some x=>if w'=w∧Bo x=true then some ((AV x).drop k)else none
  |none=>none
def caR (w n k:Nat) (y:Option (List AVal)):Option (List AVal):=
  match y with
  |some [.vec w' xs]=>caI w w' k xs[n]?
  |_=>none
theorem Aio{i w n k:Nat}:Ny st (.vptr i w n k)=caR w n k (Ab st.m i):=by
  unfold Ny caR caI
  simp only
  rcases Ab st.m i with _|(_|⟨y,_|_⟩)<;>try rfl
  · cases y<;>try rfl
    rename_i w' xs
    simp only
    by_cases h:n<xs.length
    · rw[List.getElem?_eq_getElem h]
      simp[h,List.getD]
    · rw[List.getElem?_eq_none (Nat.le_of_not_lt h)]
      simp[h]
  · cases y<;>rfl
theorem AhC{w w' n k:Nat}{xs:List AVal}:caR w n k (some [.vec w' xs])=caI w w' k xs[n]?:=rfl
theorem Aa5{w k:Nat}{x:AVal}:caI w w k (some x)=if Bo x=true then some ((AV x).drop k)else none:=by simp[caI]
theorem AjF{i w n k:Nat}{v:AVal}:Kn E t (.vptr i w n k) v st=shS (JA v) (PI E t (.vptr i w n k) v st) (Tf E t (.vptr i w n k) v st):=UA
def seR (e:Option Nat) (i w n k:Nat) (v:AVal) (y:Option (List AVal)) (st:St):Option St:=
  match y with
  |some [.vec w' xs]=>if w'=w∧k=0∧n<xs.length∧Bo v=true∧e=some w∧(AV v).length=w then some {st with m:=Ak st.m i [.vec w (xs.set n v.strip)]}else none
  |_=>none
def sfI (e:Option Nat) (i w:Nat) (xs:List AVal) (n k:Nat) (v:AVal) (x:Option AVal) (st:St):Option St:=
  match x with
  |some x=>if Bo v=true∧Bo x=true∧(AV x).length=w∧e=some (AV v).length∧k+(AV v).length≤w then some {st with m:=Ak st.m i [.vec w (xs.set n (.agg (putCells (AV x) k (stripL (AV v)))))]}else none
  |none=>none
def sfR (e:Option Nat) (i w n k:Nat) (v:AVal) (y:Option (List AVal)) (st:St):Option St:=
  match y with
  |some [.vec w' xs]=>if w'=w then sfI e i w xs n k v xs[n]? st else none
  |_=>none
def svK (x y:Option St):Option St:=match x with|some s=>some s|none=>y
theorem AeF{s:St}{y:Option St}:svK (some s) y=some s:=rfl
theorem Aeg{y:Option St}:svK none y=y:=rfl
theorem Agn{i w n k:Nat}{v:AVal}:Tf E t (.vptr i w n k) v st=svK (seR (Az E.P t) i w n k v (Ab st.m i) st) (sfR (Az E.P t) i w n k v (Ab st.m i) st):=by
  have h1:VR E t (.vptr i w n k) v st=seR (Az E.P t) i w n k v (Ab st.m i) st:=by
    unfold VR seR
    simp only
    rcases Ab st.m i with _|(_|⟨y,_|_⟩)<;>first|rfl|(cases y<;>rfl)
  have h2:Vx E t (.vptr i w n k) v st=sfR (Az E.P t) i w n k v (Ab st.m i) st:=by
    unfold Vx sfR sfI
    simp only
    rcases Ab st.m i with _|(_|⟨y,_|_⟩)<;>first|rfl|(cases y<;>rfl)|skip
    cases y<;>try rfl
    rename_i w' xs
    simp only[]
    by_cases hw:w'=w
    · by_cases hn:n<xs.length
      · simp[hw,hn,List.getD]
      · simp[hw,hn]
    · simp[hw]
  unfold Tf svK
  rw[h1,h2]
  cases seR (Az E.P t) i w n k v (Ab st.m i) st<;>rfl
theorem AnC{e:Option Nat}{i w n k:Nat}{v:AVal}{y:Option (List AVal)} (h:k≠0):seR e i w n k v y st=none:=by
  unfold seR;split<;>simp[h]
theorem Anf{z i w n k:Nat}{v:AVal}{y:Option (List AVal)} (h:z≠w):seR (some z) i w n k v y st=none:=by
  unfold seR;split
  · rename_i w' xs;simp[h]
  · rfl
theorem Agm{e:Option Nat}{i w n k:Nat}{v:AVal}{xs:List AVal}:sfR e i w n k v (some [.vec w xs]) st=sfI e i w xs n k v xs[n]? st:=by simp[sfR]
theorem Aaf{z i w n k:Nat}{v x:AVal}{xs:List AVal}:sfI (some z) i w xs n k v (some x) st=if Bo v=true∧Bo x=true∧(AV x).length=w∧z=(AV v).length∧k+(AV v).length≤w then some {st with m:=Ak st.m i [.vec w (xs.set n (.agg (putCells (AV x) k (stripL (AV v)))))]}else none:=by simp[sfI]
def seI (i w n:Nat) (v:AVal) (xs:List AVal) (x:Option AVal) (st:St):Option St:=
  match x with
  |some _=>if Bo v=true∧(AV v).length=w then some {st with m:=Ak st.m i [.vec w (xs.set n v.strip)]}else none
  |none=>none
theorem Aca{i w n:Nat}{v x:AVal}{xs:List AVal}:seI i w n v xs (some x) st=if Bo v=true∧(AV v).length=w then some {st with m:=Ak st.m i [.vec w (xs.set n v.strip)]}else none:=rfl
theorem Ajd{α:Type}{f:α→AVal}{l:List α}{i w n:Nat}{v:AVal}:seR (some w) i w n 0 v (some [.vec w (List.map f l)]) st=seI i w n v (List.map f l) (List.map f l)[n]? st:=by
  by_cases h:n<l.length
  · simp[seR,seI,h]
  · simp[seR,seI,h]
theorem Anm{t0 t1:TypeId}{i:Nat}{y:AVal}:Lm E t0 t1 (.sh i) y=none:=rfl
def afR (x:Option St):Option (AVal×St):=
  match x with
  |some ⟨(n,[.vec w zs])::m,k⟩=>some (.slice w zs false,⟨m,k⟩)
  |_=>none
theorem Amt{t0 t1:TypeId}{i:Nat}{y:AVal}:AKu E t0 t1 (.sh i) y st=afR (U9 E t0 t1 (.sh i) y st):=by unfold AKu afR;rfl
theorem Aeo{n w k:Nat}{zs:List AVal}{m:List (Nat×List AVal)}:afR (some ⟨(n,[.vec w zs])::m,k⟩)=some (.slice w zs false,⟨m,k⟩):=rfl
theorem AkI{m:AVal}{s:List UInt8}{ok:Bool}{st:St}:PE E t m (.str s) ok st=Mh E t m (.str s) ok st:=by
  have:Ud E t m (.str s) ok st=none:=by unfold Ud;split<;>simp_all
  unfold PE;rw[this];cases Mh E t m (.str s) ok st<;>rfl
theorem Akw{m:AVal}{c:List AVal}{ok:Bool}{st:St}:PE E t m (.agg c) ok st=Ud E t m (.agg c) ok st:=by
  have:Mh E t m (.agg c) ok st=none:=by unfold Mh;split<;>simp_all
  unfold PE;rw[this]
theorem Aly{m x:AVal}{s:List UInt8}{st:St}:QX E t m (.str s) x st=Vz E t m (.str s) x st:=by
  have:AOa E t m (.str s) x st=none:=by unfold AOa;split<;>simp_all
  unfold QX;rw[this];cases Vz E t m (.str s) x st<;>rfl
theorem Ak7{m x:AVal}{c:List AVal}{st:St}:QX E t m (.agg c) x st=AOa E t m (.agg c) x st:=by
  have:Vz E t m (.agg c) x st=none:=by unfold Vz;split<;>simp_all
  unfold QX;rw[this]
def lhR (b ok:Bool) (x:Option (List (List UInt8×Int))) (k:List UInt8×Int):Option AVal:=if b=true then x.map fun ks=>Qh ok (ks.contains k)else none
def uhR (b:Bool) (i:Nat) (x:Option (List (List UInt8×Int))) (k:List UInt8×Int) (st:St):Option St:=if b=true then x.map fun ks=> {st with m:=Ak st.m i [.hset (UD ks k)]}else none
theorem Aml{i:Nat}{s:List UInt8}{p:Int}{ok:Bool}{st:St}:Ud E t (.sh i) (.agg [.str s,.int .i64 p]) ok st=lhR (hpT E.P t) ok (hsA (Ab st.m i)) (s,p):=by
  unfold Ud lhR;cases hpT E.P t<;>rfl
theorem AnT{i:Nat}{s:List UInt8}{p:Int}{st:St}:AOa E t (.sh i) (.agg [.str s,.int .i64 p]) (.bool true) st=uhR (hpT E.P t) i (hsA (Ab st.m i)) (s,p) st:=by
  unfold AOa uhR;cases hpT E.P t<;>rfl
theorem Ab6{ok:Bool}{ks:List (List UInt8×Int)}{k:List UInt8×Int}:lhR true ok (some ks) k=some (Qh ok (ks.contains k)):=rfl
theorem Aeu{i:Nat}{ks:List (List UInt8×Int)}{k:List UInt8×Int}{st:St}:uhR true i (some ks) k st=some {st with m:=Ak st.m i [.hset (UD ks k)]}:=rfl
theorem AnI{ks:List (List UInt8×Int)}:hsA (some [.hset ks])=some ks:=rfl
theorem Anp:hsA (some [.map [] []])=some []:=rfl
theorem Ana{b:Bool}:Qh false b=.bool b:=rfl
theorem Amh{b:Bool}:Qh true b=.tuple [.bool b,.bool b]:=rfl
theorem Akb{t0 t1:TypeId}{i:Tmp}{ax y:AVal}:appW E (.tmp i) t0 t1 ax y st=AKu E t0 t1 ax y st:=by
  unfold appW Acm;cases AKu E t0 t1 ax y st<;>rfl
def anR (a:Option (Nat×Nat)) (f:Nat→Option (List AVal)) (c:Bool) (st:St):Option (AVal×St):=
  match a with
  | some (z,b)=>match f z with
    |some ys=>if c=true then(if Ah ys.length b then some (.sh st.next,{m:=(st.next,[.vec z ys])::st.m,next:=st.next+1})else none)else none
    |none=>none
  |none=>none
theorem AkG{t0 t1:TypeId}{w:Nat}{xs ys:List AVal}{o p:Bool}:appW E (.const (.slice none 0 0)) t0 t1 (.slice w xs o) (.slice w ys p) st=anR (Ff E.P t0) (fun z=>Lu z (.slice w ys p)) (decide (EI E.P t1=none)&&Aa E.P t1) st:=by
  have:AKu E t0 t1 (.slice w xs o) (.slice w ys p) st=none:=rfl
  unfold appW
  rw[this]
  unfold Acm anR
  rcases Ff E.P t0 with _|⟨z,b⟩
  · rfl
  · simp only[]
    cases Lu z (.slice w ys p)with
    |none=>rfl
    |some ys=>simp only[Ah,Bf,Bool.and_eq_true,decide_eq_true_eq];by_cases h1:EI E.P t1=none<;>by_cases h2:Aa E.P t1=true<;>simp[h1,h2]<;>congr 1<;>simp[and_comm]
theorem AeV{z b:Nat}{f:Nat→Option (List AVal)}:anR (some (z,b)) f true st=match f z with|some ys=>(if Ah ys.length b then some (.sh st.next,{m:=(st.next,[.vec z ys])::st.m,next:=st.next+1})else none)|none=>none:=by simp[anR]
end
end Go.VM
set_option linter.unusedVariables false
namespace Go.VM
abbrev MS:=List (Nat×List AVal)
abbrev PQ:=AVal→St→Prop
structure Gl (P:Prop):Prop where
  go:P
inductive An where
  |z
  |q (a b:An)
  |c (a b:An)
  |r (mv:List Tmp)
def Gz (F:List AVal→St→Prop) (K:APost):APost:=fun e af st=>
  match e with
  |.normal=>F af st
  |e=>K e af st
def Uu (id:Nat) (K:APost):APost:=fun e af st=>
  match e with
  |.exit id'=>if id'=id then K .normal af st else K (.exit id') af st
  |e=>K e af st
def nK (K:APost) (af:List AVal) (st:St):Prop:=K .normal af st
def Py (x:AVal) (X Y:List AVal→St→Prop) (af:List AVal) (st:St):Prop:=
  match x with
  |.bool b=>if b=true then X af st else Y af st
  |_=>False
theorem Yx{E:Env}{c:Code}{Q:APost}{af:List AVal}{st:St} (h:AWp E c Q af st):AWp E (.scope c) Q af st:=
  ⟨fun F Γ w a hd hs=>wp_scope_straight (wp_mono (h.go F Γ w a hd hs) fun e a' w' q=>by cases e<;>first|exact q|exact q.1.elim)⟩
def wpc (E:Env):Code→An→APost→List AVal→St→Prop
  |.skip,_,K=>fun af st=>K .normal af st
  |.ret,_,K=>fun af st=>K .ret af st
  |.exit id,_,K=>fun af st=>K (.exit id) af st
  |.seq x y,.q a b,K=>wpc E x a (Gz (wpc E y b K) K)
  |.cond c x y,.c a b,K=>fun af st=>Py (rd E af 0 c) (wpc E x a K) (wpc E y b K) af st
  |.block id c,a,K=>wpc E c a (Uu id K)
  |.scope c,a,K=>wpc E c a K
  |.region _ os false,.r mv,K=>JL E mv os os.toList (nK K)
  |c,_,K=>AWp E c K
section
variable{E:Env}{K:APost}{af:List AVal}{st:St}{x y:Code}{a b:An}{F:List AVal→St→Prop}
theorem Adv:wpc E .skip a K af st=K .normal af st:=by rw[wpc]
theorem AhY:wpc E .ret a K af st=K .ret af st:=by rw[wpc]
theorem Aem{id:Nat}:wpc E (.exit id) a K af st=K (.exit id) af st:=by rw[wpc]
theorem Ah1:wpc E (.seq x y) (.q a b) K af st=wpc E x a (Gz (wpc E y b K) K) af st:=by rw[wpc]
theorem AeO{c:Operand}:wpc E (.cond c x y) (.c a b) K af st=Py (rd E af 0 c) (wpc E x a K) (wpc E y b K) af st:=by rw[wpc]
theorem AXi{id:Nat}:wpc E (.block id x) a K af st=wpc E x a (Uu id K) af st:=by rw[wpc]
theorem AXD:wpc E (.scope x) a K af st=wpc E x a K af st:=by rw[wpc]
theorem AQx{id:Nat}{os:List Oper}{mv:List Tmp}:wpc E (.region id (List.toArray os) false) (.r mv) K af st=JL E mv ⟨os⟩ os (nK K) af st:=by rw[wpc]
theorem Ant:wpc E (.seq x y) .z K af st=AWp E (.seq x y) K af st:=by rw[wpc]<;>simp
theorem Abj:wpc E (.loop x) a K af st=AWp E (.loop x) K af st:=by rw[wpc]<;>simp
theorem AcN{id:Nat}{os:Array Oper}:wpc E (.region id os true) a K af st=AWp E (.region id os true) K af st:=by rw[wpc]<;>simp
theorem Aie:Gz F K .normal af st=F af st:=rfl
theorem Ajg:Gz F K .ret af st=K .ret af st:=rfl
theorem AiN{id:Nat}:Gz F K (.exit id) af st=K (.exit id) af st:=rfl
theorem AmD{id:Nat}:Uu id K .normal af st=K .normal af st:=rfl
theorem Al3{id:Nat}:Uu id K .ret af st=K .ret af st:=rfl
theorem AlF{id:Nat}:Uu id K (.exit id) af st=K .normal af st:=by simp[Uu]
theorem AlN{id id':Nat} (h:id'≠id):Uu id K (.exit id') af st=K (.exit id') af st:=by grind[Uu]
theorem Akk:nK K af st=K .normal af st:=rfl
theorem ATa{X Y:List AVal→St→Prop}:Py (.bool true) X Y af st=X af st:=rfl
theorem ATA{X Y:List AVal→St→Prop}:Py (.bool false) X Y af st=Y af st:=rfl
theorem MI: ∀ {c:Code} (a:An){K:APost}{af:List AVal}{st:St},wpc E c a K af st→AWp E c K af st:=by
  intro c
  induction c with
  |skip=>intro a K af st h;rw[wpc]at h;exact AMT h
  |ret=>intro a K af st h;rw[wpc]at h;exact ATp h
  |exit id=>intro a K af st h;rw[wpc]at h;exact AKg h
  | seq x y ihx ihy=>
    intro a K af st h
    cases a with
    | q a b=>
      rw[wpc]at h
      refine QO ((ihx a h).mono fun e af' st' _ q=>?_)
      cases e with
      |normal=>exact ihy b q
      |_=>exact q
    |_=>(rw[wpc]at h;exact h)<;>(intros;simp_all)
  | cond c x y ihx ihy=>
    intro a K af st h
    cases a with
    | c a b=>
      rw[wpc]at h
      unfold Py at h
      split at h
      · rename_i b' hb
        refine AKe b' hb ?_
        cases b' with
        |true=>simp only[if_true]at h⊢;grind
        |false=>simp only[Bool.false_eq_true,if_false]at h⊢;grind
      grind
    |_=>(rw[wpc]at h;exact h)<;>(intros;simp_all)
  | block id c ih=>
    intro a K af st h
    rw[wpc]at h
    exact Yq ((ih a h).mono fun e af' st' _ q=>by cases e<;>exact q)
  | region id os d=>
    intro a K af st h
    cases d with
    |true=>(rw[wpc]at h;exact h)<;>(intros;simp_all)
    | false=>
      cases a with
      |r mv=>rw[wpc]at h;exact RA mv h
      |_=>(rw[wpc]at h;exact h)<;>(intros;simp_all)
  |loop c ih=>intro a K af st h;(rw[wpc]at h;exact h)<;>(intros;simp_all)
  |rangeFunc f ps x y ihx ihy=>intro a K af st h;(rw[wpc]at h;exact h)<;>(intros;simp_all)
  |scope c ih=>intro a K af st h;rw[wpc]at h;grind[Yx]
  |label l=>intro a K af st h;(rw[wpc]at h;exact h)<;>(intros;simp_all)
  |goto l=>intro a K af st h;(rw[wpc]at h;exact h)<;>(intros;simp_all)
  |refuse w=>intro a K af st h;(rw[wpc]at h;exact h)<;>(intros;simp_all)
end
def gK (g:Option Bool) (X Y:Prop):Prop:=match g with|some true=>X|some false=>Y|none=>False
theorem AoU{X Y:Prop}:gK (some true) X Y=X:=rfl
theorem AoR{X Y:Prop}:gK (some false) X Y=Y:=rfl
def nxK (b:Bool) (X Y:Prop):Prop:=if b=true then X else Y
theorem Amk{X Y:Prop}:nxK true X Y=X:=by simp[nxK]
theorem Anj{X Y:Prop}:nxK false X Y=Y:=by simp[nxK]
section
variable{E:Env}{mv:List Tmp}{ops:Array Oper}{K:List AVal→St→Prop}{af:List AVal}{st:St}{d:Option Tmp}{ty:TypeId}{pos:String}{aft:Array Edge}{g:Option (Nat×Bool)}
theorem AmS{op:Op}{os' os:List Oper}{j:Nat}{want:Bool}:JL E mv ⟨os'⟩ (⟨d,op,ty,pos,aft,some (j,want)⟩::os) K af st=
    gK (gdD (Ll os' j) af want) (CR E mv ⟨d,op,ty,pos,aft,some (j,want)⟩ af st (JL E mv ⟨os'⟩ os K)) (JL E mv ⟨os'⟩ os K (AZ af d (.tuple [])) st):=by
  grind[JL,AQf,gK,gdD,Ll]
theorem AoX{op:Op}{os':List Oper}{j:Nat}{want:Bool}:gWp E mv ⟨os'⟩ ⟨d,op,ty,pos,aft,some (j,want)⟩ af st K=
    gK (gdD (Ll os' j) af want) (CR E mv ⟨d,op,ty,pos,aft,some (j,want)⟩ af st K) (K (AZ af d (.tuple [])) st):=by
  grind[gWp,AQf,gK,gdD,Ll]
theorem AjU{t:Tmp}{s:List UInt8}{p:Nat}:Va (.iter s p) t d K af st=nxK (decide (p<s.length)) (K (AZ (af.set t (.iter s (p+(ET s p).2))) d (.tuple [.bool true,.int .i64 p,.int .i32 (ET s p).1])) st) (K (AZ af d (.tuple [.bool false])) st):=by
  rw[APK];rfl
end
section cong
@[congr] theorem AnL {E : Env} {mv : List Tmp} {ops : Array Oper} {os : List Oper} {K : List AVal → St → Prop} {af : List AVal} {st : St} {af' : List AVal} {st' : St} (h0 : af = af') (h1 : st = st') : JL E mv ops os K af st = JL E mv ops os K af' st' := by grind
@[congr] theorem An1 {E : Env} {mv : List Tmp} {o : Oper} {af : List AVal} {st : St} {K : List AVal → St → Prop} {af' : List AVal} {st' : St} (h0 : af = af') (h1 : st = st') : CR E mv o af st K = CR E mv o af' st' K := by grind
@[congr] theorem An6 {x : Option AVal} {d : Option Tmp} {K : List AVal → St → Prop} {af : List AVal} {st : St} {x' : Option AVal} {af' : List AVal} {st' : St} (h0 : x = x') (h1 : af = af') (h2 : st = st') : Nn x d K af st = Nn x' d K af' st' := by grind
@[congr] theorem Am2 {x : Option AVal} {d : Option Tmp} {K : List AVal → St → Prop} {af : List AVal} {st : St} {x' : Option AVal} {af' : List AVal} {st' : St} (h0 : x = x') (h1 : af = af') (h2 : st = st') : J9 x d K af st = J9 x' d K af' st' := by grind
@[congr] theorem AnX {z : Option (AVal × St)} {d : Option Tmp} {K : List AVal → St → Prop} {af : List AVal} {z' : Option (AVal × St)} {af' : List AVal} (h0 : z = z') (h1 : af = af') : MR z d K af = MR z' d K af' := by grind
@[congr] theorem An2 {b : Bool} {v : AVal} {d : Option Tmp} {K : List AVal → St → Prop} {af : List AVal} {st : St} {b' : Bool} {v' : AVal} {af' : List AVal} {st' : St} (h0 : b = b') (h1 : v = v') (h2 : af = af') (h3 : st = st') : AUO b v d K af st = AUO b' v' d K af' st' := by grind
@[congr] theorem Amd {x : Option (List AVal)} {d : Option Tmp} {K : List AVal → St → Prop} {af : List AVal} {st : St} {x' : Option (List AVal)} {af' : List AVal} {st' : St} (h0 : x = x') (h1 : af = af') (h2 : st = st') : Vb x d K af st = Vb x' d K af' st' := by grind
@[congr] theorem Ame {s : Option St} {K : List AVal → St → Prop} {af : List AVal} {s' : Option St} {af' : List AVal} (h0 : s = s') (h1 : af = af') : Ob s K af = Ob s' K af' := by grind
@[congr] theorem Amg {E : Env} {t : TypeId} {v : AVal} {lo : Option (Option Int)} {hi : Option (Option Int)} {mx : Option (Option Int)} {d : Option Tmp} {K : List AVal → St → Prop} {af : List AVal} {st : St} {v' : AVal} {lo' : Option (Option Int)} {hi' : Option (Option Int)} {mx' : Option (Option Int)} {af' : List AVal} {st' : St} (h0 : v = v') (h1 : lo = lo') (h2 : hi = hi') (h3 : mx = mx') (h4 : af = af') (h5 : st = st') : Vd E t v lo hi mx d K af st = Vd E t v' lo' hi' mx' d K af' st' := by grind
@[congr] theorem Amf {b : Bool} {v : AVal} {d : Option Tmp} {K : List AVal → St → Prop} {af : List AVal} {st : St} {b' : Bool} {v' : AVal} {af' : List AVal} {st' : St} (h0 : b = b') (h1 : v = v') (h2 : af = af') (h3 : st = st') : WW b v d K af st = WW b' v' d K af' st' := by grind
@[congr] theorem Ank {v : AVal} {tm : Tmp} {d : Option Tmp} {K : List AVal → St → Prop} {af : List AVal} {st : St} {v' : AVal} {af' : List AVal} {st' : St} (h0 : v = v') (h1 : af = af') (h2 : st = st') : Va v tm d K af st = Va v' tm d K af' st' := by grind
@[congr] theorem Ans {E : Env} {v : AVal} {l : List AVal} {d : Option Tmp} {K : List AVal → St → Prop} {af : List AVal} {st : St} {v' : AVal} {l' : List AVal} {af' : List AVal} {st' : St} (h0 : v = v') (h1 : l = l') (h2 : af = af') (h3 : st = st') : AMB E v l d K af st = AMB E v' l' d K af' st' := by grind
@[congr] theorem AoJ {b z : Bool} {u : Operand} {t : TypeId} {E : Env} {d : Option Tmp} {K : List AVal → St → Prop} {af : List AVal} {st : St} {b' z' : Bool} {af' : List AVal} {st' : St} (h0 : b = b') (hz : z = z') (h1 : af = af') (h2 : st = st') : mvK b z u t E d K af st = mvK b' z' u t E d K af' st' := by grind
@[congr] theorem AoF {z : Bool} {y : Option (Nat × Nat × List AVal)} {j : Tmp} {v : AVal} {d : Option Tmp} {K : List AVal → St → Prop} {af : List AVal} {st : St} {z' : Bool} {y' : Option (Nat × Nat × List AVal)} {v' : AVal} {af' : List AVal} {st' : St} (h0 : z = z') (hy : y = y') (hv : v = v') (h1 : af = af') (h2 : st = st') : fzK z y j v d K af st = fzK z' y' j v' d K af' st' := by grind
@[congr] theorem AoI {b : Bool} {t : TypeId} {v : AVal} {E : Env} {d : Option Tmp} {K : List AVal → St → Prop} {af : List AVal} {st : St} {b' : Bool} {v' : AVal} {af' : List AVal} {st' : St} (h0 : b = b') (h1 : v = v') (h2 : af = af') (h3 : st = st') : ldK b t v E d K af st = ldK b' t v' E d K af' st' := by grind
@[congr] theorem AnD {F : List AVal → St → Prop} {L : APost} {e : Exit} {af : List AVal} {st : St} {e' : Exit} {af' : List AVal} {st' : St} (h0 : e = e') (h1 : af = af') (h2 : st = st') : Gz F L e af st = Gz F L e' af' st' := by grind
@[congr] theorem An5 {id : Nat} {L : APost} {e : Exit} {af : List AVal} {st : St} {e' : Exit} {af' : List AVal} {st' : St} (h0 : e = e') (h1 : af = af') (h2 : st = st') : Uu id L e af st = Uu id L e' af' st' := by grind
@[congr] theorem Aop {L : APost} {af : List AVal} {st : St} {af' : List AVal} {st' : St} (h0 : af = af') (h1 : st = st') : nK L af st = nK L af' st' := by grind
@[congr] theorem Amo {v : AVal} {F : List AVal → St → Prop} {G : List AVal → St → Prop} {af : List AVal} {st : St} {v' : AVal} {af' : List AVal} {st' : St} (h0 : v = v') (h1 : af = af') (h2 : st = st') : Py v F G af st = Py v' F G af' st' := by grind
@[congr] theorem AoN {E : Env} {c : Code} {a : An} {L : APost} {af : List AVal} {st : St} {af' : List AVal} {st' : St} (h0 : af = af') (h1 : st = st') : wpc E c a L af st = wpc E c a L af' st' := by grind
@[congr] theorem Aom {E : Env} {c : Code} {L : APost} {af : List AVal} {st : St} {af' : List AVal} {st' : St} (h0 : af = af') (h1 : st = st') : AWp E c L af st = AWp E c L af' st' := by grind
@[congr] theorem AnG {E : Env} {f : FuncId} {l : List AVal} {st : St} {Q : AVal → St → Prop} {l' : List AVal} {st' : St} (h0 : l = l') (h1 : st = st') : ACall E f l st Q = ACall E f l' st' Q := by grind
@[congr] theorem Amb {E : Env} {mv : List Tmp} {ops : Array Oper} {p : Plan} {tv : List (Nat × AVal)} {K : List AVal → St → Prop} {af : List AVal} {st : St} {tv' : List (Nat × AVal)} {af' : List AVal} {st' : St} (h0 : tv = tv') (h1 : af = af') (h2 : st = st') : EX E mv ops p tv K af st = EX E mv ops p tv' K af' st' := by grind
@[congr] theorem AoT {E : Env} {mv : List Tmp} {os : List Oper} {x : Option AVal} {i : Nat} {d : Option Tmp} {p : Plan} {tv : List (Nat × AVal)} {K : List AVal → St → Prop} {af : List AVal} {st : St} {x' : Option AVal} {tv' : List (Nat × AVal)} {af' : List AVal} {st' : St} (h0 : x = x') (h1 : tv = tv') (h2 : af = af') (h3 : st = st') : tkR E mv os x i d p tv K af st = tkR E mv os x' i d p tv' K af' st' := by grind
@[congr] theorem AoE {E : Env} {mv : List Tmp} {os : List Oper} {w : Option Oper} {i : Nat} {p : Plan} {tv : List (Nat × AVal)} {K : List AVal → St → Prop} {af : List AVal} {st : St} {w' : Option Oper} {tv' : List (Nat × AVal)} {af' : List AVal} {st' : St} (h0 : w = w') (h1 : tv = tv') (h2 : af = af') (h3 : st = st') : tkO E mv os w i p tv K af st = tkO E mv os w' i p tv' K af' st' := by grind
@[congr] theorem An7 {E : Env} {mv : List Tmp} {os : List Oper} {chk : List Nat} {p : Plan} {tv : List (Nat × AVal)} {K : List AVal → St → Prop} {af : List AVal} {st : St} {tv' : List (Nat × AVal)} {af' : List AVal} {st' : St} (h0 : tv = tv') (h1 : af = af') (h2 : st = st') : AaU E mv os chk p tv K af st = AaU E mv os chk p tv' K af' st' := by grind
@[congr] theorem An8 {E : Env} {mv : List Tmp} {os : List Oper} {w : Option Oper} {chk : List Nat} {p : Plan} {tv : List (Nat × AVal)} {K : List AVal → St → Prop} {af : List AVal} {st : St} {w' : Option Oper} {tv' : List (Nat × AVal)} {af' : List AVal} {st' : St} (h0 : w = w') (h1 : tv = tv') (h2 : af = af') (h3 : st = st') : Agp E mv os w chk p tv K af st = Agp E mv os w' chk p tv' K af' st' := by grind
@[congr] theorem AoM {E : Env} {mv : List Tmp} {ops : Array Oper} {o : Oper} {af : List AVal} {st : St} {K : List AVal → St → Prop} {af' : List AVal} {st' : St} (h0 : af = af') (h1 : st = st') : gWp E mv ops o af st K = gWp E mv ops o af' st' K := by grind
@[congr] theorem Aoo {g : Option Bool} {X : Prop} {Y : Prop} {g' : Option Bool} (h0 : g = g') : gK g X Y = gK g' X Y := by grind
@[congr] theorem An9 {d : Option Tmp} {K : List AVal → St → Prop} {af : List AVal} {r : AVal} {sx : St} {af' : List AVal} {r' : AVal} {sx' : St} (h0 : af = af') (h1 : r = r') (h2 : sx = sx') : AUu d K af r sx = AUu d K af' r' sx' := by grind
@[congr] theorem AoZ {b : Bool} {X : Prop} {Y : Prop} {b' : Bool} (h0 : b = b') : nxK b X Y = nxK b' X Y := by grind
end cong
section rules
variable{E:Env}{K Q:APost}{af:List AVal}{st:St}{x y c:Code}
theorem ent{f:FuncId}{fn:Func}{nt:Nat}{rs:List ResultVar}{args:List AVal}{m m':MS}{n:Nat}{r':AVal}{Q:PQ} (hQ: ∀n',n≤n'→Gl (Q r' ⟨m',n'⟩)) (hf:E.P.funcs[f]?=some fn) (hb:fn.body=some c)
    (hn:fn.ntmps=nt) (hr:fn.results=rs.toArray) (a:An)
    (h: ∀R:APost,(∀af st xs m0 m1 n',Mq E rs af st=some (xs,⟨m1,n'⟩)→m0.Sublist m1→m0=m'→n≤n'→Om xs=r'→R .ret af st∧R .normal af st)→Gl (wpc E c a R (args++List.replicate (nt-args.length) .any) ⟨m,n⟩)):ACall E f args ⟨m,n⟩ Q:=by
  refine Ja hf hb ?_
  have hw:=MI a (h (He E fn Q) ?_).go
  · grind
  · intro af st xs m0 m1 n' h1 h2 h0 h3 h4
    subst h0
    have e:fn.results.toList=rs:=by rw[hr]
    subst h4
    exact⟨Hz (by rw[e];omega) h2 (hQ n' h3).go,IC (by rw[e];omega) h2 (hQ n' h3).go⟩
theorem AnQ{f:FuncId}{fn:Func}{nt:Nat}{rs:List ResultVar}{args:List AVal}{m m':MS}{n:Nat}{r':AVal}{Q:PQ} (hQ: ∀n',n≤n'→Gl (Q r' ⟨m',n'⟩)) (hf:E.P.funcs[f]?=some fn) (hb:fn.body=some c)
    (hn:fn.ntmps=nt) (hr:fn.results=rs.toArray) (a:An)
    (h: ∀R:APost,(∀af st xs m0 m1 n',Mq E rs af st=some (xs,⟨m1,n'⟩)→m0.Sublist m1→m0=m'→n≤n'→(Om xs).strip=r'→R .ret af st∧R .normal af st)→Gl (wpc E c a R (args++List.replicate (nt-args.length) .any) ⟨m,n⟩)):ACall E f args ⟨m,n⟩ Q:=by
  refine ACall.strip (Ja hf hb ?_)
  have hw:=MI a (h (He E fn fun r st'=>Q r.strip st') ?_).go
  · grind
  · intro af st xs m0 m1 n' h1 h2 h0 h3 h4
    subst h0
    have e:fn.results.toList=rs:=by rw[hr]
    subst h4
    exact⟨Hz (by rw[e];omega) h2 (hQ n' h3).go,IC (by rw[e];omega) h2 (hQ n' h3).go⟩
theorem L6{id:Nat}{os:List Oper} (mv:List Tmp) (plan:Plan) (hm:E.P.follows .mixedOrders=true) (hok:GV (List.toArray os) plan false (Array.replicate (List.toArray os).size false) []=true)
    (h:Gl (EX E mv ⟨os⟩ plan [] (nK Q) af st)):AWp E (.region id (List.toArray os) true) Q af st:=
  Oo mv plan hm hok h.go
theorem QD{α β γ:Type}{k0:α→Option β}{body:(α→Option β)→Option β}{r:β}{m:MS}{n:Nat}{T:Prop}{d:JD α} (h:T∧AA k0 body d=some r) (js cs:List Tmp) (V:α→γ→List AVal) (M:α→γ→MS) (a:An)
    (rest: ∀j g n',n≤n'→keysLt n' (M j g)→((M j g).map (·.1)).Nodup→T∧k0 j=some r→AWp E y Q (setVals (Ad js af) cs (V j g)) ⟨M j g,n'⟩)
    (first: ∀(k:α→Option β) (J:List AVal→St→Prop),(∀j g af' m0 m1 n',k j=some r→m0.Sublist m1→m0=M j g→Ad cs (Ad js af')=Ad cs (Ad js af)→Bt (Ad js af') cs=V j g→n≤n'→J af' ⟨m1,n'⟩)→T∧body k=some r→Gl (wpc E x a (Gz J Q) af ⟨m,n⟩)):
    AWp E (.seq x y) Q af ⟨m,n⟩:=by
  refine QO ?_
  have key:=MI a (first k0 (fun af' st'=>AWp E y Q af' ⟨st'.m,st'.next⟩) ?_ h).go
  · exact key.mono fun e af' st' _ q=>by cases e<;>exact q
  · intro j g af' m0 m1 n' h1 h2 h3 h4 h5 h6
    subst h3
    refine PX js (AYQ (m:=M j g) h2 ?_)
    grind[AWp.known,AWp.nodup,Iq]
theorem Aet{σ β γ:Type}{r:β}{m:MS}{n:Nat}{T:Prop} (G:Nat→σ→Option β) (V:σ→γ→List AVal) (M:σ→γ→MS) (js cs:List Tmp) (s0:σ) (g0:γ){k0:Nat} (h:T∧G k0 s0=some r) (hz: ∀s,G 0 s=none)
    (hm:m=M s0 g0) (hv:Bt (Ad js af) cs=V s0 g0)
    (round: ∀k s g n',n≤n'→keysLt n' (M s g)→T∧G (k+1) s=some r→ ∀J:List AVal→St→Prop,(∀s' g' af' m0 m1 n'',G k s'=some r→m0.Sublist m1→m0=M s' g'→Ad cs (Ad js af')=Ad cs (Ad js af)→Bt (Ad js af') cs=V s' g'→n'≤n''→J af' ⟨m1,n''⟩)→
      AWp E c (Gz J Q) (setVals (Ad js af) cs (V s g)) ⟨M s g,n'⟩):AWp E (.loop c) Q af ⟨m,n⟩:=by
  refine Vl js cs (fun k vs st'=> ∃s g,vs=V s g∧st'.m=M s g∧n≤st'.next∧G k s=some r) k0 ⟨s0,g0,hv,hm,Nat.le_refl _,h.2⟩ ?_
  rintro k vs ⟨m',n'⟩ ⟨s,g,rfl,hm',hn,hG⟩ J hJ
  simp only at hm' hn
  subst hm'
  cases k with
  |zero=>grind
  | succ k=>
    refine AWp.known fun _ hk=>?_
    refine(round k s g n' hn hk ⟨h.1,hG⟩ J ?_).mono fun e af' st' _ q=>by cases e<;>first|exact KZ q|exact .oth (by simp) q
    intro s' g' af' m0 m1 n'' h1 h2 h3 h4 h5 h6
    exact hJ k af' ⟨m1,n''⟩ m0 (Nat.lt_succ_self _) h2 h4 ⟨s',g',h5,h3,Nat.le_trans hn h6,h1⟩
theorem AXF{α:Type}{L pre suf:List α}{x:α} (h:L=pre++x::suf) (hL:AU L.length):decide ((pre.length:Int)<(L.length:Int))=true∧idx L (pre.length:Int)=some x∧wr .i64 ((pre.length:Int)+1)=(pre.length:Int)+1:=by
  subst h
  unfold AU at hL
  simp only[List.length_append,List.length_cons]at hL
  refine⟨by simp only[decide_eq_true_eq,List.length_append,List.length_cons];omega,by simp[idx],?_⟩
  grind[wr,IntKind.wrap,IntKind.bits,IntKind.signed]
theorem AeM{σ β γ:Type}{r:β}{m:MS}{n:Nat}{T:Prop} (i0 b:Int) (hL: -4611686018427387904≤i0∧b≤4611686018427387904) (G:Nat→Int→σ→Option β) (V:Int→σ→γ→List AVal) (M:Int→σ→γ→MS) (js cs:List Tmp) (s0:σ) (g0:γ) (h:T∧G (b-i0).toNat i0 s0=some r)
    (hm:m=M i0 s0 g0) (hv:Bt (Ad js af) cs=V i0 s0 g0)
    (rnil: ∀i s g n',n≤n'→keysLt n' (M i s g)→(decide (i<b)=false∧T)∧G 0 i s=some r→AWp E c (Gz (fun _ _=>False) Q) (setVals (Ad js af) cs (V i s g)) ⟨M i s g,n'⟩)
    (rcons: ∀k i s g n',n≤n'→keysLt n' (M i s g)→(decide (i<b)=true∧wr .i64 (i+1)=i+1∧T)∧G (k+1) i s=some r→ ∀J:List AVal→St→Prop,(∀s' g' af' m0 m1 n'',G k (i+1) s'=some r→m0.Sublist m1→m0=M (i+1) s' g'→Ad cs (Ad js af')=Ad cs (Ad js af)→Bt (Ad js af') cs=V (i+1) s' g'→n'≤n''→J af' ⟨m1,n''⟩)→
      AWp E c (Gz J Q) (setVals (Ad js af) cs (V i s g)) ⟨M i s g,n'⟩):AWp E (.loop c) Q af ⟨m,n⟩:=by
  refine Vl js cs (fun k vs st'=> ∃i s g,i0≤i∧k=(b-i).toNat∧vs=V i s g∧st'.m=M i s g∧n≤st'.next∧G k i s=some r) (b-i0).toNat ⟨i0,s0,g0,Int.le_refl _,rfl,hv,hm,Nat.le_refl _,h.2⟩ ?_
  rintro k vs ⟨m',n'⟩ ⟨i,s,g,hi,hk',rfl,hm',hn,hG⟩ J hJ
  simp only at hm' hn
  subst hm'
  cases k with
  | zero=>
    refine AWp.known fun _ hk=>?_
    refine(rnil _ s g n' hn hk ⟨⟨by grind,h.1⟩,hG⟩).mono fun e af' st' _ q=>by cases e<;>first|exact q.elim|exact .oth (by simp) q
  | succ k=>
    refine AWp.known fun _ hk=>?_
    have hw:wr .i64 (i+1)=i+1:=by
      grind[wr,IntKind.wrap,IntKind.bits,IntKind.signed]
    refine(rcons k i s g n' hn hk ⟨⟨by simp only[decide_eq_true_eq];omega,hw,h.1⟩,hG⟩ J ?_).mono fun e af' st' _ q=>by cases e<;>first|exact KZ q|exact .oth (by simp) q
    intro s' g' af' m0 m1 n'' h1 h2 h3 h4 h5 h6
    exact hJ k af' ⟨m1,n''⟩ m0 (by simp) h2 h4 ⟨i+1,s',g',by omega,by omega,h5,h3,Nat.le_trans hn h6,h1⟩
theorem Cv (a:An) (h:Gl (wpc E c a K af st)):AWp E c K af st:=MI a h.go
end rules
theorem AQ4{A B:Prop} (a:Gl A) (b:Gl B):Gl (A∧B):=⟨a.go,b.go⟩
theorem Ig{α:Type}{c:Bool}{x y:Option α}{r:α}{T:Prop} (h:T∧(if c=true then x else y)=some r):((c=true∧T)∧x=some r)∨((c=false∧T)∧y=some r):=by
  cases c
  · exact .inr ⟨⟨rfl,h.1⟩,h.2⟩
  · exact .inl ⟨⟨rfl,h.1⟩,h.2⟩
theorem EN{α β:Type}{x:Option α}{f:α→Option β}{r:β}{T:Prop} (h:T∧Option.bind x f=some r): ∃y,(x=some y∧T)∧f y=some r:=by
  obtain⟨y,h1,h2⟩:=bind_some h.2;grind
theorem Mj{α:Type}{c:Prop} [Decidable c]{x:Option α}{r:α}{T:Prop} (h:T∧grd c x=some r):c∧T∧x=some r:=by
  grind[VQ]
theorem Ke{A B C:Prop} (a:A) (h:B∧C):(A∧B)∧C:=⟨⟨a,h.1⟩,h.2⟩
end Go.VM
set_option linter.unusedVariables false
set_option linter.defProp false
set_option maxRecDepth 100000
namespace Go.VM
section
variable{E:Env}{af:List AVal}{t:TypeId}
def fdA (r:Option (Nat×Nat×Bool)) (cs:List AVal):Option AVal:=match r with|some (off,z,g)=>Qi cs off z g|none=>none
theorem AhU{s:TypeId}{cs:List AVal}{f:Nat}:RI E s (.agg cs) f=fdA (AJ E.P s f) cs:=by unfold RI fdA;rcases AJ E.P s f with _|⟨_,_,_⟩<;>rfl
theorem AbJ{off z:Nat}{g:Bool}{cs:List AVal}:fdA (some (off,z,g)) cs=Qi cs off z g:=rfl
theorem AjX{r:AVal}:Om [r]=r:=rfl
theorem Agi:Om []=.tuple []:=rfl
theorem Aiv{a b:AVal}{l:List AVal}:Om (a::b::l)=.tuple (a::b::l):=rfl
theorem Ada:Ad [] af=af:=rfl
theorem AXP{j:Tmp}{js:List Tmp}:Ad (j::js) af=Ad js (af.set j .any):=rfl
theorem Akc{vs:List AVal}:setVals af [] vs=af:=by cases vs<;>rfl
theorem AhN{c:Tmp}{cs:List Tmp}{v:AVal}{vs:List AVal}:setVals af (c::cs) (v::vs)=setVals (af.set c v) cs vs:=rfl
theorem AlP:Bt af []=[]:=rfl
theorem AiB{c:Tmp}{cs:List Tmp}:Bt af (c::cs)=af.getD c .any::Bt af cs:=rfl
theorem Ae9{r:AVal}:AZ af none r=af:=rfl
theorem AaZ{d:Tmp}{r:AVal}:AZ af (some d) r=af.set d r:=rfl
theorem Agu{i:Tmp}:stripAt af (.tmp i)=af.set i (af.getD i .any).strip:=rfl
theorem AhE{l:List AVal}:AVal.strip (.agg l)=.agg (stripL l):=by rw[AVal.strip]
theorem AV2{l:List AVal}:AVal.strip (.tuple l)=.tuple (stripL l):=by rw[AVal.strip]
theorem AUd{w:Nat}{l:List AVal}{o:Bool}:AVal.strip (.slice w l o)=.slice w l false:=by rw[AVal.strip]
theorem Adi{s:List UInt8}{p:Nat}:AVal.strip (.iter s p)=.any:=by rw[AVal.strip]
theorem AaR:stripL []=[]:=by rw[stripL]
theorem Alt{x:AVal}{bs:List Bool}{xs:List AVal}:stripB (true::bs) (x::xs)=x.strip::stripB bs xs:=by rw[stripB]
theorem AmE{x:AVal}{bs:List Bool}{xs:List AVal}:stripB (false::bs) (x::xs)=x::stripB bs xs:=by rw[stripB]
theorem AmA{xs:List AVal}:stripB [] xs=xs:=by rw[stripB]
theorem AUV{x:AVal}{l:List AVal}:stripL (x::l)=x.strip::stripL l:=by rw[stripL]
theorem AlG{i:Tmp}:rd E af t (.tmp i)=af.getD i .any:=rfl
theorem Aeh{v:Value}:rd E af t (.const v)=HZ (ES E.P t) v:=rfl
theorem AiD{g:FuncId}:rd E af t (.func g)=.fn (.func g) [] []:=rfl
end
def vmC:=And.intro (And.intro (And.intro (And.intro (And.intro (And.intro (And.intro (And.intro (And.intro (@AVf) (@ASc)) (And.intro (@ARZ) (@AUY))) (And.intro (And.intro (@ANJ) (@AK6)) (And.intro (@ABC) (And.intro (@AHF) (@ANj))))) (And.intro (And.intro (And.intro (@AfP) (@AeL)) (And.intro (@AaA) (And.intro (@AeS) (@AVd)))) (And.intro (And.intro (@Ae8) (@AVt)) (And.intro (@AjO) (And.intro (@AWJ) (@Ac1)))))) (And.intro (And.intro (And.intro (And.intro (@Alx) (@AbZ)) (And.intro (@Xk) (@Agt))) (And.intro (And.intro (@AdQ) (@ARW)) (And.intro (@AbP) (And.intro (@AVy) (@AcD))))) (And.intro (And.intro (And.intro (@APl) (@Ais)) (And.intro (@AiR) (And.intro (@AQL) (@Ah6)))) (And.intro (And.intro (@ALQ) (@Acy)) (And.intro (@Ai4) (And.intro (@ASR) (@ANK))))))) (And.intro (And.intro (And.intro (And.intro (And.intro (@ACS) (@Acc)) (And.intro (@AJi) (@AfS))) (And.intro (And.intro (@AkF) (@Akp)) (And.intro (@AlL) (And.intro (@Ag6) (@Aat))))) (And.intro (And.intro (And.intro (@AU0) (@Ag2)) (And.intro (@AME) (And.intro (@Ag8) (@AjH)))) (And.intro (And.intro (@AMk) (@AaL)) (And.intro (@Xr) (And.intro (@AiT) (@AMw)))))) (And.intro (And.intro (And.intro (And.intro (@Abh) (@Aha)) (And.intro (@APe) (@AMt))) (And.intro (And.intro (@AGW) (@Acx)) (And.intro (@AFe) (And.intro (@Adn) (@AmU))))) (And.intro (And.intro (And.intro (@Alc) (@Ak5)) (And.intro (@AkX) (And.intro (@AcG) (@AbX)))) (And.intro (And.intro (@AYI) (@Ac6)) (And.intro (@AVb) (And.intro (@AUy) (@AVZ)))))))) (And.intro (And.intro (And.intro (And.intro (And.intro (And.intro (@Abc) (@Ahr)) (And.intro (@AbB) (@AU2))) (And.intro (And.intro (@Anb) (@AnN)) (And.intro (@Am6) (And.intro (@AnR) (@AfD))))) (And.intro (And.intro (And.intro (@AcE) (@Ahk)) (And.intro (@AjA) (And.intro (@Aef) (@AWf)))) (And.intro (And.intro (@Alq) (@AUz)) (And.intro (@AkJ) (And.intro (@AX9) (@AcI)))))) (And.intro (And.intro (And.intro (And.intro (@AXn) (@AXp)) (And.intro (@AaX) (@AXl))) (And.intro (And.intro (@ASZ) (@Acd)) (And.intro (@AA8) (And.intro (@Sv) (@ATu))))) (And.intro (And.intro (And.intro (@AS7) (@MK)) (And.intro (@AlZ) (And.intro (@Akj) (@AkW)))) (And.intro (And.intro (@Al7) (@AlO)) (And.intro (@Ak3) (And.intro (@Amu) (@Akq))))))) (And.intro (And.intro (And.intro (And.intro (And.intro (@AUS) (@AlD)) (And.intro (@Ali) (@AkS))) (And.intro (And.intro (@Akx) (@AmK)) (And.intro (@Alk) (And.intro (@Ak0) (@AlE))))) (And.intro (And.intro (And.intro (@Ajb) (@Ahz)) (And.intro (@AiA) (And.intro (@Aif) (@AhR)))) (And.intro (And.intro (@Ahx) (@Agk)) (And.intro (@Agd) (And.intro (@AhQ) (@Alu)))))) (And.intro (And.intro (And.intro (And.intro (@AXU) (@AXx)) (And.intro (@AlK) (And.intro (@Ab9) (@AjZ)))) (And.intro (And.intro (@Aky) (@Ael)) (And.intro (@Adf) (And.intro (@AR7) (@bytesOf_map))))) (And.intro (And.intro (And.intro (@Od) (@AML)) (And.intro (@AMS) (And.intro (@AlB) (And.intro (@AkR) (@Aki))))) (And.intro (And.intro (@List.append_eq.{0}) (@List.map_append.{0,0})) (And.intro (@List.length_append.{0}) (And.intro (@Int.le_refl) (@Int.natCast_nonneg))))))))) (And.intro (And.intro (And.intro (And.intro (And.intro (And.intro (And.intro (@List.take_length.{0}) (@List.take_zero.{0})) (And.intro (@Nat.sub_zero) (@Int.toNat_zero))) (And.intro (And.intro (@Bool.true_and) (@Bool.not_true)) (And.intro (@Bool.not_false) (And.intro (@List.length_map.{0,0}) (@Nat.left_eq_add))))) (And.intro (And.intro (And.intro (@Nat.add_eq_left) (@Nat.one_ne_zero)) (And.intro (@Nat.succ_ne_self) (And.intro (@Nat.add_left_cancel_iff) (@Nat.add_assoc)))) (And.intro (And.intro (@List.length_cons.{0}) (@List.length_nil.{0})) (And.intro (@List.replicate_succ.{0}) (And.intro (@List.replicate_zero.{0}) (@List.cons_append.{0})))))) (And.intro (And.intro (And.intro (And.intro (@List.nil_append.{0}) (@List.append_nil.{0})) (And.intro (@List.getD_cons_zero.{0}) (@List.getD_cons_succ.{0}))) (And.intro (And.intro (@List.set_cons_zero.{0}) (@List.set_cons_succ.{0})) (And.intro (@Option.map_some.{0,0}) (And.intro (@Option.map_none.{0,0}) (@Option.bind_some.{0,0}))))) (And.intro (And.intro (And.intro (@Option.bind_none.{0,0}) (@List.contains_nil.{0})) (And.intro (@List.contains_cons.{0}) (And.intro (@List.elem_nil.{0}) (@List.elem_cons.{0})))) (And.intro (And.intro (@if_true.{1}) (@if_false.{1})) (And.intro (@Bool.false_eq_true) (And.intro (@Bool.true_eq_false) (@List.drop_zero.{0}))))))) (And.intro (And.intro (And.intro (And.intro (And.intro (@List.drop_succ_cons.{0}) (@List.take_succ_cons.{0})) (And.intro (@Nat.add_zero) (@Nat.zero_add))) (And.intro (And.intro (@List.getElem?_cons_zero.{0}) (@List.getElem?_cons_succ.{0})) (And.intro (@beq_self_eq_true.{0}) (And.intro (@Bool.or_true) (@Bool.true_or))))) (And.intro (And.intro (And.intro (@Bool.or_false) (@Bool.false_or)) (And.intro (@Option.isNone_none.{0}) (And.intro (@Option.isNone_some.{0}) (@Option.isSome_none.{0})))) (And.intro (And.intro (@Option.isSome_some.{0}) (@decide_true)) (And.intro (@decide_false) (And.intro (@and_self) (@true_and)))))) (And.intro (And.intro (And.intro (And.intro (@and_true) (@Nat.le_refl)) (And.intro (@List.getElem?_toArray.{0}) (And.intro (@Option.getD_some.{0}) (@Option.getD_none.{0})))) (And.intro (And.intro (@ite_self.{1}) (@List.map_cons.{0,0})) (And.intro (@List.map_nil.{0,0}) (And.intro (@List.range_succ) (@List.range_zero))))) (And.intro (And.intro (And.intro (@List.all_cons.{0}) (@List.all_nil.{0})) (And.intro (@Bool.and_true) (And.intro (@Bool.and_self) (@Option.some.injEq.{0})))) (And.intro (And.intro (@Int.toNat_natCast) (@true_or)) (And.intro (@or_true) (And.intro (@false_or) (@or_false)))))))) (And.intro (And.intro (And.intro (And.intro (And.intro (And.intro (@not_true_eq_false) (@not_false_eq_true)) (And.intro (@ne_eq.{1}) (@rdL.eq_1))) (And.intro (And.intro (@rdL.eq_2) (@rdL.eq_3)) (And.intro (@rdo.eq_1) (And.intro (@rdo.eq_2) (@BC.eq_1))))) (And.intro (And.intro (And.intro (@BC.eq_2) (@Ld.eq_1)) (And.intro (@Ld.eq_2) (And.intro (@Ll.eq_1) (@Ll.eq_2)))) (And.intro (And.intro (@Ll.eq_3) (@opAt.eq_1)) (And.intro (@opAt.eq_2) (And.intro (@opAt.eq_3) (@Rv.eq_1)))))) (And.intro (And.intro (And.intro (And.intro (@Rv.eq_2) (@AV.eq_1)) (And.intro (@Bo.eq_1) (@Bo.eq_2))) (And.intro (And.intro (@Bo.eq_3) (@putCells.eq_1)) (And.intro (@putCells.eq_2) (And.intro (@Qi.eq_1) (@Nq.eq_1))))) (And.intro (And.intro (And.intro (@Nb.eq_1) (@Nb.eq_2)) (And.intro (@Ny.eq_1) (And.intro (@Ny.eq_2) (@Kr.eq_1)))) (And.intro (And.intro (@AhU) (@AbJ)) (And.intro (@Jt.eq_1) (And.intro (@Jt.eq_2) (@Jt.eq_3))))))) (And.intro (And.intro (And.intro (And.intro (And.intro (@Jt.eq_4) (@HZ.eq_1)) (And.intro (@HZ.eq_2) (@HZ.eq_3))) (And.intro (And.intro (@HZ.eq_4) (@HZ.eq_5)) (And.intro (@HZ.eq_6) (And.intro (@HZ.eq_7) (@HZ.eq_8))))) (And.intro (And.intro (And.intro (@Pw.eq_1) (@UT.eq_1)) (And.intro (@UT.eq_2) (And.intro (@EZ.eq_1) (@Nf.eq_1)))) (And.intro (And.intro (@Nf.eq_2) (@AVp.eq_1)) (And.intro (@AVp.eq_2) (And.intro (@AYN.eq_1) (@AYN.eq_2)))))) (And.intro (And.intro (And.intro (And.intro (@Bf.eq_1) (@Mq.eq_1)) (And.intro (@Mq.eq_2) (And.intro (@Mq.eq_3) (@Si.eq_1)))) (And.intro (And.intro (@Si.eq_2) (@Aig)) (And.intro (@Ae0) (And.intro (@Ag9) (@Aiu))))) (And.intro (And.intro (And.intro (@Agv) (@Adl)) (And.intro (@AeI) (And.intro (@Akg) (@AYC)))) (And.intro (And.intro (@AVa) (@AJD)) (And.intro (@AX3) (And.intro (@AWK) (@AaO)))))))))) (And.intro (And.intro (And.intro (And.intro (And.intro (And.intro (And.intro (And.intro (@Ai5) (@Ah2)) (And.intro (@AhK) (@Aal))) (And.intro (And.intro (@Aaq) (@Aka)) (And.intro (@AXG) (And.intro (@AVX) (@ADZ))))) (And.intro (And.intro (And.intro (@Aia) (@AWh)) (And.intro (@AmS) (And.intro (@AoX) (@AjU)))) (And.intro (And.intro (@AoU) (@AoR)) (And.intro (@Amk) (And.intro (@Anj) (@Adv)))))) (And.intro (And.intro (And.intro (And.intro (@AhY) (@Aem)) (And.intro (@Ah1) (@AeO))) (And.intro (And.intro (@AXi) (@AXD)) (And.intro (@AQx) (And.intro (@Ant) (@Abj))))) (And.intro (And.intro (And.intro (@AcN) (@Aie)) (And.intro (@Ajg) (And.intro (@AiN) (@AmD)))) (And.intro (And.intro (@Al3) (@AlF)) (And.intro (@AlN) (And.intro (@Akk) (@ATa))))))) (And.intro (And.intro (And.intro (And.intro (And.intro (@ATA) (@AjX)) (And.intro (@Agi) (@Aiv))) (And.intro (And.intro (@Ada) (@AXP)) (And.intro (@Akc) (And.intro (@AhN) (@AlP))))) (And.intro (And.intro (And.intro (@AiB) (@Ae9)) (And.intro (@AaZ) (And.intro (@Agu) (@AUo)))) (And.intro (And.intro (@Ac3) (@AcF)) (And.intro (@AjP) (And.intro (@Abz) (@Aic)))))) (And.intro (And.intro (And.intro (And.intro (@Ahv) (@AiZ)) (And.intro (@AfI) (And.intro (@Aag) (@Akh)))) (And.intro (And.intro (@AYS) (@AT3)) (And.intro (@AA4) (And.intro (@AhE) (@AV2))))) (And.intro (And.intro (And.intro (@AUd) (@Adi)) (And.intro (@AaR) (And.intro (@AUV) (@Alt)))) (And.intro (And.intro (@AmE) (@AmA)) (And.intro (@AlG) (And.intro (@Aeh) (@AiD)))))))) (And.intro (And.intro (And.intro (And.intro (And.intro (And.intro (@Air) (@Agy)) (And.intro (@AVL) (@AYl))) (And.intro (And.intro (@AUx) (@AER)) (And.intro (@AdW) (And.intro (@Aip) (@AlW))))) (And.intro (And.intro (And.intro (@Akn) (@Akv)) (And.intro (@AkV) (And.intro (@Alg) (@AkO)))) (And.intro (And.intro (@AkQ) (@AkU)) (And.intro (@Ald) (And.intro (@Ab8) (@AaM)))))) (And.intro (And.intro (And.intro (And.intro (@Ako) (@Abn)) (And.intro (@Ak2) (@Aeq))) (And.intro (And.intro (@Aht) (@AlV)) (And.intro (@Ae7) (And.intro (@Ak6) (@AeE))))) (And.intro (And.intro (And.intro (@Aoj) (@Alm)) (And.intro (@AkT) (And.intro (@AeZ) (@AlY)))) (And.intro (And.intro (@AmW) (@Al6)) (And.intro (@AmX) (And.intro (@AkE) (@AmY))))))) (And.intro (And.intro (And.intro (And.intro (And.intro (@Aho) (@Ahb)) (And.intro (@Aks) (@Ahw))) (And.intro (And.intro (@Ahs) (@AkP)) (And.intro (@Ack) (And.intro (@AhP) (@AX4))))) (And.intro (And.intro (And.intro (@AiU) (@Aey)) (And.intro (@Ah4) (And.intro (@AXZ) (@AjC)))) (And.intro (And.intro (@Ajf) (@AVD)) (And.intro (@AhO) (And.intro (@AdR) (@AT6)))))) (And.intro (And.intro (And.intro (And.intro (@AWV) (@AWC)) (And.intro (@AW8) (And.intro (@AfJ) (@Adt)))) (And.intro (And.intro (@AYa) (@V5)) (And.intro (@AVJ) (And.intro (@AUp) (@Ahg))))) (And.intro (And.intro (And.intro (@AiG) (@AYb)) (And.intro (@AbS) (And.intro (@ASI) (@TZ)))) (And.intro (And.intro (@SI) (@AVs)) (And.intro (@Ajj) (And.intro (@Ajp) (@Akr))))))))) (And.intro (And.intro (And.intro (And.intro (And.intro (And.intro (And.intro (@ATq) (@TP.eq_1)) (And.intro (@Ahy) (@AfA))) (And.intro (And.intro (@AiH) (@Ah9)) (And.intro (@AiK) (And.intro (@AYx) (@AXW))))) (And.intro (And.intro (And.intro (@Ahq) (@Acp)) (And.intro (@AaH) (And.intro (@Aj7) (@AZC)))) (And.intro (And.intro (@AZB) (@ZX)) (And.intro (@Ahm) (And.intro (@AWM) (@Agq)))))) (And.intro (And.intro (And.intro (And.intro (@Acw) (@AV0)) (And.intro (@ASb) (@Aam))) (And.intro (And.intro (@Aa6) (@Aai)) (And.intro (@Abq) (And.intro (@Adj) (@Ak8))))) (And.intro (And.intro (And.intro (@Aiw) (@Aj8)) (And.intro (@Ad9) (And.intro (@AcT) (@AhB)))) (And.intro (And.intro (@AjG) (@AdB)) (And.intro (@Acv) (And.intro (@AdX) (@AaD))))))) (And.intro (And.intro (And.intro (And.intro (And.intro (@AeY) (@Aee)) (And.intro (@AfO) (@Aa4))) (And.intro (And.intro (@Aj4) (@Abk)) (And.intro (@Ace) (And.intro (@AjT) (@AnA))))) (And.intro (And.intro (And.intro (@AdT) (@AlH)) (And.intro (@Anc) (And.intro (@AnO) (@Ak9)))) (And.intro (And.intro (@AmL) (@Amy)) (And.intro (@Amr) (And.intro (@AcW) (@AkZ)))))) (And.intro (And.intro (And.intro (And.intro (@Akf) (@AmG)) (And.intro (@AkM) (And.intro (@AkL) (@AmM)))) (And.intro (And.intro (@Akd) (@Agh)) (And.intro (@Aob) (And.intro (And.intro (@Ahu) (And.intro (@AlS) (@AnH))) (And.intro (@Ail) (@AiI)))))) (And.intro (And.intro (And.intro (@Anu) (@Amw)) (And.intro (@Ad0) (And.intro (@Ag3) (@Aln)))) (And.intro (And.intro (@AdA) (@Adb)) (And.intro (@AYO) (And.intro (@AdP) (@AaJ)))))))) (And.intro (And.intro (And.intro (And.intro (And.intro (And.intro (@AiY) (@Agw)) (And.intro (@AaP) (@AlC))) (And.intro (And.intro (@Alv) (@Al4)) (And.intro (@Ag0) (And.intro (@AkD) (@AkB))))) (And.intro (And.intro (And.intro (@Acg) (@Aed)) (And.intro (@Alw) (And.intro (@AmQ) (@Ag7)))) (And.intro (And.intro (And.intro (@Amz) (And.intro (And.intro (@AWU) (@AYi)) (And.intro (@Am5) (And.intro (@Ann) (@AnZ))))) (@AmP)) (And.intro (@AmB) (And.intro (@AjY) (@AfM)))))) (And.intro (And.intro (And.intro (And.intro (@Aej) (@AdC)) (And.intro (@AbF) (@Acf))) (And.intro (And.intro (@Abi) (@AiO)) (And.intro (@Akm) (And.intro (@Abo) (@AXT))))) (And.intro (And.intro (And.intro (@AnW) (@AkC)) (And.intro (@AfF) (And.intro (@AVU) (@AVT)))) (And.intro (And.intro (@AaI) (@AbU)) (And.intro (@AnK) (And.intro (@Aas) (@Aei))))))) (And.intro (And.intro (And.intro (And.intro (And.intro (@Ang) (@Ab2)) (And.intro (@AkH) (@Abx))) (And.intro (And.intro (@Ac8) (@Aes)) (And.intro (@AcR) (And.intro (@AeT) (@AiE))))) (And.intro (And.intro (And.intro (@AbD) (@AaW)) (And.intro (@Ams) (And.intro (@AnF) (@Anw)))) (And.intro (And.intro (@AeD) (@AbO)) (And.intro (@Ane) (And.intro (@Am3) (@Aau)))))) (And.intro (And.intro (And.intro (And.intro (@Anx) (@Am8)) (And.intro (@Aje) (And.intro (@Am1) (@AaS)))) (And.intro (And.intro (@AfB) (@Aio)) (And.intro (@AhC) (And.intro (@Aa5) (@AjF))))) (And.intro (And.intro (And.intro (And.intro (@Agn) (And.intro (@Ajd) (@Aca))) (And.intro (And.intro (And.intro (@AeF) (@Aeg)) (And.intro (@AnC) (@Anf))) (And.intro (@Agm) (@Aaf)))) (And.intro (@Anm) (And.intro (And.intro (And.intro (@Amt) (@Aeo)) (And.intro (And.intro (@Akb) (@AkG)) (@AeV))) (And.intro (And.intro (And.intro (@AkI) (@Akw)) (And.intro (@Aly) (@Ak7))) (And.intro (And.intro (And.intro (@Aml) (@AnT)) (And.intro (@Ab6) (@Aeu))) (And.intro (And.intro (@AnI) (@Anp)) (And.intro (@Ana) (@Amh)))))))) (And.intro (And.intro (@List.getElem?_drop.{0}) (@List.getElem?_map.{0,0})) (And.intro (@List.length_set.{0}) (And.intro (@Nat.mul_one) (@List.length_replicate.{0}))))))))))
def liE:=And.intro (And.intro (And.intro (And.intro (And.intro (And.intro (@List.append_eq.{0}) (@List.map_append.{0,0})) (And.intro (@List.length_append.{0}) (And.intro (@Int.le_refl) (@Int.natCast_nonneg)))) (And.intro (And.intro (@List.take_length.{0}) (@List.take_zero.{0})) (And.intro (@Nat.sub_zero) (And.intro (@Int.toNat_zero) (@Bool.true_and))))) (And.intro (And.intro (And.intro (@Bool.not_true) (@Bool.not_false)) (And.intro (@List.length_map.{0,0}) (And.intro (@Nat.left_eq_add) (@Nat.add_eq_left)))) (And.intro (And.intro (@Nat.one_ne_zero) (And.intro (@Nat.succ_ne_self) (@Nat.add_left_cancel_iff))) (And.intro (@Nat.add_assoc) (And.intro (@List.length_cons.{0}) (@List.length_nil.{0})))))) (And.intro (And.intro (And.intro (And.intro (@List.replicate_succ.{0}) (@List.replicate_zero.{0})) (And.intro (@List.cons_append.{0}) (And.intro (@List.nil_append.{0}) (@List.append_nil.{0})))) (And.intro (And.intro (@List.getD_cons_zero.{0}) (@List.getD_cons_succ.{0})) (And.intro (@List.set_cons_zero.{0}) (And.intro (@List.set_cons_succ.{0}) (@Option.map_some.{0,0}))))) (And.intro (And.intro (And.intro (@Option.map_none.{0,0}) (@Option.bind_some.{0,0})) (And.intro (@Option.bind_none.{0,0}) (And.intro (@List.contains_nil.{0}) (@List.contains_cons.{0})))) (And.intro (And.intro (@List.elem_nil.{0}) (And.intro (@List.elem_cons.{0}) (@if_true.{1}))) (And.intro (@if_false.{1}) (And.intro (@Bool.false_eq_true) (@Bool.true_eq_false))))))) (And.intro (And.intro (And.intro (And.intro (And.intro (@List.drop_zero.{0}) (@List.drop_succ_cons.{0})) (And.intro (@List.take_succ_cons.{0}) (And.intro (@Nat.add_zero) (@Nat.zero_add)))) (And.intro (And.intro (@List.getElem?_cons_zero.{0}) (@List.getElem?_cons_succ.{0})) (And.intro (@beq_self_eq_true.{0}) (And.intro (@Bool.or_true) (@Bool.true_or))))) (And.intro (And.intro (And.intro (@Bool.or_false) (@Bool.false_or)) (And.intro (@Option.isNone_none.{0}) (And.intro (@Option.isNone_some.{0}) (@Option.isSome_none.{0})))) (And.intro (And.intro (@Option.isSome_some.{0}) (And.intro (@decide_true) (@decide_false))) (And.intro (@and_self) (And.intro (@true_and) (@and_true)))))) (And.intro (And.intro (And.intro (And.intro (@Nat.le_refl) (@List.getElem?_toArray.{0})) (And.intro (@Option.getD_some.{0}) (And.intro (@Option.getD_none.{0}) (@ite_self.{1})))) (And.intro (And.intro (@List.map_cons.{0,0}) (And.intro (@List.map_nil.{0,0}) (@List.range_succ))) (And.intro (@List.range_zero) (And.intro (@List.all_cons.{0}) (@List.all_nil.{0}))))) (And.intro (And.intro (And.intro (@Bool.and_true) (@Bool.and_self)) (And.intro (@Option.some.injEq.{0}) (And.intro (@Int.toNat_natCast) (@true_or)))) (And.intro (And.intro (@or_true) (And.intro (@false_or) (@or_false))) (And.intro (@not_true_eq_false) (And.intro (@not_false_eq_true) (@ne_eq.{1})))))))
end Go.VM
set_option linter.unusedVariables false
set_option linter.unusedSimpArgs false
namespace Go.VM
abbrev DT:=List (Nat×List Tmp×Plan)
def WF:DT→Nat→List Tmp
  |[],_=>[]
  |(i,m,_)::D,j=>if i=j then m else WF D j
def AhW:DT→Nat→Plan
  |[],_=>.done
  |(i,_,p)::D,j=>if i=j then p else AhW D j
inductive DD (D:DT):Prop
  |mk
def ASf (l:List Tmp) (F:List Tmp→Prop):Prop:=F l
def Tq:Plan→Bool
  |.stop=>true
  |_=>false
def AVS:DT→Nat→Bool
  |[],_=>false
  |(i,_,p)::D,j=>if i=j then Tq p else AVS D j
def ABS (b:Bool) (X Y:Prop):Prop:=if b=true then X else Y
def wpd (E:Env) (D:DT):Code→APost→List AVal→St→Prop
  |.skip,K=>fun af st=>K .normal af st
  |.label _,K=>fun af st=>K .normal af st
  |.ret,K=>fun af st=>K .ret af st
  |.exit id,K=>fun af st=>K (.exit id) af st
  |.seq (.region id os false) y,K=>fun af st=>ABS (AVS D id) (AWp E (.seq (.region id os false) y) K af st) (ASf (WF D id) fun mv=>JL E mv os os.toList (nK (Gz (wpd E D y K) K)) af st)
  |.cond c x y,K=>fun af st=>Py (rd E af 0 c) (wpd E D x K) (wpd E D y K) af st
  |.block id c,K=>wpd E D c (Uu id K)
  |.scope c,K=>wpd E D c K
  |.region id os false,K=>fun af st=>ASf (WF D id) fun mv=>JL E mv os os.toList (nK K) af st
  |c,K=>AWp E c K
section
variable{E:Env}{D:DT}{K:APost}{af:List AVal}{st:St}{x y:Code}{F:List AVal→St→Prop}
theorem AcS:wpd E D .skip K af st=K .normal af st:=by rw[wpd]
theorem AWc{l:Nat}:wpd E D (.label l) K af st=K .normal af st:=by rw[wpd]
theorem Ait:wpd E D .ret K af st=K .ret af st:=by rw[wpd]
theorem Ab3{id:Nat}:wpd E D (.exit id) K af st=K (.exit id) af st:=by rw[wpd]
theorem Aae{id:Nat}{os:List Oper}:wpd E D (.seq (.region id (List.toArray os) false) y) K af st=ABS (AVS D id) (AWp E (.seq (.region id (List.toArray os) false) y) K af st) (ASf (WF D id) fun mv=>JL E mv ⟨os⟩ os (nK (Gz (wpd E D y K) K)) af st):=by rw[wpd]
theorem AkA{X Y:Prop}:ABS true X Y=X:=by simp[ABS]
theorem AlI{X Y:Prop}:ABS false X Y=Y:=by simp[ABS]
theorem Ab4{j:Nat}:AVS [] j=false:=rfl
theorem AWW{i j:Nat}{m:List Tmp}{p:Plan}:AVS ((i,m,p)::D) j=if i=j then Tq p else AVS D j:=rfl
theorem AaG:Tq .stop=true:=rfl
theorem Acn:Tq .done=false:=rfl
theorem Ad3{i:Nat}{p:Plan}:Tq (.take i p)=false:=rfl
theorem Ahh{i:Nat}{c:List Nat}{p q:Plan}:Tq (.alt i c p q)=false:=rfl
@[congr] theorem An4 {b b' : Bool} {X Y : Prop} (h : b = b') : ABS b X Y = ABS b' X Y := by grind
theorem Adr{c:Operand}:wpd E D (.cond c x y) K af st=Py (rd E af 0 c) (wpd E D x K) (wpd E D y K) af st:=by rw[wpd]
theorem AXq{id:Nat}:wpd E D (.block id x) K af st=wpd E D x (Uu id K) af st:=by rw[wpd]
theorem AWu:wpd E D (.scope x) K af st=wpd E D x K af st:=by rw[wpd]
theorem AR4{id:Nat}{os:List Oper}:wpd E D (.region id (List.toArray os) false) K af st=ASf (WF D id) fun mv=>JL E mv ⟨os⟩ os (nK K) af st:=by rw[wpd]
theorem AdL{l:List Tmp}{F:List Tmp→Prop}:ASf l F=F l:=rfl
theorem Aaj{id:Nat}{os:Array Oper}:wpd E D (.region id os true) K af st=AWp E (.region id os true) K af st:=by rw[wpd]<;>simp
theorem AaC:wpd E D (.loop x) K af st=AWp E (.loop x) K af st:=by rw[wpd]<;>simp
theorem Ale{a b:Code}:wpd E D (.seq (.seq a b) y) K af st=AWp E (.seq (.seq a b) y) K af st:=by rw[wpd]<;>simp
theorem Akz{c:Operand}{a b:Code}:wpd E D (.seq (.cond c a b) y) K af st=AWp E (.seq (.cond c a b) y) K af st:=by rw[wpd]<;>simp
theorem Al0{id:Nat}{a:Code}:wpd E D (.seq (.block id a) y) K af st=AWp E (.seq (.block id a) y) K af st:=by rw[wpd]<;>simp
theorem Ama{l:Nat}:wpd E D (.seq (.label l) y) K af st=AWp E (.seq (.label l) y) K af st:=by rw[wpd]<;>simp
theorem Akt{a:Code}:wpd E D (.seq (.loop a) y) K af st=AWp E (.seq (.loop a) y) K af st:=by rw[wpd]<;>simp
theorem AmJ{id:Nat}{os:Array Oper}:wpd E D (.seq (.region id os true) y) K af st=AWp E (.seq (.region id os true) y) K af st:=by rw[wpd]<;>simp
theorem Ake{a:Code}:wpd E D (.seq (.scope a) y) K af st=AWp E (.seq (.scope a) y) K af st:=by rw[wpd]<;>simp
theorem Al1:wpd E D (.seq .skip y) K af st=AWp E (.seq .skip y) K af st:=by rw[wpd]<;>simp
theorem AKs{j:Nat}:WF [] j=[]:=rfl
theorem Yf{i j:Nat}{m:List Tmp}{p:Plan}:WF ((i,m,p)::D) j=if i=j then m else WF D j:=rfl
theorem AX1{i j:Nat}{m:List Tmp}{p:Plan}:AhW ((i,m,p)::D) j=if i=j then p else AhW D j:=rfl
theorem DY: ∀ {c:Code}{K:APost}{af:List AVal}{st:St},wpd E D c K af st→AWp E c K af st:=by
  intro c
  induction c with
  |skip=>intro K af st h;rw[wpd]at h;exact AMT h
  |ret=>intro K af st h;rw[wpd]at h;exact ATp h
  |exit id=>intro K af st h;rw[wpd]at h;exact AKg h
  | seq x y ihx ihy=>
    intro K af st h
    cases x with
    | region id os d=>
      cases d with
      |true=>(rw[wpd]at h;exact h)<;>(intros;simp_all)
      | false=>
        rw[wpd]at h
        unfold ABS at h
        split at h
        · exact h
        refine QO ((RA (WF D id) h).mono fun e af' st' _ q=>?_)
        cases e with
        |normal=>exact ihy q
        |_=>exact q
    |_=>(rw[wpd]at h;exact h)<;>(intros;simp_all)
  | cond c x y ihx ihy=>
    intro K af st h
    rw[wpd]at h
    unfold Py at h
    split at h
    · rename_i b hb
      refine AKe b hb ?_
      cases b with
      |true=>simp_all
      |false=>simp_all
    grind
  | block id c ih=>
    intro K af st h
    rw[wpd]at h
    exact Yq ((ih h).mono fun e af' st' _ q=>by cases e<;>exact q)
  | region id os d=>
    intro K af st h
    cases d with
    |true=>(rw[wpd]at h;exact h)<;>(intros;simp_all)
    |false=>rw[wpd]at h;exact RA (WF D id) h
  |loop c ih=>intro K af st h;(rw[wpd]at h;exact h)<;>(intros;simp_all)
  |rangeFunc f ps x y ihx ihy=>intro K af st h;(rw[wpd]at h;exact h)<;>(intros;simp_all)
  |scope c ih=>intro K af st h;rw[wpd]at h;grind[Yx]
  |label l=>intro K af st h;rw[wpd]at h;exact AXc h
  |goto l=>intro K af st h;(rw[wpd]at h;exact h)<;>(intros;simp_all)
  |refuse w=>intro K af st h;(rw[wpd]at h;exact h)<;>(intros;simp_all)
@[congr] theorem AoQ {c : Code} {L : APost} {af' : List AVal} {st' : St} (h0 : af = af') (h1 : st = st') : wpd E D c L af st = wpd E D c L af' st' := by grind
def rgs:List (Nat×Nat)→List Tmp
  |[]=>[]
  |(a,n)::l=>List.range' a n++rgs l
def ARG:Nat→List AVal→List AVal
  |n+1,_::l=>.any::ARG n l
  |_,l=>l
def maskN:Nat→Nat→List AVal→List AVal
  |0,n,l=>ARG n l
  |a+1,n,x::l=>x::maskN a n l
  |_+1,_,[]=>[]
def Bu:List (Nat×Nat)→List AVal→List AVal
  |[],af=>af
  |(a,n)::l,af=>Bu l (maskN a n af)
theorem Yv: ∀(js ks:List Tmp) (af:List AVal),Ad (js++ks) af=Ad ks (Ad js af)
  |[],_,_=>rfl
  |j::js,ks,af=>by rw[List.cons_append,Ad,Ad,Yv js]
theorem Q6: ∀(js:List Tmp) (x:AVal) (l:List AVal),Ad (js.map (· +1)) (x::l)=x::Ad js l
  |[],_,_=>rfl
  |j::js,x,l=>by rw[List.map_cons,Ad,List.set_cons_succ,Q6 js,Ad]
theorem Ty: ∀js:List Tmp,Ad js []=[]
  |[]=>rfl
  |j::js=>by rw[Ad,List.set_nil,Ty js]
theorem V6: ∀(a n:Nat),List.range' (a+1) n=(List.range' a n).map (· +1)
  |a,0=>rfl
  |a,n+1=>by rw[List.range'_succ,List.range'_succ,List.map_cons,V6 (a+1) n]
theorem VW: ∀(a n:Nat) (l:List AVal),maskN a n l=Ad (List.range' a n) l
  |0,0,l=>by rw[maskN];cases l<;>rfl
  |0,n+1,[]=>by rw[Ty];rfl
  | 0,n+1,x::l=>by
    rw[maskN,ARG,List.range'_succ,Ad,List.set_cons_zero,show List.range' (0+1) n=(List.range' 0 n).map (· +1)from V6 _ _,Q6,←VW 0 n l,maskN]
  |a+1,n,[]=>by rw[Ty];rfl
  | a+1,n,x::l=>by
    rw[maskN,show List.range' (a+1) n=(List.range' a n).map (· +1)from V6 _ _,Q6,VW a n l]
theorem Cf: ∀(js:List (Nat×Nat)) (af:List AVal),Bu js af=Ad (rgs js) af
  |[],_=>rfl
  |(a,n)::js,af=>by rw[Bu,VW,Cf js,rgs,Yv]
theorem Alz:Bu [] af=af:=rfl
theorem AjM{a n:Nat}{l:List (Nat×Nat)}:Bu ((a,n)::l) af=Bu l (maskN a n af):=rfl
theorem AoL{a n:Nat}{v:AVal}{l:List AVal}:maskN (a+1) n (v::l)=v::maskN a n l:=rfl
theorem AoV{n:Nat}{l:List AVal}:maskN 0 n l=ARG n l:=by cases l<;>rfl
theorem AoS{n:Nat}{v:AVal}{l:List AVal}:ARG (n+1) (v::l)=.any::ARG n l:=rfl
theorem AoB{l:List AVal}:ARG 0 l=l:=by cases l<;>rfl
def Uv:List PC→List AVal→List AVal
  |.k::l,x::xs=>x::Uv l xs
  |.w::l,x::xs=>x.strip::Uv l xs
  |.v y::l,_::xs=>y::Uv l xs
  |_,xs=>xs
def reB:List BX→MS→MS
  |.k::l,p::m=>p::reB l m
  |.d::l,_::m=>reB l m
  |.s c::l,p::m=>(p.1,c)::reB l m
  |.t c::l,p::m=>(p.1,c p.1)::reB l m
  |.p ps::l,p::m=>(p.1,Uv ps p.2)::reB l m
  |_,m=>m
theorem Aon{m:MS}:reB [] m=m:=by cases m<;>rfl
theorem AoO{l:List BX}{p:Nat×List AVal}{m:MS}:reB (.k::l) (p::m)=p::reB l m:=rfl
theorem Aoi{l:List BX}{p:Nat×List AVal}{m:MS}:reB (.d::l) (p::m)=reB l m:=rfl
theorem Aoe{l:List BX}{c x:List AVal}{i:Nat}{m:MS}:reB (.s c::l) ((i,x)::m)=(i,c)::reB l m:=rfl
theorem AoC{l:List BX}{c:Nat→List AVal}{x:List AVal}{i:Nat}{m:MS}:reB (.t c::l) ((i,x)::m)=(i,c i)::reB l m:=rfl
theorem Aoc{l:List BX}{ps:List PC}{x:List AVal}{i:Nat}{m:MS}:reB (.p ps::l) ((i,x)::m)=(i,Uv ps x)::reB l m:=rfl
theorem AoK{xs:List AVal}:Uv [] xs=xs:=by cases xs<;>rfl
theorem Aol{l:List PC}{x:AVal}{xs:List AVal}:Uv (.k::l) (x::xs)=x::Uv l xs:=rfl
theorem AoA{l:List PC}{x:AVal}{xs:List AVal}:Uv (.w::l) (x::xs)=x.strip::Uv l xs:=rfl
theorem AoY{l:List PC}{x y:AVal}{xs:List AVal}:Uv (.v y::l) (x::xs)=y::Uv l xs:=rfl
def Sm:Code→Nat×Nat
  |.seq x y=>((Sm x).1,(Sm x).2+(Sm y).2+1)
  |.cond _ x y=>((Sm x).1,(Sm x).2+(Sm y).2+1)
  |.block id x=>(id,(Sm x).2+1)
  |.loop x=>((Sm x).1,(Sm x).2+1)
  |.scope x=>((Sm x).1,(Sm x).2+1)
  |.region id _ _=>(id,1)
  |_=>(0,1)
end
inductive Wk:AVal→AVal→Prop
  |same (x:AVal):Wk x x
  |strip (x:AVal):Wk x x.strip
inductive WkL:List AVal→List AVal→Prop
  |nil:WkL [] []
  |cons{x y:AVal}{xs ys:List AVal} (h:Wk x y) (t:WkL xs ys):WkL (x::xs) (y::ys)
inductive SubW:MS→MS→Prop
  |refl (m:MS):SubW m m
  |keep{m0 m1:MS}{i:Nat}{cs cs':List AVal} (h:WkL cs cs') (t:SubW m0 m1):SubW ((i,cs')::m0) ((i,cs)::m1)
  |drop{m0 m1:MS}{p:Nat×List AVal} (t:SubW m0 m1):SubW m0 (p::m1)
theorem WkL.refl: ∀xs:List AVal,WkL xs xs
  |[]=>.nil
  |x::xs=>.cons (.same x) (WkL.refl xs)
theorem WkL.stripB{xs ys:List AVal} (h:WkL xs ys): ∃bs,VM.stripB bs xs=ys:=by
  induction h with
  |nil=>exact⟨[],rfl⟩
  | cons h t ih=>
    obtain⟨bs,rfl⟩:=ih
    cases h with
    |same=>exact⟨false::bs,by rw[VM.stripB]⟩
    |strip=>exact⟨true::bs,by rw[VM.stripB]⟩
theorem WkL.set{v u:AVal} (h:Wk u v): ∀ {xs ys:List AVal} (c:Nat),WkL xs ys→WkL (xs.set c u) (ys.set c v)
  |_,_,_,.nil=>by simpa using WkL.nil
  |_,_,0,.cons _ t=>.cons h t
  |_,_,c+1,.cons k t=>.cons k (WkL.set h c t)
theorem WkL.setVals: ∀ {cs:List Tmp}{us vs xs ys:List AVal},WkL xs ys→WkL us vs→WkL (VM.setVals xs cs us) (VM.setVals ys cs vs)
  |[],us,vs,xs,ys,h,k=>by cases k<;>(rw[VM.setVals,VM.setVals];exact h)<;>simp
  | c::cs,_,_,xs,ys,h,.nil=>by
    grind[VM.setVals]
  |c::cs,_,_,xs,ys,h,.cons h1 t=>by rw[VM.setVals,VM.setVals];exact WkL.setVals (WkL.set h1 c h) t
section
variable{E:Env}{F:Nat→Nat}{Γ:Ghost}{st:St}{w:World}{af af2:List AVal}{a:Act}{Q:APost}{c:Code}{n:Nat}
theorem Sim.wkF (hs:Sim E F Γ st w af a.tmps.toList) (h:WkL af af2):Sim E F Γ st w af2 a.tmps.toList:=by
  obtain⟨bs,rfl⟩:=h.stripB
  exact {hs with rep:=Md bs _ _ hs.rep,own:=MM bs _ _ hs.own,tok:=fun b=>by have:=Ma b bs af a.tmps.toList;have:=hs.tok b;omega}
theorem ATe: ∀ {pre m:MS}{i:Nat}{cs:List AVal},((pre++(i,cs)::m).map (·.1)).Nodup→Ab (pre++(i,cs)::m) i=some cs∧ ∀x,Ak (pre++(i,cs)::m) i x=pre++(i,x)::m
  |[],m,i,cs,_=>⟨AA8,fun x=>ATu⟩
  | (j,d)::pre,m,i,cs,h=>by
    rw[List.cons_append,List.map_cons,List.nodup_cons]at h
    have hne:i≠j:=by
      rintro rfl
      grind
    have:=ATe (pre:=pre) h.2
    rw[List.cons_append,Sv hne]
    exact⟨this.1,fun x=>by rw[AS7 hne,this.2 x,List.cons_append]⟩
theorem Sim.wkM{m0 m1:MS} (h:SubW m0 m1): ∀ {pre:MS},Sim E F Γ ⟨pre++m1,n⟩ w af a.tmps.toList→Sim E F Γ ⟨pre++m0,n⟩ w af a.tmps.toList:=by
  induction h with
  |refl m=>simp
  | @drop m0 m1 p t ih=>intro pre hs;exact ih (hs.fewer (m:=pre++m1) (List.Sublist.append (List.Sublist.refl _) (List.Sublist.cons _ (List.Sublist.refl _))))
  | @keep m0 m1 i cs cs' h t ih=>
    intro pre hs
    obtain⟨bs,rfl⟩:=h.stripB
    obtain⟨h1,h2⟩:=ATe hs.keys
    have:=hs.stripCells bs h1
    rw[h2]at this
    have e: ∀m:MS,pre++(i,VM.stripB bs cs)::m=(pre++[(i,VM.stripB bs cs)])++m:=fun m=>by simp
    grind
theorem AWp.wk{m m2:MS} (h:AWp E c Q af2 ⟨m2,n⟩) (h1:WkL af af2) (h2:SubW m2 m):AWp E c Q af ⟨m,n⟩:=
  ⟨fun F Γ w a hd hs=>h.go F Γ w a hd ((Sim.wkM (pre:=[]) h2 hs).wkF h1)⟩
theorem Qu (js cs:List Tmp) (I:Nat→List AVal→St→Prop) (n₀:Nat){vs0:List AVal}{m m0:MS} (hv:WkL (Bt (Ad js af) cs) vs0) (hm:SubW m0 m) (h₀:I n₀ vs0 ⟨m0,n⟩)
    (round: ∀k vs st',I k vs st'→ ∀J:List AVal→St→Prop,
      (∀k' af' st' m vs',k'<k→SubW m st'.m→Ad cs (Ad js af')=Ad cs (Ad js af)→WkL (Bt (Ad js af') cs) vs'→I k' vs' {st' with m:=m}→J af' st')→
      AWp E c (kPost J Q) (setVals (Ad js af) cs vs) st'):AWp E (.loop c) Q af ⟨m,n⟩:=by
  refine PX js ?_
  constructor
  intro F Γ w a hd hs
  have hs0:Sim E F Γ ⟨m0,n⟩ w (setVals (Ad js af) cs vs0) a.tmps.toList:=by
    have h1:=Sim.wkM (pre:=[]) hm hs
    rw[Iq cs _ _ (rfl:Ad cs (Ad js af)=Ad cs (Ad js af))]at h1
    exact h1.wkF (WkL.setVals (WkL.refl _) hv)
  refine wp_loop_ghost (fun k a' w'=>a'.defers=[]∧ ∃Γ' vs st',Ext F Γ w Γ' w'∧n≤st'.next∧Sim E F Γ' st' w' (setVals (Ad js af) cs vs) a'.tmps.toList∧I k vs st') n₀
    ⟨hd,Γ,vs0,⟨m0,n⟩,Ext.refl _ _ _,Nat.le_refl _,hs0,h₀⟩ ?_
  intro k a₁ w₁ ⟨hd1,Γ₁,vs₁,st₁,h2,h3,h4,h5⟩
  refine wp_mono ((round k vs₁ st₁ h5 (fun af' st'=> ∃k' m vs',k'<k∧SubW m st'.m∧Ad cs (Ad js af')=Ad cs (Ad js af)∧WkL (Bt (Ad js af') cs) vs'∧I k' vs' {st' with m:=m}) (fun k' af' st' m vs' k1 k2 k3 k4 k5=>⟨k',m,vs',k1,k2,k3,k4,k5⟩)).go F Γ₁ w₁ a₁ hd1 h4) ?_
  intro e a' w' hq
  have hq:=Ra h2 h3 hq
  cases e with
  | normal=>
    obtain⟨_,k1,Γ',af',st',k2,k3,k4,kk⟩:=hq
    obtain⟨k',m,vs',k5,k6,k7,k9,k8⟩:=kk.get
    refine⟨k',k5,k1,Γ',vs',{st' with m:=m},k2,k3,?_,k8⟩
    have h1:=Sim.wkM (pre:=[]) k6 (k4.mask js)
    rw[Iq cs _ _ k7]at h1
    exact h1.wkF (WkL.setVals (WkL.refl _) k9)
  | _=>
    obtain⟨k0,k1,Γ',af',st',k2,k3,k4,kk⟩:=hq
    exact⟨k0,k1,Γ',af',st',k2,k3,k4,kk.out (by simp)⟩
end
@[congr] theorem An3 {l l' : List Tmp} {F : List Tmp → Prop} (h : l = l') : ASf l F = ASf l' F := by grind
def stp (b:Bool) (v:AVal):AVal:=if b=true then v.strip else v
theorem ATh{v:AVal}:stp true v=v.strip:=rfl
theorem AS3{v:AVal}:stp false v=v:=rfl
structure RH (E:Env) (rs:List ResultVar) (R:APost) (b:Bool) (m':MS) (n:Nat) (r':AVal):Prop where
  go: ∀af st xs m0 m1 n',Mq E rs af st=some (xs,⟨m1,n'⟩)→m0.Sublist m1→m0=m'→n≤n'→stp b (Om xs)=r'→R .ret af st∧R .normal af st
structure JOK{α β:Type} (k:α→Option β) (r:β) (js:List (Nat×Nat)) (cs:List Tmp) (V:α→List AVal) (Ms:α→List BX) (af0:List AVal) (m:MS) (n:Nat) (J:List AVal→St→Prop):Prop where
  go: ∀j af' m0 m1 n',k j=some r→SubW m0 m1→m0=reB (Ms j) m→Ad cs (Bu js af')=Ad cs (Bu js af0)→WkL (Bt (Bu js af') cs) (V j)→n≤n'→J af' ⟨m1,n'⟩
def AKz:AVal→Nat
  |.ptr i _=>i
  |.sh i=>i
  |_=>0
theorem Aii{i:Nat}:AKz (.sh i)=i:=rfl
theorem Ad4{i o:Nat}:AKz (.ptr i o)=i:=rfl
structure JNK{α β:Type} (k:α→Option β) (r:β) (js:List (Nat×Nat)) (cs:List Tmp) (p:Tmp) (V:α→Nat→List AVal) (Ms:α→Nat→List BX) (C:α→Nat→List AVal) (af0:List AVal) (m:MS) (n:Nat) (J:List AVal→St→Prop):Prop where
  go: ∀j g af' m0 m1 n',k j=some r→SubW m0 m1→m0=(g,C j g)::reB (Ms j g) m→Ad cs (Bu js af')=Ad cs (Bu js af0)→WkL (Bt (Bu js af') cs) (V j g)→n≤g∧g<n'→J af' ⟨m1,n'⟩
structure LOK{σ β:Type} (G:Nat→σ→Option β) (r:β) (k:Nat) (js:List (Nat×Nat)) (cs:List Tmp) (V:σ→List AVal) (Ms:σ→List BX) (af0:List AVal) (m:MS) (n:Nat) (J:List AVal→St→Prop):Prop where
  go: ∀s af' m0 m1 n',G k s=some r→SubW m0 m1→m0=reB (Ms s) m→Ad cs (Bu js af')=Ad cs (Bu js af0)→WkL (Bt (Bu js af') cs) (V s)→n≤n'→J af' ⟨m1,n'⟩
structure ROK{α σ β:Type} (G:List α→Int→σ→Option β) (r:β) (xs:List α) (i:Int) (js:List (Nat×Nat)) (cs:List Tmp) (V:Int→σ→List AVal) (Ms:Int→σ→List BX) (af0:List AVal) (m:MS) (n:Nat) (J:List AVal→St→Prop):Prop where
  go: ∀s af' m0 m1 n',G xs i s=some r→SubW m0 m1→m0=reB (Ms i s) m→Ad cs (Bu js af')=Ad cs (Bu js af0)→WkL (Bt (Bu js af') cs) (V i s)→n≤n'→J af' ⟨m1,n'⟩
structure COK{σ β:Type} (G:Nat→Int→σ→Option β) (r:β) (k:Nat) (i:Int) (js:List (Nat×Nat)) (cs:List Tmp) (V:Int→σ→List AVal) (Ms:Int→σ→List BX) (af0:List AVal) (m:MS) (n:Nat) (J:List AVal→St→Prop):Prop where
  go: ∀s af' m0 m1 n',G k i s=some r→SubW m0 m1→m0=reB (Ms i s) m→Ad cs (Bu js af')=Ad cs (Bu js af0)→WkL (Bt (Bu js af') cs) (V i s)→n≤n'→J af' ⟨m1,n'⟩
class CF (E:Env){ρ:Type} (X:Option ρ) (f:outParam FuncId) (args:outParam (List AVal)) (er:outParam (ρ→AVal)):Prop where
  go: ∀ {r:ρ}{n:Nat}{m:MS}{Q:PQ},X=some r→(∀n',n≤n'→Gl (Q (er r) ⟨m,n'⟩))→ACall E f args ⟨m,n⟩ Q
theorem CF.freeze{E:Env}{ρ:Type}{X:Option ρ}{f:FuncId}{args:List AVal}{w:Nat}{g:ρ→List AVal} (h:CF E (Ak1 X) f args fun r=>.vec w (g r)):CF E X f args fun r=>.slice w (g r) false:=
  ⟨fun hx hQ=>ACall.giveS (h.go hx fun n' hn=>⟨⟨w,_,rfl,fun k hk=>(hQ k (Nat.le_trans hn hk)).go⟩⟩)⟩
class CB (E:Env){ρ:Type} (X:Option ρ) (f:outParam FuncId) (args:outParam (Nat→List AVal)) (pre:outParam (Nat→List AVal)) (er:outParam (ρ→AVal)) (post:outParam (Nat→ρ→List AVal)):Prop where
  go: ∀ {r:ρ}{n i:Nat}{m:MS}{Q:PQ},X=some r→Ab m i=some (pre i)→(∀n',n≤n'→Gl (Q (er r) ⟨Ak m i (post i r),n'⟩))→ACall E f (args i) ⟨m,n⟩ Q
class CT (E:Env){ρ:Type} (X:Option ρ) (f:outParam FuncId) (pre:outParam (Nat→List AVal)) (er:outParam (ρ→AVal)) (post:outParam (Nat→ρ→List AVal)):Prop where
  go: ∀ {r:ρ}{n i j:Nat}{m:MS}{Q:PQ},X=some r→Ab m j=some [.ptr i 0]→Ab m i=some (pre i)→i≠j→(∀n',n≤n'→Gl (Q (er r) ⟨Ak m i (post i r),n'⟩))→ACall E f [.ptr j 0] ⟨m,n⟩ Q
class XC (E:Env) (f:FuncId) (args:List AVal) (r:outParam AVal):Prop where
  go: ∀ {st:St}{Q:PQ},Gl (Q r st)→UJ E f args st Q
class CN (E:Env){ρ:Type} (X:Option ρ) (f:outParam FuncId) (args:outParam (List AVal)) (rv:outParam (Nat→AVal)) (cells:outParam (ρ→Nat→List AVal)):Prop where
  go: ∀ {r:ρ}{n:Nat}{m:MS}{Q:PQ},X=some r→(∀i n',n≤i→i<n'→Gl (Q (rv i) ⟨(i,cells r i)::m,n'⟩))→ACall E f args ⟨m,n⟩ Q
class LF{β:Type} (X:Option β){σ:outParam Type} (G B:outParam (Nat→σ→Option β)) (k:outParam Nat) (s:outParam σ) (js:outParam (List (Nat×Nat))) (cs:outParam (List Tmp)) (V:outParam (σ→List AVal)) (Ms:outParam (σ→List BX)):Prop where
  eq:X=G k s
  z: ∀s,G 0 s=none
  u: ∀k s,G (k+1) s=B k s
class LR{β:Type} (X:Option β){α σ:outParam Type} (G:outParam (List α→Int→σ→Option β)) (Bn:outParam (Int→σ→Option β)) (Bc:outParam (α→List α→Int→σ→Option β)) (L:outParam (List α)) (i:outParam Int) (s:outParam σ) (js:outParam (List (Nat×Nat))) (cs:outParam (List Tmp)) (V:outParam (Int→σ→List AVal)) (Ms:outParam (Int→σ→List BX)):Prop where
  eq:X=G L i s
  un: ∀i s,G [] i s=Bn i s
  uc: ∀x xs i s,G (x::xs) i s=Bc x xs i s
class LQ{β:Type} (X:Option β){α σ:outParam Type} (G:outParam (List α→Int→σ→Option β)) (Bn:outParam (Int→σ→Option β)) (Bc:outParam (α→List α→Int→σ→Option β)) (L:outParam (List α)) (s:outParam σ) (js:outParam (List (Nat×Nat))) (cs:outParam (List Tmp)) (V:outParam (Int→σ→List AVal)) (Ms:outParam (Int→σ→List BX)):Prop where
  eq: ∀i,X=G L i s
  un: ∀i s,G [] i s=Bn i s
  uc: ∀x xs i s,G (x::xs) i s=Bc x xs i s
class LC{β:Type} (X:Option β){σ:outParam Type} (G:outParam (Nat→Int→σ→Option β)) (Bn:outParam (Int→σ→Option β)) (Bc:outParam (Nat→Int→σ→Option β)) (k:outParam Nat) (i:outParam Int) (s:outParam σ) (js:outParam (List (Nat×Nat))) (cs:outParam (List Tmp)) (V:outParam (Int→σ→List AVal)) (Ms:outParam (Int→σ→List BX)):Prop where
  eq:X=G k i s
  un: ∀i s,G 0 i s=Bn i s
  uc: ∀k i s,G (k+1) i s=Bc k i s
class LU{β:Type} (X:Option β){σ:outParam Type} (G:outParam (Nat→Int→σ→Option β)) (Bn:outParam (Int→σ→Option β)) (Bc:outParam (Nat→Int→σ→Option β)) (k:outParam Nat) (s:outParam σ) (js:outParam (List (Nat×Nat))) (cs:outParam (List Tmp)) (V:outParam (Int→σ→List AVal)) (Ms:outParam (Int→σ→List BX)):Prop where
  eq: ∀i,X=G k i s
  un: ∀i s,G 0 i s=Bn i s
  uc: ∀k i s,G (k+1) i s=Bc k i s
class MX (E:Env):Prop where
  ok:E.P.follows .mixedOrders=true
section rules
variable{E:Env}{D:DT}{β ρ:Type}{r:β}{T:Prop}{n n':Nat}{m m0 m1:MS}{af af0:List AVal}{st:St}{Q K:APost}{x y c:Code}{js:List (Nat×Nat)}{cs:List Tmp}{J:List AVal→St→Prop}
theorem mkF{X B:Option ρ}{f:FuncId}{fn:Func}{nt:Nat}{rs:List ResultVar}{args:List AVal}{er:ρ→AVal} (hx:X=B) (hf:E.P.funcs[f]?=some fn) (hb:fn.body=some c) (hn:fn.ntmps=nt) (hr:fn.results=rs.toArray) (D:DT) (b:Bool)
    (w: ∀(r:ρ) (n:Nat) (m:MS) (R:APost),RH E rs R b m n (er r)→True∧B=some r→DD D→Gl (wpd E D c R (args++List.replicate (nt-args.length) .any) ⟨m,n⟩)):CF E X f args er:=by
  constructor
  intro r n m Q h hQ
  subst hn
  have e:fn.results.toList=rs:=by rw[hr]
  cases b with
  | false=>
    refine Ja hf hb (DY (w r n m (He E fn Q) ⟨?_⟩ ⟨trivial,hx▸h⟩ ⟨⟩).go)
    intro af st xs m0 m1 n' h1 h2 h0 h3 h4
    subst h0;rw[AS3]at h4
    exact⟨Hz (by rw[e];omega) h2 (h4▸(hQ n' h3).go),IC (by rw[e];omega) h2 (h4▸(hQ n' h3).go)⟩
  | true=>
    refine ACall.strip (Ja hf hb (DY (w r n m (He E fn fun r st'=>Q r.strip st') ⟨?_⟩ ⟨trivial,hx▸h⟩ ⟨⟩).go))
    intro af st xs m0 m1 n' h1 h2 h0 h3 h4
    subst h0;rw[ATh]at h4
    exact⟨Hz (by rw[e];omega) h2 (by rw[h4];exact(hQ n' h3).go),IC (by rw[e];omega) h2 (by rw[h4];exact(hQ n' h3).go)⟩
theorem mkB{X B:Option ρ}{f:FuncId}{fn:Func}{nt:Nat}{rs:List ResultVar}{args:Nat→List AVal}{pre:Nat→List AVal}{er:ρ→AVal}{post:Nat→ρ→List AVal} (hx:X=B) (hf:E.P.funcs[f]?=some fn) (hb:fn.body=some c) (hn:fn.ntmps=nt) (hr:fn.results=rs.toArray) (D:DT) (b:Bool)
    (w: ∀(r:ρ) (n i:Nat) (m:MS) (R:APost),i<n→RH E rs R b ((i,post i r)::m) n (er r)→True∧B=some r→DD D→Gl (wpd E D c R (args i++List.replicate (nt-(args i).length) .any) ⟨(i,pre i)::m,n⟩)):CB E X f args pre er post:=by
  constructor
  intro r n i m Q h hi hQ
  subst hn
  have e:fn.results.toList=rs:=by rw[hr]
  refine ACall.front hi fun hin=>?_
  cases b with
  | false=>
    refine Ja hf hb (DY (w r n i _ (He E fn _) hin ⟨?_⟩ ⟨trivial,hx▸h⟩ ⟨⟩).go)
    intro af st xs m0 m1 n' h1 h2 h0 h3 h4
    subst h0;rw[AS3]at h4
    exact⟨Hz (by rw[e];omega) h2 ⟨_,rfl,h4▸(hQ n' h3).go⟩,IC (by rw[e];omega) h2 ⟨_,rfl,h4▸(hQ n' h3).go⟩⟩
  | true=>
    refine ACall.strip (Ja hf hb (DY (w r n i _ (He E fn fun r st'=>_) hin ⟨?_⟩ ⟨trivial,hx▸h⟩ ⟨⟩).go))
    intro af st xs m0 m1 n' h1 h2 h0 h3 h4
    subst h0;rw[ATh]at h4
    exact⟨Hz (by rw[e];omega) h2 ⟨_,rfl,by rw[h4];exact(hQ n' h3).go⟩,IC (by rw[e];omega) h2 ⟨_,rfl,by rw[h4];exact(hQ n' h3).go⟩⟩
theorem AnY{b:Bool}{u v:Option β}{A B:List AVal→St→Prop} (h:T∧(if b=true then u else v)=some r) (a:(b=true∧T)∧u=some r→Gl (A af st)) (a':(b=false∧T)∧v=some r→Gl (B af st)):Gl (Py (.bool b) A B af st):=by
  rcases Ig h with h|h
  · grind[ATa]
  grind[ATA]
theorem Sr{X:Option ρ}{f:FuncId}{args args':List AVal}{er:ρ→AVal}{y:ρ}{Q:PQ} [i:CF E X f args er] (h:X=some y) (ha:args'=args) (k: ∀n',n≤n'→Gl (Q (er y) ⟨m,n'⟩)):Gl (ACall E f args' ⟨m,n⟩ Q):=⟨ha▸i.go h k⟩
theorem AOg{X:Option ρ}{f:FuncId}{args:Nat→List AVal}{tl:List AVal}{pre:Nat→List AVal}{er:ρ→AVal}{post:Nat→ρ→List AVal}{y:ρ}{Q:PQ}{j:Nat} [i:CB E X f args pre er post] (h:X=some y) (ha: .ptr j 0::tl=args j) (hm:Ab m j=some (pre j)) (k: ∀n',n≤n'→Gl (Q (er y) ⟨Ak m j (post j y),n'⟩)):Gl (ACall E f (.ptr j 0::tl) ⟨m,n⟩ Q):=⟨ha▸i.go h hm k⟩
theorem APk{X:Option ρ}{f:FuncId}{args:Nat→List AVal}{x:AVal}{g:Fn}{pre:Nat→List AVal}{er:ρ→AVal}{post:Nat→ρ→List AVal}{y:ρ}{Q:PQ}{j:Nat} [i:CB E X f args pre er post] (h:X=some y) (ha:[x,.fn g [] [.ptr j 0]]=args j) (hm:Ab m j=some (pre j)) (k: ∀n',n≤n'→Gl (Q (er y) ⟨Ak m j (post j y),n'⟩)):Gl (ACall E f [x,.fn g [] [.ptr j 0]] ⟨m,n⟩ Q):=⟨ha▸i.go h hm k⟩
theorem APX{X:Option ρ}{f:FuncId}{args:Nat→List AVal}{x:AVal}{g:Fn}{pre:Nat→List AVal}{er:ρ→AVal}{post:Nat→ρ→List AVal}{y:ρ}{Q:PQ}{j:Nat} [i:CB E X f args pre er post] (h:X=some y) (ha:[x,.fn g [.ptr j 0] []]=args j) (hm:Ab m j=some (pre j)) (k: ∀n',n≤n'→Gl (Q (er y) ⟨Ak m j (post j y),n'⟩)):Gl (ACall E f [x,.fn g [.ptr j 0] []] ⟨m,n⟩ Q):=⟨ha▸i.go h hm k⟩
theorem Am4{f:FuncId}{args:List AVal}{x:AVal}{Q:PQ} [i:XC E f args x] (h:Gl (Q x st)):Gl (UJ E f args st Q):=⟨i.go h⟩
theorem Abw{X:Option ρ}{f:FuncId}{args args':List AVal}{rv:Nat→AVal}{cells:ρ→Nat→List AVal}{y:ρ}{Q:PQ} [i:CN E X f args rv cells] (h:X=some y) (ha:args'=args) (k: ∀i n',n≤i→i<n'→Gl (Q (rv i) ⟨(i,cells y i)::m,n'⟩)):Gl (ACall E f args' ⟨m,n⟩ Q):=⟨ha▸i.go h k⟩
theorem AdS{X:Option ρ}{f:FuncId}{pre:Nat→List AVal}{er:ρ→AVal}{post:Nat→ρ→List AVal}{y:ρ}{Q:PQ}{i j:Nat} [c:CT E X f pre er post] (h:X=some y) (hj:Ab m j=some [.ptr i 0]) (hm:Ab m i=some (pre i)) (hne:i≠j) (k: ∀n',n≤n'→Gl (Q (er y) ⟨Ak m i (post i y),n'⟩)):Gl (ACall E f [.ptr j 0] ⟨m,n⟩ Q):=⟨c.go h hj hm hne k⟩
theorem ASo{X:Option ρ}{f:FuncId}{args:Nat→List AVal}{x:AVal}{tl:List AVal}{pre:Nat→List AVal}{er:ρ→AVal}{post:Nat→ρ→List AVal}{y:ρ}{Q:PQ}{j:Nat} [i:CB E X f args pre er post] (h:X=some y) (ha:x:: .ptr j 0::tl=args j) (hm:Ab m j=some (pre j)) (k: ∀n',n≤n'→Gl (Q (er y) ⟨Ak m j (post j y),n'⟩)):Gl (ACall E f (x:: .ptr j 0::tl) ⟨m,n⟩ Q):=⟨ha▸i.go h hm k⟩
theorem ARm{X:Option ρ}{f:FuncId}{args:Nat→List AVal}{x y:AVal}{pre:Nat→List AVal}{er:ρ→AVal}{post:Nat→ρ→List AVal}{yy:ρ}{Q:PQ}{j:Nat} [i:CB E X f args pre er post] (h:X=some yy) (ha:[x,y,.ptr j 0]=args j) (hm:Ab m j=some (pre j)) (k: ∀n',n≤n'→Gl (Q (er yy) ⟨Ak m j (post j yy),n'⟩)):Gl (ACall E f [x,y,.ptr j 0] ⟨m,n⟩ Q):=⟨ha▸i.go h hm k⟩
theorem AoD{id:Nat}{os:List Oper}{mv:List Tmp}{p:Plan} (hD:DD D) [i:MX E] (hm:WF D id=mv) (hp:AhW D id=p) (hok:GV (List.toArray os) p false (Array.replicate (List.toArray os).size false) []=true)
    (h:Gl (EX E mv ⟨os⟩ p [] (nK Q) af st)):Gl (AWp E (.region id (List.toArray os) true) Q af st):=⟨Oo mv p i.ok hok h.go⟩
theorem Aoa (hD:DD D) (h:Gl (wpd E D x (Gz (wpd E D y Q) Q) af st)):Gl (AWp E (.seq x y) Q af st):=
  ⟨QO ((DY h.go).mono fun e af' st' _ q=>by cases e<;>first|exact DY q|exact q)⟩
theorem Aj0{α:Type}{id:Nat×Nat}{V:α→List AVal}{Ms:α→List BX}{k0:α→Option β}{body:(α→Option β)→Option β} (h:T∧AA k0 body (.b id js cs V Ms)=some r) (hD:DD D) (hid:Sm x=id)
    (rest: ∀j n',n≤n'→T∧k0 j=some r→Gl (wpd E D y Q (setVals (Bu js af) cs (V j)) ⟨reB (Ms j) m,n'⟩))
    (first: ∀(k:α→Option β) (J:List AVal→St→Prop),JOK k r js cs V Ms af m n J→T∧body k=some r→Gl (wpd E D x (Gz J Q) af ⟨m,n⟩)):Gl (AWp E (.seq x y) Q af ⟨m,n⟩):=by
  refine⟨QO ?_⟩
  have key:=DY (first k0 (fun af' st'=>AWp E y Q af' ⟨st'.m,st'.next⟩) ⟨?_⟩ h).go
  · exact key.mono fun e af' st' _ q=>by cases e<;>exact q
  · intro j af' m0 m1 n' h1 h2 h3 h4 h5 h6
    subst h3
    refine PX (rgs js) ?_
    have:=DY (rest j n' h6 ⟨h.1,h1⟩).go
    rw[Cf,Cf]at h4
    rw[Cf]at h5 this
    rw[Iq cs _ _ h4]
    exact this.wk (WkL.setVals (WkL.refl _) h5) h2
theorem Anh{α:Type}{id:Nat×Nat}{V:α→List AVal}{k0:α→Option β}{body:(α→Option β)→Option β} (h:T∧AA k0 body (.a id js cs V)=some r) (hD:DD D) (hid:Sm x=id)
    (rest: ∀j n',n≤n'→T∧k0 j=some r→Gl (wpd E D y Q (setVals (Bu js af) cs (V j)) ⟨m,n'⟩))
    (first: ∀(k:α→Option β) (J:List AVal→St→Prop),JOK k r js cs V (fun _=>[]) af m n J→T∧body k=some r→Gl (wpd E D x (Gz J Q) af ⟨m,n⟩)):Gl (AWp E (.seq x y) Q af ⟨m,n⟩):=by
  refine Aj0 (Ms:=fun _=>[]) (k0:=k0) (body:=body) h hD hid (fun j n' hn h=>?_) first
  grind[reB]
theorem AnE{α:Type}{id:Nat×Nat}{p:Tmp}{V:α→Nat→List AVal}{Ms:α→Nat→List BX}{C:α→Nat→List AVal}{k0:α→Option β}{body:(α→Option β)→Option β} (h:T∧AA k0 body (.n id js cs p V Ms C)=some r) (hD:DD D) (hid:Sm x=id)
    (rest: ∀j n' g,n≤g∧g<n'→T∧k0 j=some r→Gl (wpd E D y Q (setVals (Bu js af) cs (V j g)) ⟨(g,C j g)::reB (Ms j g) m,n'⟩))
    (first: ∀(k:α→Option β) (J:List AVal→St→Prop),JNK k r js cs p V Ms C af m n J→True→T∧body k=some r→Gl (wpd E D x (Gz J Q) af ⟨m,n⟩)):Gl (AWp E (.seq x y) Q af ⟨m,n⟩):=by
  refine⟨QO ?_⟩
  have key:=DY (first k0 (fun af' st'=>AWp E y Q af' ⟨st'.m,st'.next⟩) ⟨?_⟩ trivial h).go
  · exact key.mono fun e af' st' _ q=>by cases e<;>exact q
  · intro j g af' m0 m1 n' h1 h2 h3 h4 h5 h6
    subst h3
    refine PX (rgs js) ?_
    have:=DY (rest j n' g h6 ⟨h.1,h1⟩).go
    rw[Cf,Cf]at h4
    rw[Cf]at h5 this
    rw[Iq cs _ _ h4]
    exact this.wk (WkL.setVals (WkL.refl _) h5) h2
theorem AoP{α:Type}{p:Tmp}{V:α→Nat→List AVal}{Ms:α→Nat→List BX}{C:α→Nat→List AVal}{k:α→Option β}{v:α} (hj:JNK k r js cs p V Ms C af0 m n J) (h:T∧k v=some r) (h2:SubW ((AKz (af.getD p .any),C v (AKz (af.getD p .any)))::reB (Ms v (AKz (af.getD p .any))) m) m1) (h4:Ad cs (Bu js af)=Ad cs (Bu js af0)) (h5:WkL (Bt (Bu js af) cs) (V v (AKz (af.getD p .any)))) (h6:n≤AKz (af.getD p .any)∧AKz (af.getD p .any)<n'):Gl (J af ⟨m1,n'⟩):=⟨hj.go v _ af _ m1 n' h.2 h2 rfl h4 h5 h6⟩
theorem Aok{α:Type}{V:α→List AVal}{Ms:α→List BX}{k:α→Option β}{v:α} (hj:JOK k r js cs V Ms af0 m n J) (h:T∧k v=some r) (h2:SubW (reB (Ms v) m) m1) (h4:Ad cs (Bu js af)=Ad cs (Bu js af0)) (h5:WkL (Bt (Bu js af) cs) (V v)) (h6:n≤n'):Gl (J af ⟨m1,n'⟩):=⟨hj.go v af _ m1 n' h.2 h2 rfl h4 h5 h6⟩
theorem Amj{σ:Type}{V:σ→List AVal}{Ms:σ→List BX}{X:Option β}{G B:Nat→σ→Option β}{k:Nat}{s:σ} [i:LF X G B k s js cs V Ms] (h:T∧X=some r) (hj:LOK G r k js cs V Ms af0 m n J) (h2:SubW (reB (Ms s) m) m1) (h4:Ad cs (Bu js af)=Ad cs (Bu js af0)) (h5:WkL (Bt (Bu js af) cs) (V s)) (h6:n≤n'):Gl (J af ⟨m1,n'⟩):=⟨hj.go s af _ m1 n' (i.eq▸h.2) h2 rfl h4 h5 h6⟩
theorem Amm{α σ:Type}{V:Int→σ→List AVal}{Ms:Int→σ→List BX}{X:Option β}{G:List α→Int→σ→Option β}{Bn:Int→σ→Option β}{Bc:α→List α→Int→σ→Option β}{L:List α}{i:Int}{s:σ} [ii:LR X G Bn Bc L i s js cs V Ms] (h:T∧X=some r) (hj:ROK G r L i js cs V Ms af0 m n J) (h2:SubW (reB (Ms i s) m) m1) (h4:Ad cs (Bu js af)=Ad cs (Bu js af0)) (h5:WkL (Bt (Bu js af) cs) (V i s)) (h6:n≤n'):Gl (J af ⟨m1,n'⟩):=⟨hj.go s af _ m1 n' (ii.eq▸h.2) h2 rfl h4 h5 h6⟩
theorem Aof{R:APost}{rs:List ResultVar}{b:Bool}{r':AVal}{xs:List AVal} (hR:RH E rs R b m n r') (h1:Mq E rs af st=some (xs,⟨m1,n'⟩)) (h2:m.Sublist m1) (h4:n≤n') (h5:stp b (Om xs)=r'):Gl (R .ret af st):=⟨(hR.go af st xs m m1 n' h1 h2 rfl h4 h5).1⟩
theorem Aoh{R:APost}{rs:List ResultVar}{b:Bool}{r':AVal}{xs:List AVal} (hR:RH E rs R b m n r') (h1:Mq E rs af st=some (xs,⟨m1,n'⟩)) (h2:m.Sublist m1) (h4:n≤n') (h5:stp b (Om xs)=r'):Gl (R .normal af st):=⟨(hR.go af st xs m m1 n' h1 h2 rfl h4 h5).2⟩
theorem AmH{v:β} (h:T∧some v=some r):T∧v=r:=⟨h.1,Option.some.inj h.2⟩
theorem AnM{σ:Type}{V:σ→List AVal}{Ms:σ→List BX}{X:Option β}{G B:Nat→σ→Option β}{k:Nat}{s:σ} [i:LF X G B k s js cs V Ms] (h:T∧X=some r) (hD:DD D) (hm:SubW (reB (Ms s) m) m) (hv:WkL (Bt (Bu js af) cs) (V s))
    (round: ∀k s n',n≤n'→T∧B k s=some r→ ∀J,LOK G r k js cs V Ms af m n' J→Gl (wpd E D c (Gz J Q) (setVals (Bu js af) cs (V s)) ⟨reB (Ms s) m,n'⟩)):Gl (AWp E (.loop c) Q af ⟨m,n⟩):=by
  rw[Cf]at hv
  refine⟨Qu (rgs js) cs (fun k vs st'=> ∃s,vs=V s∧st'.m=reB (Ms s) m∧n≤st'.next∧G k s=some r) k hv hm ⟨s,rfl,rfl,Nat.le_refl _,i.eq▸h.2⟩ ?_⟩
  rintro k vs ⟨m',n'⟩ ⟨s,rfl,hm',hn,hG⟩ J hJ
  simp only at hm' hn
  subst hm'
  cases k with
  |zero=>rw[i.z]at hG;grind
  | succ k=>
    have key:=fun hJ'=>DY (round k s n' hn ⟨h.1,i.u k s▸hG⟩ J hJ').go
    rw[Cf]at key
    refine(key ⟨fun s' af' m0 m1 n'' h1 h2 h3 h4 h5 h6=>?_⟩).mono fun e af' st' _ q=>by cases e<;>first|exact KZ q|exact .oth (by simp) q
    subst h3
    rw[Cf,Cf]at h4
    rw[Cf]at h5
    exact hJ k af' ⟨m1,n''⟩ _ _ (Nat.lt_succ_self _) h2 h4 h5 ⟨s',rfl,rfl,Nat.le_trans hn h6,h1⟩
theorem Adc{α σ:Type}{V:Int→σ→List AVal}{Ms:Int→σ→List BX}{X:Option β}{G:List α→Int→σ→Option β}{Bn:Int→σ→Option β}{Bc:α→List α→Int→σ→Option β}{L:List α}{s:σ} [ii:LR X G Bn Bc L 0 s js cs V Ms] (h:T∧X=some r) (hD:DD D) (hL:AU L.length) (hm:SubW (reB (Ms 0 s) m) m) (hv:WkL (Bt (Bu js af) cs) (V 0 s))
    (rnil: ∀i s n',n≤n'→(decide (i<(L.length:Int))=false∧T)∧Bn i s=some r→Gl (wpd E D c (Gz (fun _ _=>False) Q) (setVals (Bu js af) cs (V i s)) ⟨reB (Ms i s) m,n'⟩))
    (rcons: ∀x xs i s n',n≤n'→(decide (i<(L.length:Int))=true∧(idx L i=some x∧L[i.toNat]?=some x)∧wr .i64 (i+1)=i+1∧T)∧Bc x xs i s=some r→ ∀J,ROK G r xs (i+1) js cs V Ms af m n' J→Gl (wpd E D c (Gz J Q) (setVals (Bu js af) cs (V i s)) ⟨reB (Ms i s) m,n'⟩)):Gl (AWp E (.loop c) Q af ⟨m,n⟩):=by
  rw[Cf]at hv
  refine⟨Qu (rgs js) cs (fun k vs st'=> ∃pre suf s,L=pre++suf∧k=suf.length∧vs=V pre.length s∧st'.m=reB (Ms pre.length s) m∧n≤st'.next∧G suf pre.length s=some r) L.length hv hm ⟨[],L,s,rfl,rfl,rfl,rfl,Nat.le_refl _,ii.eq▸h.2⟩ ?_⟩
  rintro k vs ⟨m',n'⟩ ⟨pre,suf,s,hp,rfl,rfl,hm',hn,hG⟩ J hJ
  simp only at hm' hn
  subst hm'
  cases suf with
  | nil=>
    have key:=DY (rnil _ s n' hn ⟨⟨by grind,h.1⟩,ii.un _ s▸hG⟩).go
    rw[Cf]at key
    exact key.mono fun e af' st' _ q=>by cases e<;>first|exact q.elim|exact .oth (by simp) q
  | cons x xs=>
    obtain⟨f1,f2,f3⟩:=AXF hp hL
    have key:=fun hJ'=>DY (rcons x xs _ s n' hn ⟨⟨f1,⟨f2,ATb f2⟩,f3,h.1⟩,ii.uc x xs _ s▸hG⟩ J hJ').go
    rw[Cf]at key
    refine(key ⟨fun s' af' m0 m1 n'' h1 h2 h3 h4 h5 h6=>?_⟩).mono fun e af' st' _ q=>by cases e<;>first|exact KZ q|exact .oth (by simp) q
    have e1:((pre.length:Int)+1)=((pre++[x]).length:Int):=by simp
    rw[e1]at h1 h3 h5
    subst h3
    rw[Cf,Cf]at h4
    rw[Cf]at h5
    exact hJ xs.length af' ⟨m1,n''⟩ _ _ (by simp) h2 h4 h5 ⟨pre++[x],xs,s',by grind,rfl,rfl,rfl,Nat.le_trans hn h6,h1⟩
theorem Anq{α σ:Type}{V:Int→σ→List AVal}{Ms:Int→σ→List BX}{X:Option β}{G:List α→Int→σ→Option β}{Bn:Int→σ→Option β}{Bc:α→List α→Int→σ→Option β}{L:List α}{i:Int}{s:σ} [ii:LQ X G Bn Bc L s js cs V Ms] (h:T∧X=some r) (hj:ROK G r L i js cs V Ms af0 m n J) (h2:SubW (reB (Ms i s) m) m1) (h4:Ad cs (Bu js af)=Ad cs (Bu js af0)) (h5:WkL (Bt (Bu js af) cs) (V i s)) (h6:n≤n'):Gl (J af ⟨m1,n'⟩):=⟨hj.go s af _ m1 n' (ii.eq i▸h.2) h2 rfl h4 h5 h6⟩
theorem Als{α σ:Type}{V:Int→σ→List AVal}{Ms:Int→σ→List BX}{X:Option β}{G:List α→Int→σ→Option β}{Bn:Int→σ→Option β}{Bc:α→List α→Int→σ→Option β}{L:List α}{s:σ} [ii:LQ X G Bn Bc L s js cs V Ms] (h:T∧X=some r) (hD:DD D) (hL:AU L.length) (hm:SubW (reB (Ms 0 s) m) m) (hv:WkL (Bt (Bu js af) cs) (V 0 s))
    (rnil: ∀i s n',n≤n'→(decide (i<(L.length:Int))=false∧T)∧Bn i s=some r→Gl (wpd E D c (Gz (fun _ _=>False) Q) (setVals (Bu js af) cs (V i s)) ⟨reB (Ms i s) m,n'⟩))
    (rcons: ∀x xs i s n',n≤n'→(decide (i<(L.length:Int))=true∧(idx L i=some x∧L[i.toNat]?=some x)∧wr .i64 (i+1)=i+1∧T)∧Bc x xs i s=some r→ ∀J,ROK G r xs (i+1) js cs V Ms af m n' J→Gl (wpd E D c (Gz J Q) (setVals (Bu js af) cs (V i s)) ⟨reB (Ms i s) m,n'⟩)):Gl (AWp E (.loop c) Q af ⟨m,n⟩):=
  haveI:LR X G Bn Bc L 0 s js cs V Ms:=⟨ii.eq 0,ii.un,ii.uc⟩
  Adc h hD hL hm hv rnil rcons
theorem AnP{σ:Type}{V:Int→σ→List AVal}{Ms:Int→σ→List BX}{X:Option β}{G:Nat→Int→σ→Option β}{Bn:Int→σ→Option β}{Bc:Nat→Int→σ→Option β}{k:Nat}{i:Int}{s:σ} [ii:LC X G Bn Bc k i s js cs V Ms] (h:T∧X=some r) (hj:COK G r k i js cs V Ms af0 m n J) (h2:SubW (reB (Ms i s) m) m1) (h4:Ad cs (Bu js af)=Ad cs (Bu js af0)) (h5:WkL (Bt (Bu js af) cs) (V i s)) (h6:n≤n'):Gl (J af ⟨m1,n'⟩):=⟨hj.go s af _ m1 n' (ii.eq▸h.2) h2 rfl h4 h5 h6⟩
theorem Anl{σ:Type}{V:Int→σ→List AVal}{Ms:Int→σ→List BX}{X:Option β}{G:Nat→Int→σ→Option β}{Bn:Int→σ→Option β}{Bc:Nat→Int→σ→Option β}{k:Nat}{i:Int}{s:σ} [ii:LU X G Bn Bc k s js cs V Ms] (h:T∧X=some r) (hj:COK G r k i js cs V Ms af0 m n J) (h2:SubW (reB (Ms i s) m) m1) (h4:Ad cs (Bu js af)=Ad cs (Bu js af0)) (h5:WkL (Bt (Bu js af) cs) (V i s)) (h6:n≤n'):Gl (J af ⟨m1,n'⟩):=⟨hj.go s af _ m1 n' (ii.eq i▸h.2) h2 rfl h4 h5 h6⟩
theorem AaY{σ:Type}{V:Int→σ→List AVal}{Ms:Int→σ→List BX}{X:Option β}{G:Nat→Int→σ→Option β}{Bn:Int→σ→Option β}{Bc:Nat→Int→σ→Option β}{i0 b:Int}{s:σ} [ii:LC X G Bn Bc (b-i0).toNat i0 s js cs V Ms] (h:T∧X=some r) (hD:DD D) (hL: -4611686018427387904≤i0∧b≤4611686018427387904) (hm:SubW (reB (Ms i0 s) m) m) (hv:WkL (Bt (Bu js af) cs) (V i0 s))
    (rnil: ∀i s n',n≤n'→(decide (i<b)=false∧T)∧Bn i s=some r→Gl (wpd E D c (Gz (fun _ _=>False) Q) (setVals (Bu js af) cs (V i s)) ⟨reB (Ms i s) m,n'⟩))
    (rcons: ∀k i s n',n≤n'→(decide (i<b)=true∧wr .i64 (i+1)=i+1∧T)∧Bc k i s=some r→ ∀J,COK G r k (i+1) js cs V Ms af m n' J→Gl (wpd E D c (Gz J Q) (setVals (Bu js af) cs (V i s)) ⟨reB (Ms i s) m,n'⟩)):Gl (AWp E (.loop c) Q af ⟨m,n⟩):=by
  rw[Cf]at hv
  refine⟨Qu (rgs js) cs (fun k vs st'=> ∃i s,i0≤i∧k=(b-i).toNat∧vs=V i s∧st'.m=reB (Ms i s) m∧n≤st'.next∧G k i s=some r) (b-i0).toNat hv hm ⟨i0,s,Int.le_refl _,rfl,rfl,rfl,Nat.le_refl _,ii.eq▸h.2⟩ ?_⟩
  rintro k vs ⟨m',n'⟩ ⟨i,s,hi,hk',rfl,hm',hn,hG⟩ J hJ
  simp only at hm' hn
  subst hm'
  cases k with
  | zero=>
    have key:=DY (rnil _ s n' hn ⟨⟨by grind,h.1⟩,ii.un _ s▸hG⟩).go
    rw[Cf]at key
    exact key.mono fun e af' st' _ q=>by cases e<;>first|exact q.elim|exact .oth (by simp) q
  | succ k=>
    have hw:wr .i64 (i+1)=i+1:=by
      grind[wr,IntKind.wrap,IntKind.bits,IntKind.signed]
    have key:=fun hJ'=>DY (rcons k i s n' hn ⟨⟨by simp only[decide_eq_true_eq];omega,hw,h.1⟩,ii.uc k i s▸hG⟩ J hJ').go
    rw[Cf]at key
    refine(key ⟨fun s' af' m0 m1 n'' h1 h2 h3 h4 h5 h6=>?_⟩).mono fun e af' st' _ q=>by cases e<;>first|exact KZ q|exact .oth (by simp) q
    subst h3
    rw[Cf,Cf]at h4
    rw[Cf]at h5
    exact hJ k af' ⟨m1,n''⟩ _ _ (by simp) h2 h4 h5 ⟨i+1,s',by omega,by omega,rfl,rfl,Nat.le_trans hn h6,h1⟩
theorem AlR{σ:Type}{V:Int→σ→List AVal}{Ms:Int→σ→List BX}{X:Option β}{G:Nat→Int→σ→Option β}{Bn:Int→σ→Option β}{Bc:Nat→Int→σ→Option β}{i0 b:Int}{s:σ} [ii:LU X G Bn Bc (b-i0).toNat s js cs V Ms] (h:T∧X=some r) (hD:DD D) (hL: -4611686018427387904≤i0∧b≤4611686018427387904) (hm:SubW (reB (Ms i0 s) m) m) (hv:WkL (Bt (Bu js af) cs) (V i0 s))
    (rnil: ∀i s n',n≤n'→(decide (i<b)=false∧T)∧Bn i s=some r→Gl (wpd E D c (Gz (fun _ _=>False) Q) (setVals (Bu js af) cs (V i s)) ⟨reB (Ms i s) m,n'⟩))
    (rcons: ∀k i s n',n≤n'→(decide (i<b)=true∧wr .i64 (i+1)=i+1∧T)∧Bc k i s=some r→ ∀J,COK G r k (i+1) js cs V Ms af m n' J→Gl (wpd E D c (Gz J Q) (setVals (Bu js af) cs (V i s)) ⟨reB (Ms i s) m,n'⟩)):Gl (AWp E (.loop c) Q af ⟨m,n⟩):=
  haveI:LC X G Bn Bc (b-i0).toNat i0 s js cs V Ms:=⟨ii.eq i0,ii.un,ii.uc⟩
  AaY h hD hL hm hv rnil rcons
theorem Anz{G:Prop} (h:T∧(none:Option β)=some r):G:=by grind
theorem AoW{α:Type}{u:α}{f:α→Option β} (h:T∧letL u f=some r): ∃y,u=y∧T∧f y=some r:=⟨u,rfl,h⟩
theorem Am9{α:Type}{l:List α}{i:Int}{f:α→Option β} (h:T∧Option.bind (idx l i) f=some r): ∃y,((idx l i=some y∧l[i.toNat]?=some y)∧T)∧f y=some r:=by
  obtain⟨y,h1,h2⟩:=EN h
  exact⟨y,⟨⟨h1.1,ATb h1.1⟩,h1.2⟩,h2⟩
theorem AnS{α:Type}{l:List α}{i j:Int}{f:List α→Option β} (h:T∧Option.bind (sub l i j) f=some r): ∃y,(sub l i j=some y∧T)∧f y=some r:=EN h
theorem isW (x:Gl (wpd E D c K af st)):Gl (wpd E D c K af st):=x
theorem isC{f:FuncId}{args:List AVal}{Q:PQ} (x:Gl (ACall E f args st Q)):Gl (ACall E f args st Q):=x
theorem isA (x:Gl (AWp E c K af st)):Gl (AWp E c K af st):=x
end rules
end Go.VM
namespace Go.VM
theorem tD{G:Prop} (x:G:=by first|(simp(disch:=omega) only[vm,seval,h.1];done)|rfl):G:=x
theorem tR{G:Prop} (x:G:=by
  obtain⟨H,h⟩:=h
  cases h
  simp(disch:=omega) only[vm,seval,H]
  refine⟨(hR _ _ _ _ _ _ (by simp(disch:=omega) only[vm,seval,H];rfl) ?_ rfl (by omega) ?_).1⟩
  · first|((repeat (first|exact List.Sublist.refl _|apply List.Sublist.cons));done)|(simp(disch:=omega) only[vm,seval,H];(repeat (first|exact List.Sublist.refl _|apply List.Sublist.cons));done)
  · first|(simp(disch:=omega) only[vm,seval,H];done)|rfl):G:=x
theorem tJ{A G:Prop} (a:A) (x:A→G:=by
  intro hz
  simp(disch:=omega) only[vm,seval,h.1]
  refine⟨hz _ _ _ _ h.2 ?_ rfl ?_ ?_ (by omega)⟩
  · first|((repeat (first|exact List.Sublist.refl _|apply List.Sublist.cons));done)|(simp(disch:=omega) only[vm,seval,h.1];(repeat (first|exact List.Sublist.refl _|apply List.Sublist.cons));done)
  all_goals first|(simp(disch:=omega) only[vm,seval,h.1];done)|rfl):G:=x a
end Go.VM
