import Derived.Laws.RangeString
import Derived.Laws.RangeAny
import Derived.Lib.OthersKept
import Derived.Lib.MakeNoZero
import Derived.Test.YtgfgogdgnkaedaaGreatDoorVM4
import Derived.Scope
set_option linter.unusedSimpArgs false
set_option linter.unusedVariables false
namespace Go.VM
def ABD (mv:List Tmp) (dst:Option Tmp):Bool:=match dst with|some d=>mv.contains (d+1000000)|none=>false
def OI (mv:List Tmp) (dst:Option Tmp):Bool:=match dst with|some d=>mv.contains d|none=>false
def DU (s:List UInt8) (pos:Nat):Nat×Nat:=Utf8.decode ⟨s.toArray⟩ pos
def AC3 (s:List UInt8) (pos:Nat) (t:Tmp) (d:Option Tmp) (af:List AVal):List AVal:=if decide (pos<s.length)=true then Aa (af.set t (.iter s (pos+(DU s pos).2))) d (.tuple [.bool true,.int .i64 pos,.int .i32 (DU s pos).1]) else Aa af d (.tuple [.bool false])
def D5 (E:Env) (mv:List Tmp) (o:Oper) (af:List AVal) (st:St):Option (List AVal×St):=
  match o.op with
  | .move x=>
    if OI mv o.dst=true then
      match nameV af x with
      |some (d,w,xs)=>some (Aa (af.set d (.sh st.next)) o.dst (.sh st.next),{m:=(st.next,[.vec w xs])::st.m,next:=st.next+1})
      | none=>
        match ABY (ABD mv o.dst) af x st with
        |some (j,i,w,xs)=>some (Aa (af.set j (.slice w xs false)) o.dst (.slice w xs false),{st with m:=Ar st.m i [.any]})
        |none=>some (Aa (stripAt af x) o.dst (rd E af o.type x),st)
    else some (Aa af o.dst (rd E af o.type x).strip,st)
  | .assign x=>
    if OI mv o.dst=true then
      match AAd E o with
      |some w=>some (Aa af o.dst (.vec w []),st)
      | none=>
        match Xv E af x o.type st with
        |some p=>some (Aa af o.dst (.vec p.2.1 p.2.2),{st with m:=Ar st.m p.1 [.any]})
        |none=>some (Aa (stripAt af x) o.dst (rd E af o.type x),st)
    else some (Aa (stripAt af x) o.dst (rd E af o.type x),st)
  |.alloc t=>(if OI mv o.dst=true then Ud E.P t st.next else CW E.P t st.next).map fun cs=>(Aa af o.dst (.ptr st.next 0),{m:=(st.next,cs)::st.m,next:=st.next+1})
  |.box t x=>if CV (rd E af t x)=true then some (Aa (stripAt af x) o.dst (.ptr st.next 0),{m:=(st.next,AX (rd E af t x))::st.m,next:=st.next+1})else none
  |.build t ⟨ps⟩=>(Rm E t (BR E (AP E.P t) af ps).2).map fun r=>(Aa (BR E (AP E.P t) af ps).1 o.dst r,st)
  | .buildSlice t len ⟨ps⟩=>
    if OI mv o.dst=true then(IJ E t len (BR E (fun _=>AP E.P t 0) af ps).2).map fun p=>(Aa (BR E (fun _=>AP E.P t 0) af ps).1 o.dst (.gsl p.1 st.next len),{m:=(st.next,p.2)::st.m,next:=st.next+1})
    else(Gw E t len (BR E (fun _=>AP E.P t 0) af ps).2).map fun r=>(Aa af o.dst r,st)
  | .load t x=>
    if OI mv o.dst=true then(QJ E t (rd E af 0 x) st).map fun p=>(Aa af o.dst p.1,p.2)
    else(QV E t (rd E af 0 x) st).map fun r=>(Aa af o.dst r.strip,st)
  |.store t x y=>if o.dst.isNone=true then(NK E t (rd E af 0 x) (rd E af t y) st).map fun st'=>(stripAt af y,st')else none
  | .extract (.tmp t) n=>
    match af.getD t .any with
    |.tuple vs=>(vs[n]?).map fun r=>(Aa (af.set t (.tuple (vs.set n r.strip))) o.dst r,st)
    |_=>none
  | .range t x=>
    match rd E af t x with
    |.str s=>if DI E.P t=true then some (Aa af o.dst (.iter s 0),st)else none
    |_=>none
  | .next (.tmp t) true=>
    match af.getD t .any with
    |.iter s pos=>some (AC3 s pos t o.dst af,st)
    |_=>none
  | .slice t x lo hi mx=>
    match rdo E af lo,rdo E af hi,rdo E af mx with
    | some l,some h,some m=>
      match FO E t (rd E af t x) l h m with
      |some r=>some (Aa af o.dst r,st)
      |none=>(QC E t (rd E af t x) l h m st).map fun st'=>(Aa af o.dst (.sh st.next),st')
    |_,_,_=>none
  | .call {callee:=.builtin .append,args:=⟨[x,y]⟩,argTypes:=⟨t0::t1::_⟩}=>
    if OI mv o.dst=true then
      match Oj E t0 t1 (rd E af t0 x) (rd E af t1 y)with
      |some r=>some (Aa (stripAt af x) o.dst (.sh st.next),{m:=(st.next,[r])::st.m,next:=st.next+1})
      |none=>(appW E x t0 t1 (rd E af t0 x) (rd E af t1 y) st).map fun p=>(Aa af o.dst p.1,p.2)
    else match IK E t0 t1 (rd E af t0 x) (rd E af t1 y)with
      |some r=>some (Aa (stripAt af x) o.dst r,st)
      |none=>(YT E t0 t1 (rd E af t0 x) (rd E af t1 y) st).map fun st'=>(Aa af o.dst (.sh st.next),st')
  | .call {callee:=.builtin .len,args:=⟨[x]⟩,argTypes:=⟨t::_⟩}=>
    match Di E o af with
    |some r=>some (Aa af o.dst r.strip,st)
    |none=>(ZO E t (rd E af t x) st).map fun r=>(Aa af o.dst r,st)
  |.makeMap t none=>some (Aa af o.dst (.sh st.next),{m:=(st.next,[.map [] []])::st.m,next:=st.next+1})
  |.lookup t m k ok=>(SK E t (rd E af t m) (rd E af 0 k) ok st).map fun r=>(Aa af o.dst r,st)
  |.mapUpdate t m k x=>if o.dst.isNone=true then(Tt E t (rd E af t m) (rd E af 0 k) (rd E af 0 x) st).map fun st'=>(af,st')else none
  |.insert t m k x=>if o.dst.isNone=true then(Tt E t (rd E af t m) (rd E af 0 k) (rd E af 0 x) st).map fun st'=>(af,st')else none
  | .indexAddr t x i=>
    match Di E o af with
    |some r=>some (Aa af o.dst r.strip,st)
    | none=>
      match Ga E t (rd E af t x) (rd E af 0 i) st with
      |some r=>some (Aa af o.dst r,st)
      |none=>(PG E t (rd E af t x) (rd E af 0 i) st).map fun r=>(Aa af o.dst r,st)
  |.makeSlice t x y=>(if OI mv o.dst=true then VI E t (rd E af 0 x) (rd E af 0 y) st else Vx E t (rd E af 0 x) (rd E af 0 y) st).map fun p=>(Aa af o.dst p.1,p.2)
  | .convert s d x=>
    match Di E o af with
    |some r=>some (Aa af o.dst r.strip,st)
    | none=>
      match Sj E s d (rd E af s x) st with
      |some r=>some (Aa af o.dst r,st)
      |none=>(QX E s d (rd E af s x) st).map fun p=>(Aa af o.dst p.1,p.2)
  |.call {callee:=.builtin .unsafeSliceData,args:=⟨[x]⟩,argTypes:=⟨t0::_⟩}=>(Sb (rd E af t0 x)).map fun r=>(Aa (stripAt af x) o.dst r,st)
  |.call {callee:=.builtin .unsafeString,args:=⟨[x,y]⟩,argTypes:=⟨[t0,t1]⟩}=>(VX E t0 (rd E af t0 x) (rd E af t1 y)).map fun r=>(Aa (stripAt af x) o.dst r,st)
  |_=>(Di E o af).map fun r=>(Aa af o.dst r.strip,st)
section
variable{E:Env}{F:Nat→Nat}{Γ:Ghost}{st:St}{w:World}{af:List AVal}{a:Act}
theorem AbO (vs:List Value) (t:Nat) (d:Value):vs.set t (vs.getD t d)=vs:=by apply bT;grind
theorem Sim.newIter (hs:Sim E F Γ st w af a.tmps.toList) (sb:ByteArray) (p:Nat):Sim E F Γ st (w.iter sb p) af a.tmps.toList∧Ext F Γ w Γ (w.iter sb p):=by
 have hold: ∀n,n<w.heap.size→(w.iter sb p).heap[n]?=w.heap[n]?:=fun n hn=>alloc_old (.stringIter sb p) hn;have hsz:(w.iter sb p).heap.size=w.heap.size+1:=by simp[World.iter]
 refine⟨hs.elsewhere (b:=w.heap.size) (fun n hn _=>hold n hn) ff (hs.com_none (aq _)) (fun i hi h=>?_) ?_ ?_,⟨Γ.le_refl,fun n hn=>⟨hold n (hs.F_of hn),rfl⟩,ff,rfl,rfl,rfl⟩⟩;·have:=hs.bx_lt _ _ h;omega
 ·rcases aS 0 (AO w.heap.size af a.tmps.toList)with h|h;·have:=(Bv _ _ hs.own h).1;omega
  omega
 ·rcases aS 0 (Ai Γ w w.heap.size st.m)with h|h;·have:=Yw hs h;omega
  omega
theorem Sim.iterTo (hs:Sim E F Γ st w af a.tmps.toList){t:Tmp}{s:List UInt8}{pos:Nat} (hx:af.getD t .any=.iter s pos){b:Nat}{sb:ByteArray} (hv:a.tmps.toList.getD t undef=.pointer (some ⟨b,0,none⟩)) (hsb:sb.data.toList=s) (hh:w.heap[b]?=some (.stringIter sb pos)) (pos':Nat):Sim E F Γ st (w.iterAt b sb pos') (af.set t (.iter s pos')) a.tmps.toList∧Ext F Γ w Γ (w.iterAt b sb pos'):=by
 have e:=LM b af a.tmps.toList t undef hs.rep.length;rw[hx,hv]at e;have e1:cnt b (.iter s pos) (.pointer (some ⟨b,0,none⟩))=1:=by simp[cnt,Pw]
 rw[e1]at e;have e2:(AVal.iter s pos).strip=.any:=by simp[AVal.strip]
 rw[e2]at e;have tk:=hs.tok b;have hlt:b<w.heap.size:=(aP.1 hh).1;have hold: ∀n,n≠b→(w.iterAt b sb pos').heap[n]?=w.heap[n]?:=fun n hn=>by grind[World.iterAt]
 have hsz:(w.iterAt b sb pos').heap.size=w.heap.size:=by simp[World.iterAt]
 have hnew:(w.iterAt b sb pos').heap[b]?=some (.stringIter sb pos'):=by grind[World.iterAt]
 have hs0:Sim E F Γ st w (af.set t .any) a.tmps.toList:=by have:=hs.stripAt (.tmp t);grind[VM.stripAt]
 have hcom:Γ.com b=none:=by cases hc:Γ.com b with |none=>rfl|some cs=>obtain⟨ar,e',fz,q2,_⟩:=hs.com_ok b cs hc;grind
 have s1:Sim E F Γ st (w.iterAt b sb pos') (af.set t .any) a.tmps.toList:=hs0.elsewhere (b:=b) (fun n _ hn=>hold n hn) ff hcom (fun i hi h=>by
  obtain⟨p,hp,rfl⟩:=bo.1 hi;rcases hs.box_ok p hp with⟨k,ar,e',hb⟩|⟨v,hv⟩;rotate_left;·have:=hv.bx;grind
  obtain⟨lo,hh2,q3,_⟩:=hb.heap;have:=hb.bx;grind) ff ff;refine⟨?_,⟨Γ.le_refl,fun n hn=>⟨hold n (fun e=>by grind),rfl⟩,ff,rfl,rfl,rfl⟩⟩;have hset:a.tmps.toList=a.tmps.toList.set t (.pointer (some ⟨b,0,none⟩)):=by grind[AbO]
 have hss:af.set t (.iter s pos')=(af.set t .any).set t (.iter s pos'):=fg;rw[hss];have h5: ∀n,AO n ((af.set t .any).set t (.iter s pos')) a.tmps.toList≤AO n (af.set t .any) a.tmps.toList+cnt n (.iter s pos') (.pointer (some ⟨b,0,none⟩)):=fun n=>by grind[Gu]
 refine {s1 with rep:=?_,own:=?_,tok:=?_};·have:=s1.rep.set t (x:=.iter s pos') (v:=.pointer (some ⟨b,0,none⟩)) (.iter _ _ _);grind
 ·have:=s1.own.set t (x:=.iter s pos') (v:=.pointer (some ⟨b,0,none⟩)) (by simp only[VM.own];exact⟨b,sb,rfl,hsb,hnew⟩);grind
 ·intro n;have q1:=h5 n;have q2:=s1.tok n;by_cases hn:n=b
  ·subst hn;have q3:Ai Γ (w.iterAt n sb pos') n st.m=0:=by
    rw[FC (w:=w) fun p hp=>⟨rfl,fun k hk=>hold k (fun e=>by
     subst e;rcases hs.box_ok p hp with⟨k2,ar,e',hb⟩|⟨v,hv⟩;rotate_left;·have:=hv.bx;grind
     obtain⟨lo,hh2,q3,_⟩:=hb.heap;have:=hb.bx;grind)⟩];omega
   grind[cnt,Pw]
  grind[cnt,Pw]
theorem YZ{b:ByteArray}{s:List UInt8} (h:b.data.toList=s):b=⟨s.toArray⟩:=by subst h;simp
theorem ATr (hs:Sim E F Γ st w af a.tmps.toList){o:Oper}{t:TypeId}{x:Operand}{s:List UInt8} (hop:o.op=.range t x) (hx:rd E af t x=.str s) (ht:DI E.P t=true):∃nx w' a' Γ',Stepped E F Γ st w a o (Aa af o.dst (.iter s 0)) st nx w' a' Γ':=by
 have hr:=hs.rd t x;rw[hx]at hr;generalize hv:a.eval x=v at hr;cases hr;rename_i sb hn;have hrun:=run_range_string (P:=E.P) w t sb (CK ht);refine⟨.value (.pointer (some ⟨w.heap.size,0,none⟩)),w.iter sb 0,a.put o.dst (.pointer (some ⟨w.heap.size,0,none⟩)),Γ,?_,fun K Q hk=>hk,put_defers _ _ _,?_,aq _,?_⟩;·simp_all[execOp]
 ·exact(hs.newIter sb 0).2
 ·refine(hs.newIter sb 0).1.put o.dst (.iter _ _ _) ?_ ?_;·simp only[VM.own];exact⟨_,sb,rfl,rfl,World.iter_heap w sb 0⟩
  ·intro b;have h1:=hs.tok b;have h2:=(hs.newIter sb 0).1.tok b;simp only[cnt,Pw];split
   ·rename_i e;have h3:F b=0:=hs.F_lt b ff;have h4:AO b af a.tmps.toList=0:=by
     rcases aS 0 (AO b af a.tmps.toList)with h|h;·have:=(Bv _ _ hs.own h).1;omega
     omega
    have h5:Ai Γ (w.iter sb 0) b st.m=0:=by
     rw[FC (Γ:=Γ) (w:=w) (w':=w.iter sb 0) fun p hp=>⟨rfl,fun k hk=>alloc_old (.stringIter sb 0) (hs.bx_lt _ _ hk)⟩];rcases aS 0 (Ai Γ w b st.m)with h|h;·have:=Yw hs h;omega
     omega
    omega
   omega
theorem Aaj (hs:Sim E F Γ st w af a.tmps.toList){o:Oper}{t:Tmp}{s:List UInt8}{pos:Nat} (hop:o.op=.next (.tmp t) true) (hx:af.getD t .any=.iter s pos):∃nx w' a' Γ',Stepped E F Γ st w a o (AC3 s pos t o.dst af) st nx w' a' Γ':=by
 have ho:=hs.own.get hs.rep.length t undef;rw[hx]at ho;simp only[VM.own]at ho;obtain⟨b,sb,hv,hsb,hh⟩:=ho;have hev:a.eval (.tmp t)=.pointer (some ⟨b,0,none⟩):=by grind[Act.eval,Array.getD_toList']
 have hlen:sb.size=s.length:=by rw[←hsb,aA];rfl
 unfold AC3;split
 ·rename_i hlt;have hlt:pos<sb.size:=by grind
  have hrun:=Go.Lib.run_next_any_at (P:=E.P) w b sb pos o.type hh hlt;have hde:Utf8.decode sb pos=DU s pos:=by rw[YZ hsb];rfl
  rw[hde]at hrun;obtain⟨s1,x1⟩:=hs.iterTo (t:=t) hx hv hsb hh (pos+(DU s pos).2);refine⟨.value (.tuple #[.bool true,.int .i64 pos,.int .i32 (DU s pos).1]),w.iterAt b sb (pos+(DU s pos).2),a.put o.dst (.tuple #[.bool true,.int .i64 pos,.int .i32 (DU s pos).1]),Γ,?_,fun K Q hk=>hk,put_defers _ _ _,x1,aq _,?_⟩;·simp_all[execOp]
  ·refine s1.put o.dst (r:=.tuple [.bool true,.int .i64 pos,.int .i32 (DU s pos).1]) (.tuple (.cons (.bool _) (.cons (.int _ _) (.cons (.int _ _) .nil)))) (by simp[VM.own,ownL]) fun n=>?_;have:=s1.tok n;grind[cnt,AO]
 ·rename_i hlt;have hlt: ¬pos<sb.size:=by grind
  have hrun:=Go.Lib.run_next_end_at (P:=E.P) w b sb pos o.type hh hlt;refine⟨.value (.tuple #[.bool false]),w,a.put o.dst (.tuple #[.bool false]),Γ,?_,fun K Q hk=>hk,put_defers _ _ _,Ext.refl _ _ _,aq _,?_⟩;·simp_all[execOp]
  ·refine hs.put o.dst (r:=.tuple [.bool false]) (.tuple (.cons (.bool _) .nil)) (by simp[VM.own,ownL]) fun n=>?_;have:=hs.tok n;grind[cnt,AO]
theorem RF (hs:Sim E F Γ st w af a.tmps.toList){mv:List Tmp}{o:Oper}{af':List AVal}{st':St} (h:D5 E mv o af st=some (af',st')):∃nx w' a' Γ',Stepped E F Γ st w a o af' st' nx w' a' Γ':=by
 unfold D5 at h;split at h
 ·rename_i x hop;split at h
  ·split at h;·rename_i hz;simp only[ae,aw]at h;obtain⟨rfl,rfl⟩:=h;exact AUJ hs hop hz
   ·split at h;·rename_i hz;simp only[ae,aw]at h;obtain⟨rfl,rfl⟩:=h;exact AYY hs hop hz
    ·simp only[ae,aw]at h;obtain⟨rfl,rfl⟩:=h;exact Xb hs (.inl hop)
  ·simp only[ae,aw]at h;obtain⟨rfl,rfl⟩:=h;exact⟨.value (a.eval x),w,a.put o.dst (a.eval x),Γ,by simp[execOp,hop],fun K Q hk=>hk,put_defers _ _ _,Ext.refl _ _ _,aq _,hs.putStrip o.dst (hs.rd o.type x)⟩
 ·rename_i x hop;split at h
  ·split at h;·rename_i hz;simp only[ae,aw]at h;obtain⟨rfl,rfl⟩:=h;exact AMu hs hz
   ·split at h;·rename_i z hz;simp only[ae,aw]at h;obtain⟨rfl,rfl⟩:=h;exact ATK hs hop hz
    ·simp only[ae,aw]at h;obtain⟨rfl,rfl⟩:=h;exact Xb hs (.inr hop)
  ·simp only[ae,aw]at h;obtain⟨rfl,rfl⟩:=h;exact Xb hs (.inr hop)
 ·rename_i t hop;split at h;·cases hz:Ud E.P t st.next with |none=>grind| some z=>simp only[hz,aI,ae,aw]at h;obtain⟨rfl,rfl⟩:=h;grind[AQP]
  ·cases hz:CW E.P t st.next with |none=>grind| some z=>simp only[hz,aI,ae,aw]at h;obtain⟨rfl,rfl⟩:=h;grind[ARx]
 ·rename_i t x hop;split at h;·rename_i hx;simp only[ae,aw]at h;obtain⟨rfl,rfl⟩:=h;grind[AUg]
  grind
 ·rename_i t ps hop;cases hz:Rm E t (BR E (AP E.P t) af ps).2 with |none=>grind| some z=>simp only[hz,aI,ae,aw]at h;obtain⟨rfl,rfl⟩:=h;grind[ATR]
 ·rename_i t len ps hop;split at h;·cases hz:IJ E t len (BR E (fun _=>AP E.P t 0) af ps).2 with |none=>grind| some z=>obtain⟨z,cs⟩:=z;simp only[hz,aI,ae,aw]at h;obtain⟨rfl,rfl⟩:=h;grind[Wt]
  cases hz:Gw E t len (BR E (fun _=>AP E.P t 0) af ps).2 with |none=>grind| some z=>simp only[hz,aI,ae,aw]at h;obtain⟨rfl,rfl⟩:=h;grind[YV]
 ·rename_i t x hop;split at h;·cases hz:QJ E t (rd E af 0 x) st with |none=>grind| some z=>obtain⟨r,s⟩:=z;simp only[hz,aI,ae,aw]at h;obtain⟨rfl,rfl⟩:=h;grind[AMr]
  ·cases hz:QV E t (rd E af 0 x) st with |none=>grind| some z=>simp only[hz,aI,ae,aw]at h;obtain⟨rfl,rfl⟩:=h;grind[AXJ]
 ·rename_i t x y hop;split at h;·rename_i hd;cases hz:NK E t (rd E af 0 x) (rd E af t y) st with |none=>grind| some z=>simp only[hz,aI,ae,aw]at h;obtain⟨rfl,rfl⟩:=h;exact ATd hs hop (by simp_all) hz
  grind
 ·rename_i t n hop;split at h;·rename_i vs hv;cases hz:vs[n]? with |none=>grind| some z=>simp only[hz,aI,ae,aw]at h;obtain⟨rfl,rfl⟩:=h;exact AEH hs hop hv hz
  grind
 ·rename_i t x hop;split at h
  ·rename_i s hx;split at h;·rename_i ht;simp only[ae,aw]at h;obtain⟨rfl,rfl⟩:=h;grind[ATr]
   grind
  grind
 ·rename_i t hop;split at h;·rename_i s pos hx;simp only[ae,aw]at h;obtain⟨rfl,rfl⟩:=h;grind[Aaj]
  grind
 ·rename_i t x lo hi mx hop;split at h
  ·rename_i l hh m h1 h2 h3;split at h;·rename_i r hz;simp only[ae,aw]at h;obtain⟨rfl,rfl⟩:=h;exact ASk hs hop h1 h2 h3 hz
   ·cases hz:QC E t (rd E af t x) l hh m st with |none=>rw[hz]at h;cases h| some z=>simp only[hz,aI,ae,aw]at h;obtain⟨rfl,rfl⟩:=h;exact AMO hs hop h1 h2 h3 hz
  grind
 ·rename_i x y t0 t1 ts hop;split at h
  ·split at h;·rename_i z hz;simp only[ae,aw]at h;obtain⟨rfl,rfl⟩:=h;grind[AGX]
   ·cases hz:appW E x t0 t1 (rd E af t0 x) (rd E af t1 y) st with |none=>rw[hz]at h;cases h| some z=>obtain⟨r,s⟩:=z;simp only[hz,aI,ae,aw]at h;obtain⟨rfl,rfl⟩:=h;exact AaC hs hop hz
  split at h;·rename_i z hz;simp only[ae,aw]at h;obtain⟨rfl,rfl⟩:=h;grind[AO5]
  ·cases hz:YT E t0 t1 (rd E af t0 x) (rd E af t1 y) st with |none=>rw[hz]at h;cases h| some z=>simp only[hz,aI,ae,aw]at h;obtain⟨rfl,rfl⟩:=h;exact AB7 hs hop hz
 ·rename_i x t0 ts hop;split at h;·rename_i r hz;simp only[ae,aw]at h;obtain⟨rfl,rfl⟩:=h;grind[Sv]
  ·cases hz:ZO E t0 (rd E af t0 x) st with |none=>rw[hz]at h;cases h| some z=>simp only[hz,aI,ae,aw]at h;obtain⟨rfl,rfl⟩:=h;exact AYH hs hop hz
 ·rename_i t hop;simp only[ae,aw]at h;obtain⟨rfl,rfl⟩:=h;grind[ALB]
 ·rename_i t m k ok hop;cases hz:SK E t (rd E af t m) (rd E af 0 k) ok st with |none=>grind| some z=>simp only[hz,aI,ae,aw]at h;obtain⟨rfl,rfl⟩:=h;grind[ASF]
 ·rename_i t m k x hop;split at h;·rename_i hd;cases hz:Tt E t (rd E af t m) (rd E af 0 k) (rd E af 0 x) st with |none=>grind| some z=>simp only[hz,aI,ae,aw]at h;obtain⟨rfl,rfl⟩:=h;exact ACI hs (.inl hop) (by simp_all) hz
  grind
 ·rename_i t m k x hop;split at h;·rename_i hd;cases hz:Tt E t (rd E af t m) (rd E af 0 k) (rd E af 0 x) st with |none=>grind| some z=>simp only[hz,aI,ae,aw]at h;obtain⟨rfl,rfl⟩:=h;exact ACI hs (.inr hop) (by simp_all) hz
  grind
 ·rename_i t x i hop;split at h;·rename_i r hz;simp only[ae,aw]at h;obtain⟨rfl,rfl⟩:=h;grind[Sv]
  ·split at h;·rename_i r hz;simp only[ae,aw]at h;obtain⟨rfl,rfl⟩:=h;grind[YU]
   ·cases hz:PG E t (rd E af t x) (rd E af 0 i) st with |none=>rw[hz]at h;cases h| some z=>simp only[hz,aI,ae,aw]at h;obtain⟨rfl,rfl⟩:=h;exact APL hs hop hz
 ·rename_i t x y hop;split at h;·cases hz:VI E t (rd E af 0 x) (rd E af 0 y) st with |none=>grind| some z=>simp only[hz,aI,ae,aw]at h;obtain⟨rfl,rfl⟩:=h;grind[AUR]
  ·cases hz:Vx E t (rd E af 0 x) (rd E af 0 y) st with |none=>grind| some z=>simp only[hz,aI,ae,aw]at h;obtain⟨rfl,rfl⟩:=h;grind[AWr]
 ·rename_i s d x hop;split at h;·rename_i r hz;simp only[ae,aw]at h;obtain⟨rfl,rfl⟩:=h;grind[Sv]
  ·split at h;·rename_i r hz;simp only[ae,aw]at h;obtain⟨rfl,rfl⟩:=h;grind[AUv]
   ·cases hz:QX E s d (rd E af s x) st with |none=>grind| some z=>simp only[hz,aI,ae,aw]at h;obtain⟨rfl,rfl⟩:=h;grind[AUm]
 ·rename_i x t0 ts hop;cases hz:Sb (rd E af t0 x)with |none=>grind| some z=>simp only[hz,aI,ae,aw]at h;obtain⟨rfl,rfl⟩:=h;grind[AVD]
 ·rename_i x y t0 t1 hop;cases hz:VX E t0 (rd E af t0 x) (rd E af t1 y)with |none=>grind| some z=>simp only[hz,aI,ae,aw]at h;obtain⟨rfl,rfl⟩:=h;grind[AaA]
 ·cases hz:Di E o af with |none=>grind| some z=>simp only[hz,aI,ae,aw]at h;obtain⟨rfl,rfl⟩:=h;grind[Sv]
end
def rdL (E:Env) (af:List AVal):List Operand→List TypeId→List AVal |[],_=>[]|x::xs,[]=>rd E af 0 x::rdL E af xs []|x::xs,t::ts=>rd E af t x::rdL E af xs ts
def callable (P:Program) (g:FuncId):Bool:=match P.funcs[g]? with | some fn=>fn.name != "runtime.NumGoroutine" && fn.body.isSome|none=>false
def Apg (E:Env) (g:FuncId) (args:List AVal) (st:St) (Q:AVal→St→Prop):Prop:=∃ fn e r,E.P.funcs[g]? = some fn∧(fn.name == "runtime.NumGoroutine") = false∧fn.body.isNone = true∧Extern.findNext fn = none∧Extern.find fn = some e∧(∀Γ vs w,RepL Γ args vs→∃v,(e vs.toArray).run E.P w=.ok v w∧Rep Γ r v)∧Q r.strip st
def AqW (E:Env) (g:FuncId) (args:List AVal) (st:St) (Q:AVal→St→Prop):Prop:=∃ fn ps t el,∃ n : Nat,E.P.funcs[g]? = some fn∧(fn.name == "runtime.NumGoroutine") = false∧fn.body.isNone = true∧Extern.findNext fn = none∧Extern.find fn = some (Extern.BytealgMakeNoZero.makeNoZero ps #[t])∧E.P.underlying t=some (.slice el)∧1≤n∧n≤140737488355328∧args=[.int .i64 n]∧Q (.trow el st.next n) {m:=(st.next,[.any])::st.m,next:=st.next+1}
def Xw (E:Env) (g:FuncId) (args:List AVal) (st:St) (Q:AVal→St→Prop):Prop:=Apg E g args st Q∨AqW E g args st Q
theorem ZI: ∀(n t:Nat) (acc:Array Value),(∀v,v∈acc.toList→v.oneCell'=true)→∀v,v∈(Extern.BytealgMakeNoZero.digits n t acc).toList→v.oneCell'=true
 |0,_,_,h=>h
 | n+1,t,acc,h=>by
  rw[Extern.BytealgMakeNoZero.digits];refine ZI n _ _ fun v hv=>?_;rw[Array.toList_push,aV]at hv;rcases hv with hv|hv;·grind
  ·rw[aX]at hv;subst hv;rfl
theorem AlB{P:Program} (w:World) (ps:Array TypeId) (t e:TypeId) (ht:P.underlying t=some (.slice e)) (n:Nat) (hn:n≤281474976710656):
    ∃cs:Array Value,(Extern.BytealgMakeNoZero.makeNoZero ps #[t] #[.int .i64 n]).run P w=.ok (.slice (some ⟨w.heap.size,0,none⟩) n cs.size) (w.drew.drew.alloc (.cells cs e))∧n≤cs.size∧ ∀v,v∈cs.toList→v.oneCell'=true:=by
  have h1: ¬(n:Int)<0:=ff
  have h2: ¬(281474976710656:Int)<(n:Int):=ff
  refine ⟨Extern.BytealgMakeNoZero.digits (grownCap w n 0 e) ((Question.extern "internal/bytealg.MakeNoZero.bytes" 0).cut (w.tape (w.drawn + 1) (.extern "internal/bytealg.MakeNoZero.bytes" 0))) #[], ?_, ?_, ZI _ _ _ fg⟩
  · show Sem.run P (do
        let TypeDesc.slice el←underlying t|stuck _
        if(n:Int)<0||(n:Int)>2^48 then runtimePanic _
        let c←choose (.appendCap (n:Int).toNat 0 el)
        askRoom c
        let bs←choose (.extern _ 0)
        let a←newRow el (Extern.BytealgMakeNoZero.digits c bs #[])
        pure (Value.slice (some a) (n:Int).toNat c):Sem Value) w=_
    simp[aD ht,h1,h2,Question.forced,newRow,Go.Lib.size_digits,grownCap]
  grind[Go.Lib.size_digits,grownCap_ge]
def CallX (E:Env) (g:FuncId) (args:List AVal) (st:St) (Q:AVal→St→Prop):Prop:=if callable E.P g=true then ACall E g args st Q else Xw E g args st Q
theorem CallX.mono{E:Env}{st:St}{g:FuncId}{args:List AVal}{Q Q':AVal→St→Prop} (h:CallX E g args st Q) (k: ∀r st',st.next≤st'.next→Q r st'→Q' r st'):CallX E g args st Q':=by
 unfold CallX at *;split;·rename_i hc;rw[ap hc]at h;exact h.mono k
 ·rename_i hc;rw[aj hc]at h;rcases h with h|h;·obtain⟨fn,e,r,h1,h2,h3,h4,h5,h6,h7⟩:=h;exact .inl ⟨fn,e,r,h1,h2,h3,h4,h5,h6,k _ _ (aq _) h7⟩
  ·obtain⟨fn,ps,t,el,n,h1,h2,h3,h4,h5,h6,h7,h8,h9,h10⟩:=h;exact .inr ⟨fn,ps,t,el,n,h1,h2,h3,h4,h5,h6,h7,h8,h9,k _ _ (Nat.le_succ _) h10⟩
def RV:AVal→Bool |.gsl _ _ _=>true|_=>false
def AAF (x y:AVal):Bool:=RV y||RV x
def Tp:BinOp→Operand→Bool |.eql,.const (.slice none 0 0)=>true|_,_=>false
def Aen (b:Bool) (v:AVal) (K:AVal→Prop):Prop:=match b,v with |true,.slice _ xs _=>∀c:Bool,(c=true→xs=[])→K (.bool c)|_,_=>False
def Cw (E:Env) (mv:List Tmp) (o:Oper) (af:List AVal) (st:St) (K:List AVal→St→Prop):Prop:=match o.op with
 | .call {callee:=.value f,args,argTypes}=>match rd E af 0 f with |.fn (.func g) p q=>CallX E g (stripL (p++rdL E af args.toList argTypes.toList++q)) st fun r st'=>K (Aa af o.dst r) st'|_=>False
 | .call {callee:=.builtin .append,args:=⟨[x,y]⟩,argTypes:=⟨t0::t1::_⟩}=>if AAF (rd E af t0 x) (rd E af t1 y)=true then match appG E t0 t1 (rd E af t0 x) (rd E af t1 y) st with |some (wd,l,cs,rest,jo)=>∀i,i=st.next∨jo=some i→K (Aa af o.dst (.gsl wd i l)) {m:=(i,cs)::rest,next:=st.next+1}|none=>False else match D5 E mv o af st with |some (af',st')=>K af' st'|none=>False
 | .binOp op t x y _=>if Tp op y=true then Aen (BL E.P t) (rd E af t x) fun v=>K (Aa af o.dst v) st else match D5 E mv o af st with |some (af',st')=>K af' st'|none=>False
 | _=>match D5 E mv o af st with |some (af',st')=>K af' st'|none=>False
def Auk (E:Env) (o:Oper) (af:List AVal) (st:St) (K:List AVal→St→Prop):Prop:=∀(F:Nat→Nat) (Γ:Ghost) (w:World) (a:Act),a.defers=[]→Sim E F Γ st w af a.tmps.toList→∀(K':Act→World→Prop) (Qx:Exit→Act→World→Prop),(∀Γ' af' st' a' w',Ext F Γ w Γ' w'→st.next≤st'.next→a'.defers=[]→Sim E F Γ' st' w' af' a'.tmps.toList→K af' st'→K' a' w')→o.wp E.P a w K' Qx
section
variable{E:Env}{F:Nat→Nat}{Γ:Ghost}{st:St}{w:World}{af:List AVal}{a:Act}
theorem RepL.append{xs ys:List AVal}{us vs:List Value} (h:RepL Γ xs us) (k:RepL Γ ys vs):RepL Γ (xs++ys) (us++vs):=by induction xs generalizing us with |nil=>cases h;exact k|cons x xs ih=>cases h with|cons h t=>exact .cons h (ih t)
theorem AFh (hs:Sim E F Γ st w af a.tmps.toList): ∀(xs:List Operand) (ts:List TypeId),RepL Γ (rdL E af xs ts) (xs.map a.eval) |[],_=>.nil|x::xs,[]=>.cons (hs.rd _ x) (AFh hs xs [])|x::xs,t::ts=>.cons (hs.rd _ x) (AFh hs xs ts)
theorem Sim.aside (hs:Sim E F Γ st w af a.tmps.toList){xs:List AVal}{vs:List Value} (hr:RepL Γ xs vs):Sim E (fun b=>F b+AO b af a.tmps.toList) Γ st w (stripL xs) vs:=by
 refine {hs with bx_F:=?_,F_lt:=?_,rep:=hr.strip,own:=JU _ _ _ _,tok:=?_}
 ·intro p b hp hb;have h1:=hs.bx_F p b hp hb;have h2:AO b af a.tmps.toList=0:=by
   rcases aS 0 (AO b af a.tmps.toList)with h|h
   ·rcases hs.box_ok p hp with⟨b',arr,e,hk⟩|⟨v,hv⟩;rotate_left;·have:=hv.bx;grind
    have:=hk.bx;rw[hb]at this;cases this;rcases (Bv _ _ hs.own h).2 with⟨c,hc⟩|⟨s0,p0,hc⟩|⟨s0,p0,hc⟩;·rw[hk.com]at hc;grind
    ·obtain⟨lo,hi,hh,_⟩:=hk.heap;grind
    ·obtain⟨lo,hi,hh,_⟩:=hk.heap;grind
   omega
  omega
 ·intro b hb;have h1:=hs.F_lt b hb;have h2:AO b af a.tmps.toList=0:=by
   rcases aS 0 (AO b af a.tmps.toList)with h|h;·have:=(Bv _ _ hs.own h).1;omega
   omega
  omega
 ·intro b;have:=hs.tok b;grind[HY]
theorem Sim.back (hs:Sim E F Γ st w af a.tmps.toList){Γ':Ghost}{st':St}{w':World}{r:AVal}{v:Value} (hx:Ext (fun b=>F b+AO b af a.tmps.toList) Γ w Γ' w') (h:Sim E (fun b=>F b+AO b af a.tmps.toList) Γ' st' w' [r] [v]) (dst:Option Tmp):Sim E F Γ' st' w' (Aa af dst r) (a.put dst v).tmps.toList:=by
 have hown:ownL Γ' w' af a.tmps.toList:=Bo hx.le _ _ hs.own fun b hb=>hx.keep b ff;have hmid:Sim E F Γ' st' w' af a.tmps.toList:=by
  refine {h with bx_F:=?_,F_lt:=?_,rep:=hs.rep.mono hx.le,own:=hown,tok:=?_};·intro p b hp hb;have:=h.bx_F p b hp hb;omega
  ·intro b hb;have:=h.F_lt b hb;omega
  ·intro b;have:=h.tok b;omega
 have hr:Rep Γ' r v:=by have:=h.rep;cases this;omega
 have ho:VM.own Γ' w' r v:=by have:=h.own;grind[ownL]
 refine hmid.put dst hr ho fun b=>?_;have:=h.tok b;grind[AO,cnt]
theorem ABG{P:Program}{w:World}{t e:TypeId} (h:P.underlying t=some (.slice e)) (p:Option Addr) (n k:Nat):(binOp .eql t (.slice p n k) (.slice none 0 0)).run P w=.ok (.bool p.isNone) w:=by
 have key: ∀d:Nat,(Op.equalIn (d+1) t (.slice p n k) (.slice none 0 0)).run P w=.ok p.isNone w:=fun d=>by cases p<;>simp[Op.equalIn,aD h]
 simp_all[binOp,Op.equal,Op.maxDepth]
theorem AVz{op:BinOp}{y:Operand} (h:Tp op y=true):op=.eql∧y=.const (.slice none 0 0):=by
 unfold Tp at h;split at h;·exact⟨rfl,rfl⟩
 ·cases h
theorem Uh {mv:List Tmp}{o:Oper}{K:List AVal→St→Prop} (h:Cw E mv o af st K):Auk E o af st K:=by
 intro F Γ w a hd hs K' Qx hK;unfold Cw at h;split at h
 ·rename_i f args ts hop;have hf:=hs.rd 0 f;split at h
  ·rename_i g p q e;rw[e]at hf;generalize hfv:a.eval f=fv at hf;cases hf with
   | fn hp hq=>
    rename_i vp vq;have hargs:=AFh hs args.toList ts.toList;have hall:=hp.append (hargs.append hq);rw[←aL]at hall;unfold CallX at h;split at h;rotate_left
    ·rcases h with h|h
     ·obtain⟨fn,e2,r,h1,h2,h3,h4,h5,h6,h7⟩:=h;obtain⟨v,hv,hr⟩:=h6 Γ (vp.toList++args.toList.map a.eval++vq.toList) w (by have:=hall.strip;grind);have harr:(vp.toList++args.toList.map a.eval++vq.toList).toArray=vp++args.map a.eval++vq:=by simp
      rw[harr]at hv;have hrun:(execOp a.eval o).run E.P w=.ok (.value v) w:=by grind[run_callFunc_extern,execOp,resolve,Deferred.ofValue,Sem.run_bind,Sem.run_pure,Result.andThen_ok,invoke]
      unfold Oper.wp;rw[hrun];exact hK Γ _ st (a.put o.dst v) w (Ext.refl _ _ _) (aq _) (by grind[put_defers]) (hs.putStrip o.dst hr) h7
     ·obtain⟨fn,ps,t,el,n,h1,h2,h3,h4,h5,h6,h7,h8,h9,h10⟩:=h;have hst:=hall.strip;have harr:(vp.toList++args.toList.map a.eval++vq.toList).toArray=vp++args.map a.eval++vq:=by simp
      obtain⟨v0,hv0,hrv⟩: ∃v0,vp.toList++args.toList.map a.eval++vq.toList=[v0]∧Rep Γ (.int .i64 n) v0:=by
       have hst':RepL Γ [.int .i64 n] (vp.toList++args.toList.map a.eval++vq.toList):=by grind
       generalize vp.toList++args.toList.map a.eval++vq.toList=vs at hst';cases hst' with |cons q t=>cases t;grind
      cases hrv;rw[hv0]at harr;obtain⟨cs,r1,r2,r3⟩:=AlB (P:=E.P) w ps t el h6 n ff;have hrun:(execOp a.eval o).run E.P w=.ok (.value (.slice (some ⟨w.drew.drew.heap.size,0,none⟩) n cs.size)) (w.drew.drew.alloc (.cells cs el (0,0))):=by have hcf:=run_callFunc_extern (P:=E.P) h1 h2 h3 h4 h5 (vp++args.map a.eval++vq) w;rw[←harr]at hcf;rw[r1]at hcf;simp only[execOp,hop,resolve,hfv,Deferred.ofValue,aG,a7,az,invoke];rw[←harr,hcf];rfl
      have hx:Ext F Γ w Γ w.drew.drew:=⟨Γ.le_refl,fun _ _=>⟨rfl,rfl⟩,aq _,rfl,rfl,rfl⟩;obtain⟨nx,w',a',Γ',hp⟩:=YD (o:=o) (r:=.trow el st.next n) (w1:=w.drew.drew) (cells:=cs) (e:=el) (cs:=[.any]) (fz:=(0,0)) (cap:=cs.size) (len:=n) hs hs.drew.drew hx fg (by
       have hl:1≤cs.toList.length:=by grind
       match hc:cs.toList,hl with |v::vs,_=>exact .cons (.any v) .nil) (fun v hv=>r3 v (da hv)) (fun x hx=>by grind[VM.own,cnt]) (fun Γ' q1 q2=>.trow q1 q2 ⟨r2,by grind[CP]⟩ rfl) (fun _ _ _=>by simp[VM.own]) (fun _ _=>by simp[cnt]) hrun;unfold Oper.wp;rw[hp.run];exact hp.upon _ _ (hK Γ' _ _ a' w' hp.ext hp.next (by rw[hp.defers];omega) hp.sim h10)
    rename_i hcall;have hac:=h;have hrun:(execOp a.eval o).run E.P w=.ok (.enter g (vp++args.map a.eval++vq)) w:=by
     unfold callable at hcall;split at hcall
     ·rename_i fn hfn;simp only[av,eL,ew]at hcall;have hb:fn.body.isNone=false:=by have:=hcall.2;cases hfb:fn.body<;>simp_all
      simp only[execOp,hop,resolve,hfv,Deferred.ofValue,aG,a7,az,invoke,callFunc,run_program,hfn];have hname : (fn.name == "runtime.NumGoroutine") = false:=by grind
      simp only[hname,hb,al,aC];rfl
     grind
    have key:=hac.go (fun b=>F b+AO b af a.tmps.toList) Γ w (vp++args.map a.eval++vq) (by have e2:(vp++args.map a.eval++vq).toList=vp.toList++(args.toList.map a.eval++vq.toList):=fg;rw[e2,←aL];refine hs.aside ?_;grind);unfold Oper.wp;rw[hrun,Oper.upon_enter];refine key.mono ?_;rintro e' w' ⟨v,rfl,Γ',r,st',x1,n1,s1,q1⟩;exact hK Γ' _ st' (a.put o.dst v) w' (x1.less fun b=>by omega) n1 (by grind[put_defers]) (hs.back x1 s1 o.dst) q1
  grind
 ·rename_i x y t0 t1 ts hop;split at h
  ·split at h;·rename_i wd l cs rest jo hab;obtain⟨i,hi,nx,w',a',Γ',hp⟩:=Abu hs hop hab;unfold Oper.wp;rw[hp.run];exact hp.upon _ _ (hK Γ' _ _ a' w' hp.ext hp.next (by rw[hp.defers];omega) hp.sim (h i hi))
   grind
  ·split at h;·rename_i af' st' hst;obtain⟨nx,w',a',Γ',hp⟩:=RF hs hst;unfold Oper.wp;rw[hp.run];exact hp.upon _ _ (hK Γ' af' st' a' w' hp.ext hp.next (by rw[hp.defers];omega) hp.sim h)
   grind
 ·rename_i op t x y _ hop;split at h
  ·rename_i hn;obtain⟨rfl,rfl⟩:=AVz hn;have hx:=hs.rd t x;unfold Aen at h;split at h
   ·rename_i xs ow ht hr;rw[hr]at hx;obtain⟨e,hu⟩: ∃e,E.P.underlying t=some (.slice e):=by grind[BL]
    have main: ∀(p:Option Addr) (n k:Nat),a.eval x=.slice p n k→(p.isNone=true→xs=[])→o.wp E.P a w K' Qx:=by
     intro p n k hv hc;have hrun:(execOp a.eval o).run E.P w=.ok (.value (.bool p.isNone)) w:=by simp only[execOp,hop];have hc:a.eval (.const (.slice none 0 0))=.slice none 0 0:=rfl;simp[hv,hc,eqGuard,ABG hu]
     unfold Oper.wp;rw[hrun];exact hK Γ _ st (a.put o.dst (.bool p.isNone)) w (Ext.refl _ _ _) (aq _) (by grind[put_defers]) (hs.putStrip o.dst (.bool _)) (h _ hc)
    generalize hv:a.eval x=v at hx;cases hx with |snil w o a=>simp_all|slice=>grind
   grind
  ·split at h;·rename_i af' st' hst;obtain⟨nx,w',a',Γ',hp⟩:=RF hs hst;unfold Oper.wp;rw[hp.run];exact hp.upon _ _ (hK Γ' af' st' a' w' hp.ext hp.next (by rw[hp.defers];omega) hp.sim h)
   grind
 ·split at h;·rename_i af' st' hst;obtain⟨nx,w',a',Γ',hp⟩:=RF hs hst;unfold Oper.wp;rw[hp.run];exact hp.upon _ _ (hK Γ' af' st' a' w' hp.ext hp.next (by rw[hp.defers];omega) hp.sim h)
  grind
def gd (x:AVal) (want:Bool):Option Bool:=match x with |.bool b=>some (b==want)|.tuple []=>some false|_=>none
def gdA (ops:Array Oper) (af:List AVal) (j:Nat) (want:Bool):Option Bool:=match(ops[j]?).bind (·.dst)with |some d=>gd (af.getD d .any) want|none=>none
def LA (E:Env) (mv:List Tmp) (ops:Array Oper):List Oper→(List AVal→St→Prop)→List AVal→St→Prop |[],K,af,st=>K af st| o::rest,K,af,st=>match o.guard with |none=>Cw E mv o af st (LA E mv ops rest K)| some (j,want)=>match gdA ops af j want with |some true=>Cw E mv o af st (LA E mv ops rest K)|some false=>LA E mv ops rest K (Aa af o.dst (.tuple [])) st|none=>False
theorem Tc (hs:Sim E F Γ st w af a.tmps.toList){ops:Array Oper}{j:Nat}{want t:Bool} (h:gdA ops af j want=some t):(yielded ops a.tmps j==some want)=t:=by
 unfold gdA at h;split at h
 ·rename_i d hd;have hr:=hs.rep.get d undef;unfold yielded;rw[hd];simp only[aa];unfold gd at h;have hlt:d<a.tmps.size:=by
   rcases aS d a.tmps.size with h'|h';·omega
   ·have:af.length=a.tmps.size:=by rw[hs.rep.length,aA]
    grind
  have e:a.tmps.toList.getD d undef=a.tmps[d]:=by grind
  rw[e]at hr;rw[cx hlt];generalize a.tmps[d]=v at hr;split at h;·rename_i b hb;rw[hb]at hr;cases hr;grind[Option.some.injEq]
  ·rename_i hb;rw[hb]at hr;cases hr;grind
  grind
 grind
theorem Oh{ops:Array Oper}{o:Oper}{tmps:Array Value}{j:Nat}{want:Bool} (hg:o.guard=some (j,want)):Region.wanted o (yielded ops tmps)=(yielded ops tmps j==some want):=by grind[Region.wanted]
theorem Sim.skipped (hs:Sim E F Γ st w af a.tmps.toList) (d:Option Tmp):Sim E F Γ st w (Aa af d (.tuple [])) (a.put d undef).tmps.toList:=hs.put d (r:=.tuple []) (v:=undef) (.tuple .nil) (by simp[VM.own,undef,ownL]) fun n=>by have:=hs.tok n;grind[cnt,undef,AO]
theorem ANo{mv:List Tmp}{ops:Array Oper}{Qc:Exit→Act→World→Prop}: ∀(rest:List Oper) (i:Nat),ops.toList.drop i=rest→∀ {K:List AVal→St→Prop}{F:Nat→Nat}{Γ:Ghost}{st:St}{w:World}{af:List AVal}{a:Act},a.defers=[]→Sim E F Γ st w af a.tmps.toList→LA E mv ops rest K af st→(∀Γ' af' st' a' w',Ext F Γ w Γ' w'→st.next≤st'.next→a'.defers=[]→Sim E F Γ' st' w' af' a'.tmps.toList→K af' st'→Qc .normal a' w')→wpOps E.P ops Qc (List.range' i rest.length) a w:=by
 intro rest;induction rest with
 |nil=>intro i hi K F Γ st w af a hd hs h hK;exact hK Γ af st a w (Ext.refl _ _ _) (aq _) hd hs h
 | cons o rest ih=>
  intro i hi K F Γ st w af a hd hs h hK;have hoi:ops[i]?=some o:=by
   have:ops.toList[i]?=some o:=by have:=bl (·[0]?) hi;grind
   grind
  have hi':ops.toList.drop (i+1)=rest:=by grind[List.tail_drop]
  rw[ag,cO];simp only[wpOps,hoi];have go:Cw E mv o af st (LA E mv ops rest K)→o.wp E.P a w (wpOps E.P ops Qc (List.range' (i+1) rest.length)) Qc:=fun h=>Uh h F Γ w a hd hs _ _ fun Γ' af' st' a' w' x1 n1 d1 s1 k1=>ih (i+1) hi' d1 s1 k1 fun Γ2 af2 st2 a2 w2 x2 n2 d2 s2 k2=>hK Γ2 af2 st2 a2 w2 (x1.trans x2) (bB n1 n2) d2 s2 k2;simp only[LA]at h;split at h;·simp_all[Region.wanted]
  ·rename_i j want hg;split at h;·rename_i hgd;rw[ap (by rw[Oh hg,Tc hs hgd])];grind
   ·rename_i hgd;rw[aj (by rw[Oh hg,Tc hs hgd];simp)];exact ih (i+1) hi' (by grind[put_defers]) (hs.skipped o.dst) h fun Γ2 af2 st2 a2 w2 x2 n2 d2 s2 k2=>hK Γ2 af2 st2 a2 w2 x2 n2 d2 s2 k2
   grind
theorem U3{Q:APost}{id:Nat}{ops:Array Oper} (mv:List Tmp) (h:LA E mv ops ops.toList (fun af st=>Q .normal af st) af st):AWp E (.region id ops false) Q af st:=by constructor;intro F Γ w a hd hs;refine wp_region ?_;have key:=ANo (Qc:=lift E F Γ w st.next Q) ops.toList 0 rfl hd hs h fun Γ' af' st' a' w' x1 n1 d1 s1 k1=>⟨trivial,d1,Γ',af',st',x1,n1,s1,k1⟩;grind[Array.length_toList,List.range_eq_range']
theorem AMe{Q:APost}{c:Operand}{x y:Code} (b:Bool) (hb:rd E af 0 c=.bool b) (h:if b=true then AWp E x Q af st else AWp E y Q af st):AWp E (.cond c x y) Q af st:=by
 constructor;intro F Γ w a hd hs;have hr:=hs.rd 0 c;rw[hb]at hr;generalize hv:a.eval c=v at hr;cases hr;refine wp_cond hv ?_;cases b;·exact h.go F Γ w a hd hs
 ·exact h.go F Γ w a hd hs
theorem AZ6{Q:APost}{c:Code}{m:List (Nat×List AVal)} (hm:m.Sublist st.m) (h:AWp E c Q af {st with m:=m}):AWp E c Q af st:=⟨fun F Γ w a hd hs=>h.go F Γ w a hd (hs.fewer hm)⟩
def Vv (E:Env) (t:TypeId) (addr:AVal) (st:St):Option (AVal×St):=
  match addr with
  | .ptr i 0=>
    match Ae st.m i with
    | some cs=>
      if Ad E.P t=true then
        if BG E.P t=true then(if BK E.P t=some cs.length then some (.agg cs,{st with m:=Ar st.m i (stripL cs)})else none)
        else match cs with
          |[c]=>some (c,{st with m:=Ar st.m i (stripL cs)})
          |_=>none
      else none
    |none=>none
  |_=>none
def PY (E:Env):List ResultVar→List AVal→St→Option (List AVal×St) |[],af,st=>some ([],st)|.tmp t::rs,af,st=>(PY E rs (stripAt af (.tmp t)) st).map fun p=>(af.getD t .any::p.1,p.2)| .cell i t::rs,af,st=>match Vv E t (af.getD i .any) st with |some (r,st')=>(PY E rs af st').map fun p=>(r::p.1,p.2)|none=>none
def JY (E:Env) (fn:Func) (Q:AVal→St→Prop):APost:=fun e af st=>
  match e with
  | .normal|.ret=>
    match PY E fn.results.toList af st with
    |some (rs,st')=> ∃m,m.Sublist st'.m∧Q (match rs with|[r]=>r|rs=>.tuple rs) {st' with m:=m}
    |none=>False
  |_=>False
end
end Go.VM
set_option linter.unusedVariables false
namespace Go.VM
section
variable{E:Env}{F:Nat→Nat}{Γ:Ghost}{st:St}{w:World}{af:List AVal}{a:Act}
theorem AAw (hs:Sim E F Γ st w af a.tmps.toList){t:TypeId}{x:AVal}{v:Value}{r:AVal}{st':St} (hx:Rep Γ x v) (h:Vv E t x st=some (r,st')):∃u,(do loadVar t (←asAddr v):Sem Value).run E.P w=.ok u w∧Rep Γ r u∧VM.own Γ w r u∧Sim E F Γ st' w af a.tmps.toList∧st'.next=st.next∧∀b,cnt b r u+Ai Γ w b st'.m=Ai Γ w b st.m:=by
 unfold Vv at h;split at h
 ·rename_i i;cases hx with
  |ptr hbx=>
   rename_i b;split at h
   ·rename_i cs hg;split at h
    ·rename_i hk;obtain⟨b',arr,e,hb⟩:=hs.box hg hbx;have:b'=b:=by have:=hb.bx;grind
     subst this;obtain⟨lo,hi,hh,hf⟩:=hb.heap;obtain⟨L,hL⟩: ∃L,L=arr.toList.take cs.length:=⟨_,rfl⟩;have hrepL:RepL Γ cs L:=by rw[hL];exact hb.rep
     have hone: ∀v,v∈L→v.oneCell'=true:=by rw[hL];exact hb.one
     have hownL:VM.ownL Γ w cs L:=by rw[hL];exact(MR Γ w cs arr.toList).2 hb.own
     have hcntL: ∀n,AO n cs L=AO n cs arr.toList:=fun n=>by grind[L9]
     obtain⟨s1,x1⟩:=hs.setBox (w':=w) (cs':=stripL cs) (arr':=arr) (lo:=lo) (hi:=hi) hg hb hh hf (fun _ _=>rfl) rfl rfl rfl rfl (by rw[LK];exact hb.rep.strip) (JU _ _ _ _) (by grind[LK]) (fun n=>by rw[HY];have:=hs.tok n;omega);have hcnt: ∀n,AO n cs arr.toList+Ai Γ w n (Ar st.m i (stripL cs))=Ai Γ w n st.m:=by intro n;have e1:=H9 (Γ:=Γ) (Γ':=Γ) (w:=w) (w':=w) (b:=n) (x:=stripL cs) hs.keys hg (fun p hp hne=>rfl);grind[Cy,AO,hcells,stripL,HY]
     have hcell: ∀j u,L[j]?=some u→w.cell? ⟨b',0+j,none⟩=some u:=by intro j u hj;rw[hL]at hj;have hj:=List.getElem?_take_some hj;simp_all[World.cell?]
     have ha:=PK (w:=w) hk;split at h
     ·rename_i hag;rw[hag]at ha;split at h;·rename_i hz;simp only[ae,aw]at h;obtain⟨rfl,rfl⟩:=h;have key:=dx (P:=E.P) w ⟨b',0,none⟩ L (fun j v hj=>by grind[addr_add]);rw[←hrepL.length]at key;refine⟨.agg L.toArray,?_,.agg ff ff,by grind[VM.own],s1,rfl,fun n=>by grind[cnt]⟩;simp[asAddr,loadVar,ha,Cz hz,key]
      grind
     ·rename_i hag;rw[eG]at hag;rw[hag]at ha;split at h
      ·rename_i c;simp only[ae,aw]at h;obtain⟨rfl,rfl⟩:=h;obtain⟨u,hu,hrep⟩:=hrepL.get? (i:=0) (x:=c) rfl;have h1:L=[u]:=by
        have:L.length=1:=by grind
        clear hL hcell;match L,this,hu with |[x],_,hu=>grind
       refine⟨u,?_,hrep,?_,s1,rfl,fun n=>?_⟩;·simp_all[asAddr,loadVar]
       ·grind[VM.ownL]
       grind[AO]
      grind
    grind
   grind
 grind
theorem APX{m m':List (Nat×List AVal)} (h:m.Sublist m') (n:Nat):Ai Γ w n m≤Ai Γ w n m':=by induction h with |slnil=>omega|cons p _ ih=>grind[Ai]|cons_cons p _ ih=>grind[Ai]
def ADU (tmps:Array Value) (r:ResultVar):Sem Value:=match r with |.tmp t=>pure (tmps.getD t undef)|.cell i t=>do loadVar t (←asAddr (tmps.getD i undef))
theorem ASl (rs:List ResultVar): ∀ {af:List AVal}{st:St}{xs:List AVal}{st':St},Sim E F Γ st w af a.tmps.toList→PY E rs af st=some (xs,st')→∃vs,(rs.mapM (ADU a.tmps)).run E.P w=.ok vs w∧RepL Γ xs vs∧ownL Γ w xs vs∧st'.next=st.next∧∃af',Sim E F Γ st' w af' a.tmps.toList∧∀b,AO b af' a.tmps.toList+AO b xs vs+Ai Γ w b st'.m=AO b af a.tmps.toList+Ai Γ w b st.m:=by
 induction rs with
 | nil=>intro af st xs st' hs h;simp only[PY,ae,aw]at h;obtain⟨rfl,rfl⟩:=h;exact⟨[],fg,.nil,by simp[ownL],rfl,af,hs,fun b=>by simp[AO]⟩
 | cons x rs ih=>
  intro af st xs st' hs h;cases x with
  | tmp t=>
   simp only[PY]at h;cases hr:PY E rs (stripAt af (.tmp t)) st with
   |none=>grind
   | some p=>
    simp only[hr,aI,ae,aw]at h;obtain⟨rfl,rfl⟩:=h;obtain⟨vs,r1,r2,r3,r4,af',r5,r6⟩:=ih (hs.stripAt (.tmp t)) hr;refine⟨a.tmps.getD t undef::vs,?_,.cons (hs.rd 0 (.tmp t)) r2,?_,r4,af',r5,fun b=>?_⟩;·rw[List.mapM_cons,aG];simp only[ADU,a7,az];rw[aG,r1];rfl
    ·rw[ownL];exact⟨hs.rd_own 0 (.tmp t),r3⟩
    ·have:=r6 b;have:=hs.rd_cnt 0 (.tmp t) b;grind[rd,Act.eval,AO]
  | cell i t=>
   simp only[PY]at h;split at h
   ·rename_i r st1 hc;cases hr:PY E rs af st1 with
    |none=>grind
    | some p=>
     simp only[hr,aI,ae,aw]at h;obtain⟨rfl,rfl⟩:=h;obtain⟨u,c1,c2,c3,c4,c5,c6⟩:=AAw hs (hs.rd 0 (.tmp i)) hc;obtain⟨vs,r1,r2,r3,r4,af',r5,r6⟩:=ih c4 hr;refine⟨u::vs,?_,.cons c2 r2,by grind[ownL],ff,af',r5,fun b=>?_⟩;·rw[List.mapM_cons,aG];simp_all[Act.eval,ADU]
     grind[AO]
   grind
theorem LD {f:FuncId}{fn:Func}{c:Code}{args:List AVal}{Q:AVal→St→Prop} (hf:E.P.funcs[f]?=some fn) (hb:fn.body=some c)
    (h:AWp E c (JY E fn Q) (args++List.replicate (fn.ntmps-args.length) .any) st):ACall E f args st Q:=by
  constructor
  intro F Γ w cargs hs
  have hlen:args.length=cargs.size:=by rw[hs.rep.length,aA]
  have hrepl: ∀n,RepL Γ (List.replicate n .any) (List.replicate n undef)∧ownL Γ w (List.replicate n .any) (List.replicate n undef)∧ ∀b,AO b (List.replicate n .any) (List.replicate n undef)=0:=by
    intro n
    induction n with
    |zero=>exact⟨.nil,by simp[ownL],fun b=>by simp[AO]⟩
    |succ n ih=>exact⟨.cons (.any _) ih.1,by grind[ownL,VM.own],fun b=>by grind[AO,cnt]⟩
  have happ: ∀(xs:List AVal) (vs:List Value),xs.length=vs.length→ownL Γ w xs vs→ ∀n,ownL Γ w (xs++List.replicate n .any) (vs++List.replicate n undef)∧ ∀b,AO b (xs++List.replicate n .any) (vs++List.replicate n undef)=AO b xs vs:=by
    intro xs
    induction xs with
    |nil=>grind[AO]
    | cons x xs ih=>intro vs hl ho n;cases vs with
      |nil=>grind
      | cons v vs=>
        grind[ownL,AO]
  have htm:(cargs++Array.replicate (fn.ntmps-cargs.size) undef).toList=cargs.toList++List.replicate (fn.ntmps-args.length) undef:=by
    grind[Array.toList_append,Array.toList_replicate]
  refine calls_of_wp hf hb (eO (h.go F Γ w {tmps:=cargs++Array.replicate (fn.ntmps-cargs.size) undef,defers:=[]} rfl ?_) ?_)
  · simp only
    rw[htm]
    obtain⟨o1,o2⟩:=happ args cargs.toList hs.rep.length hs.own (fn.ntmps-args.length)
    exact {hs with rep:=hs.rep.append (hrepl _).1,own:=o1,tok:=fun b=>by rw[o2 b];exact hs.tok b}
  · intro e a' w' hq
    obtain⟨h0,hd,Γ',af',st',x1,n1,s1,q1⟩:=hq
    have fin:(match PY E fn.results.toList af' st' with
        |some (rs,st')=> ∃m,m.Sublist st'.m∧Q (match rs with|[r]=>r|rs=>.tuple rs) {st' with m:=m}
        |none=>False)→ ∃v,(results fn a'.tmps).run E.P w'=.ok v w'∧ ∃v1,Ending.returned v=.returned v1∧ ∃Γ' r st',Ext F Γ w Γ' w'∧st.next≤st'.next∧Sim E F Γ' st' w' [r] [v1]∧Q r st':=by
      intro q
      split at q
      · rename_i rs st2 hres
        obtain⟨m,hm,hQ⟩:=q
        obtain⟨vs,r1,r2,r3,r4,af2,r5,r6⟩:=ASl fn.results.toList s1 hres
        have hrun:(results fn a'.tmps).run E.P w'=.ok (if h:vs.toArray.size=1 then vs.toArray[0]else .tuple vs.toArray) w':=by
          have e:results fn a'.tmps=(do
            let vs←fn.results.mapM (ADU a'.tmps)
            pure (if h:vs.size=1 then vs[0]else .tuple vs)):=rfl
          rw[e,Array.mapM_eq_mapM_toList,aG,Sem.run_map,r1]
          rfl
        refine⟨_,hrun,_,rfl,Γ',_,{st2 with m:=m},x1,by grind,?_,hQ⟩
        have s2:=r5.fewer hm
        have hcm: ∀n,Ai Γ' w' n m≤Ai Γ' w' n st2.m:=fun n=>APX hm n
        have htok: ∀b,F b+AO b rs vs+Ai Γ' w' b m≤1:=by
          intro b
          have:=r6 b
          have:=s1.tok b
          grind
        cases r2 with
        | nil=>
          simp only[c9,an]
          exact {s2 with rep:=.cons (.tuple .nil) .nil,own:=by simp[ownL,VM.own],tok:=fun b=>by grind[AO,cnt]}
        | cons hr t=>
          cases t with
          | nil=>
            simp only[c9,ag,an,bD,dite_true]
            exact {s2 with rep:=.cons hr .nil,own:=r3,tok:=htok}
          | cons hy t=>
            rename_i x v y u xs us
            have hne: ¬((v::u::us:List Value).toArray.size=1):=fg
            rw[dif_neg hne]
            have hrp:RepL Γ' (x::y::xs) (v::u::us):=.cons hr (.cons hy t)
            exact {s2 with rep:=.cons (.tuple ff) .nil,own:=by grind[ownL,VM.own],tok:=fun b=>by grind[AO,cnt]}
      grind
    cases e with
    |normal=>obtain⟨v,hr,hR⟩:=fin q1;exact⟨hd,v,hr,hR⟩
    |ret=>obtain⟨v,hr,hR⟩:=fin q1;exact⟨hd,v,hr,hR⟩
    |exit id=>exact q1.elim
    |goto l=>grind
    |panic c=>grind
    |outgrown=>grind
end
end Go.VM
set_option linter.unusedVariables false
namespace Go.VM
section
variable{E:Env}{st:St}{af:List AVal}{Q:APost}
inductive kPost (K:List AVal→St→Prop) (Q:APost):APost |nrm{af:List AVal}{st:St} (h:K af st):kPost K Q .normal af st |oth{e:Exit}{af:List AVal}{st:St} (hne:e≠ .normal) (h:Q e af st):kPost K Q e af st
theorem kPost.get{K:List AVal→St→Prop} (h:kPost K Q .normal af st):K af st:=by cases h with |nrm h=>exact h|oth hne h=>grind
theorem kPost.out{K:List AVal→St→Prop}{e:Exit} (h:kPost K Q e af st) (hne:e≠ .normal):Q e af st:=by cases h with |nrm h=>grind|oth hne h=>exact h
theorem Mt{K:List AVal→St→Prop} (h:K af st):kPost K Q .normal af st:=.nrm h
end
end Go.VM
set_option linter.unusedVariables false
namespace Go.VM
def slots (o:Oper):List Tmp:=o.op.operands.toList.filterMap fun|.tmp t=>some t|_=>none
theorem Pt{o:Oper}{d:Tmp} (h:d∉slots o){x:Operand} (hx:x∈o.op.operands):x≠ .tmp d:=by intro e;subst e;exact h (List.mem_filterMap.2 ⟨.tmp d,by grind,rfl⟩)
section
variable{E:Env}{af:List AVal}{st:St}{d:Tmp}{v:AVal}
theorem BM{t:TypeId}{x:Operand} (h:x≠ .tmp d):rd E (af.set d v) t x=rd E af t x:=by cases x with | tmp i=>grind[rd,List.getD]|_=>rfl
theorem IR{x:Operand} (h:x≠ .tmp d):stripAt (af.set d v) x=(stripAt af x).set d v:=by cases x with | tmp i=>grind[stripAt,List.set_comm,List.getD,List.getElem?_set_ne]|_=>rfl
theorem BA{dst:Option Tmp} (h:dst≠some d) (r:AVal):Aa (af.set d v) dst r=(Aa af dst r).set d v:=by cases dst with |none=>rfl| some e=>grind[Aa,List.set_comm]
theorem Yq{x:Option Operand} (h: ∀y,x=some y→y≠ .tmp d):rdo E (af.set d v) x=rdo E af x:=by cases x with |none=>rfl|some y=>simp only[rdo,BM (h y rfl)]
theorem AIF: ∀(xs:List Operand) (ts:List TypeId),(∀x,x∈xs→x≠ .tmp d)→rdL E (af.set d v) xs ts=rdL E af xs ts |[],_,_=>rfl|x::xs,[],h=>by simp only[rdL,BM (h x fg),AIF xs [] (fun y hy=>h y (aQ _ hy))]|x::xs,t::ts,h=>by simp only[rdL,BM (h x fg),AIF xs ts (fun y hy=>h y (aQ _ hy))]
theorem PZ{ty:Nat→TypeId}: ∀(ps:List (Nat×Operand)){af:List AVal},(∀p,p∈ps→p.2≠ .tmp d)→(BR E ty (af.set d v) ps).1=(BR E ty af ps).1.set d v∧(BR E ty (af.set d v) ps).2=(BR E ty af ps).2 |[],_,_=>⟨rfl,rfl⟩| (i,x)::ps,af,h=>by have hx:=h (i,x) fg;obtain⟨h1,h2⟩:=PZ ps (af:=stripAt af x) (fun p hp=>h p (aQ _ hp));simp only[BR,IR hx,BM hx];exact⟨h1,by rw[h2]⟩
theorem KO{o:Oper} (h:d∉slots o):Di E o (af.set d v)=Di E o af:=by
 have hx:=fun x=>Pt h (x:=x);unfold Di;split;·grind[Op.operands,BM]
 ·grind[Op.operands,BM]
 ·grind[Op.operands,BM]
 ·grind[Op.operands,BM]
 ·grind[Op.operands,BM]
 ·grind[Op.operands,rd,List.map_congr_left,BM]
 ·grind[Op.operands,BM]
 ·grind[Op.operands,BM]
 ·grind[Op.operands,BM]
 ·grind[Op.operands,BM]
 ·grind[Op.operands,Call.operands,BM]
 ·rename_i x y ts hop;simp only[hop,Op.operands,Call.operands]at hx;grind[BM]
 ·rename_i x y ts hop;simp only[hop,Op.operands,Call.operands]at hx;grind[BM]
 ·grind[Op.operands,Call.operands,BM]
 ·rename_i x y t s hop;simp only[hop,Op.operands,Call.operands]at hx;grind[BM]
 ·rfl
theorem AY7{x:Operand} (h:x≠ .tmp d):nameV (af.set d v) x=nameV af x:=by cases x with | tmp i=>have:d≠i:=fun e=>h (by rw[e]);simp[nameV,List.getD,cE this]|_=>rfl
theorem AdV{b:Bool}{x:Operand} (h:x≠ .tmp d):ABY b (af.set d v) x st=ABY b af x st:=by
 cases b<;>cases x<;>try rfl
 rename_i j;have:j≠d:=fun e=>h (by rw[e]);simp[ABY,List.getD,cE (du this)]
theorem AhJ{b:Bool}{x:Operand}{j i w:Nat}{xs:List AVal} (h:ABY b af x st=some (j,i,w,xs)):x=.tmp j:=by
 unfold ABY at h;split at h;·obtain⟨p,_,e⟩:=bJ.1 h;cases e;rfl
 ·cases h
theorem AZk{x:Operand}{i w:Nat}{xs:List AVal} (h:nameV af x=some (i,w,xs)):x=.tmp i:=by
 unfold nameV at h;split at h
 ·split at h;·cases h;rfl
  ·cases h
 ·cases h
theorem AZQ{x:Operand}{t:TypeId} (h:x≠ .tmp d):Xv E (af.set d v) x t st=Xv E af x t st:=by cases x with |tmp i=>simp only[Xv,BM h]|_=>rfl
theorem Ue{mv:List Tmp}{o:Oper} (h:d∉slots o) (hd:o.dst≠some d):D5 E mv o (af.set d v) st=(D5 E mv o af st).map fun p=>(p.1.set d v,p.2):=by
 have hx:=fun x=>Pt h (x:=x);unfold D5;split
 ·rename_i x hop;simp only[hop,Op.operands]at hx;split
  ·rw [AY7 (hx x fg)];cases hn:nameV af x with
   | none=>rw[AdV (hx x fg)];cases hf:ABY (ABD mv o.dst) af x st with |none=>simp[BM (hx x fg),IR (hx x fg),BA hd]| some p=>obtain⟨j,i,w,xs⟩:=p;have hi:j≠d:=fun e=>hx x fg (by rw[AhJ hf,e]);simp only[aI];rw[cH _ _ (du hi)];simp[BA hd]
   | some p=>obtain⟨i,w,xs⟩:=p;have hi:i≠d:=fun e=>hx x fg (by rw[AZk hn,e]);simp only[aI];rw[cH _ _ (du hi)];simp[BA hd]
  ·simp[BM (hx x fg),BA hd]
 ·rename_i x hop;simp only[hop,Op.operands]at hx;split;·rw[AZQ (hx x fg)];cases AAd E o with |some w=>simp[BA hd]|none=>cases Xv E af x o.type st<;>simp[BM (hx x fg),IR (hx x fg),BA hd]
  ·simp[BM (hx x fg),IR (hx x fg),BA hd]
 ·rename_i t hop;split;·cases Ud E.P t st.next<;>simp[BA hd]
  ·cases CW E.P t st.next<;>simp[BA hd]
 ·rename_i t x hop;simp only[hop,Op.operands]at hx;rw[BM (hx x fg),IR (hx x fg)];split<;>simp[BA hd]
 ·rename_i t ps hop;simp only[hop,Op.operands]at hx;obtain⟨h1,h2⟩:=PZ (E:=E) (v:=v) (ty:=AP E.P t) ps (af:=af) (fun p hp=>hx p.2 (by grind));rw[h1,h2];cases Rm E t (BR E (AP E.P t) af ps).2<;>simp[BA hd]
 ·rename_i t len ps hop;simp only[hop,Op.operands]at hx;obtain⟨h1,h2⟩:=PZ (E:=E) (v:=v) (ty:=fun _=>AP E.P t 0) ps (af:=af) (fun p hp=>hx p.2 (by grind));rw[h2,h1];split;·cases IJ E t len (BR E (fun _=>AP E.P t 0) af ps).2<;>simp[BA hd]
  ·cases Gw E t len (BR E (fun _=>AP E.P t 0) af ps).2<;>simp[BA hd]
 ·rename_i t x hop;simp only[hop,Op.operands]at hx;rw[BM (hx x fg)];split;·cases QJ E t (rd E af 0 x) st<;>simp[BA hd]
  ·cases QV E t (rd E af 0 x) st<;>simp[BA hd]
 ·rename_i t x y hop;simp only[hop,Op.operands]at hx;rw[BM (hx x fg),BM (hx y fg),IR (hx y fg)];split;·cases NK E t (rd E af 0 x) (rd E af t y) st<;>simp
  ·simp
 ·rename_i t n hop;simp only[hop,Op.operands]at hx;have ht:d≠t:=fun e=>hx (.tmp t) fg (by rw[e]);have hg:(af.set d v).getD t .any=af.getD t .any:=by grind
  rw[hg];split;·rename_i vs hvs;cases vs[n]? with |none=>simp|some r=>grind[List.set_comm,BA]
  ·simp
 ·rename_i t x hop;simp only[hop,Op.operands]at hx;rw[BM (hx x fg)];split<;>grind[BA]
 ·grind[Op.operands,List.getD,List.getElem?_set_ne,AC3,List.set_comm,BA]
 ·rename_i t x lo hi mx hop;simp only[hop,Op.operands]at hx;rw[BM (hx x fg),Yq (fun y hy=>hx y (by grind)),Yq (fun y hy=>hx y (by grind)),Yq (fun y hy=>hx y (by grind))];split;·rename_i l hh m h1 h2 h3;cases FO E t (rd E af t x) l hh m with |some r=>simp[BA hd]|none=>cases QC E t (rd E af t x) l hh m st<;>simp[BA hd]
  ·simp
 ·rename_i x y t0 t1 ts hop;simp only[hop,Op.operands,Call.operands]at hx;rw[BM (hx x fg),BM (hx y fg),IR (hx x fg)];split;·cases Oj E t0 t1 (rd E af t0 x) (rd E af t1 y)with |some r=>simp[BA hd]|none=>cases appW E x t0 t1 (rd E af t0 x) (rd E af t1 y) st<;>simp[BA hd]
  ·cases IK E t0 t1 (rd E af t0 x) (rd E af t1 y)with |some r=>simp[BA hd]|none=>cases YT E t0 t1 (rd E af t0 x) (rd E af t1 y) st<;>simp[BA hd]
 ·rename_i x t0 ts hop;simp only[hop,Op.operands,Call.operands]at hx;rw[KO h];cases Di E o af with |some r=>simp[BA hd]| none=>rw[BM (hx x fg)];cases ZO E t0 (rd E af t0 x) st<;>simp[BA hd]
 ·grind[BA]
 ·rename_i t m k ok hop;simp only[hop,Op.operands]at hx;rw[BM (hx m fg),BM (hx k fg)];cases SK E t (rd E af t m) (rd E af 0 k) ok st<;>simp[BA hd]
 ·rename_i t m k x hop;simp only[hop,Op.operands]at hx;rw[BM (hx m fg),BM (hx k fg),BM (hx x fg)];split;·cases Tt E t (rd E af t m) (rd E af 0 k) (rd E af 0 x) st<;>simp
  ·simp
 ·rename_i t m k x hop;simp only[hop,Op.operands]at hx;rw[BM (hx m fg),BM (hx k fg),BM (hx x fg)];split;·cases Tt E t (rd E af t m) (rd E af 0 k) (rd E af 0 x) st<;>simp
  ·simp
 ·rename_i t x i hop;simp only[hop,Op.operands]at hx;rw[KO h];cases Di E o af with |some r=>grind[BA]| none=>rw[BM (hx x fg),BM (hx i fg)];cases Ga E t (rd E af t x) (rd E af 0 i) st with |some r=>simp[BA hd]|none=>cases PG E t (rd E af t x) (rd E af 0 i) st<;>simp[BA hd]
 ·rename_i t x y hop;simp only[hop,Op.operands]at hx;rw[BM (hx x fg),BM (hx y fg)];split;·cases VI E t (rd E af 0 x) (rd E af 0 y) st<;>simp[BA hd]
  ·cases Vx E t (rd E af 0 x) (rd E af 0 y) st<;>simp[BA hd]
 ·rename_i s e x hop;simp only[hop,Op.operands]at hx;rw[KO h];cases Di E o af with |some r=>grind[BA]| none=>rw[BM (hx x fg)];cases Sj E s e (rd E af s x) st with |some r=>grind[BA]|none=>cases QX E s e (rd E af s x) st<;>simp[BA hd]
 ·rename_i x t0 ts hop;simp only[hop,Op.operands,Call.operands]at hx;rw[BM (hx x fg),IR (hx x fg)];cases Sb (rd E af t0 x)<;>simp[BA hd]
 ·rename_i x y t0 t1 hop;simp only[hop,Op.operands,Call.operands]at hx;rw[BM (hx x fg),BM (hx y fg),IR (hx x fg)];cases VX E t0 (rd E af t0 x) (rd E af t1 y)<;>simp[BA hd]
 ·rw[KO h];cases Di E o af<;>simp[BA hd]
theorem AN8{mv:List Tmp}{o:Oper}{K:List AVal→St→Prop} (h:d∉slots o) (hd:o.dst≠some d) (hw:Cw E mv o (af.set d v) st K):Cw E mv o af st fun af' st'=>K (af'.set d v) st':=by
 have hx:=fun x=>Pt h (x:=x);unfold Cw at *;split at hw;·grind[Op.operands,Call.operands,BM,AIF,BA]
 ·rename_i x y t0 t1 ts hop;simp only[hop,Op.operands,Call.operands]at hx;rw[BM (hx x fg),BM (hx y fg),Ue h hd]at hw;split at hw
  ·split at hw;·rename_i wd l cs rest jo hab;rw[ap ff];grind[BA]
   grind
  ·rw[aj ff];grind
 ·rename_i op t x y _ hop;simp only[hop,Op.operands]at hx;rw[Ue h hd,BM (hx x fg)]at hw;split at hw;·rename_i hn;rw[ap hn];grind[BA]
  ·rename_i hn;rw[aj hn];grind
 grind[Ue,D5]
end
def EC (E:Env) (o:Oper) (af:List AVal) (st:St):Option AVal:=match o.op with
 |.move x=>some (rd E af o.type x).strip
 |.load t x=>(QV E t (rd E af 0 x) st).map AVal.strip
 | .slice t x lo hi mx=>match rdo E af lo,rdo E af hi,rdo E af mx with |some l,some h,some m=>FO E t (rd E af t x) l h m|_,_,_=>none
 |.buildSlice t len ⟨ps⟩=>Gw E t len (BR E (fun _=>AP E.P t 0) af ps).2
 |.assign _=>none
 |.alloc _=>none
 |.box _ _=>none
 |.build _ _=>none
 |.store _ _ _=>none
 |.extract _ _=>none
 |.range _ _=>none
 |.next _ _=>none
 |.call {callee:=.builtin .append,args:=_,argTypes:=_}=>none
 | .indexAddr t x i=>match Di E o af with |some r=>some r.strip| none=>match Ga E t (rd E af t x) (rd E af 0 i) st with |some _=>none|none=>PG E t (rd E af t x) (rd E af 0 i) st
 | .call {callee:=.builtin .len,args:=⟨[x]⟩,argTypes:=⟨t::_⟩}=>match Di E o af with |some r=>some r.strip|none=>ZO E t (rd E af t x) st
 |_=>(Di E o af).map AVal.strip
theorem ANL{E:Env}{o:Oper}{af:List AVal}{st:St}{r:AVal} (h:EC E o af st=some r):D5 E [] o af st=some (Aa af o.dst r,st):=by
 have hm: ∀dst,OI [] dst=false:=fun dst=>by cases dst<;>rfl
 unfold EC at h;unfold D5;split at h;·grind
 ·rename_i t x hop;simp only[hop,hm,al,aC];cases hl:QV E t (rd E af 0 x) st with |none=>grind|some z=>grind
 ·grind
 ·grind
 all_goals (try (cases h;done))
 ·rename_i t x i hop;simp only[hop];split at h;·rename_i z hz;cases h;simp only[hz]
  ·rename_i hz;split at h;·cases h
   ·rename_i hz2;simp only[hz,hz2,h,aI]
 ·rename_i x t ts hop;simp only[hop];split at h;·rename_i z hz;cases h;simp only[hz]
  ·rename_i hz;simp only[hz,h,aI]
 ·split;all_goals first | grind | grind[Di] | (cases hp:Di E o af with |none=>grind|some z=>grind)
theorem ASo{E:Env}{o:Oper}{af:List AVal}{st:St}{d:Tmp}{v:AVal} (h:d∉slots o):EC E o (af.set d v) st=EC E o af st:=by
 have hx:=fun x=>Pt h (x:=x);unfold EC;split;·grind[Op.operands,BM]
 ·grind[Op.operands,BM]
 ·grind[Op.operands,BM,Yq]
 ·grind[Op.operands,PZ,AP]
 all_goals (try (first| rfl| (rw[KO h];done)))
 ·rename_i t x i hop;simp only[hop,Op.operands]at hx;rw[KO h,BM (hx x fg),BM (hx i fg)]
 ·rename_i x t ts hop;simp only[hop,Op.operands,Call.operands]at hx;rw[KO h,BM (hx x fg)]
def M7 (E:Env) (ops:Array Oper) (o:Oper) (af:List AVal) (st:St):Option AVal:=match o.guard with |none=>EC E o af st| some (j,want)=>match gdA ops af j want with |some true=>EC E o af st|some false=>some (.tuple [])|none=>none
def gWp (E:Env) (mv:List Tmp) (ops:Array Oper) (o:Oper) (af:List AVal) (st:St) (K:List AVal→St→Prop):Prop:=match o.guard with |none=>Cw E mv o af st K| some (j,want)=>match gdA ops af j want with |some true=>Cw E mv o af st K|some false=>K (Aa af o.dst (.tuple [])) st|none=>False
theorem SF{ops:Array Oper}{o:Oper}{d:Tmp} (h:d∉o.looksAt ops):d∉slots o:=fun hm=>h (dc _ hm)
theorem guard_looks{ops:Array Oper}{o:Oper}{d g j:Nat}{want:Bool} (h:d∉o.looksAt ops) (hg:o.guard=some (j,want)) (hd:(ops[j]?).bind (·.dst)=some g):d≠g:=fun e=>by subst e;exact h (cZ _ (by grind))
theorem AWZ{ops:Array Oper}{o:Oper}{af:List AVal}{d j:Nat}{want:Bool}{v:AVal} (h:d∉o.looksAt ops) (hg:o.guard=some (j,want)):gdA ops (af.set d v) j want=gdA ops af j want:=by grind[gdA,guard_looks,List.getD,List.getElem?_set_ne]
theorem Xe{E:Env}{ops:Array Oper}{o:Oper}{af:List AVal}{st:St}{d:Tmp}{v:AVal} (h:d∉o.looksAt ops):M7 E ops o (af.set d v) st=M7 E ops o af st:=by grind[M7,ASo,SF,AWZ]
theorem Ake{E:Env}{mv:List Tmp}{ops:Array Oper}{o:Oper}{af:List AVal}{st:St}{d:Tmp}{v:AVal}{K:List AVal→St→Prop} (h:d∉o.looksAt ops) (hd:o.dst≠some d) (hw:gWp E mv ops o (af.set d v) st K):gWp E mv ops o af st fun af' st'=>K (af'.set d v) st':=by
 unfold gWp at *;split at hw;·exact AN8 (SF h) hd hw
 ·rename_i j want hg;rw[AWZ h hg]at hw;split at hw;·exact AN8 (SF h) hd hw
  ·grind[BA]
  omega
section
variable{E:Env}{F:Nat→Nat}{Γ:Ghost}{st:St}{w:World}{af:List AVal}{a:Act}
theorem ACm{mv:List Tmp}{ops:Array Oper}{i:Nat}{o:Oper} (ho:ops[i]?=some o){K:List AVal→St→Prop}{K':Act→World→Prop}{Qc:Exit→Act→World→Prop} (hd:a.defers=[]) (hs:Sim E F Γ st w af a.tmps.toList) (h:gWp E mv ops o af st K) (hK: ∀Γ' af' st' a' w',Ext F Γ w Γ' w'→st.next≤st'.next→a'.defers=[]→Sim E F Γ' st' w' af' a'.tmps.toList→K af' st'→K' a' w'):wpOp E.P ops Qc i K' a w:=by
 unfold wpOp;simp only[ho];unfold gWp at h;split at h;·rename_i hg;rw[ap (by grind[Region.wanted])];exact .inl (Uh h F Γ w a hd hs K' Qc hK)
 ·rename_i j want hg;split at h;·rename_i hgd;rw[ap (by rw[Oh hg,Tc hs hgd])];exact .inl (Uh h F Γ w a hd hs K' Qc hK)
  ·rename_i hgd;rw[aj (by rw[Oh hg,Tc hs hgd];simp)];exact hK Γ _ st _ w (Ext.refl _ _ _) (aq _) (by grind[put_defers]) (hs.skipped o.dst) h
  grind
theorem AdW{E:Env}{t:TypeId}{w:Nat}{x:AVal}:En E .eql t x (.slice w [] true)=none:=by cases x<;>simp[En,P9,AB6]
theorem AYy{mv:List Tmp}{ops:Array Oper}{o:Oper}{r:AVal} (h:M7 E ops o af st=some r):gWp E [] ops o af st fun af' st'=>af'=Aa af o.dst r∧st'=st:=by
 have key: ∀r,EC E o af st=some r→Cw E [] o af st fun af' st'=>af'=Aa af o.dst r∧st'=st:=by
  intro r hr;have hst:=ANL hr;unfold Cw;split;·grind[EC,Di]
  ·grind[EC]
  ·rename_i op t x y _ hop;split;·rename_i hn;obtain⟨rfl,rfl⟩:=AVz hn;grind[EC,Di,rd,JZ,AdW]
   simp_all
  simp_all
 unfold M7 at h;unfold gWp;split at h;·grind
 ·split at h;·exact key r h
  ·simp only[ae]at h;subst h;exact⟨rfl,rfl⟩
  ·cases h
end
end Go.VM
set_option linter.unusedVariables false
namespace Go.VM
inductive Plan where |done |take (i:Nat) (p:Plan) |alt (i:Nat) (chk:List Nat) (p rest:Plan) |stop
def Plan.alts:Plan→List Nat |.alt i _ _ rest=>i::rest.alts|_=>[]
def Plan.sub (j:Nat):Plan→Option (List Nat×Plan) |.alt i chk p rest=>if i=j then some (chk,p)else rest.sub j|_=>none
def Aqc (o:Oper) (k:Nat):Bool:=o.after.any fun e=>Region.binds .any e&&e.on==k
def ARu (ops:Array Oper) (listed:Array Bool) (taken:List Nat) (i:Nat):Bool:=
  match ops[i]? with
  | some o=>
    match o.dst with
    |some d=>Region.free .any ops listed i&&!(o.looksAt ops).contains d&&taken.all fun j=>match ops[j]? with|some oj=>!(oj.looksAt ops).contains d&&oj.dst !=some d|none=>false
    |none=>false
  |none=>false
def AVe (ops:Array Oper) (taken:List Nat) (i:Nat) (chk:List Nat):Bool:=match ops[i]? with |some o=>taken.all fun k=>chk.contains k||Aqc o k|none=>false
def JA (ops:Array Oper):Plan→Bool→Array Bool→List Nat→Bool |.done,mode,listed,_=>!mode&&(Region.ready .any ops listed).isEmpty|.take i p,mode,listed,taken=>!mode&&(Region.ready .any ops listed).contains i&&ARu ops listed taken i&&JA ops p false (listed.setIfInBounds i true) (i::taken)| .alt i chk p rest,mode,listed,taken=>(mode||(Region.ready .any ops listed).all fun j=>(i::rest.alts).contains j)&&(Region.ready .any ops listed).contains i&&AVe ops taken i chk&&JA ops p false (listed.setIfInBounds i true) taken&&JA ops rest true listed taken|.stop,mode,_,_=>mode
def WE:List (Nat×AVal)→Nat→Option AVal |[],_=>none|(j,r)::tv,k=>if k=j then some r else WE tv k
def QH (E:Env) (ops:Array Oper) (tv:List (Nat×AVal)) (af:List AVal) (st:St):List Nat→Prop |[]=>True|k::ks=>(match WE tv k,ops[k]? with|some r,some o=>M7 E ops o af st=some r|_,_=>False)∧QH E ops tv af st ks
def Gn (E:Env) (mv:List Tmp) (ops:Array Oper):Plan→List (Nat×AVal)→(List AVal→St→Prop)→List AVal→St→Prop
  |.done,_,K,af,st=>K af st
  | .take i p,tv,K,af,st=>
    match ops[i]? with
    | some o=>
      match M7 E ops o af st with
      |some r=>Gn E mv ops p ((i,r)::tv) K (Aa af o.dst r) st
      |none=>False
    |none=>False
  | .alt i chk p rest,tv,K,af,st=>
    (match ops[i]? with
      |some o=>gWp E mv ops o af st fun af' st'=>QH E ops tv af' st' chk∧Gn E mv ops p tv K af' st'
      |none=>False)∧Gn E mv ops rest tv K af st
  |.stop,_,_,_,_=>True
def KF (ops:Array Oper) (i:Nat):Option Tmp:=(ops[i]?).bind (·.dst)
def Ht (ops:Array Oper) (af:List AVal):List (Nat×AVal)→List AVal |[]=>af|(i,r)::pend=>Ht ops (Aa af (KF ops i) r) pend
theorem SH (ops:Array Oper) (pend:List (Nat×AVal)) (i:Nat) (r:AVal): ∀af,Ht ops af (pend++[(i,r)])=Aa (Ht ops af pend) (KF ops i) r:=by induction pend with |nil=>intro af;rfl|cons p pend ih=>intro af;exact ih _
theorem AFo{E:Env}{ops:Array Oper}{o:Oper}{st:St} (pend:List (Nat×AVal)): ∀af,(∀p,p∈pend→∀d,KF ops p.1=some d→d∉o.looksAt ops)→M7 E ops o (Ht ops af pend) st=M7 E ops o af st:=by induction pend with |nil=>intro af _;rfl| cons p pend ih=>intro af h;obtain⟨i,r⟩:=p;simp only[Ht];rw[ih _ (fun q hq=>h q (aQ _ hq))];cases hd:KF ops i with |none=>rfl|some d=>exact Xe (h (i,r) fg d hd)
theorem AUX{E:Env}{mv:List Tmp}{ops:Array Oper}{o:Oper}{st:St} (pend:List (Nat×AVal)): ∀ {af:List AVal}{K:List AVal→St→Prop},(∀p,p∈pend→∀d,KF ops p.1=some d→d∉o.looksAt ops∧o.dst≠some d)→gWp E mv ops o (Ht ops af pend) st K→gWp E mv ops o af st fun af' st'=>K (Ht ops af' pend) st':=by induction pend with |nil=>intro af K _ h;exact h| cons p pend ih=>intro af K h hw;obtain⟨i,r⟩:=p;simp only[Ht]at hw⊢;have h1:=ih (fun q hq=>h q (aQ _ hq)) hw;cases hd:KF ops i with |none=>rw[hd]at h1;exact h1| some d=>rw[hd]at h1;obtain⟨a1,a2⟩:=h (i,r) fg d hd;exact Ake (K:=fun af' st'=>K (Ht ops af' pend) st') a1 a2 h1
theorem AXR{af:List AVal}{d e:Option Tmp}{x y:AVal} (h: ∀t,d=some t→e≠some t):Aa (Aa af d x) e y=Aa (Aa af e y) d x:=by cases d with |none=>rfl| some d=>cases e with |none=>rfl| some e=>have:d≠e:=fun he=>h d rfl (by rw[he]);grind[Aa,List.set_comm]
theorem WL{ops:Array Oper}{i:Nat}{r:AVal} (pend:List (Nat×AVal)): ∀af,(i,r)∈pend→(pend.map (·.1)).Nodup→(∀p q,p∈pend→q∈pend→p.1≠q.1→∀t,KF ops p.1=some t→KF ops q.1≠some t)→Ht ops af pend=Ht ops (Aa af (KF ops i) r) (pend.filter fun p=>p.1 !=i):=by
 induction pend with
 |nil=>simp
 | cons p pend ih=>
  intro af h hn hd;obtain⟨j,s⟩:=p;simp only[aE,bP]at hn;by_cases hij:j=i
  ·subst hij;have hsr:s=r:=by
    rcases aO.1 h with e|e;·grind
    ·exact absurd (bo.2 ⟨(j,r),e,rfl⟩) hn.1
   subst hsr;have hf:pend.filter (fun p=>p.1 !=j)=pend:=List.filter_eq_self.2 fun q hq=>by simp only[eL,ew];grind
   grind[Ht]
  ·have hm:(i,r)∈pend:=by
    rcases aO.1 h with e|e;·cases e;omega
    omega
   have hne:(j !=i)=true:=by grind
   rw[di,ap hne];simp only[Ht];rw[ih _ hm hn.2 (fun p q hp hq=>hd p q (aQ _ hp) (aQ _ hq))];rw[AXR (fun t ht=>hd (j,s) (i,r) fg h ff t ht)]
def OrdP (ops:Array Oper):(Nat→Prop)→List (Nat×AVal)→Prop |_,[]=>True|P,(i,_)::rest=>(∀o,ops[i]?=some o→∀e,e∈o.after→Region.binds .any e=true→P e.on)∧OrdP ops (fun k=>P k∨k=i) rest
theorem OrdP.mono{ops:Array Oper}: ∀ {pend:List (Nat×AVal)}{P P':Nat→Prop},(∀k,P k→P' k)→OrdP ops P pend→OrdP ops P' pend |[],_,_,_,_=>trivial|(i,_)::rest,_,_,h,⟨h1,h2⟩=>⟨fun o ho e he hb=>h _ (h1 o ho e he hb),OrdP.mono (fun k hk=>hk.imp (h k) id) h2⟩
theorem OrdP.snoc{ops:Array Oper}{i:Nat}{r:AVal}: ∀ {pend:List (Nat×AVal)}{P:Nat→Prop},OrdP ops P pend→(∀o,ops[i]?=some o→∀e,e∈o.after→Region.binds .any e=true→P e.on∨e.on∈pend.map (·.1))→OrdP ops P (pend++[(i,r)]) |[],P,_,h=>⟨fun o ho e he hb=>(h o ho e he hb).resolve_right fg,trivial⟩|(j,_)::rest,P,⟨h1,h2⟩,h=>⟨h1,OrdP.snoc h2 fun o ho e he hb=>by grind⟩
theorem OrdP.erase{ops:Array Oper}{k:Nat}: ∀ {pend:List (Nat×AVal)}{P:Nat→Prop},OrdP ops P pend→OrdP ops (fun j=>P j∨j=k) (pend.filter fun p=>p.1 !=k)
 |[],_,_=>trivial
 | (i,s)::rest,P,⟨h1,h2⟩=>by
  have ih:=OrdP.erase (k:=k) h2;by_cases hik:i=k;·grind
  ·have hne:(i !=k)=true:=by grind
   rw[di,ap hne];exact⟨fun o ho e he hb=>.inl (h1 o ho e he hb),ih.mono fun j hj=>by grind⟩
def Nz (n:Nat) (listed:Array Bool):Nat:=(List.range n).countP fun k=>!listed.getD k true
theorem Zv{i:Nat}{f g:Nat→Bool} (hf:f i=false) (hg:g i=true) (h: ∀k,k≠i→f k=g k): ∀l:List Nat,l.countP f+l.count i=l.countP g |[]=>rfl| k::l=>by have ih:=Zv hf hg h l;grind
theorem V9{n i:Nat}{listed:Array Bool} (hi:listed.getD i true=false) (hn:i<n):Nz n (listed.setIfInBounds i true)+1≤Nz n listed:=by
 have hlt:i<listed.size:=by grind
 have hset:(listed.setIfInBounds i true).getD i true=true:=fg;have hother: ∀k,k≠i→(listed.setIfInBounds i true).getD k true=listed.getD k true:=fun k hk=>fa true (du hk);unfold Nz;have key:=fun l=>Zv (i:=i) (f:=fun k=>!(listed.setIfInBounds i true).getD k true) (g:=fun k=>!listed.getD k true) fg (by grind) (fun k hk=>by grind) l;grind
theorem UJ{n:Nat}{listed:Array Bool} (h:Nz n listed=0){k:Nat} (hk:k<n):listed.getD k true=true:=by have:=List.countP_eq_zero.1 h k (dW.2 hk);grind
structure Inv (E:Env) (ops:Array Oper) (act asap:Array Bool) (taken:List Nat) (pend tv:List (Nat×AVal)) (af:List AVal) (st:St):Prop where
  sz1:act.size=ops.size
  sz2:asap.size=ops.size
  list: ∀k,k<ops.size→(asap.getD k true=true↔act.getD k true=true∨k∈pend.map (·.1))
  notin: ∀p,p∈pend→act.getD p.1 true=false∧p.1<ops.size∧p.1∈taken
  nodup:(pend.map (·.1)).Nodup
  tvl: ∀p,p∈pend→WE tv p.1=some p.2
  val: ∀p,p∈pend→ ∀o,ops[p.1]?=some o→M7 E ops o (Ht ops af pend) st=some p.2
  free: ∀p,p∈pend→ ∀d,KF ops p.1=some d→ ∀j oj,ops[j]?=some oj→asap.getD j true=false→(∀e,e∈oj.after→Region.binds .any e=true→e.on≠p.1)→d∉oj.looksAt ops∧oj.dst≠some d
  self: ∀p,p∈pend→ ∀d o,KF ops p.1=some d→ops[p.1]?=some o→d∉o.looksAt ops
  pair: ∀p q,p∈pend→q∈pend→p.1≠q.1→ ∀d,KF ops p.1=some d→KF ops q.1≠some d∧ ∀oq,ops[q.1]?=some oq→(∀e,e∈oq.after→Region.binds .any e=true→e.on≠p.1)→d∉oq.looksAt ops
  ord:OrdP ops (fun k=>act.getD k false=true) pend
theorem RA{l:Array Bool}{k:Nat} (h:k<l.size):l.getD k false=l.getD k true:=by grind
section
variable{E:Env}{ops:Array Oper}
theorem Inv.ready_sub{act asap:Array Bool}{taken:List Nat}{pend tv:List (Nat×AVal)}{af:List AVal}{st:St} (I:Inv E ops act asap taken pend tv af st){j:Nat} (hj:j∈Region.ready .any ops act) (hp:j∉pend.map (·.1)):j∈Region.ready .any ops asap:=by
 obtain⟨h0,o,ho,h1⟩:=cP.1 hj;have hlt:j<ops.size:=(aP.1 ho).1;refine cP.2 ⟨?_,o,ho,fun e he hb=>?_⟩;·cases h:asap.getD j true with |false=>rfl| true=>rcases (I.list j hlt).1 h with h|h<;>grind[absurd]
 ·have:=h1 e he hb;have hlt':e.on<act.size:=by grind
  rw[RA hlt']at this;rw[RA (by rw[I.sz2,←I.sz1];omega)];exact(I.list e.on (by rw[←I.sz1];omega)).2 (.inl this)
theorem Inv.some_ready{act asap:Array Bool}{taken:List Nat}{pend tv:List (Nat×AVal)}{af:List AVal}{st:St} (I:Inv E ops act asap taken pend tv af st) (h:Region.ready .any ops act=[]):pend=[]:=by
 cases hp:pend with
 |nil=>rfl
 | cons p rest=>
  exfalso;obtain⟨i,r⟩:=p;have hm:(i,r)∈pend:=by grind
  obtain⟨h0,hlt,_⟩:=I.notin _ hm;have hord:=I.ord;rw[hp]at hord;obtain⟨o,ho⟩: ∃o,ops[i]?=some o:=⟨ops[i],cx hlt⟩;have:i∈Region.ready .any ops act:=cP.2 ⟨h0,o,ho,fun e he hb=>hord.1 o ho e he hb⟩;grind
theorem Inv.asap_ready{act asap:Array Bool}{taken:List Nat}{tv:List (Nat×AVal)}{af:List AVal}{st:St} (I:Inv E ops act asap taken [] tv af st){j:Nat} (hj:j∈Region.ready .any ops asap):j∈Region.ready .any ops act:=by
 obtain⟨h0,o,ho,h1⟩:=cP.1 hj;have hlt:j<ops.size:=(aP.1 ho).1;refine cP.2 ⟨?_,o,ho,fun e he hb=>?_⟩;·cases h:act.getD j true with |false=>rfl|true=>have:=(I.list j hlt).2 (.inl h);grind
 ·have:=h1 e he hb;have hlt':e.on<asap.size:=by grind
  rw[RA hlt']at this;rw[RA (by rw[I.sz1,←I.sz2];omega)];rcases (I.list e.on (by rw[←I.sz2];exact hlt')).1 this with h|h<;>grind
theorem Y8{tv:List (Nat×AVal)}{af:List AVal}{st:St}: ∀ {chk:List Nat},QH E ops tv af st chk→∀ {k:Nat},k∈chk→∃r o,WE tv k=some r∧ops[k]?=some o∧M7 E ops o af st=some r
 |[],_,_,h=>by cases h
 | x::xs,⟨h1,h2⟩,k,h=>by
  rcases aO.1 h with rfl|h;·grind
  ·exact Y8 h2 h
theorem AL7{mv:List Tmp}{listed:Array Bool}{taken:List Nat}{tv:List (Nat×AVal)}{K:List AVal→St→Prop}{af:List AVal}{st:St}: ∀ {p:Plan},JA ops p true listed taken=true→Gn E mv ops p tv K af st→∀ {j:Nat},j∈p.alts→∃chk q o,ops[j]?=some o∧AVe ops taken j chk=true∧JA ops q false (listed.setIfInBounds j true) taken=true∧gWp E mv ops o af st fun af' st'=>QH E ops tv af' st' chk∧Gn E mv ops q tv K af' st'
 | .alt i chk p rest,hok,hw,j,hj=>by
  simp only[JA,av]at hok;simp only[Gn]at hw;rcases aO.1 hj with rfl|hj;·grind
  ·exact AL7 hok.2 hw.2 hj
 |.done,_,_,_,h=>by cases h
 |.take _ _,_,_,_,h=>by cases h
 |.stop,_,_,_,h=>by cases h
theorem Inv.take{act asap:Array Bool}{taken:List Nat}{pend tv:List (Nat×AVal)}{af:List AVal}{st:St} (I:Inv E ops act asap taken pend tv af st){i:Nat}{o:Oper}{r:AVal} (hr:i∈Region.ready .any ops asap) (hok:ARu ops asap taken i=true) (ho:ops[i]?=some o) (hv:M7 E ops o (Ht ops af pend) st=some r):Inv E ops act (asap.setIfInBounds i true) (i::taken) (pend++[(i,r)]) ((i,r)::tv) af st:=by
 obtain⟨h0,o',ho',hw⟩:=cP.1 hr;rw[ho]at ho';cases ho';have hlt:i<ops.size:=(aP.1 ho).1;have hact:act.getD i true=false:=by cases h:act.getD i true with |false=>rfl|true=>have:=(I.list i hlt).2 (.inl h);grind
 have hnp:i∉pend.map (·.1):=fun h=>by have:=(I.list i hlt).2 (.inr h);grind
 unfold ARu at hok;rw[ho]at hok;simp only at hok;split at hok
 ·rename_i d hd;simp only[av,Bool.not_eq_true',aR]at hok;obtain⟨⟨hfree,hself⟩,htk⟩:=hok;have hself':d∉o.looksAt ops:=by grind
  have hdst:KF ops i=some d:=by grind[KF]
  have hfr:=fun j oj hj hne hun hno=>Oper.apart_spec (Region.free_spec ho hfree j oj hj hne hun hno);have htk': ∀j,j∈taken→∀oj,ops[j]?=some oj→d∉oj.looksAt ops∧oj.dst≠some d:=by intro j hj oj hoj;have:=htk j hj;simp_all
  have hset: ∀k,k≠i→(asap.setIfInBounds i true).getD k true=asap.getD k true:=fun k hk=>fa true (du hk);have hseti:(asap.setIfInBounds i true).getD i true=true:=fg;have hpne: ∀p,p∈pend→p.1≠i:=fun p hp e=>hnp (bo.2 ⟨p,hp,e⟩);refine {sz1:=I.sz1,sz2:=by simp[I.sz2],list:=?_,notin:=?_,nodup:=?_,tvl:=?_,val:=?_,free:=?_,self:=?_,pair:=?_,ord:=?_}
  ·intro k hk;rw[cp,aV];by_cases hki:k=i;·grind
   ·rw[hset k hki,I.list k hk];grind
  ·intro p hp;rcases aV.1 hp with hp|hp;·obtain⟨a,b,c⟩:=I.notin p hp;grind
   grind
  ·rw[cp,List.nodup_append];refine⟨I.nodup,fg,?_⟩;grind
  ·intro p hp;rcases aV.1 hp with hp|hp;·simp only[WE];rw[aj (hpne p hp)];exact I.tvl p hp
   grind[WE]
  ·intro p hp op hop;rw[SH,hdst];rcases aV.1 hp with hp|hp;·rw[show Aa (Ht ops af pend) (some d) r=(Ht ops af pend).set d r from rfl,Xe (htk' p.1 (I.notin p hp).2.2 op hop).1];exact I.val p hp op hop
   ·simp only[aX]at hp;subst hp;rw[ho]at hop;cases hop;rw[show Aa (Ht ops af pend) (some d) r=(Ht ops af pend).set d r from rfl,Xe hself'];omega
  ·intro p hp dd hdd j oj hoj hun hno;have hji:j≠i:=fun e=>by grind
   rw[hset j hji]at hun;rcases aV.1 hp with hp|hp;·exact I.free p hp dd hdd j oj hoj hun hno
   grind
  ·intro p hp dd op hdd hop;rcases aV.1 hp with hp|hp;·exact I.self p hp dd op hdd hop
   grind
  ·intro p q hp hq hne dd hdd;rcases aV.1 hp with hp|hp<;>rcases aV.1 hq with hq|hq;·exact I.pair p q hp hq hne dd hdd
   ·simp only[aX]at hq;subst hq;simp only at hne⊢;refine⟨?_,fun oq hoq hno=>?_⟩
    ·rw[hdst];intro e;simp only[ae]at e;have hpo: ∃op,ops[p.1]?=some op:=⟨_,cx (I.notin p hp).2.1⟩;obtain⟨op,hop⟩:=hpo;have:=(htk' p.1 (I.notin p hp).2.2 op hop).2;have hdd':op.dst=some dd:=by grind[KF]
     rw[hdd',e]at this;grind
    ·rw[ho]at hoq;cases hoq;exact(I.free p hp dd hdd i o ho h0 hno).1
   ·simp only[aX]at hp;subst hp;simp only at hne hdd⊢;rw[hdst]at hdd;cases hdd;obtain⟨oq,hoq⟩: ∃oq,ops[q.1]?=some oq:=⟨_,cx (I.notin q hq).2.1⟩;have hh:=htk' q.1 (I.notin q hq).2.2;grind[KF]
   ·simp only[aX]at hp hq;subst hp;subst hq;omega
  ·refine I.ord.snoc fun o'' ho'' e he hb=>?_;rw[ho]at ho'';cases ho'';have:=hw e he hb;have hlt':e.on<asap.size:=by grind
   rw[RA hlt']at this;rcases (I.list e.on (by rw[←I.sz2];omega)).1 this with h|h;·exact .inl (by rw[RA (by rw[I.sz1,←I.sz2];omega)];exact h)
   grind
 grind
theorem Inv.come{act asap:Array Bool}{taken:List Nat}{pend tv:List (Nat×AVal)}{af:List AVal}{st:St} (I:Inv E ops act asap taken pend tv af st){i:Nat}{r:AVal} (hm:(i,r)∈pend):Inv E ops (act.setIfInBounds i true) asap taken (pend.filter fun p=>p.1 !=i) tv (Aa af (KF ops i) r) st:=by
 obtain⟨h0,hlt,htk⟩:=I.notin _ hm;have hmem: ∀p,p∈pend.filter (fun p=>p.1 !=i)→p∈pend∧p.1≠i:=fun p hp=>by grind
 have hset: ∀k,k≠i→(act.setIfInBounds i true).getD k true=act.getD k true:=fun k hk=>fa true (du hk);have hseti:(act.setIfInBounds i true).getD i true=true:=fg;have herase:=WL pend af hm I.nodup (fun p q hp hq hne t ht=>(I.pair p q hp hq hne t ht).1);refine {sz1:=by simp[I.sz1],sz2:=I.sz2,list:=?_,notin:=?_,nodup:=?_,tvl:=fun p hp=>I.tvl p (hmem p hp).1,val:=?_,free:=fun p hp=>I.free p (hmem p hp).1,self:=fun p hp=>I.self p (hmem p hp).1,pair:=fun p q hp hq=>I.pair p q (hmem p hp).1 (hmem q hq).1,ord:=?_}
 ·intro k hk;by_cases hki:k=i;·subst hki;rw[hseti];simp only[true_or,iff_true];exact(I.list k hk).2 (.inr (bo.2 ⟨_,hm,rfl⟩))
  ·rw[hset k hki,I.list k hk];simp_all
 ·intro p hp;obtain⟨a,b⟩:=hmem p hp;obtain⟨c,d,e⟩:=I.notin p a;grind
 ·exact(List.filter_sublist.map _).nodup I.nodup
 ·intro p hp o ho;rw[←herase];exact I.val p (hmem p hp).1 o ho
 ·refine(I.ord.erase (k:=i)).mono fun k hk=>?_;grind
theorem Inv.step{act asap:Array Bool}{taken:List Nat}{pend tv:List (Nat×AVal)}{af af':List AVal}{st st':St} (I:Inv E ops act asap taken pend tv af st){i:Nat}{chk:List Nat}{o:Oper} (hr:i∈Region.ready .any ops act) (hp:i∉pend.map (·.1)) (ho:ops[i]?=some o) (hchk:AVe ops taken i chk=true) (hall:QH E ops tv (Ht ops af' pend) st' chk):Inv E ops (act.setIfInBounds i true) (asap.setIfInBounds i true) taken pend tv af' st':=by
 obtain⟨h0,o',ho',hw⟩:=cP.1 hr;rw[ho]at ho';cases ho';have hlt:i<ops.size:=(aP.1 ho).1;have hset: ∀(l:Array Bool) k,k≠i→(l.setIfInBounds i true).getD k true=l.getD k true:=fun l k hk=>fa true (du hk);have hseti: ∀(l:Array Bool),l.size=ops.size→(l.setIfInBounds i true).getD i true=true:=fun l hl=>by simp
 have hpne: ∀p,p∈pend→p.1≠i:=fun p hpm e=>hp (bo.2 ⟨p,hpm,e⟩);refine {sz1:=by simp[I.sz1],sz2:=by simp[I.sz2],list:=?_,notin:=?_,nodup:=I.nodup,tvl:=I.tvl,val:=?_,free:=?_,self:=I.self,pair:=I.pair,ord:=?_}
 ·intro k hk;by_cases hki:k=i;·simp_all
  ·rw[hset act k hki,hset asap k hki];exact I.list k hk
 ·intro p hpm;obtain⟨a,b,c⟩:=I.notin p hpm;grind
 ·intro p hpm op hop;unfold AVe at hchk;rw[ho]at hchk;simp only[aR,cB]at hchk;obtain⟨a,b,c⟩:=I.notin p hpm;rcases hchk p.1 c with h|h;·obtain⟨r,o2,e1,e2,e3⟩:=Y8 hall (by simpa using h);rw[I.tvl p hpm]at e1;grind
  ·exfalso;obtain⟨e,he,hb⟩:=Array.any_eq_true'.1 h;simp only[av,a8]at hb;have:=hw e he hb.1;rw[hb.2,RA (by grind),a]at this;grind
 ·intro p hpm d hd j oj hoj hun hno;have hji:j≠i:=fun e=>by simp_all
  rw[hset asap j hji]at hun;exact I.free p hpm d hd j oj hoj hun hno
 ·exact I.ord.mono fun k hk=>getD_set_true hk
theorem ARo{mv:List Tmp}{K:List AVal→St→Prop}{Qc:Exit→Act→World→Prop}{F:Nat→Nat} (fuel:Nat): ∀(plan:Plan){act asap:Array Bool}{taken:List Nat}{pend tv:List (Nat×AVal)}{af:List AVal}{st:St}{a:Act}{w:World}{Γ:Ghost},JA ops plan false asap taken=true→Nz ops.size act≤fuel→Inv E ops act asap taken pend tv af st→a.defers=[]→Sim E F Γ st w af a.tmps.toList→Gn E mv ops plan tv K (Ht ops af pend) st→(∀Γ' af' st' a' w',Ext F Γ w Γ' w'→st.next≤st'.next→a'.defers=[]→Sim E F Γ' st' w' af' a'.tmps.toList→K af' st'→Qc .normal a' w')→wpAny E.P .any ops Qc fuel act a w:=by
 induction fuel with
 | zero=>
  intro plan;induction plan with
  | done=>
   intro act asap taken pend tv af st a w Γ hok hn I hd hs hw hK;have hrd:Region.ready .any ops act=[]:=List.eq_nil_iff_forall_not_mem.2 fun j hj=>by obtain⟨h0,o,ho,_⟩:=cP.1 hj;rw[UJ (Nat.le_zero.1 hn) (aP.1 ho).1]at h0;grind
   have:=I.some_ready hrd;subst this;exact⟨hrd,hK Γ af st a w (Ext.refl _ _ _) (aq _) hd hs hw⟩
  | take i p ih=>
   intro act asap taken pend tv af st a w Γ hok hn I hd hs hw hK;simp only[JA,av]at hok;simp only[Gn]at hw;split at hw
   ·rename_i o ho;split at hw;·rename_i r hr;have I2:=I.take (by grind) hok.1.2 ho hr;grind[SH,KF]
    grind
   grind
  | alt i chk p rest _ _=>
   intro act asap taken pend tv af st a w Γ hok hn I hd hs hw hK;exfalso;simp only[JA,av]at hok;have hi:i∈Region.ready .any ops asap:=by grind
   obtain⟨h0,o,ho,_⟩:=cP.1 hi;have hlt:=(aP.1 ho).1;have:=(I.list i hlt).2 (.inl (UJ (Nat.le_zero.1 hn) hlt));grind
  |stop=>grind[JA]
 | succ fuel ihf=>
  have come: ∀(plan:Plan){act asap:Array Bool}{taken:List Nat}{pend tv:List (Nat×AVal)}{af:List AVal}{st:St}{a:Act}{w:World}{Γ:Ghost},JA ops plan false asap taken=true→Nz ops.size act≤fuel+1→Inv E ops act asap taken pend tv af st→a.defers=[]→Sim E F Γ st w af a.tmps.toList→Gn E mv ops plan tv K (Ht ops af pend) st→(∀Γ' af' st' a' w',Ext F Γ w Γ' w'→st.next≤st'.next→a'.defers=[]→Sim E F Γ' st' w' af' a'.tmps.toList→K af' st'→Qc .normal a' w')→∀j,j∈Region.ready .any ops act→j∈pend.map (·.1)→wpOp E.P ops Qc j (wpAny E.P .any ops Qc fuel (act.setIfInBounds j true)) a w:=by
   intro plan act asap taken pend tv af st a w Γ hok hn I hd hs hw hK j hj hjp;obtain⟨p,hp,rfl⟩:=bo.1 hjp;obtain⟨h0,o,ho,hwt⟩:=cP.1 hj;have hlt:=(aP.1 ho).1;have hlooks: ∀q,q∈pend→∀d,KF ops q.1=some d→d∉o.looksAt ops:=by
    intro q hq d hdd;by_cases hqp:q.1=p.1;·exact I.self q hq d o hdd (by grind)
    ·refine(I.pair q p hq hp hqp d hdd).2 o ho fun e he hb heq=>?_;have:=hwt e he hb;obtain⟨a1,b1,_⟩:=I.notin q hq;grind
   have hval:=I.val p hp o ho;rw[AFo pend af hlooks]at hval;refine ACm ho hd hs (AYy (mv:=mv) hval) fun Γ' af' st' a' w' x1 n1 d1 s1 k1=>?_;obtain⟨rfl,rfl⟩:=k1;have hdst:KF ops p.1=o.dst:=by grind[KF]
   have hpm:(p.1,p.2)∈pend:=hp;have I2:=I.come hpm;rw[hdst]at I2;refine ihf plan hok (by have:=V9 h0 hlt;omega) I2 d1 s1 ?_ fun Γ2 af2 st2 a2 w2 x2 n2 d2 s2 k2=>hK Γ2 af2 st2 a2 w2 (x1.trans x2) (bB n1 n2) d2 s2 k2;rw[WL pend af hpm I.nodup (fun p q hp hq hne t ht=>(I.pair p q hp hq hne t ht).1),hdst]at hw;omega
  intro plan;induction plan with
  | done=>
   intro act asap taken pend tv af st a w Γ hok hn I hd hs hw hK;refine⟨fun hrd=>?_,fun j hj=>?_⟩;·have:=I.some_ready hrd;subst this;exact hK Γ af st a w (Ext.refl _ _ _) (aq _) hd hs hw
   ·by_cases hjp:j∈pend.map (·.1);·grind
    ·exfalso;have:=I.ready_sub hj hjp;simp only[JA,bI,cr,cN]at hok;grind
  | take i p ih=>
   intro act asap taken pend tv af st a w Γ hok hn I hd hs hw hK;simp only[JA,av]at hok;simp only[Gn]at hw;split at hw
   ·rename_i o ho;split at hw;·rename_i r hr;have I2:=I.take (by grind) hok.1.2 ho hr;grind[SH,KF]
    grind
   grind
  | alt i chk p rest _ _=>
   intro act asap taken pend tv af st a w Γ hok hn I hd hs hw hK;have hok0:=hok;simp only[JA,av]at hok;have hi:i∈Region.ready .any ops asap:=by grind
   refine⟨fun hrd=>?_,fun j hj=>?_⟩;·exfalso;have:=I.some_ready hrd;subst this;have:=I.asap_ready hi;grind
   ·by_cases hjp:j∈pend.map (·.1);·grind
    ·have hja:=I.ready_sub hj hjp;have hall:=hok.1.1.1.1;simp only[bb,aR]at hall;have hjm:j∈(Plan.alt i chk p rest).alts:=by grind[Plan.alts]
     have hok':JA ops (.alt i chk p rest) true asap taken=true:=by simp only[JA,dk,cr,av];grind
     obtain⟨chk',q,o,ho,hc,hq,hg⟩:=AL7 hok' hw hjm;obtain⟨h0,o',ho',hwt⟩:=cP.1 hj;rw[ho]at ho';cases ho';have hlt:=(aP.1 ho).1;have hun:asap.getD j true=false:=(cP.1 hja).1;have hlooks: ∀p,p∈pend→∀d,KF ops p.1=some d→d∉o.looksAt ops∧o.dst≠some d:=by intro p hp d hdd;refine I.free p hp d hdd j o ho hun fun e he hb heq=>?_;have:=hwt e he hb;obtain⟨a1,b1,_⟩:=I.notin p hp;grind
     refine ACm ho hd hs (AUX pend hlooks hg) fun Γ' af' st' a' w' x1 n1 d1 s1 k1=>?_;have I2:=I.step hj hjp ho hc k1.1;exact ihf q hq (by have:=V9 h0 hlt;omega) I2 d1 s1 k1.2 fun Γ2 af2 st2 a2 w2 x2 n2 d2 s2 k2=>hK Γ2 af2 st2 a2 w2 (x1.trans x2) (bB n1 n2) d2 s2 k2
  |stop=>grind[JA]
end
theorem RX{E:Env}{Q:APost}{af:List AVal}{st:St}{id:Nat}{ops:Array Oper} (mv:List Tmp) (plan:Plan) (hm:E.P.follows .mixedOrders=true) (hok:JA ops plan false (Array.replicate ops.size false) []=true) (h:Gn E mv ops plan [] (fun af st=>Q .normal af st) af st):AWp E (.region id ops true) Q af st:=by
 constructor;intro F Γ w a hd hs;refine wp_region_any hm ?_;have I:Inv E ops (Array.replicate ops.size false) (Array.replicate ops.size false) [] [] [] af st:=by
  have hno: ∀p:Nat×AVal,p∈([]:List (Nat×AVal))→False:=fun p hp=>by grind
  exact {sz1:=fg,sz2:=fg,list:=(fun k hk=>by simp),notin:=(fun p hp=>(hno p hp).elim),nodup:=fg,tvl:=(fun p hp=>(hno p hp).elim),val:=(fun p hp=>(hno p hp).elim),free:=(fun p hp=>(hno p hp).elim),self:=(fun p hp=>(hno p hp).elim),pair:=(fun p q hp=>(hno p hp).elim),ord:=trivial}
 have hun:Nz ops.size (Array.replicate ops.size false)≤ops.size:=by grind[Nz,List.countP_le_length,Array.replicate,List.range]
 exact ARo ops.size plan hok hun I hd hs.drew h fun Γ' af' st' a' w' x1 n1 d1 s1 k1=>⟨trivial,d1,Γ',af',st',⟨x1.le,x1.keep,x1.size,x1.os,x1.output,x1.tape⟩,n1,s1,k1⟩
end Go.VM
set_option linter.unusedVariables false
namespace Go.VM
def Ag:List Tmp→List AVal→List AVal |[],af=>af|j::js,af=>Ag js (af.set j .any)
def setVals:List AVal→List Tmp→List AVal→List AVal |af,c::cs,v::vs=>setVals (af.set c v) cs vs|af,_,_=>af
def Cb (af:List AVal) (cs:List Tmp):List AVal:=cs.map fun c=>af.getD c .any
section
variable{E:Env}{F:Nat→Nat}{Γ:Ghost}{st:St}{w:World}{af:List AVal}{a:Act}{Q:APost}
theorem Sim.setAny (hs:Sim E F Γ st w af a.tmps.toList) (j:Tmp):Sim E F Γ st w (af.set j .any) a.tmps.toList:=by
 have key: ∀ {xs:List AVal}{vs:List Value} (j:Nat),RepL Γ xs vs→RepL Γ (xs.set j .any) vs:=by intro xs;induction xs with |nil=>simp| cons x xs ih=>intro vs j h;cases h with | cons h t=>cases j with |zero=>exact .cons (.any _) t|succ j=>exact .cons h (ih j t)
 have keyo: ∀ {xs:List AVal}{vs:List Value} (j:Nat),ownL Γ w xs vs→ownL Γ w (xs.set j .any) vs:=by intro xs;induction xs with |nil=>simp| cons x xs ih=>intro vs j h;cases vs with |nil=>cases j<;>simp[ownL]| cons v vs=>rw[ownL]at h;cases j with |zero=>grind[ownL,VM.own]|succ j=>grind[ownL]
 have keyc: ∀(xs:List AVal) (vs:List Value) (j b:Nat),AO b (xs.set j .any) vs≤AO b xs vs:=by intro xs;induction xs with |nil=>simp| cons x xs ih=>intro vs j b;cases vs with |nil=>cases j<;>simp[AO]| cons v vs=>cases j with |zero=>grind[AO,cnt]|succ j=>grind[AO]
 exact {hs with rep:=key j hs.rep,own:=keyo j hs.own,tok:=fun b=>by have:=keyc af a.tmps.toList j b;have:=hs.tok b;omega}
theorem Sim.mask (js:List Tmp): ∀ {af:List AVal},Sim E F Γ st w af a.tmps.toList→Sim E F Γ st w (Ag js af) a.tmps.toList:=by induction js with |nil=>intro af hs;exact hs|cons j js ih=>intro af hs;exact ih (hs.setAny j)
theorem Rh{c:Code} (js:List Tmp) (h:AWp E c Q (Ag js af) st):AWp E c Q af st:=⟨fun F Γ w a hd hs=>h.go F Γ w a hd (hs.mask js)⟩
theorem R5 (js:List Tmp): ∀(af:List AVal) (j:Tmp),Ag js (af.set j .any)=(Ag js af).set j .any:=by induction js<;>grind[Ag,List.set_set,List.set_comm]
theorem Ka: ∀(cs:List Tmp) (af af0:List AVal),Ag cs af=Ag cs af0→af=setVals af0 cs (Cb af cs):=by
 intro cs;induction cs with
 |nil=>intro af af0 h;exact h
 | cons c cs ih=>
  intro af af0 h;simp only[Ag]at h;simp only[Cb,aE,setVals];have h2:Ag cs af=Ag cs (af0.set c (af.getD c .any)):=by
   have hl:af.length=af0.length:=by
    have hlen: ∀(l:List Tmp) (x:List AVal),(Ag l x).length=x.length:=by intro l;induction l<;>grind[Ag]
    have:=bl List.length h;grind
   rw[R5,R5]at h;apply bT;intro i;have hi:=bl (·[i]?) h;simp only[c8]at hi;have hmask: ∀(l:List Tmp) (x:List AVal) (k:Nat),(Ag l x)[k]?=if k∈l then(if k<x.length then some .any else none)else x[k]?:=by
    intro l;induction l with
    |nil=>grind[Ag]
    | cons j l ih=>
     intro x k;simp only[Ag,ih,bQ,aO];by_cases hkl:k∈l;·grind
     ·by_cases hkj:k=j;·subst hkj;simp only[hkl,aC,true_or,aB,c8]
      ·simp only[hkl,aC,hkj,eF,c8];rw[aj (fun e=>hkj e.symm)]
   rw[hmask,hmask];rw[hmask,hmask]at hi;by_cases hic:i∈cs;·grind
   ·simp only[hic,aC]at hi⊢;rw[c8];by_cases hci:c=i;·subst hci;simp only[aB];by_cases hlt:c<af.length<;>simp_all[List.getD]
    simp_all
  exact ih af _ h2
theorem ZY{c:Code} (js cs:List Tmp) (I:Nat→List AVal→St→Prop) (n₀:Nat) (h₀:I n₀ (Cb (Ag js af) cs) st) (round: ∀n vs st',I n vs st'→∀J:List AVal→St→Prop,(∀n' af' st' m,n'<n→m.Sublist st'.m→Ag cs (Ag js af')=Ag cs (Ag js af)→I n' (Cb (Ag js af') cs) {st' with m:=m}→J af' st')→AWp E c (kPost J Q) (setVals (Ag js af) cs vs) st'):AWp E (.loop c) Q af st:=by refine Rh js ?_;constructor;intro F Γ w a hd hs;refine wp_loop_ghost (fun n a' w'=>a'.defers=[]∧∃Γ' vs st',Ext F Γ w Γ' w'∧st.next≤st'.next∧Sim E F Γ' st' w' (setVals (Ag js af) cs vs) a'.tmps.toList∧I n vs st') n₀ ⟨hd,Γ,Cb (Ag js af) cs,st,Ext.refl _ _ _,aq _,by rw[←Ka cs _ _ rfl];omega,h₀⟩ ?_;intro n a₁ w₁ ⟨hd1,Γ₁,vs₁,st₁,h2,h3,h4,h5⟩;refine eO ((round n vs₁ st₁ h5 (fun af' st'=>∃n' m,n'<n∧m.Sublist st'.m∧Ag cs (Ag js af')=Ag cs (Ag js af)∧I n' (Cb (Ag js af') cs) {st' with m:=m}) (fun n' af' st' m k1 k2 k3 k4=>⟨n',m,k1,k2,k3,k4⟩)).go F Γ₁ w₁ a₁ hd1 h4) ?_;intro e a' w' hq;have hq:=UR h2 h3 hq;cases e with | normal=>obtain⟨_,k1,Γ',af',st',k2,k3,k4,kk⟩:=hq;obtain⟨n',m,k5,k6,k7,k8⟩:=kk.get;refine⟨n',k5,k1,Γ',Cb (Ag js af') cs,{st' with m:=m},k2,k3,?_,k8⟩;rw[←Ka cs _ _ k7];exact(k4.mask js).fewer k6| _=>obtain⟨k0,k1,Γ',af',st',k2,k3,k4,kk⟩:=hq;exact⟨k0,k1,Γ',af',st',k2,k3,k4,kk.out fg⟩
theorem ACall.strip{f:FuncId}{args:List AVal}{Q:AVal→St→Prop} (h:ACall E f args st fun r st'=>Q r.strip st'):ACall E f args st Q:=⟨fun F Γ w cargs hs=>(h.go F Γ w cargs hs).mono fun e w' ⟨v,he,Γ',r,st',h1,h2,h3,h4⟩=>⟨v,he,Γ',r.strip,st',h1,h2,by
 have hr:Rep Γ' r v:=by have:=h3.rep;cases this;omega
 have ht: ∀b,F b+AO b [r.strip] [v]+Ai Γ' w' b st'.m≤1:=fun b=>by have:=h3.tok b;grind[AO,H7]
 exact {h3 with rep:=.cons hr.strip .nil,own:=(by grind[ownL,Kw]),tok:=ht},h4⟩⟩
end
end Go.VM
set_option linter.unusedVariables false
namespace Go.VM
mutual def bnd:AVal→Prop |.agg cs=>bndL cs|.tuple cs=>bndL cs|.slice _ xs _=>xs.length≤CP|.str s=>s.length≤CP|.buf _ l _=>l.length≤CP|_=>True def bndL:List AVal→Prop |[]=>True|x::xs=>bnd x∧bndL xs end
mutual theorem Rep.bnd{Γ:Ghost}: {x:AVal}→{v:Value}→Rep Γ x v→VM.bnd x |_,_,.any v=>by simp[VM.bnd]|_,_,.bool b=>by simp[VM.bnd]|_,_,.int k n=>by simp[VM.bnd]|_,_,.str b h=>by grind[VM.bnd]|_,_,.agg h o=>by simp only[VM.bnd];exact RepL.bndL h|_,_,.tuple h=>by simp only[VM.bnd];exact RepL.bndL h|_,_,.snil w o a=>by simp[VM.bnd]|_,_,.slice o hb hl hc h _=>by grind[VM.bnd]|_,_,.ptr h=>by simp[VM.bnd]|_,_,.nilp=>by simp[VM.bnd]|_,_,.cptr hb hd h _=>by simp[VM.bnd]|_,_,.fn h k=>by simp[VM.bnd]|_,_,.nilFn=>by simp[VM.bnd]|_,_,.iface h=>by simp[VM.bnd]|_,_,.nilIface=>by simp[VM.bnd]|_,_,.iter _ _ _=>by simp[VM.bnd]|_,_,.bsl _ _ _=>by simp[VM.bnd]|_,_,.nself _=>by simp[VM.bnd]| _,_,.buf _ h _=>by have:=Rep.bnd h;grind[VM.bnd,u8s]|_,_,.bnil _ _=>by simp[VM.bnd]|_,_,.bufp _ _ _ _ _=>by simp[VM.bnd]|_,_,.map _ _ _=>by simp[VM.bnd]|_,_,.slop _ _ _ _=>by simp[VM.bnd]|_,_,.sh _ _=>by simp[VM.bnd]|_,_,.sptr _=>by simp[VM.bnd]|_,_,.gsl _ _ _ _=>by simp[VM.bnd]|_,_,.nmap=>by simp[VM.bnd]|_,_,.vec _ _ _=>by simp[VM.bnd]|_,_,.hset _ _=>by simp[VM.bnd]|_,_,.vptr _=>by simp[VM.bnd]|_,_,.num _ _=>by simp[VM.bnd]|_,_,.nbuf _=>by simp[VM.bnd]|_,_,.trow _ _ _ _=>by simp[VM.bnd] theorem RepL.bndL{Γ:Ghost}: {xs:List AVal}→{vs:List Value}→RepL Γ xs vs→VM.bndL xs |_,_,.nil=>by simp[VM.bndL]|_,_,.cons h t=>by simp only[VM.bndL];exact⟨Rep.bnd h,RepL.bndL t⟩ end
theorem RepS.bndL{Γ:Ghost}{w:Nat}{xs:List AVal}{cs:List Value} (h:RepS Γ w xs cs):VM.bndL xs:=by induction xs generalizing cs with |nil=>simp[VM.bndL]| cons x xs ih=>cases h with |cons h hw t=>simp only[VM.bndL];exact⟨h.bnd,ih t⟩
def keysLt (n:Nat) (m:List (Nat×List AVal)):Prop:= ∀i,n≤i→Ae m i=none
theorem Sim.keysLt{E:Env}{F:Nat→Nat}{Γ:Ghost}{st:St}{w:World}{af:List AVal}{tm:List Value} (hs:Sim E F Γ st w af tm):keysLt st.next st.m:=by intro i hi;cases hm:Ae st.m i with |none=>rfl| some c=>have:=hs.key_lt (Kb hm);omega
theorem AWp.known{E:Env}{c:Code}{Q:APost}{af:List AVal}{st:St} (h:bndL af→keysLt st.next st.m→AWp E c Q af st):AWp E c Q af st:=⟨fun F Γ w a hd hs=>(h hs.rep.bndL hs.keysLt).go F Γ w a hd hs⟩
theorem ACall.known{E:Env}{f:FuncId}{args:List AVal}{st:St}{Q:AVal→St→Prop} (h:bndL args→keysLt st.next st.m→ACall E f args st Q):ACall E f args st Q:=⟨fun F Γ w cargs hs=>(h hs.rep.bndL hs.keysLt).go F Γ w cargs hs⟩
inductive Deep:AVal→Prop |leaf{x:AVal} (h:bnd x) (hc:match x with|.agg _|.tuple _|.slice _ _ _=>False|_=>True):Deep x |agg{cs:List AVal} (h: ∀x,x∈cs→Deep x):Deep (.agg cs) |tuple{cs:List AVal} (h: ∀x,x∈cs→Deep x):Deep (.tuple cs) |slice{w:Nat}{xs:List AVal}{o:Bool} (hl:xs.length≤CP) (h: ∀x,x∈xs→Deep x):Deep (.slice w xs o)
theorem Deep.bnd{x:AVal} (h:Deep x):VM.bnd x:=by induction h with |leaf h hc=>exact h| agg h ih=>rename_i cs;simp only[VM.bnd];clear h;induction cs<;>grind[VM.bndL]| tuple h ih=>rename_i cs;simp only[VM.bnd];clear h;induction cs<;>grind[VM.bndL]|slice hl h ih=>grind[VM.bnd]
theorem APZ{n:Nat} (h:n≤CP):IntKind.i64.wrap (n:Int)=n:=by grind[CP,IntKind.wrap,IntKind.bits,IntKind.signed]
theorem AB5{n:Nat} (h:n≤CP):IntKind.i64.wrap ((n:Int)+1)=((n+1:Nat):Int):=by grind[CP,IntKind.wrap,IntKind.bits,IntKind.signed]
end Go.VM
set_option linter.unusedVariables false
namespace Go.VM
section
variable{E:Env}{mv:List Tmp}{ops:Array Oper}{K:List AVal→St→Prop}{af:List AVal}{st:St}
def Qk (x:Option AVal) (d:Option Tmp) (K:List AVal→St→Prop) (af:List AVal) (st:St):Prop:=match x with|some r=>K (Aa af d r) st|none=>False
def MW (x:Option AVal) (d:Option Tmp) (K:List AVal→St→Prop) (af:List AVal) (st:St):Prop:=match x with|some r=>K (Aa af d r.strip) st|none=>False
def O1 (x:Option (AVal×St)) (d:Option Tmp) (K:List AVal→St→Prop) (af:List AVal):Prop:=match x with|some p=>K (Aa af d p.1) p.2|none=>False
def AYW (b:Bool) (x:AVal) (d:Option Tmp) (K:List AVal→St→Prop) (af:List AVal) (st:St):Prop:=if b=true then K (Aa af d (.ptr st.next 0)) {m:=(st.next,AX x)::st.m,next:=st.next+1}else False
def Zu (x:Option (List AVal)) (d:Option Tmp) (K:List AVal→St→Prop) (af:List AVal) (st:St):Prop:=match x with|some cs=>K (Aa af d (.ptr st.next 0)) {m:=(st.next,cs)::st.m,next:=st.next+1}|none=>False
def ASG (x u:Option AVal) (y:Option (AVal×St)) (st:St):Option (AVal×St):=match x with |some r=>some (r.strip,st)|none=>match u with|some r=>some (r,st)|none=>y
def Qo (x:Option St) (K:List AVal→St→Prop) (af:List AVal):Prop:=match x with|some st=>K af st|none=>False
def AUT (x:AVal) (n:Nat):Option AVal:=match x with|.tuple vs=>vs[n]?|_=>none
def ARs (x:AVal) (n:Nat):AVal:=match x with|.tuple vs=>.tuple (vs.set n ((vs.getD n .any).strip))|x=>x
def Ah8 (x:Option AVal) (y:Option St) (d:Option Tmp) (K:List AVal→St→Prop) (af:List AVal) (st:St):Prop:=match x with |some r=>K (Aa af d r) st|none=>match y with|some st'=>K (Aa af d (.sh st.next)) st'|none=>False
def ZU (E:Env) (t:TypeId) (x:AVal) (lo hi mx:Option (Option Int)) (d:Option Tmp) (K:List AVal→St→Prop) (af:List AVal) (st:St):Prop:=match lo,hi,mx with |some l,some h,some m=>Ah8 (FO E t x l h m) (QC E t x l h m st) d K af st|_,_,_=>False
def AbJ (d:Option Tmp) (K:List AVal→St→Prop) (af:List AVal):AVal→St→Prop:=fun r st=>K (Aa af d r) st
def AP0 (E:Env) (f:AVal) (xs:List AVal) (d:Option Tmp) (K:List AVal→St→Prop) (af:List AVal) (st:St):Prop:=match f with |.fn (.func g) p q=>CallX E g (stripL (p++xs++q)) st (AbJ d K af)|_=>False
theorem AWw{r:AVal}{d:Option Tmp}:Qk (some r) d K af st=K (Aa af d r) st:=rfl
theorem ASc{r:AVal}{d:Option Tmp}:MW (some r) d K af st=K (Aa af d r.strip) st:=rfl
theorem ATM{r:AVal}{s:St}{d:Option Tmp}:O1 (some (r,s)) d K af=K (Aa af d r) s:=rfl
theorem AZZ{x:AVal}{d:Option Tmp}:AYW true x d K af st=K (Aa af d (.ptr st.next 0)) {m:=(st.next,AX x)::st.m,next:=st.next+1}:=by simp[AYW]
theorem AMc{cs:List AVal}{d:Option Tmp}:Zu (some cs) d K af st=K (Aa af d (.ptr st.next 0)) {m:=(st.next,cs)::st.m,next:=st.next+1}:=rfl
theorem Aqz{r:AVal}{u:Option AVal}{y:Option (AVal×St)}:ASG (some r) u y st=some (r.strip,st):=rfl
theorem ApL{r:AVal}{y:Option (AVal×St)}:ASG none (some r) y st=some (r,st):=rfl
theorem Ao3{y:Option (AVal×St)}:ASG none none y st=y:=rfl
theorem ARO:Qo (some st) K af=K af st:=rfl
theorem AHc{n:Nat}{vs:List AVal}:AUT (.tuple vs) n=vs[n]?:=rfl
theorem AHC{n:Nat}{vs:List AVal}:ARs (.tuple vs) n=.tuple (vs.set n ((vs.getD n .any).strip)):=rfl
theorem Aae{r:AVal}{y:Option St}{d:Option Tmp}:Ah8 (some r) y d K af st=K (Aa af d r) st:=rfl
theorem AYv{s:St}{d:Option Tmp}:Ah8 none (some s) d K af st=K (Aa af d (.sh st.next)) s:=rfl
theorem AOU{t:TypeId}{x:AVal}{lo hi mx:Option Int}{d:Option Tmp}:ZU E t x (some lo) (some hi) (some mx) d K af st=Ah8 (FO E t x lo hi mx) (QC E t x lo hi mx st) d K af st:=rfl
theorem Ag9{d:Option Tmp}{r:AVal}:AbJ d K af r st=K (Aa af d r) st:=rfl
theorem Afo{g:FuncId}{p q xs:List AVal}{d:Option Tmp}:AP0 E (.fn (.func g) p q) xs d K af st=if callable E.P g=true then ACall E g (stripL (p++xs++q)) st (AbJ d K af)else Xw E g (stripL (p++xs++q)) st (AbJ d K af):=rfl
theorem Agr{d:Option Tmp}:OI [] d=false:=by cases d<;>rfl
section ops
variable{d:Option Tmp}{ty:TypeId}{pos:String}{aft:Array Edge}{g:Option (Nat×Bool)}
def fzK (fz:Bool) (y:Option (Nat×Nat×List AVal)) (j:Tmp) (v:AVal) (d:Option Tmp) (K:List AVal→St→Prop) (af:List AVal) (st:St):Prop:=match fz,y with |true,some (i,w,xs)=>K (Aa (af.set j (.slice w xs false)) d (.slice w xs false)) {st with m:=Ar st.m i [.any]}|_,_=>K (Aa (stripAt af (.tmp j)) d v) st
theorem AsX{y:Option (Nat×Nat×List AVal)}{j:Tmp}{v:AVal}:fzK false y j v d K af st=K (Aa (stripAt af (.tmp j)) d v) st:=rfl
theorem AsM{i w:Nat}{xs:List AVal}{j:Tmp}{v:AVal}:fzK true (some (i,w,xs)) j v d K af st=K (Aa (af.set j (.slice w xs false)) d (.slice w xs false)) {st with m:=Ar st.m i [.any]}:=rfl
theorem Ate{fz:Bool}{j:Tmp}{v:AVal}:fzK fz none j v d K af st=K (Aa (stripAt af (.tmp j)) d v) st:=by cases fz<;>rfl
def nmK (fz:Bool) (v:AVal) (x:Operand) (d:Option Tmp) (K:List AVal→St→Prop) (af:List AVal) (st:St):Prop:=match v,x with |.vec w xs,.tmp i=>K (Aa (af.set i (.sh st.next)) d (.sh st.next)) {m:=(st.next,[.vec w xs])::st.m,next:=st.next+1}|.sh i,.tmp j=>fzK fz (Je st (.sh i)) j (.sh i) d K af st|v,x=>K (Aa (stripAt af x) d v) st
def mvK (b fz:Bool) (x:Operand) (ty:TypeId) (E:Env) (d:Option Tmp) (K:List AVal→St→Prop) (af:List AVal) (st:St):Prop:=if b=true then nmK fz (rd E af ty x) x d K af st else K (Aa af d (rd E af ty x).strip) st
theorem Agq{fz:Bool}{x:Operand}:mvK true fz x ty E d K af st=nmK fz (rd E af ty x) x d K af st:=by simp[mvK]
theorem Apx{fz:Bool}{i w:Nat}{xs:List AVal}:nmK fz (.vec w xs) (.tmp i) d K af st=K (Aa (af.set i (.sh st.next)) d (.sh st.next)) {m:=(st.next,[.vec w xs])::st.m,next:=st.next+1}:=rfl
theorem ApF{fz:Bool}{x:Operand}:nmK fz .any x d K af st=K (Aa (stripAt af x) d .any) st:=by cases x<;>rfl
theorem Aqf{fz:Bool}{x:Operand}{k:IntKind}{n:Int}:nmK fz (.int k n) x d K af st=K (Aa (stripAt af x) d (.int k n)) st:=by cases x<;>rfl
theorem AoA{fz:Bool}{x:Operand}{b:Bool}:nmK fz (.bool b) x d K af st=K (Aa (stripAt af x) d (.bool b)) st:=by cases x<;>rfl
theorem App{fz:Bool}{x:Operand}{s:List UInt8}:nmK fz (.str s) x d K af st=K (Aa (stripAt af x) d (.str s)) st:=by cases x<;>rfl
theorem ApW{fz:Bool}{x:Operand}{c:List AVal}:nmK fz (.agg c) x d K af st=K (Aa (stripAt af x) d (.agg c)) st:=by cases x<;>rfl
theorem Ac8{fz:Bool}{x:Operand}{c:List AVal}:nmK fz (.tuple c) x d K af st=K (Aa (stripAt af x) d (.tuple c)) st:=by cases x<;>rfl
theorem Ahw{fz:Bool}{x:Operand}{w:Nat}{c:List AVal}{o:Bool}:nmK fz (.slice w c o) x d K af st=K (Aa (stripAt af x) d (.slice w c o)) st:=by cases x<;>rfl
theorem ArB{fz:Bool}{x:Operand}{i f:Nat}:nmK fz (.ptr i f) x d K af st=K (Aa (stripAt af x) d (.ptr i f)) st:=by cases x<;>rfl
theorem Aru{fz:Bool}{x:Operand}{e:TypeId}{l:List UInt8}{o:Bool}:nmK fz (.buf e l o) x d K af st=K (Aa (stripAt af x) d (.buf e l o)) st:=by cases x<;>rfl
theorem Alb{fz:Bool}{x:Operand}{e:TypeId}{l:List UInt8}{o:Bool}:nmK fz (.bufp e l o) x d K af st=K (Aa (stripAt af x) d (.bufp e l o)) st:=by cases x<;>rfl
theorem AsE{fz:Bool}{j:Tmp}{i:Nat}:nmK fz (.sh i) (.tmp j) d K af st=fzK fz (Je st (.sh i)) j (.sh i) d K af st:=rfl
theorem AqD{fz:Bool}{x:Operand}{w i l:Nat}:nmK fz (.gsl w i l) x d K af st=K (Aa (stripAt af x) d (.gsl w i l)) st:=by cases x<;>rfl
theorem AqT{fz:Bool}{x:Operand}{w i o l:Nat}:nmK fz (.bsl w i o l) x d K af st=K (Aa (stripAt af x) d (.bsl w i o l)) st:=by cases x<;>rfl
theorem An4{fz:Bool}{x:Operand}{s:List UInt8}{p:Nat}:nmK fz (.iter s p) x d K af st=K (Aa (stripAt af x) d (.iter s p)) st:=by cases x<;>rfl
def tkK (y:Option (Nat×Nat×List AVal)) (v:AVal) (x:Operand) (d:Option Tmp) (K:List AVal→St→Prop) (af:List AVal) (st:St):Prop:=match y with|some (i,w,xs)=>K (Aa af d (.vec w xs)) {st with m:=Ar st.m i [.any]}|none=>K (Aa (stripAt af x) d v) st
theorem Agc{i w:Nat}{xs:List AVal}{v:AVal}{x:Operand}:tkK (some (i,w,xs)) v x d K af st=K (Aa af d (.vec w xs)) {st with m:=Ar st.m i [.any]}:=rfl
theorem Aic{v:AVal}{x:Operand}:tkK none v x d K af st=K (Aa (stripAt af x) d v) st:=rfl
def vnK (y:Option Nat) (X:Prop) (d:Option Tmp) (K:List AVal→St→Prop) (af:List AVal) (st:St):Prop:=match y with|some w=>K (Aa af d (.vec w [])) st|none=>X
theorem Ae3{w:Nat}{X:Prop}:vnK (some w) X d K af st=K (Aa af d (.vec w [])) st:=rfl
theorem Ac7{X:Prop}:vnK none X d K af st=X:=rfl
theorem Ai2{t:TypeId}:ARy E (.const (.slice none 0 0)) t=BV E.P t:=rfl
theorem Ac3{i:Tmp}{t:TypeId}:ARy E (.tmp i) t=none:=rfl
def atK (x:Operand) (ty:TypeId) (E:Env) (d:Option Tmp) (K:List AVal→St→Prop) (af:List AVal) (st:St):Prop:=match x with |.tmp i=>tkK (Je st (af.getD i .any)) (af.getD i .any) (.tmp i) d K af st|x=>K (Aa (stripAt af x) d (rd E af ty x)) st
theorem Ane{i:Tmp}:atK (.tmp i) ty E d K af st=tkK (Je st (af.getD i .any)) (af.getD i .any) (.tmp i) d K af st:=rfl
def asT (x:Operand) (ty:TypeId) (E:Env) (d:Option Tmp) (K:List AVal→St→Prop) (af:List AVal) (st:St):Prop:=vnK (ARy E x ty) (atK x ty E d K af st) d K af st
theorem Aqj{x:Operand}:asT x ty E d K af st=vnK (ARy E x ty) (atK x ty E d K af st) d K af st:=rfl
def asK (b:Bool) (x:Operand) (ty:TypeId) (E:Env) (d:Option Tmp) (K:List AVal→St→Prop) (af:List AVal) (st:St):Prop:=if b=true then asT x ty E d K af st else K (Aa (stripAt af x) d (rd E af ty x)) st
theorem AeO{x:Operand}:asK true x ty E d K af st=asT x ty E d K af st:=by simp[asK]
theorem Abz{x:Operand}:asK false x ty E d K af st=K (Aa (stripAt af x) d (rd E af ty x)) st:=by simp[asK]
def vaR (i:Nat) (y:Option (List AVal)):Option (Nat×Nat×List AVal):=match y with|some [.vec w xs]=>some (i,w,xs)|_=>none
theorem ApS{w:Nat}{xs:List AVal}:Je st (.vec w xs)=none:=rfl
theorem AsW{i:Nat}:Je st (.sh i)=vaR i (Ae st.m i):=by unfold vaR;rfl
theorem Ad2{i w:Nat}{xs:List AVal}:vaR i (some [.vec w xs])=some (i,w,xs):=rfl
theorem AXA{fz:Bool}{x:Operand}:mvK false fz x ty E d K af st=K (Aa af d (rd E af ty x).strip) st:=by simp[mvK]
def ldK (b:Bool) (t:TypeId) (x:AVal) (E:Env) (d:Option Tmp) (K:List AVal→St→Prop) (af:List AVal) (st:St):Prop:=if b=true then O1 (QJ E t x st) d K af else MW (QV E t x st) d K af st
theorem AhH{t:TypeId}{x:AVal}:ldK true t x E d K af st=O1 (QJ E t x st) d K af:=by simp[ldK]
theorem AbB{t:TypeId}{x:AVal}:ldK false t x E d K af st=MW (QV E t x st) d K af st:=by simp[ldK]
theorem AaI{d:Tmp}:ABD mv (some d)=mv.contains (d+1000000):=rfl
theorem AYw:ABD mv none=false:=rfl
theorem Anz{x:Operand}:Cw E mv ⟨d,.move x,ty,pos,aft,g⟩ af st K=mvK (OI mv d) (ABD mv d) x ty E d K af st:=by
 simp only[Cw,D5,mvK];cases OI mv d;·simp
 ·simp only[aB];cases x with
  | tmp i=>
   have e:ABY (ABD mv d) af (.tmp i) st=if ABD mv d=true then(Je st (af.getD i .any)).map fun p=>(i,p.1,p.2.1,p.2.2)else none:=by cases ABD mv d<;>rfl
   rw[e];simp only[nameV,rd];generalize af.getD i .any=v;cases v<;>cases ABD mv d<;>try rfl
   rename_i j;simp only[nmK,fzK,aB];rcases Je st (.sh j)with _|⟨i',w,xs⟩<;>simp
  |_=>simp only[nameV];cases ABD mv d<;>cases (rd E af ty _)<;>rfl
theorem AaQ{x:Operand}:Cw E mv ⟨d,.assign x,ty,pos,aft,g⟩ af st K=asK (OI mv d) x ty E d K af st:=by
 simp only[Cw,D5,asK];cases OI mv d;·simp
 ·simp only[aB,AAd,asT,vnK];cases ARy E x ty with |some w=>rfl| none=>cases x with | tmp i=>simp only[Xv,rd,atK,tkK];cases Je st (af.getD i .any)<;>rfl|_=>rfl
def alG{α:Type} (b:Bool) (x y:Option α):Option α:=if b=true then x else y
theorem AtU{α:Type}{x y:Option α}:alG false x y=y:=rfl
theorem AtA{α:Type}{x y:Option α}:alG true x y=x:=rfl
theorem AjA{t:TypeId}:Cw E mv ⟨d,.alloc t,ty,pos,aft,g⟩ af st K=Zu (alG (OI mv d) (Ud E.P t st.next) (CW E.P t st.next)) d K af st:=by
 simp only[Cw,D5,Zu,alG];cases OI mv d<;>simp only[aB,aC,al];·cases CW E.P t st.next<;>rfl
 grind
theorem Ape{t:TypeId}{x:Operand}:Cw E mv ⟨d,.box t x,ty,pos,aft,g⟩ af st K=AYW (CV (rd E af t x)) (rd E af t x) d K (stripAt af x) st:=by simp only[Cw,D5,AYW];cases CV (rd E af t x)<;>simp
theorem AgE{t:TypeId}{ps:List (Nat×Operand)}:Cw E mv ⟨d,.build t ⟨ps⟩,ty,pos,aft,g⟩ af st K=Qk (Rm E t (BR E (AP E.P t) af ps).2) d K (BR E (AP E.P t) af ps).1 st:=by simp only[Cw,D5,Qk];cases Rm E t (BR E (AP E.P t) af ps).2<;>rfl
def bsK (b:Bool) (u:Option (Nat×List AVal)) (v:Option AVal) (n:Nat) (d:Option Tmp) (K:List AVal→St→Prop) (af1 af:List AVal) (st:St):Prop:=if b=true then(match u with|some p=>K (Aa af1 d (.gsl p.1 st.next n)) {m:=(st.next,p.2)::st.m,next:=st.next+1}|none=>False)else Qk v d K af st
theorem AY8{u:Option (Nat×List AVal)}{v:Option AVal}{n:Nat}{af1:List AVal}:bsK false u v n d K af1 af st=Qk v d K af st:=by simp[bsK]
theorem AAb{v:Option AVal}{n w:Nat}{cs af1:List AVal}:bsK true (some (w,cs)) v n d K af1 af st=K (Aa af1 d (.gsl w st.next n)) {m:=(st.next,cs)::st.m,next:=st.next+1}:=by simp[bsK]
theorem ABT{t:TypeId}{n:Nat}{ps:List (Nat×Operand)}:Cw E mv ⟨d,.buildSlice t n ⟨ps⟩,ty,pos,aft,g⟩ af st K=bsK (OI mv d) (IJ E t n (BR E (fun _=>AP E.P t 0) af ps).2) (Gw E t n (BR E (fun _=>AP E.P t 0) af ps).2) n d K (BR E (fun _=>AP E.P t 0) af ps).1 af st:=by
 simp only[Cw,D5,Qk,bsK];cases OI mv d;·simp only[al,aC];cases Gw E t n (BR E (fun _=>AP E.P t 0) af ps).2<;>rfl
 ·simp only[aB];cases IJ E t n (BR E (fun _=>AP E.P t 0) af ps).2<;>rfl
theorem AnX{t:TypeId}{x:Operand}:Cw E mv ⟨d,.load t x,ty,pos,aft,g⟩ af st K=ldK (OI mv d) t (rd E af 0 x) E d K af st:=by
 simp only[Cw,D5,ldK,O1,MW];cases OI mv d;·simp only[al,aC];cases QV E t (rd E af 0 x) st<;>rfl
 ·simp only[aB];cases QJ E t (rd E af 0 x) st<;>rfl
theorem AfG{t:TypeId}{x y:Operand}:Cw E mv ⟨none,.store t x y,ty,pos,aft,g⟩ af st K=Qo (NK E t (rd E af 0 x) (rd E af t y) st) K (stripAt af y):=by simp only[Cw,D5,Qo,cV,aB];cases NK E t (rd E af 0 x) (rd E af t y) st<;>rfl
theorem AUe{t n:Nat}:Cw E mv ⟨d,.extract (.tmp t) n,ty,pos,aft,g⟩ af st K=Qk (AUT (af.getD t .any) n) d K (af.set t (ARs (af.getD t .any) n)) st:=by grind[Cw,D5,AUT,ARs,Qk,List.getD]
theorem Acz{t:TypeId}{x:Operand}{lo hi mx:Option Operand}:Cw E mv ⟨d,.slice t x lo hi mx,ty,pos,aft,g⟩ af st K=ZU E t (rd E af t x) (rdo E af lo) (rdo E af hi) (rdo E af mx) d K af st:=by simp only[Cw,D5,ZU];cases rdo E af lo<;>cases rdo E af hi<;>cases rdo E af mx<;>(try rfl);simp only[Ah8];cases FO E t (rd E af t x) _ _ _ with |some r=>rfl|none=>simp only[];cases QC E t (rd E af t x) _ _ _ st<;>rfl
def AAA (g:Bool) (x:AVal) (d:Option Tmp) (K:List AVal→St→Prop) (af:List AVal) (st:St):Prop:=match x with|.str s=>if g=true then K (Aa af d (.iter s 0)) st else False|_=>False
theorem Ah3{t:TypeId}{x:Operand}:Cw E mv ⟨d,.range t x,ty,pos,aft,g⟩ af st K=AAA (DI E.P t) (rd E af t x) d K af st:=by grind[Cw,D5,AAA,rd,DI]
theorem AS4{s:List UInt8}:AAA true (.str s) d K af st=K (Aa af d (.iter s 0)) st:=rfl
def Zy (x:AVal) (t:Tmp) (d:Option Tmp) (K:List AVal→St→Prop) (af:List AVal) (st:St):Prop:=match x with|.iter s pos=>K (AC3 s pos t d af) st|_=>False
theorem AkM{t:Tmp}:Cw E mv ⟨d,.next (.tmp t) true,ty,pos,aft,g⟩ af st K=Zy (af.getD t .any) t d K af st:=by simp only[Cw,D5,Zy];cases af.getD t .any<;>rfl
theorem ASC{t:Tmp}{s:List UInt8}{p:Nat}:Zy (.iter s p) t d K af st=if decide (p<s.length)=true then K (Aa (af.set t (.iter s (p+(DU s p).2))) d (.tuple [.bool true,.int .i64 p,.int .i32 (DU s p).1])) st else K (Aa af d (.tuple [.bool false])) st:=by simp only[Zy,AC3];split<;>rfl
theorem Al5:Km (.any)=false:=rfl
theorem Ahj{b:Bool}:Km (.bool b)=false:=rfl
theorem AnM{k:IntKind}{n:Int}:Km (.int k n)=false:=rfl
theorem AlT{s:List UInt8}:Km (.str s)=false:=rfl
theorem AnI{c:List AVal}:Km (.agg c)=false:=rfl
theorem Aam{c:List AVal}:Km (.tuple c)=false:=rfl
theorem Aaz{w:Nat}{c:List AVal}{o:Bool}:Km (.slice w c o)=false:=rfl
theorem Alq{i f:Nat}:Km (.ptr i f)=false:=rfl
theorem Ah7:Km (.nilp)=false:=rfl
theorem AhF{c:List AVal}:Km (.cptr c)=false:=rfl
theorem Aq4{f:Fn}{p q:List AVal}:Km (.fn f p q)=false:=rfl
theorem Aba:Km (.nilFn)=false:=rfl
theorem AYD{t:TypeId}{v:AVal}:Km (.iface t v)=false:=rfl
theorem AE9:Km (.nilIface)=false:=rfl
theorem AlM{w i f n:Nat}:Km (.bsl w i f n)=false:=rfl
theorem AXD{i:Nat}{T:TypeId}{n:Nat}:Km (.nself i T n)=false:=rfl
theorem AmG{e:TypeId}{l:List UInt8}{o:Bool}:Km (.buf e l o)=false:=rfl
theorem Aiw{e:TypeId}{l:List UInt8}{o:Bool}:Km (.bufp e l o)=false:=rfl
def shS (b:Bool) (x y:Option St):Option St:=if b=true then x else y
theorem Aoq{x y:Option St}:shS false x y=y:=by simp[shS]
theorem Aou{x y:Option St}:shS true x y=x:=by simp[shS]
def SA (E:Env) (t:TypeId) (addr v:AVal) (st:St):Option St:=match v with
 | .sh i=>match Ae st.m i with |some [.slice w xs o]=>if Km addr=false then QI E t addr (.slice w xs o) {st with m:=Ar st.m i [.slice w xs false]}else none|_=>QI E t addr (.sh i) st
 |v=>QI E t addr v st
theorem Wn{t:TypeId}{x v:AVal}:NK E t x v st=shS (Km v) (SA E t x v st) (QI E t x v st):=by cases v<;>first| rfl| (simp only[shS,Km,aB];rfl)
theorem AqV{t:TypeId}{i f:Nat}{v:AVal}:NK E t (.ptr i f) v st=shS (Km v) (SA E t (.ptr i f) v st) (XU E t (.ptr i f) v st):=Wn
theorem AV9{t:TypeId}{i w n:Nat}{v:AVal}:NK E t (.sptr i w n) v st=shS (Km v) (SA E t (.sptr i w n) v st) (AAj E t (.sptr i w n) v st):=Wn
def agK (b:Bool) (u:Option (Nat×Nat×List AVal×List (Nat×List AVal)×Option Nat)) (X:Prop) (d:Option Tmp) (K:List AVal→St→Prop) (af:List AVal) (st:St):Prop:=if b=true then(match u with|some (wd,l,cs,rest,jo)=>∀i,i=st.next∨jo=some i→K (Aa af d (.gsl wd i l)) {m:=(i,cs)::rest,next:=st.next+1}|none=>False)else X
theorem AZz{u:Option (Nat×Nat×List AVal×List (Nat×List AVal)×Option Nat)}{X:Prop}:agK false u X d K af st=X:=by simp[agK]
theorem AWo{w:Nat}{l:List AVal}{o:Bool}:RV (.slice w l o)=false:=rfl
theorem Alh{l:List UInt8}:RV (.str l)=false:=rfl
theorem Amo{w i n:Nat}:RV (.gsl w i n)=true:=rfl
theorem AhP{w:Nat}{l:List AVal}{o:Bool}{y:AVal}:AAF (.slice w l o) y=RV y:=by simp[AAF,RV]
theorem Arb{e:TypeId}{l:List UInt8}{o:Bool}{y:AVal}:AAF (.buf e l o) y=RV y:=by simp[AAF,RV]
theorem Aqa{w i n:Nat}{y:AVal}:AAF (.gsl w i n) y=true:=by simp[AAF,RV]
theorem Aqk{t0 t1:TypeId}{x:AVal}{w i n:Nat}:appG E t0 t1 x (.gsl w i n) st=AMp E t0 t1 x (.gsl w i n) st:=rfl
theorem Akz{wd l:Nat}{cs:List AVal}{rest:List (Nat×List AVal)}{jo:Option Nat}{X:Prop}{d:Option Tmp}{K:List AVal→St→Prop}{af:List AVal}{st:St} (h: ∀i,i=st.next∨jo=some i→K (Aa af d (.gsl wd i l)) {m:=(i,cs)::rest,next:=st.next+1}):agK true (some (wd,l,cs,rest,jo)) X d K af st:=by grind[agK]
theorem ApP{t0 t1:TypeId}{x:AVal}{l:List UInt8}:appG E t0 t1 x (.str l) st=AZF E t0 t1 x (.str l) st:=rfl
def vpK (v:Option AVal) (y:Option St) (d:Option Tmp) (K:List AVal→St→Prop) (af1 af:List AVal) (st:St):Prop:=match v with |some r=>K (Aa af1 d r) st|none=>match y with|some st'=>K (Aa af d (.sh st.next)) st'|none=>False
theorem Ahm{r:AVal}{y:Option St}{af1:List AVal}:vpK (some r) y d K af1 af st=K (Aa af1 d r) st:=rfl
theorem AeD{s:St}{af1:List AVal}:vpK none (some s) d K af1 af st=K (Aa af d (.sh st.next)) s:=rfl
def apK (b:Bool) (u v:Option AVal) (y:Option St) (f:Option (AVal×St)) (d:Option Tmp) (K:List AVal→St→Prop) (af af0:List AVal) (st:St):Prop:=if b=true then(match u with|some r=>K (Aa af d (.sh st.next)) {m:=(st.next,[r])::st.m,next:=st.next+1}|none=>O1 f d K af0)else vpK v y d K af af0 st
theorem AbH{u v:Option AVal}{y:Option St}{f:Option (AVal×St)}{af0:List AVal}:apK false u v y f d K af af0 st=vpK v y d K af af0 st:=by simp[apK]
theorem Asu{v:Option AVal}{y:Option St}{f:Option (AVal×St)}{af0:List AVal}:apK true none v y f d K af af0 st=O1 f d K af0:=by simp[apK]
theorem AiO{v:Option AVal}{r:AVal}{y:Option St}{f:Option (AVal×St)}{af0:List AVal}:apK true (some r) v y f d K af af0 st=K (Aa af d (.sh st.next)) {m:=(st.next,[r])::st.m,next:=st.next+1}:=by simp[apK]
theorem AVB{t:TypeId}:Cw E mv ⟨d,.makeMap t none,ty,pos,aft,g⟩ af st K=K (Aa af d (.sh st.next)) {m:=(st.next,[.map [] []])::st.m,next:=st.next+1}:=rfl
theorem WY{t:TypeId}{m k:Operand}{ok:Bool}:Cw E mv ⟨d,.lookup t m k ok,ty,pos,aft,g⟩ af st K=Qk (SK E t (rd E af t m) (rd E af 0 k) ok st) d K af st:=by simp only[Cw,D5,Qk];cases SK E t (rd E af t m) (rd E af 0 k) ok st<;>rfl
theorem Vj{t:TypeId}{m k x:Operand}:Cw E mv ⟨none,.mapUpdate t m k x,ty,pos,aft,g⟩ af st K=Qo (Tt E t (rd E af t m) (rd E af 0 k) (rd E af 0 x) st) K af:=by simp only[Cw,D5,Qo,cV,aB];cases Tt E t (rd E af t m) (rd E af 0 k) (rd E af 0 x) st<;>rfl
theorem AYg{t:TypeId}{m k x:Operand}:Cw E mv ⟨none,.insert t m k x,ty,pos,aft,g⟩ af st K=Qo (Tt E t (rd E af t m) (rd E af 0 k) (rd E af 0 x) st) K af:=by simp only[Cw,D5,Qo,cV,aB];cases Tt E t (rd E af t m) (rd E af 0 k) (rd E af 0 x) st<;>rfl
theorem AZK{x y:Operand}{t0 t1:TypeId}{ts:List TypeId}:Cw E mv ⟨d,.call {callee:=.builtin .append,args:=⟨[x,y]⟩,argTypes:=⟨t0::t1::ts⟩},ty,pos,aft,g⟩ af st K=agK (AAF (rd E af t0 x) (rd E af t1 y)) (appG E t0 t1 (rd E af t0 x) (rd E af t1 y) st) (apK (OI mv d) (Oj E t0 t1 (rd E af t0 x) (rd E af t1 y)) (IK E t0 t1 (rd E af t0 x) (rd E af t1 y)) (YT E t0 t1 (rd E af t0 x) (rd E af t1 y) st) (appW E x t0 t1 (rd E af t0 x) (rd E af t1 y) st) d K (stripAt af x) af st) d K af st:=by
 simp only[Cw,D5,Qk,apK,agK];cases AAF (rd E af t0 x) (rd E af t1 y);rotate_left;·first| rfl| (simp only[aB];done)| (simp only[aB];rfl)
 simp only[al,aC];cases OI mv d;·simp only[al,aC,vpK];cases IK E t0 t1 (rd E af t0 x) (rd E af t1 y)with |some r=>rfl|none=>simp only[];cases YT E t0 t1 (rd E af t0 x) (rd E af t1 y) st<;>rfl
 ·simp only[aB,O1];cases Oj E t0 t1 (rd E af t0 x) (rd E af t1 y)with |some r=>rfl|none=>simp only[];cases appW E x t0 t1 (rd E af t0 x) (rd E af t1 y) st<;>rfl
theorem Al8{f:Operand}{xs:List Operand}{ts:List TypeId}:Cw E mv ⟨d,.call {callee:=.value f,args:=⟨xs⟩,argTypes:=⟨ts⟩},ty,pos,aft,g⟩ af st K=AP0 E (rd E af 0 f) (rdL E af xs ts) d K af st:=by simp only[Cw,AP0];rfl
theorem Mg{o:Oper} (h:Cw E mv o af st K=(match(Di E o af).map fun r=>(Aa af o.dst r.strip,st)with|some (af',st')=>K af' st'|none=>False)):Cw E mv o af st K=MW (Di E o af) o.dst K af st:=by rw[h];simp only[MW];cases Di E o af<;>rfl
def AfA (c x y:AVal):Option AVal:=match c with|.bool t=>some (if t=true then x else y)|_=>none
theorem AVK{b:Bool}{x y:AVal}:AfA (.bool b) x y=some (if b=true then x else y):=rfl
theorem Alj{c x y:Operand}:Cw E mv ⟨d,.pick c x y,ty,pos,aft,g⟩ af st K=MW (AfA (rd E af 0 c) (rd E af ty x) (rd E af ty y)) d K af st:=Mg rfl
theorem AMA{x:Operand}:Cw E mv ⟨d,.nilCheck x,ty,pos,aft,g⟩ af st K=MW (MN (rd E af 0 x)) d K af st:=Mg rfl
def bnK (c b:Bool) (v:AVal) (d:Option Tmp) (K:List AVal→St→Prop) (af:List AVal) (st:St) (X:Prop):Prop:=if c=true then Aen b v (fun r=>K (Aa af d r) st)else X
theorem As9{b:Bool}{v:AVal}{X:Prop}:bnK false b v d K af st X=X:=by simp[bnK]
theorem Atk{w:Nat}{xs:List AVal}{o:Bool}{X:Prop}:bnK true true (.slice w xs o) d K af st X= ∀c:Bool,(c=true→xs=[])→K (Aa af d (.bool c)) st:=by simp[bnK,Aen]
theorem Air{op:BinOp}{k:Tmp}:Tp op (.tmp k)=false:=by cases op<;>rfl
theorem Anl{op:BinOp}{k:FuncId}:Tp op (.func k)=false:=by cases op<;>rfl
theorem Aqx{op:BinOp}{k:Nat}:Tp op (.global k)=false:=by cases op<;>rfl
theorem Ais{op:BinOp}{k:IntKind}{n:Int}:Tp op (.const (.int k n))=false:=by cases op<;>rfl
theorem AhK{op:BinOp}{s:ByteArray}:Tp op (.const (.string s))=false:=by cases op<;>rfl
theorem AXj{op:BinOp}{s:Bool}:Tp op (.const (.bool s))=false:=by cases op<;>rfl
theorem Ai9{op:BinOp}{s:Option Addr}:Tp op (.const (.pointer s))=false:=by cases op<;>rfl
theorem AgQ{op:BinOp}{s:Array Value}:Tp op (.const (.agg s))=false:=by cases op<;>rfl
theorem AkJ{op:BinOp}:Tp op (.const .nilFunc)=false:=by cases op<;>rfl
theorem Amu{op:BinOp}:Tp op (.const .nilIface)=false:=by cases op<;>rfl
theorem Aii:Tp .eql (.const (.slice none 0 0))=true:=rfl
theorem Afk{op:BinOp}{t u:TypeId}{x y:Operand}:Cw E mv ⟨d,.binOp op t x y u,ty,pos,aft,g⟩ af st K=bnK (Tp op y) (BL E.P t) (rd E af t x) d K af st (MW (En E op t (rd E af t x) (rd E af t y)) d K af st):=by
 have e:Cw E mv ⟨d,.binOp op t x y u,ty,pos,aft,g⟩ af st K=if Tp op y=true then Aen (BL E.P t) (rd E af t x) (fun v=>K (Aa af d v) st)else(match(En E op t (rd E af t x) (rd E af t y)).map (fun r=>(Aa af d r.strip,st))with|some (af',st')=>K af' st'|none=>False):=rfl;rw[e];unfold bnK MW;split;·rfl
 ·cases En E op t (rd E af t x) (rd E af t y)<;>rfl
theorem AlC{op:UnOp}{t:TypeId}{x:Operand}:Cw E mv ⟨d,.unOp op t x,ty,pos,aft,g⟩ af st K=MW (unA op (rd E af 0 x)) d K af st:=Mg rfl
theorem AUN{s t:TypeId}{x:Operand}:Cw E mv ⟨d,.convert s t x,ty,pos,aft,g⟩ af st K=O1 (ASG (QQ E s t (rd E af s x)) (Sj E s t (rd E af s x) st) (QX E s t (rd E af s x) st) st) d K af:=by have h:Di E ⟨d,.convert s t x,ty,pos,aft,g⟩ af=QQ E s t (rd E af s x):=rfl;simp only[Cw,D5,O1,h];grind[QQ,rd,ASG,Sj,QX]
theorem AJ2{t:TypeId}{x y:Operand}:Cw E mv ⟨d,.makeSlice t x y,ty,pos,aft,g⟩ af st K=O1 (alG (OI mv d) (VI E t (rd E af 0 x) (rd E af 0 y) st) (Vx E t (rd E af 0 x) (rd E af 0 y) st)) d K af:=by
 simp only[Cw,D5,O1,alG];cases OI mv d<;>simp only[aB,aC,al];·cases Vx E t (rd E af 0 x) (rd E af 0 y) st<;>rfl
 ·cases VI E t (rd E af 0 x) (rd E af 0 y) st<;>rfl
theorem Ae8{x:Operand}{t0:TypeId}{ts:List TypeId}:Cw E mv ⟨d,.call {callee:=.builtin .unsafeSliceData,args:=⟨[x]⟩,argTypes:=⟨t0::ts⟩},ty,pos,aft,g⟩ af st K=Qk (Sb (rd E af t0 x)) d K (stripAt af x) st:=by simp only[Cw,D5,Qk];cases Sb (rd E af t0 x)<;>rfl
theorem Alc{x y:Operand}{t0 t1:TypeId}:Cw E mv ⟨d,.call {callee:=.builtin .unsafeString,args:=⟨[x,y]⟩,argTypes:=⟨[t0,t1]⟩},ty,pos,aft,g⟩ af st K=Qk (VX E t0 (rd E af t0 x) (rd E af t1 y)) d K (stripAt af x) st:=by simp only[Cw,D5,Qk];cases VX E t0 (rd E af t0 x) (rd E af t1 y)<;>rfl
theorem AOS{f:Fn}{p q:List Operand}:Cw E mv ⟨d,.makeFunc f ⟨p⟩ ⟨q⟩,ty,pos,aft,g⟩ af st K=K (Aa af d (AVal.fn f (p.map (rd E af 0)) (q.map (rd E af 0))).strip) st:=Mg rfl
theorem AFe{s:TypeId}{x:Operand}{f:Nat}:Cw E mv ⟨d,.fieldAddr s x f,ty,pos,aft,g⟩ af st K=MW (Nb E s (rd E af 0 x) f) d K af st:=Mg rfl
theorem Afs{s:TypeId}{x:Operand}{f:Nat}:Cw E mv ⟨d,.field s x f,ty,pos,aft,g⟩ af st K=MW (UU E s (rd E af s x) f) d K af st:=Mg rfl
def ixV (y:Option AVal) (st:St):Option (AVal×St):=match y with|some r=>some (r,st)|none=>none
theorem AeY{r:AVal}:ixV (some r) st=some (r,st):=rfl
theorem AG3{t:TypeId}{x i:Operand}:Cw E mv ⟨d,.indexAddr t x i,ty,pos,aft,g⟩ af st K=O1 (ASG (C9 E t (rd E af t x) (rd E af 0 i)) (Ga E t (rd E af t x) (rd E af 0 i) st) (ixV (PG E t (rd E af t x) (rd E af 0 i) st) st) st) d K af:=by have h:Di E ⟨d,.indexAddr t x i,ty,pos,aft,g⟩ af=C9 E t (rd E af t x) (rd E af 0 i):=rfl;simp only[Cw,D5,O1,h];cases C9 E t (rd E af t x) (rd E af 0 i)with |some r=>rfl| none=>simp only[ASG];cases Ga E t (rd E af t x) (rd E af 0 i) st with |some r=>rfl|none=>simp only[ixV];cases PG E t (rd E af t x) (rd E af 0 i) st<;>rfl
theorem Ae2{t:TypeId}{x i:Operand}:Cw E mv ⟨d,.index t x i,ty,pos,aft,g⟩ af st K=MW (SE E t (rd E af t x) (rd E af 0 i)) d K af st:=Mg rfl
def lnK (x y:Option AVal) (d:Option Tmp) (K:List AVal→St→Prop) (af:List AVal) (st:St):Prop:=match x with |some r=>K (Aa af d r.strip) st|none=>Qk y d K af st
theorem AgD{r:AVal}{y:Option AVal}:lnK (some r) y d K af st=K (Aa af d r.strip) st:=rfl
theorem AfI{y:Option AVal}:lnK none y d K af st=Qk y d K af st:=rfl
theorem Arp{x:Operand}{t:TypeId}{ts:List TypeId}:Cw E mv ⟨d,.call {callee:=.builtin .len,args:=⟨[x]⟩,argTypes:=⟨t::ts⟩},ty,pos,aft,g⟩ af st K=lnK (QG E t (rd E af t x)) (ZO E t (rd E af t x) st) d K af st:=by have h:Di E ⟨d,.call {callee:=.builtin .len,args:=⟨[x]⟩,argTypes:=⟨t::ts⟩},ty,pos,aft,g⟩ af=QG E t (rd E af t x):=rfl;simp only[Cw,D5,lnK,h,Qk];cases QG E t (rd E af t x)with |some r=>rfl|none=>simp only[];cases ZO E t (rd E af t x) st<;>rfl
def lvR (b:Bool) (y:Option (Nat×Nat×List AVal)):Option AVal:=match y with|some (_,_,xs)=>if b=true then some (.int .i64 xs.length)else none|none=>none
theorem Asz{t:TypeId}{i:Nat}:ZO E t (.sh i) st=lvR (BL E.P t) (Je st (.sh i)):=by unfold lvR ZO;rfl
theorem Af7{i w:Nat}{xs:List AVal}:lvR true (some (i,w,xs))=some (.int .i64 xs.length):=by simp[lvR]
theorem ArT{t:TypeId}{i:Nat}:QG E t (.sh i)=none:=rfl
theorem ApY{x:Operand}{t:TypeId}{ts:List TypeId}:Cw E mv ⟨d,.call {callee:=.builtin .cap,args:=⟨[x]⟩,argTypes:=⟨t::ts⟩},ty,pos,aft,g⟩ af st K=MW (AgX E t (rd E af t x)) d K af st:=Mg rfl
theorem AlP{x y:Operand}{t s:TypeId}:Cw E mv ⟨d,.call {callee:=.builtin .copy,args:=⟨[x,y]⟩,argTypes:=⟨[t,s]⟩},ty,pos,aft,g⟩ af st K=MW (AWd E t (rd E af t x) (rd E af s y)) d K af st:=Mg rfl
theorem Aq1{x y:Operand}{ts:Array TypeId}:Cw E mv ⟨d,.call {callee:=.builtin .min,args:=⟨[x,y]⟩,argTypes:=ts},ty,pos,aft,g⟩ af st K=MW (Abd (rd E af 0 x) (rd E af 0 y)) d K af st:=Mg rfl
theorem Arj{x y:Operand}{ts:Array TypeId}:Cw E mv ⟨d,.call {callee:=.builtin .max,args:=⟨[x,y]⟩,argTypes:=ts},ty,pos,aft,g⟩ af st K=MW (Aaq (rd E af 0 x) (rd E af 0 y)) d K af st:=Mg rfl
def gdD (d:Option Tmp) (af:List AVal) (want:Bool):Option Bool:=match d with|some i=>gd (af.getD i .any) want|none=>none
def OU:List Oper→Nat→Option Tmp |[],_=>none|o::_,0=>o.dst|_::os,n+1=>OU os n
theorem Adh (os:List Oper) (j:Nat):OU os j=((List.toArray os)[j]?).bind (·.dst):=by rw[c7];induction os generalizing j with |nil=>simp[OU]| cons o os ih=>cases j with |zero=>simp[OU]|succ j=>grind[OU]
theorem AVL (os:List Oper) (j:Nat) (want:Bool):gdA ⟨os⟩ af j want=gdD (OU os j) af want:=by rw[Adh];rfl
theorem AmE:LA E mv ops [] K af st=K af st:=rfl
theorem Adx{op:Op}{os:List Oper}:LA E mv ops (⟨d,op,ty,pos,aft,none⟩::os) K af st=Cw E mv ⟨d,op,ty,pos,aft,none⟩ af st (LA E mv ops os K):=rfl
theorem AZi{op:Op}:M7 E ops ⟨d,op,ty,pos,aft,none⟩ af st=EC E ⟨d,op,ty,pos,aft,none⟩ af st:=rfl
theorem Akd{op:Op}{os':List Oper}{j:Nat}{want:Bool}:M7 E ⟨os'⟩ ⟨d,op,ty,pos,aft,some (j,want)⟩ af st=if gdD (OU os' j) af want=some true then EC E ⟨d,op,ty,pos,aft,some (j,want)⟩ af st else if gdD (OU os' j) af want=some false then some (.tuple [])else none:=by grind[M7,AVL,gdD,OU]
def NI (x:Option AVal):Option AVal:=x.map AVal.strip
theorem AQT{r:AVal}:NI (some r)=some r.strip:=rfl
theorem AoB{x:Operand}:EC E ⟨d,.move x,ty,pos,aft,g⟩ af st=some (rd E af ty x).strip:=rfl
theorem AnO{t:TypeId}{x:Operand}:EC E ⟨d,.load t x,ty,pos,aft,g⟩ af st=NI (QV E t (rd E af 0 x) st):=rfl
def ATc (E:Env) (t:TypeId) (x:AVal) (lo hi mx:Option (Option Int)):Option AVal:=match lo,hi,mx with|some l,some h,some m=>FO E t x l h m|_,_,_=>none
theorem AQk{t:TypeId}{x:AVal}{lo hi mx:Option Int}:ATc E t x (some lo) (some hi) (some mx)=FO E t x lo hi mx:=rfl
theorem Adj{t:TypeId}{x:Operand}{lo hi mx:Option Operand}:EC E ⟨d,.slice t x lo hi mx,ty,pos,aft,g⟩ af st=ATc E t (rd E af t x) (rdo E af lo) (rdo E af hi) (rdo E af mx):=by grind[EC,ATc,rdo]
theorem ABm{t:TypeId}{n:Nat}{ps:List (Nat×Operand)}:EC E ⟨d,.buildSlice t n ⟨ps⟩,ty,pos,aft,g⟩ af st=Gw E t n (BR E (fun _=>AP E.P t 0) af ps).2:=rfl
theorem AlD{c x y:Operand}:EC E ⟨d,.pick c x y,ty,pos,aft,g⟩ af st=NI (AfA (rd E af 0 c) (rd E af ty x) (rd E af ty y)):=rfl
theorem AN4{x:Operand}:EC E ⟨d,.nilCheck x,ty,pos,aft,g⟩ af st=NI (MN (rd E af 0 x)):=rfl
theorem Aga{op:BinOp}{t u:TypeId}{x y:Operand}:EC E ⟨d,.binOp op t x y u,ty,pos,aft,g⟩ af st=NI (En E op t (rd E af t x) (rd E af t y)):=rfl
theorem Amw{op:UnOp}{t:TypeId}{x:Operand}:EC E ⟨d,.unOp op t x,ty,pos,aft,g⟩ af st=NI (unA op (rd E af 0 x)):=rfl
theorem AR6{s t:TypeId}{x:Operand}:EC E ⟨d,.convert s t x,ty,pos,aft,g⟩ af st=NI (QQ E s t (rd E af s x)):=rfl
theorem APB{f:Fn}{p q:List Operand}:EC E ⟨d,.makeFunc f ⟨p⟩ ⟨q⟩,ty,pos,aft,g⟩ af st=some (AVal.fn f (p.map (rd E af 0)) (q.map (rd E af 0))).strip:=rfl
theorem AKL{s:TypeId}{x:Operand}{f:Nat}:EC E ⟨d,.fieldAddr s x f,ty,pos,aft,g⟩ af st=NI (Nb E s (rd E af 0 x) f):=rfl
theorem Af4{s:TypeId}{x:Operand}{f:Nat}:EC E ⟨d,.field s x f,ty,pos,aft,g⟩ af st=NI (UU E s (rd E af s x) f):=rfl
def ixO (x y z:Option AVal):Option AVal:=match x with|some r=>some r.strip|none=>match y with|some _=>none|none=>z
theorem Ai6{r:AVal}{y z:Option AVal}:ixO (some r) y z=some r.strip:=rfl
theorem AhI{z:Option AVal}:ixO none none z=z:=rfl
theorem AJW{t:TypeId}{x i:Operand}:EC E ⟨d,.indexAddr t x i,ty,pos,aft,g⟩ af st=ixO (C9 E t (rd E af t x) (rd E af 0 i)) (Ga E t (rd E af t x) (rd E af 0 i) st) (PG E t (rd E af t x) (rd E af 0 i) st):=rfl
theorem Acv{t:TypeId}{x i:Operand}:EC E ⟨d,.index t x i,ty,pos,aft,g⟩ af st=NI (SE E t (rd E af t x) (rd E af 0 i)):=rfl
def lnO (x y:Option AVal):Option AVal:=match x with|some r=>some r.strip|none=>y
theorem AgF{r:AVal}{y:Option AVal}:lnO (some r) y=some r.strip:=rfl
theorem AjG{y:Option AVal}:lnO none y=y:=rfl
theorem Apq{x:Operand}{t:TypeId}{ts:List TypeId}:EC E ⟨d,.call {callee:=.builtin .len,args:=⟨[x]⟩,argTypes:=⟨t::ts⟩},ty,pos,aft,g⟩ af st=lnO (QG E t (rd E af t x)) (ZO E t (rd E af t x) st):=rfl
theorem Aqo{x:Operand}{t:TypeId}{ts:List TypeId}:EC E ⟨d,.call {callee:=.builtin .cap,args:=⟨[x]⟩,argTypes:=⟨t::ts⟩},ty,pos,aft,g⟩ af st=NI (AgX E t (rd E af t x)):=rfl
theorem Aq8{x y:Operand}{ts:Array TypeId}:EC E ⟨d,.call {callee:=.builtin .min,args:=⟨[x,y]⟩,argTypes:=ts},ty,pos,aft,g⟩ af st=NI (Abd (rd E af 0 x) (rd E af 0 y)):=rfl
theorem Apo{x y:Operand}{ts:Array TypeId}:EC E ⟨d,.call {callee:=.builtin .max,args:=⟨[x,y]⟩,argTypes:=ts},ty,pos,aft,g⟩ af st=NI (Aaq (rd E af 0 x) (rd E af 0 y)):=rfl
theorem Apv{op:Op}:gWp E mv ops ⟨d,op,ty,pos,aft,none⟩ af st K=Cw E mv ⟨d,op,ty,pos,aft,none⟩ af st K:=rfl
theorem AtJ:gd (.bool true) true=some true:=rfl
theorem Ato:gd (.bool true) false=some false:=rfl
theorem Asn:gd (.bool false) true=some false:=rfl
theorem AtI:gd (.bool false) false=some true:=rfl
theorem AgO{want:Bool}:gd (.tuple []) want=some false:=rfl
theorem AfB{i:Nat}{want:Bool}:gdD (some i) af want=gd (af.getD i .any) want:=rfl
def opAt:List Oper→Nat→Option Oper |[],_=>none|o::_,0=>some o|_::os,n+1=>opAt os n
theorem AK6 (os:List Oper) (j:Nat):opAt os j=(List.toArray os)[j]?:=by rw[c7];induction os generalizing j with |nil=>simp[opAt]| cons o os ih=>cases j with |zero=>simp[opAt]|succ j=>grind[opAt]
def tkR (E:Env) (mv:List Tmp) (os:List Oper) (x:Option AVal) (i:Nat) (d:Option Tmp) (p:Plan) (tv:List (Nat×AVal)) (K:List AVal→St→Prop) (af:List AVal) (st:St):Prop:=match x with|some r=>Gn E mv ⟨os⟩ p ((i,r)::tv) K (Aa af d r) st|none=>False
def tkO (E:Env) (mv:List Tmp) (os:List Oper) (x:Option Oper) (i:Nat) (p:Plan) (tv:List (Nat×AVal)) (K:List AVal→St→Prop) (af:List AVal) (st:St):Prop:=match x with|some o=>tkR E mv os (M7 E ⟨os⟩ o af st) i o.dst p tv K af st|none=>False
def Ahx (E:Env) (mv:List Tmp) (os:List Oper) (chk:List Nat) (p:Plan) (tv:List (Nat×AVal)) (K:List AVal→St→Prop) (af:List AVal) (st:St):Prop:=QH E ⟨os⟩ tv af st chk∧Gn E mv ⟨os⟩ p tv K af st
def Al1 (E:Env) (mv:List Tmp) (os:List Oper) (x:Option Oper) (chk:List Nat) (p:Plan) (tv:List (Nat×AVal)) (K:List AVal→St→Prop) (af:List AVal) (st:St):Prop:=match x with|some o=>gWp E mv ⟨os⟩ o af st (Ahx E mv os chk p tv K)|none=>False
def AtY (E:Env) (os:List Oper) (x:Option AVal) (o:Option Oper) (af:List AVal) (st:St):Prop:=match x,o with|some r,some o=>M7 E ⟨os⟩ o af st=some r|_,_=>False
variable{os:List Oper}{tv:List (Nat×AVal)}{p rest:Plan}{chk:List Nat}{i:Nat}
theorem Af3{op:Op}:tkO E mv os (some ⟨d,op,ty,pos,aft,g⟩) i p tv K af st=tkR E mv os (M7 E ⟨os⟩ ⟨d,op,ty,pos,aft,g⟩ af st) i d p tv K af st:=rfl
theorem AeG{r:AVal}:tkR E mv os (some r) i d p tv K af st=Gn E mv ⟨os⟩ p ((i,r)::tv) K (Aa af d r) st:=rfl
theorem Aal{o:Oper}:Al1 E mv os (some o) chk p tv K af st=gWp E mv ⟨os⟩ o af st (Ahx E mv os chk p tv K):=rfl
theorem Aeq:Ahx E mv os chk p tv K af st=(QH E ⟨os⟩ tv af st chk∧Gn E mv ⟨os⟩ p tv K af st):=rfl
theorem AWx:Gn E mv ⟨os⟩ .done tv K af st=K af st:=rfl
theorem Abi:Gn E mv ⟨os⟩ .stop tv K af st=True:=rfl
theorem Abp:Gn E mv ⟨os⟩ (.take i p) tv K af st=tkO E mv os (opAt os i) i p tv K af st:=by rw[AK6];rfl
theorem Ahy:Gn E mv ⟨os⟩ (.alt i chk p rest) tv K af st=(Al1 E mv os (opAt os i) chk p tv K af st∧Gn E mv ⟨os⟩ rest tv K af st):=by rw[AK6];rfl
theorem Ak7:QH E ⟨os⟩ tv af st []=True:=rfl
theorem Ai3{k:Nat}{ks:List Nat}:QH E ⟨os⟩ tv af st (k::ks)=(AtY E os (WE tv k) (opAt os k) af st∧QH E ⟨os⟩ tv af st ks):=by rw[AK6];rfl
theorem AZa{r:AVal}{o:Oper}:AtY E os (some r) (some o) af st=(M7 E ⟨os⟩ o af st=some r):=rfl
end ops
end
end Go.VM
set_option linter.unusedVariables false
namespace Go.VM
def grd{α:Type} (c:Prop) [Decidable c] (x:Option α):Option α:=if c then x else none
def ASR{α:Type} (x:Option α):Option α:=x
theorem AEK{α:Type}{x:Option α}:ASR x=x:=rfl
inductive PC where |k |w |v (x:AVal)
inductive BX where |k |d |s (c:List AVal) |t (c:Nat→List AVal) |p (ps:List PC)
inductive JD (α:Type) where |z |a (id:Nat×Nat) (js:List (Nat×Nat)) (cs:List Tmp) (V:α→List AVal) |b (id:Nat×Nat) (js:List (Nat×Nat)) (cs:List Tmp) (V:α→List AVal) (Ms:α→List BX) |n (id:Nat×Nat) (js:List (Nat×Nat)) (cs:List Tmp) (p:Tmp) (V:α→Nat→List AVal) (Ms:α→Nat→List BX) (C:α→Nat→List AVal)
def AA{α β:Type} (k:α→Option β) (body:(α→Option β)→Option β) (d:JD α:=.z):Option β:=body k
theorem AAO{α:Type}{c:Prop} [Decidable c]{x:Option α}{r:α} (h:grd c x=some r):c∧x=some r:=by grind[grd]
theorem bind_some{α β:Type}{x:Option α}{f:α→Option β}{r:β} (h:Option.bind x f=some r): ∃y,x=some y∧f y=some r:=by cases x with |none=>cases h|some y=>grind
def letL{α β:Type} (x:α) (f:α→Option β):Option β:=f x
def idx{α:Type} (l:List α) (i:Int):Option α:=if 0≤i then l[i.toNat]? else none
def sub{α:Type} (l:List α) (a b:Int):Option (List α):=if 0≤a∧a≤b∧b≤l.length then some ((l.drop a.toNat).take (b.toNat-a.toNat))else none
theorem AVi{α:Type}{l:List α}{n:Int}{x:α} (h:idx l n=some x):l[n.toNat]?=some x:=by unfold idx at h;split at h<;>simp_all
theorem AmZ{α β:Type} (f:α→β) (l:List α) (i:Int):idx (l.map f) i=(idx l i).map f:=by unfold idx;split<;>simp
class EO (α:Type) (f:outParam (α→AVal)):Prop
theorem As2{α:Type}{f:α→AVal} [EO α f]{a b:List α} (c:a=b):List.map f a=List.map f b:=bl _ c
theorem Alp{α β:Type} (f:α→β) (l:List α) (a b:Int):sub (l.map f) a b=(sub l a b).map (List.map f):=by unfold sub;simp only[b8];split<;>simp[fc,List.map_drop]
def Ac (n b:Nat):Prop:=n * b≤140737488355328∧n≤4611686018427387904
instance (n b:Nat):Decidable (Ac n b):=by unfold Ac;infer_instance
def AC (n:Nat):Prop:=n≤4611686018427387904
instance (n:Nat):Decidable (AC n):=by unfold AC;infer_instance
def wr (k:IntKind) (n:Int):Int:=k.wrap n
def OC (k:IntKind) (a b:Int):Int:=k.wrap (BitVec.ofInt k.bits a&&&BitVec.ofInt k.bits b).toNat
def N8 (k:IntKind) (a b:Int):Int:=k.wrap (BitVec.ofInt k.bits a|||BitVec.ofInt k.bits b).toNat
def AiV (k:IntKind) (a b:Int):Int:=k.wrap (BitVec.ofInt k.bits a^^^BitVec.ofInt k.bits b).toNat
def Zb (k:IntKind) (a b:Int):Int:=k.wrap (BitVec.ofInt k.bits a&&& ~~~ BitVec.ofInt k.bits b).toNat
def AFf (k:IntKind) (x y:Int):Int:=k.wrap (x * 2^min y.toNat k.bits)
def AAs (k:IntKind) (x y:Int):Int:=x.fdiv (2^min y.toNat k.bits)
section
variable{E:Env}{st:St}{af:List AVal}
def ArJ (e:Option Nat) (w:Nat) (y:Option AVal):Option AVal:=match y with |some y=>if e=some w∧(AX y).length=w then some (.cptr (AX y))else none|none=>none
theorem AiR{t:TypeId}{w:Nat}{xs:List AVal}{o:Bool}{k:IntKind}{n:Int}:C9 E t (.slice w xs o) (.int k n)=ArJ (BV E.P t) w (idx xs n):=by simp only[C9,ArJ,idx];by_cases h1:BV E.P t=some w<;>by_cases h2:0≤n<;>simp[h1,h2]<;>cases xs[n.toNat]?<;>simp
theorem AXn{e:Option Nat}{w:Nat}{y:AVal}:ArJ e w (some y)=if e=some w∧(AX y).length=w then some (.cptr (AX y))else none:=rfl
def ApC (b:Bool) (x:Option UInt8):Option AVal:=match x with|some c=>if b=true then some (.int .u8 c.toNat)else none|none=>none
theorem ArC{t:TypeId}{s:List UInt8}{k:IntKind}{n:Int}:SE E t (.str s) (.int k n)=ApC (DI E.P t) (idx s n):=by simp only[SE,ApC,idx];cases DI E.P t<;>by_cases h2:0≤n<;>simp[h2]<;>cases s[n.toNat]?<;>simp
theorem AXy{c:UInt8}:ApC true (some c)=some (.int .u8 (AJ c)):=rfl
def AqS (b:Bool) (x:Option (List UInt8)):Option AVal:=match x with|some s=>if b=true then some (.str s)else none|none=>none
theorem ArV{t:TypeId}{s:List UInt8}{lo hi:Option Int}:FO E t (.str s) lo hi none=AqS (DI E.P t) (sub s (lo.getD 0) (hi.getD s.length)):=by
 simp only[FO,AqS,sub];by_cases h:0≤lo.getD 0∧lo.getD 0≤hi.getD s.length∧hi.getD s.length≤s.length
 ·rw[ap h];cases DI E.P t;·rw[aj fg];rfl
  ·rw[ap ⟨rfl,trivial,h⟩];rfl
 ·rw[aj h,aj (fun k=>h k.2.2)]
theorem AbF{s:List UInt8}:AqS true (some s)=some (.str s):=rfl
def AIr (e:Option Nat) (w:Nat) (o:Bool) (x:Option (List AVal)):Option AVal:=match x with|some s=>if e=some w then some (.slice w s o)else none|none=>none
theorem Ad6{t:TypeId}{w:Nat}{xs:List AVal}{o:Bool}{lo hi:Option Int}:FO E t (.slice w xs o) lo hi none=AIr (BV E.P t) w false (sub xs (lo.getD 0) (hi.getD xs.length)):=by grind[FO,AIr,sub,BV]
theorem AYu{t:TypeId}{w:Nat}{xs:List AVal}{o:Bool}{lo:Option Int}{h:Int}:FO E t (.slice w xs o) lo (some h) (some h)=AIr (BV E.P t) w true (sub xs (lo.getD 0) h):=by grind[FO,AIr,sub,BV]
theorem AWm{w:Nat}{o:Bool}{s:List AVal}:AIr (some w) w o (some s)=some (.slice w s o):=by simp[AIr]
def AUC (e:Option (Nat×Nat)) (i:Option IntKind) (b:Bool) (wd:Nat) (xs:List AVal) (ys:Option (List AVal)):Option AVal:=match e,ys with |some (z,by_),some ys=>if z=wd∧i=none∧b=true∧Ac (xs.length+ys.length) by_ then some (.slice wd (xs++ys) true)else none|_,_=>none
set_option linter.unusedSimpArgs false in theorem Aim{t0 t1:TypeId}{wd:Nat}{xs:List AVal}{y:AVal}:IK E t0 t1 (.slice wd xs true) y=AUC (JL E.P t0) (G5 E.P t1) (Ad E.P t1) wd xs (Oc wd y):=by simp only[IK,Mf,AUC];rcases JL E.P t0 with _|⟨z,b⟩<;>rcases Oc wd y with _|ys<;>try rfl
theorem AYf{wd by_:Nat}{xs ys:List AVal}:AUC (some (wd,by_)) none true wd xs (some ys)=if Ac (xs.length+ys.length) by_ then some (.slice wd (xs++ys) true)else none:=by simp[AUC]
theorem ASL{wd:Nat}{ys:List AVal}{o:Bool}:Oc wd (.slice wd ys o)=some ys:=by simp[Oc]
theorem Agh{l:List UInt8}:Oc 1 (.str l)=some ((l.map AJ).map (.int .u8)):=by simp[Oc,AJ]
def apB (i:Bool) (e:Option (Nat×Nat)) (n:Option IntKind) (b:Bool) (el:TypeId) (l m:List UInt8):Option AVal:=match i,e,n,b with |true,some (1,by_),none,true=>if Ac (l.length+m.length) by_ then some (.buf el (l++m) true)else none|_,_,_,_=>none
theorem Afj{by_:Nat}{el:TypeId}{l m:List UInt8}:apB true (some (1,by_)) none true el l m=if Ac (l.length+m.length) by_ then some (.buf el (l++m) true)else none:=rfl
theorem Ar3{t0 t1 el:TypeId}{l m:List UInt8}:IK E t0 t1 (.buf el l true) (.str m)=apB (ZM E.P t0 el) (JL E.P t0) (G5 E.P t1) (Ad E.P t1) el l m:=by
 have hl:(u8s l).length=l.length:=by simp[u8s]
 cases h1:ZM E.P t0 el;·grind[IK,apB]
 rcases h2:JL E.P t0 with _|⟨z,by_⟩;·grind[IK,Mf,apB]
 cases h3:G5 E.P t1
 ·cases h4:Ad E.P t1;·grind[IK,Mf,Oc,apB]
  ·by_cases hz:z=1
   ·subst hz;rw[Afj];by_cases hf:Ac (l.length+m.length) by_;·have hf':=hf;unfold Ac at hf';simp[IK,Mf,h1,h2,h3,h4,Oc,hl,hf,CP];exact hf'
    ·have hf':=hf;unfold Ac at hf';simp[IK,Mf,h1,h2,h3,h4,Oc,hl,hf,CP];intro k1;have:=fun k2=>hf' ⟨k1,k2⟩;omega
   ·have:apB true (some (z,by_)) none true el l m=none:=by
     unfold apB;split;·rename_i e1 e2 e3 e4;cases e2;exact absurd rfl hz
     ·rfl
    rw[this];simp[IK,Mf,h2,h3,h4,Oc,hz]
 grind[IK,Mf,Oc,apB]
theorem AmK{a b:List UInt8}:ZN .add a b=if AC (a.length+b.length)then some (.str (a++b))else none:=by simp only[ZN,CP];by_cases h:a.length+b.length≤4611686018427387904<;>simp[h,AC]
theorem ALe{i:Nat}{c:List AVal}{m:List (Nat×List AVal)}:Ae ((i,c)::m) i=some c:=by simp[Ae]
theorem VL{i j:Nat}{c:List AVal}{m:List (Nat×List AVal)} (h:i≠j):Ae ((j,c)::m) i=Ae m i:=by grind[Ae]
theorem AVy{i:Nat}{c x:List AVal}{m:List (Nat×List AVal)}:Ar ((i,c)::m) i x=(i,x)::m:=by simp[Ar]
theorem AWh{i j:Nat}{c x:List AVal}{m:List (Nat×List AVal)} (h:i≠j):Ar ((j,c)::m) i x=(j,c)::Ar m i x:=by grind[Ar]
theorem ACall.of{f:FuncId}{args args':List AVal}{Q Q':AVal→St→Prop} (hc:ACall E f args' st Q') (ha:args=args') (hq: ∀r st',st.next≤st'.next→Q' r st'→Q r st'):ACall E f args st Q:=by subst ha;exact hc.mono hq
def RZ:List AVal→AVal |[r]=>r|rs=>.tuple rs
theorem Jt{fn:Func}{Q:AVal→St→Prop}{xs:List AVal}{st':St}{m:List (Nat×List AVal)} (h:PY E fn.results.toList af st=some (xs,st')) (hm:m.Sublist st'.m) (hq:Q (RZ xs) {st' with m:=m}):JY E fn Q .ret af st:=by unfold JY;rw[h];exact⟨m,hm,hq⟩
theorem Js{fn:Func}{Q:AVal→St→Prop}{xs:List AVal}{st':St}{m:List (Nat×List AVal)} (h:PY E fn.results.toList af st=some (xs,st')) (hm:m.Sublist st'.m) (hq:Q (RZ xs) {st' with m:=m}):JY E fn Q .normal af st:=by unfold JY;rw[h];exact⟨m,hm,hq⟩
theorem AWp.congr{c:Code}{Q:APost}{af':List AVal} (h:af=af') (k:AWp E c Q af' st):AWp E c Q af st:=h▸k
def stripB:List Bool→List AVal→List AVal |true::bs,x::xs=>x.strip::stripB bs xs|false::bs,x::xs=>x::stripB bs xs|[],xs=>xs|_::_,[]=>[]
theorem RL: ∀(bs:List Bool) (xs:List AVal),(stripB bs xs).length=xs.length |[],xs=>by rw[stripB]|_::_,[]=>by rw[stripB]|true::bs,x::xs=>by rw[stripB,ag,ag,RL bs xs]|false::bs,x::xs=>by rw[stripB,ag,ag,RL bs xs]
theorem O8{Γ:Ghost}: ∀(bs:List Bool) (xs:List AVal) (vs:List Value),RepL Γ xs vs→RepL Γ (stripB bs xs) vs
 |[],xs,vs,h=>by grind[stripB]
 |_::_,[],vs,h=>by grind[stripB]
 | true::bs,x::xs,vs,h=>by cases h with |cons h t=>rw[stripB];exact .cons h.strip (O8 bs _ _ t)
 | false::bs,x::xs,vs,h=>by cases h with |cons h t=>rw[stripB];exact .cons h (O8 bs _ _ t)
theorem O3{Γ:Ghost}{w:World}: ∀(bs:List Bool) (xs:List AVal) (vs:List Value),ownL Γ w xs vs→ownL Γ w (stripB bs xs) vs |[],xs,vs,h=>by grind[stripB]|_::_,[],vs,h=>by grind[stripB]|true::bs,x::xs,[],h=>by grind[stripB,ownL]|false::bs,x::xs,[],h=>by grind[stripB,ownL]|true::bs,x::xs,v::vs,h=>by rw[ownL]at h;rw[stripB,ownL];exact⟨Kw _ _ _ _,O3 bs xs vs h.2⟩|false::bs,x::xs,v::vs,h=>by rw[ownL]at h;rw[stripB,ownL];exact⟨h.1,O3 bs xs vs h.2⟩
theorem PN (b:Nat): ∀(bs:List Bool) (xs:List AVal) (vs:List Value),AO b (stripB bs xs) vs≤AO b xs vs |[],xs,vs=>by simp_all[stripB]|_::_,[],vs=>by simp_all[stripB]|true::bs,x::xs,[]=>by grind[stripB,AO]|false::bs,x::xs,[]=>by grind[stripB,AO]| true::bs,x::xs,v::vs=>by have:=PN b bs xs vs;grind[stripB,AO,H7]| false::bs,x::xs,v::vs=>by have:=PN b bs xs vs;grind[stripB,AO]
theorem Sim.stripCells{F:Nat→Nat}{Γ:Ghost}{w:World}{a:Act}{i:Nat}{cs:List AVal} (bs:List Bool) (hs:Sim E F Γ st w af a.tmps.toList) (hg:Ae st.m i=some cs):Sim E F Γ {st with m:=Ar st.m i (stripB bs cs)} w af a.tmps.toList:=by
 rcases hs.box_ok _ (Kb hg)with⟨b,arr,e,hb⟩|⟨v,hv⟩;rotate_left;·exact hs.setSh hg hv (O8 bs _ _ hv.rep) (O3 bs _ _ hv.own) fun n=>by have h1:=PN n bs cs [v];have h2:=hs.tok n;omega
 obtain⟨lo,hi,hh,hf⟩:=hb.heap;exact(hs.setBox (w':=w) (cs':=stripB bs cs) (arr':=arr) (lo:=lo) (hi:=hi) hg hb hh hf (fun _ _=>rfl) rfl rfl rfl rfl (by rw[RL];exact O8 bs _ _ hb.rep) (O3 bs _ _ hb.own) (by rw[RL];exact hb.one) (fun n=>by have h1:=PN n bs cs arr.toList;have h2:=hs.tok n;omega)).1
theorem AFY{c:Code}{Q:APost}{i j p:Nat}{cs:List AVal}{x:AVal} (hij:j≠i) (hg:Ae st.m j=some cs) (h2:2≤cs.length) (hc:cs[p]?=some (.sh i)) (hi:Ae st.m i=some [x]) (h:AWp E c Q af {st with m:=Ar (Ar st.m i [x.strip]) j (cs.set p x)}):AWp E c Q af st:=⟨fun F Γ w a hd hs=>h.go F Γ w a hd (hs.unshCell hij hg h2 hc hi)⟩
theorem ZQ{c:Code}{Q:APost}{m m':List (Nat×List AVal)}{n:Nat} (hp:m.Perm m') (h:AWp E c Q af ⟨m',n⟩):AWp E c Q af ⟨m,n⟩:=⟨fun F Γ w a hd hs=>h.go F Γ w a hd (hs.perm hp)⟩
theorem ACall.perm{f:FuncId}{args:List AVal}{Q:AVal→St→Prop}{m m':List (Nat×List AVal)}{n:Nat} (hp:m.Perm m') (h:ACall E f args ⟨m',n⟩ Q):ACall E f args ⟨m,n⟩ Q:=⟨fun F Γ w cargs hs=>h.go F Γ w cargs (hs.perm hp)⟩
theorem AWp.nodup{c:Code}{Q:APost} (h:(st.m.map (·.1)).Nodup→AWp E c Q af st):AWp E c Q af st:=⟨fun F Γ w a hd hs=>(h hs.keys).go F Γ w a hd hs⟩
theorem Qh: ∀ {m:List (Nat×List AVal)}{i:Nat}{c x:List AVal},Ae m i=some c→((i,x)::Da m i).Perm (Ar m i x)
 |[],_,_,_,h=>by grind[Ae]
 | (j,d)::m,i,c,x,h=>by
  simp only[Ae]at h;simp only[Da,Ar];split at h;·simp_all
  ·rename_i e;rw[aj e,aj e];exact(cj _ _ _).trans ((Qh h).cons _)
theorem W9: ∀ {m:List (Nat×List AVal)}{i j:Nat},i≠j→Ae (Da m i) j=Ae m j
 |[],_,_,_=>rfl
 | (k,d)::m,i,j,h=>by
  simp only[Da];split;·rename_i e;subst e;simp only[Ae];rw[aj (fun e=>h e.symm)]
  ·simp only[Ae];rw[W9 h]
theorem AB0: ∀ {m:List (Nat×List AVal)}{i j:Nat}{x:List AVal},i≠j→Ar (Da m i) j x=Da (Ar m j x) i
 |[],_,_,_,_=>rfl
 | (k,d)::m,i,j,x,h=>by
  by_cases e:i=k;·subst e;simp only[Da,aB,Ar];rw[aj (fun e=>h e.symm)];simp[Da]
  ·by_cases e2:j=k;·grind[Da,Ar]
   ·simp only[Da,Ar,aj e,aj e2];rw[AB0 h]
theorem ACall.front{f:FuncId}{args:List AVal}{m:List (Nat×List AVal)}{n i:Nat}{c:List AVal}{Q:AVal→St→Prop} (hi:Ae m i=some c) (h:i<n→ACall E f args ⟨(i,c)::Da m i,n⟩ fun r st'=>∃c',st'.m=(i,c')::Da m i∧Q r ⟨Ar m i c',st'.next⟩):ACall E f args ⟨m,n⟩ Q:=by
 refine ACall.known fun _ hk=>?_;have hin:i<n:=by
  rcases aS i n with h'|h';·omega
  ·have:=hk i h';grind
 constructor;intro F Γ w cargs hs;refine((h hin).go F Γ w cargs (hs.perm (J2 hi))).mono ?_;rintro e w' ⟨v,he,Γ',r,⟨m',n'⟩,h1,h2,h3,c',hm,hq⟩;simp only at hm;subst hm;exact⟨v,he,Γ',r,⟨Ar m i c',n'⟩,h1,h2,h3.perm (Qh hi),hq⟩
end
end Go.VM
set_option linter.unusedVariables false
set_option linter.defProp false
set_option maxRecDepth 100000
namespace Go.VM
section
variable{E:Env}{t:TypeId}{k:IntKind}{a b:Int}
theorem ApK:En E .add t (.int k a) (.int k b)=some (.int k (wr k (a+b))):=by simp[En,J8,wr]
theorem AqN:En E .sub t (.int k a) (.int k b)=some (.int k (wr k (a-b))):=by simp[En,J8,wr]
theorem ArU:En E .mul t (.int k a) (.int k b)=some (.int k (wr k (a * b))):=by simp[En,J8,wr]
theorem ApA:En E .quo t (.int k a) (.int k b)=if b=0 then none else some (.int k (wr k (a.tdiv b))):=by simp[En,J8,wr]
theorem ArY:En E .rem t (.int k a) (.int k b)=if b=0 then none else some (.int k (a.tmod b)):=by simp[En,J8]
theorem Aqy:En E .and t (.int k a) (.int k b)=some (.int k (OC k a b)):=by simp[En,J8,OC]
theorem AtP:En E .or t (.int k a) (.int k b)=some (.int k (N8 k a b)):=by simp[En,J8,N8]
theorem Ap4{n:Int}:unA .xor (.int .i64 n)=some (.int .i64 (AiV .i64 (-1) n)):=rfl
theorem AqH:En E .xor t (.int k a) (.int k b)=some (.int k (AiV k a b)):=by simp[En,J8,AiV]
theorem AXF:En E .andNot t (.int k a) (.int k b)=some (.int k (Zb k a b)):=by simp[En,J8,Zb]
theorem Apu:En E .eql t (.int k a) (.int k b)=some (.bool (a==b)):=by simp[En,J8]
theorem ApB:En E .neq t (.int k a) (.int k b)=some (.bool (a !=b)):=by simp[En,J8]
theorem Ap0:En E .lss t (.int k a) (.int k b)=some (.bool (decide (a<b))):=by simp[En,J8]
theorem Apy:En E .leq t (.int k a) (.int k b)=some (.bool (decide (a≤b))):=by simp[En,J8]
theorem AqZ:En E .gtr t (.int k a) (.int k b)=some (.bool (decide (a>b))):=by simp[En,J8]
theorem ApD:En E .geq t (.int k a) (.int k b)=some (.bool (decide (a≥b))):=by simp[En,J8]
theorem Aqv{j:IntKind}:En E .shl t (.int k a) (.int j b)=if b<0 then none else some (.int k (AFf k a b)):=by simp[En,AAg,AFf]
theorem Aoy{j:IntKind}:En E .shr t (.int k a) (.int j b)=if b<0 then none else some (.int k (AAs k a b)):=by simp[En,AAg,AAs]
variable{x y:List UInt8}{p q:Bool}
theorem AmY:En E .add t (.str x) (.str y)=if AC (x.length+y.length)then some (.str (x++y))else none:=AmK
theorem Alm:En E .eql t (.str x) (.str y)=some (.bool (x==y)):=rfl
theorem Aln:En E .neq t (.str x) (.str y)=some (.bool (!(x==y))):=rfl
theorem Akn:En E .lss t (.str x) (.str y)=some (.bool (Op.bytesLess x y)):=rfl
theorem AnC:En E .leq t (.str x) (.str y)=some (.bool (Op.bytesLess x y||x==y)):=rfl
theorem AmD:En E .gtr t (.str x) (.str y)=some (.bool (!(Op.bytesLess x y||x==y))):=rfl
theorem Akl:En E .geq t (.str x) (.str y)=some (.bool (!(Op.bytesLess x y))):=rfl
theorem Akq:En E .eql t (.bool p) (.bool q)=if V7 E.P t=true then some (.bool (p==q))else none:=rfl
theorem Akc:En E .neq t (.bool p) (.bool q)=if V7 E.P t=true then some (.bool (!(p==q)))else none:=rfl
def Afv (op:BinOp) (g:Bool) (e:Option Bool):Option AVal:=if g=true then none else match op,e with |.eql,some b=>some (.bool b)|.neq,some b=>some (.bool (!b))|_,_=>none
theorem Aq5{op:BinOp}{xs ys:List AVal}:En E op t (.agg xs) (.agg ys)=Afv op (E.P.eqGuardType E.P.depth t) (eqA E.P 10000 t (.agg xs) (.agg ys)):=rfl
theorem AZE:Afv .eql false (some p)=some (.bool p):=rfl
theorem Abs:Afv .neq false (some p)=some (.bool (!p)):=rfl
def cvI (g:Bool) (st:Bool) (k:Option IntKind) (n:Int):Option AVal:=if(g&&st)=true then some (.str (HZ n))else if g=true then(match k with|some k=>some (.int k (wr k n))|none=>none)else none
theorem Ao5{s d:TypeId}{n:Int}:QQ E s d (.int k n)=cvI (Ad E.P s) (DI E.P d) (G5 E.P d) n:=rfl
theorem Adt{n:Int}:cvI true false (some k) n=some (.int k (wr k n)):=rfl
theorem Amj{n:Int}{j:Option IntKind}:cvI true true j n=some (.str (HZ n)):=rfl
def cvS (g h:Bool) (l:List UInt8):Option AVal:=if(g&&h)=true then some (.str l)else none
theorem Aqh{s d:TypeId}{l:List UInt8}:QQ E s d (.str l)=cvS (Ad E.P s) (DI E.P d) l:=rfl
theorem Ag8{l:List UInt8}:cvS true true l=some (.str l):=rfl
theorem Ac9{s d:TypeId}{w:Nat}{xs:List AVal}{o:Bool}:QQ E s d (.slice w xs o)=strOf (u8T E.P s&&DI E.P d) (bytesOf xs):=rfl
theorem ATf{l:List UInt8}:strOf true (some l)=some (.str l):=rfl
theorem bytesOf_map{l:List Int}:bytesOf (l.map (AVal.int .u8))=some (l.map FN):=by induction l<;>grind[bytesOf]
theorem Qm{n:Int}{xs:List AVal}:bytesOf (.int .u8 n::xs)=(bytesOf xs).map (FN n:: ·):=rfl
theorem AOT:bytesOf []=some []:=rfl
theorem ANH{xs ys:List AVal}:bytesOf (xs++ys)=(bytesOf xs).bind fun a=>(bytesOf ys).map (a++ ·):=by
 induction xs with
 |nil=>cases h:bytesOf ys<;>simp[bytesOf,h]
 | cons x xs ih=>
  rw[bA];cases x with
  | int k n=>
   cases k<;>try rfl
   rw[Qm,Qm,ih];cases bytesOf xs<;>cases bytesOf ys<;>simp
  |_=>rfl
theorem ArZ{l:List UInt8}:cvS true false l=none:=rfl
theorem Aov{s d:TypeId}{w i l:Nat}:QQ E s d (.gsl w i l)=none:=rfl
theorem AqF{s d:TypeId}{w i o l:Nat}:QQ E s d (.bsl w i o l)=none:=rfl
theorem AqL{s d:TypeId}{i o:Nat}:QQ E s d (.ptr i o)=none:=rfl
section
variable{s d:TypeId}{st:St}
theorem Aow{l:List UInt8}:Sj E s d (.str l) st=none:=rfl
theorem Arh{w i l:Nat}:Sj E s d (.gsl w i l) st=none:=rfl
theorem Arw{w i o l:Nat}:Sj E s d (.bsl w i o l) st=none:=rfl
def cuB (b:Bool) (i:Nat):Option AVal:=if b=true then some (.ptr i 0)else none
theorem Agy{i:Nat}:cuB true i=some (.ptr i 0):=rfl
def cuR (E:Env) (s d:TypeId) (i:Nat) (x:Option (List AVal)):Option AVal:=match x with |some (.nself j T n::_)=>if j=i then cuB (V6 E.P s d T n) i else none|_=>none
theorem Ag3{i n:Nat}{T:TypeId}{cs:List AVal}:cuR E s d i (some (.nself i T n::cs))=cuB (V6 E.P s d T n) i:=by simp[cuR]
theorem ArH{i:Nat}:Sj E s d (.ptr i 0) st=cuR E s d i (Ae st.m i):=by
 simp only[Sj];generalize Ae st.m i=x;unfold cuR;split;·rename_i j T n rest;simp only[cuB];by_cases h1:j=i<;>by_cases h2:V6 E.P s d T n=true<;>simp[h1,h2]
 simp
def GH (i:Nat) (T:TypeId) (n:Nat) (b:Bool):AVal:=if b=true then .ptr i 0 else .nself i T n
theorem AmN{i n:Nat}{T:TypeId}:GH i T n true=.ptr i 0:=rfl
theorem AnN{i n:Nat}{T:TypeId}:GH i T n false=.nself i T n:=rfl
theorem AY5{i n:Nat}{T:TypeId}{b:Bool}:(GH i T n b).strip=GH i T n b:=by cases b<;>simp[GH,AVal.strip]
theorem AXw{i n:Nat}{T:TypeId}{b:Bool}:AX (GH i T n b)=[GH i T n b]:=by cases b<;>rfl
theorem Aau{i n:Nat}{T:TypeId}{b:Bool}:Km (GH i T n b)=false:=by cases b<;>rfl
theorem AX3{i n:Nat}{T:TypeId}{b:Bool}:CV (GH i T n b)=true:=by cases b<;>rfl
def cmS (a b:Bool) (l:List UInt8) (st:St):Option (AVal×St):=if a=true∧b=true then some (.bsl 1 st.next 0 l.length,{m:=(st.next,List.map (AVal.int .u8) (List.map AJ l))::st.m,next:=st.next+1})else none
theorem Apd{l:List UInt8}:QX E s d (.str l) st=cmS (u8T E.P d) (DI E.P s) l st:=by simp only[QX,cmS,List.map_map];rfl
theorem Ahz{l:List UInt8}:cmS true true l st=some (.bsl 1 st.next 0 l.length,{m:=(st.next,List.map (AVal.int .u8) (List.map AJ l))::st.m,next:=st.next+1}):=by simp[cmS]
def cmB (b:Bool) (off n:Nat) (st:St) (x:Option (List AVal)):Option (AVal×St):=match x with
 |some cs=>if b=true then(match bytesOf ((cs.drop off).take n)with|some l=>if l.length=n∧AC n then some (.str l,st)else none|none=>none)else none
 |none=>none
theorem ApV{i off n:Nat}:QX E s d (.bsl 1 i off n) st=cmB (u8T E.P s&&DI E.P d) off n st (Ae st.m i):=by simp only[QX,cmB,dB,CP,AC];cases (u8T E.P s&&DI E.P d)<;>cases Ae st.m i<;>simp;grind
theorem Ait{q:List Int}{off n:Nat}:cmB true off n st (some (List.map (AVal.int .u8) q))=if n≤q.length-off∧AC n then some (.str (List.map FN (List.take n (List.drop off q))),st)else none:=by simp only[cmB,aB,←fc,←List.map_drop,bytesOf_map,b8,aY,aM];grind
def Vf (n:Int) (b:Nat):Prop:=0≤n∧n≤4611686018427387904∧n * b≤140737488355328
instance (n:Int) (b:Nat):Decidable (Vf n b):=by unfold Vf;infer_instance
def mkR (e:Option (Nat×AVal)) (n:Int) (st:St):Option (AVal×St):=match e with |some (b,z)=>if 0≤n∧n≤CP∧n * b≤140737488355328 then some (.bsl 1 st.next 0 n.toNat,{m:=(st.next,List.replicate n.toNat z)::st.m,next:=st.next+1})else none|none=>none
theorem An9{b:Nat}{k:IntKind}{z n:Int}:mkR (some (b,.int k z)) n st=if Vf n b then some (.bsl 1 st.next 0 n.toNat,{m:=(st.next,List.map (AVal.int k) (List.replicate n.toNat z))::st.m,next:=st.next+1})else none:=by grind[mkR,Vf,CP,List.map_replicate]
theorem AlN{b:Nat}{n:Int}:mkR (some (b,.str [])) n st=if Vf n b then some (.bsl 1 st.next 0 n.toNat,{m:=(st.next,List.map AVal.str (List.replicate n.toNat []))::st.m,next:=st.next+1})else none:=by grind[mkR,Vf,CP,List.map_replicate]
def Ra (n n':Int) (b:Nat):Prop:=0≤n∧n≤n'∧n'≤4611686018427387904∧n' * b≤140737488355328
instance (n n':Int) (b:Nat):Decidable (Ra n n' b):=by unfold Ra;infer_instance
def mkV (a:Option (Nat×Nat)) (z:Option AVal) (n n':Int) (st:St):Option (AVal×St):=match a,z with |some (w,b),some z=>if Ra n n' b then some (.sh st.next,{m:=(st.next,[.vec w (List.replicate n.toNat z)])::st.m,next:=st.next+1})else none|_,_=>none
def mkG (e:Option (Nat×AVal)) (a:Option (Nat×Nat)) (y:Option AVal) (n n':Int) (st:St):Option (AVal×St):=match e with |some (b,.int k z)=>if Ra n n' b then some (.gsl 1 st.next n.toNat,{m:=(st.next,List.replicate n.toNat (.int k z))::st.m,next:=st.next+1})else mkV a y n n' st|_=>mkV a y n n' st
section
variable{a:Option (Nat×Nat)}{y:Option AVal}{n n':Int}
theorem Akh{b:Nat}{k:IntKind}{z:Int}:mkG (some (b,.int k z)) a y n n' st=if Ra n n' b then some (.gsl 1 st.next n.toNat,{m:=(st.next,List.map (AVal.int k) (List.replicate n.toNat z))::st.m,next:=st.next+1})else mkV a y n n' st:=by simp only[mkG,dy]
theorem AlW{b:Nat}{s:List UInt8}:mkG (some (b,.str s)) a y n n' st=mkV a y n n' st:=rfl
theorem Arr:mkG none a y n n' st=mkV a y n n' st:=rfl
theorem AlI{w b:Nat}:mkV (some (w,b)) (some (.str [])) n n' st=if Ra n n' b then some (.sh st.next,{m:=(st.next,[.vec w (List.map AVal.str (List.replicate n.toNat []))])::st.m,next:=st.next+1})else none:=by simp only[mkV,dy]
theorem Atm{w b:Nat}{c:List AVal}:mkV (some (w,b)) (some (.agg c)) 0 n' st=if Ra 0 n' b then some (.sh st.next,{m:=(st.next,[.vec w []])::st.m,next:=st.next+1})else none:=rfl
theorem Au2{k k':IntKind}:VI E t (.int k n) (.int k' n') st=mkG (UF E.P t) (JL E.P t) (Wx E.P t) n n' st:=by
 have hv:AQ3 E t (.int k n) (.int k' n') st=mkV (JL E.P t) (Wx E.P t) n n' st:=by unfold AQ3 mkV Ra;rcases JL E.P t with _|⟨_,_⟩<;>rcases Wx E.P t with _|_<;>rfl
 unfold VI;rw[hv];unfold AWV mkG;rcases UF E.P t with _|⟨b,z⟩;·rfl
 ·cases z<;>try rfl
  simp only[];by_cases hc:Ra n n' b;·have hc':0≤n∧n≤n'∧n'≤(CP:Int)∧n' * b≤140737488355328:=hc;rw[ap hc,ap hc']
  ·have hc': ¬(0≤n∧n≤n'∧n'≤(CP:Int)∧n' * b≤140737488355328):=hc;rw[aj hc,aj hc']
end
theorem Apr{i n:Nat}:QX E s d (.gsl 1 i n) st=cmB (u8T E.P s&&DI E.P d) 0 n st (Ae st.m i):=by simp only[QX,cmB,dB,CP,AC,aJ];cases (u8T E.P s&&DI E.P d)<;>cases Ae st.m i<;>simp;grind
theorem AuE{k k':IntKind}{n:Int}:Vx E t (.int k n) (.int k' n) st=mkR (UF E.P t) n st:=by simp only[Vx,mkR];rcases UF E.P t with _|⟨b,z⟩<;>simp
end
theorem Aq3{e:TypeId}{l:List UInt8}{o:Bool}:Sb (.buf e l o)=some (.bufp e l o):=rfl
def usB (b:Bool) (l:List UInt8):Option AVal:=if b=true then some (.str l)else none
theorem Acu{l:List UInt8}:usB true l=some (.str l):=rfl
theorem Apw{t0 e:TypeId}{l:List UInt8}:VX E t0 (.bufp e l true) (.int .i64 (l.length:Int))=usB (ptrTo E.P t0 e) l:=by simp[VX,usB]
theorem ApQ{op:BinOp}:En E op t .nilp .nilp=P9 op (Q7 E.P t) (some true):=rfl
theorem Arf{op:BinOp}{i n:Nat}{T:TypeId}:En E op t (.nself i T n) .nilp=P9 op (Q7 E.P t) (some true):=rfl
theorem Ap8{op:BinOp}{i o:Nat}:En E op t (.ptr i o) .nilp=P9 op (Q7 E.P t) (some false):=rfl
theorem Aqu{op:BinOp}{i o:Nat}:En E op t (.ptr i o) (.ptr i o)=P9 op (Q7 E.P t) (some true):=by simp[En,AB6]
theorem AqU:P9 .eql true (some p)=some (.bool p):=rfl
theorem Aps:P9 .neq true (some p)=some (.bool (!p)):=rfl
theorem Aez{e:TypeId}:QG E t (.nbuf e)=if BL E.P t=true then some (.int .i64 0)else none:=rfl
theorem AhO{e:TypeId}:AgX E t (.nbuf e)=if BL E.P t=true then some (.int .i64 0)else none:=rfl
theorem Ann{T:TypeId}{i:Nat}{e:TypeId}:AWd E t (.trow T i 0) (.nbuf e)=if BV E.P t=some 1 then some (.int .i64 0)else none:=rfl
theorem Ak5{T:TypeId}{i len:Nat}{h:Int}:FO E t (.trow T i len) none (some h) none=if BV E.P t=some 1 then(if 0≤h∧h≤len then some (.trow T i h.toNat)else none)else none:=by simp only[FO];by_cases h1:BV E.P t=some 1<;>by_cases h2:0≤h<;>by_cases h3:h≤len<;>simp[h1,h2,h3]
theorem AeP{T:TypeId}{i l:Nat}:(AVal.trow T i l).strip=.trow T i l:=rfl
theorem Af2{T:TypeId}{i l:Nat}:AX (.trow T i l)=[.trow T i l]:=rfl
theorem Adv{T:TypeId}{i l:Nat}:CV (.trow T i l)=true:=rfl
theorem AfF{T:TypeId}{i l:Nat}:Km (.trow T i l)=false:=rfl
theorem AeR{e:TypeId}:(AVal.nbuf e).strip=.nbuf e:=rfl
theorem AiB{e:TypeId}:AX (.nbuf e)=[.nbuf e]:=rfl
theorem Ahu{e:TypeId}:CV (.nbuf e)=true:=rfl
theorem AiD{e:TypeId}:Km (.nbuf e)=false:=rfl
theorem Akj{e:TypeId}{l:List UInt8}{o:Bool}:QG E t (.buf e l o)=if BL E.P t=true then some (.int .i64 l.length)else none:=rfl
theorem AmH{w i o l:Nat}:QG E t (.bsl w i o l)=if BL E.P t=true then some (.int .i64 l)else none:=rfl
theorem Bu{w i len:Nat}{k:IntKind}{n:Int}:C9 E t (.gsl w i len) (.int k n)=if BV E.P t=some w then(if 0≤n∧n<len then some (.ptr i (n.toNat * w))else none)else none:=by simp only[C9];by_cases h1:BV E.P t=some w<;>by_cases h2:0≤n<;>by_cases h3:n<len<;>simp[h1,h2,h3]
theorem Bj{w i len:Nat}{h:Int}:FO E t (.gsl w i len) none (some h) none=if BV E.P t=some w then(if 0≤h∧h≤len then some (.gsl w i h.toNat)else none)else none:=by simp only[FO];by_cases h1:BV E.P t=some w<;>by_cases h2:0≤h<;>by_cases h3:h≤len<;>simp[h1,h2,h3]
theorem AqQ{w i len:Nat}{h:Int}:FO E t (.bsl w i 0 len) none (some h) none=if BV E.P t=some w then(if 0≤h∧h≤len then some (.bsl w i 0 h.toNat)else none)else none:=by simp only[FO];by_cases h1:BV E.P t=some w<;>by_cases h2:0≤h<;>by_cases h3:h≤len<;>simp[h1,h2,h3]
def apT (e:Option (Nat×Nat)) (g:Bool) (x:Option (List AVal)) (m:List (Nat×List AVal)) (j len:Nat) (s:List UInt8):Option (Nat×Nat×List AVal×List (Nat×List AVal)×Option Nat):=match x,e with |some cs,some (z,by_)=>if z=1∧len≤cs.length∧(len+s.length) * by_≤140737488355328∧len+s.length≤CP∧g=true then some (1,len+s.length,cs.take len++u8s s,Da m j,some j)else none|_,_=>none
theorem Gd{t0 t1:TypeId}{j len:Nat}{s:List UInt8}{st:St}:AZF E t0 t1 (.gsl 1 j len) (.str s) st=apT (JL E.P t0) ((G5 E.P t1).isNone&&Ad E.P t1) (Ae st.m j) st.m j len s:=by simp only[AZF,apT];rcases Ae st.m j with _|cs<;>rcases JL E.P t0 with _|⟨z,b⟩<;>simp
theorem Ap{b j len:Nat}{q:List Int}{m:List (Nat×List AVal)}{s:List UInt8}:apT (some (1,b)) true (some (List.map (AVal.int .u8) q)) m j len s=if len≤q.length∧Ac (len+s.length) b then some (1,len+s.length,List.map (AVal.int .u8) (List.take len q++List.map AJ s),Da m j,some j)else none:=by
 have e:u8s s=List.map (AVal.int .u8) (List.map AJ s):=by simp[u8s,AJ]
 simp_all[apT,Ac,CP]
theorem Ao{w i l:Nat}:(AVal.gsl w i l).strip=.gsl w i l:=rfl
theorem BH{i:Nat}{c:List AVal}{m:List (Nat×List AVal)}:Da ((i,c)::m) i=m:=by simp[Da]
def lkV:List (List UInt8)→List AVal→List UInt8→AVal→AVal |k::ks,v::vs,s,z=>if(s==k)=true then v.strip else lkV ks vs s z|_,_,_,z=>z.strip
theorem Ahs{k s:List UInt8}{ks:List (List UInt8)}{v z:AVal}{vs:List AVal}:lkV (k::ks) (v::vs) s z=if(s==k)=true then v.strip else lkV ks vs s z:=rfl
theorem Ani{s:List UInt8}{z:AVal}:lkV [] [] s z=z.strip:=rfl
def lkR (z:Option AVal) (x:Option (List AVal)) (s:List UInt8):Option AVal:=match z,x with |some z,some [.map ks vs]=>some (lkV ks vs s z)|_,_=>none
theorem ASq{s:List UInt8}{z:AVal}: ∀(ks:List (List UInt8)) (vs:List AVal),(match KP ks vs s with|some x=>x.strip|none=>z.strip)=lkV ks vs s z
 |[],_=>by simp[KP,lkV]
 |_::_,[]=>by simp[KP,lkV]
 | k::ks,v::vs=>by
  simp only[KP,lkV,a8];split
  ·rename_i x hx;split at hx;·simp_all
   ·rename_i e;rw[aj e,←ASq ks vs,hx]
  ·rename_i hx;split at hx;·grind
   ·rename_i e;rw[aj e,←ASq ks vs,hx]
theorem Aon{i:Nat}{s:List UInt8}{st:St}:PO E t (.sh i) (.str s) false st=lkR ((Rc E.P t).bind (Cg E.P)) (Ae st.m i) s:=by
 unfold PO UI lkR;cases Rc E.P t with
 |none=>simp
 | some e=>
  simp only[aa];cases hm:Ae st.m i with
  |none=>cases Cg E.P e<;>simp
  | some cs=>
   cases hz:Cg E.P e with
   | none=>match cs with |[]=>simp|[.map _ _]=>grind|x::y::_=>cases x<;>simp|[.any]|[.bool _]|[.int _ _]|[.str _]|[.agg _]|[.tuple _]|[.slice _ _ _]|[.ptr _ _]|[.nilp]|[.cptr _]|[.fn _ _ _]|[.nilFn]|[.iface _ _]|[.nilIface]|[.iter _ _]|[.bsl _ _ _ _]|[.nself _ _ _]|[.buf _ _ _]|[.bufp _ _ _]|[.slop _ _]|[.sh _]|[.sptr _ _ _]|[.gsl _ _ _]|[.nmap]|[.num _]|[.nbuf _]|[.trow _ _ _]|[.vec _ _]|[.vptr _ _ _ _]|[.hset _]=>simp
   | some z=>match cs with |[]=>simp|[.map ks vs]=>grind[ASq]|x::y::_=>cases x<;>simp|[.any]|[.bool _]|[.int _ _]|[.str _]|[.agg _]|[.tuple _]|[.slice _ _ _]|[.ptr _ _]|[.nilp]|[.cptr _]|[.fn _ _ _]|[.nilFn]|[.iface _ _]|[.nilIface]|[.iter _ _]|[.bsl _ _ _ _]|[.nself _ _ _]|[.buf _ _ _]|[.bufp _ _ _]|[.slop _ _]|[.sh _]|[.sptr _ _ _]|[.gsl _ _ _]|[.nmap]|[.num _]|[.nbuf _]|[.trow _ _ _]|[.vec _ _]|[.vptr _ _ _ _]|[.hset _]=>simp
theorem Ag0{s:List UInt8}{z:AVal}{ks:List (List UInt8)}{vs:List AVal}:lkR (some z) (some [.map ks vs]) s=some (lkV ks vs s z):=rfl
def upR (b:Bool) (y:Option (List AVal)) (i:Nat) (s:List UInt8) (x:AVal) (st:St):Option St:=match b,y with |true,some [.map ks vs]=>some {st with m:=Ar st.m i [.map (Gc ks s) (KD ks vs s x)]}|_,_=>none
theorem AsV{i:Nat}{s:List UInt8}{x:AVal}{st:St}:AAJ E t (.sh i) (.str s) x st=upR (Rc E.P t).isSome (Ae st.m i) i s x st:=by simp only[AAJ,UI,upR];grind[Rc,Ae]
theorem Af8{i:Nat}{s:List UInt8}{x:AVal}{st:St}{ks:List (List UInt8)}{vs:List AVal}:upR true (some [.map ks vs]) i s x st=some {st with m:=Ar st.m i [.map (Gc ks s) (KD ks vs s x)]}:=rfl
theorem Atn{op:BinOp}{f:Fn}{x y:List AVal}:En E op t (.fn f x y) .nilFn=Xo op (AAP E.P t) false:=rfl
theorem AsG{op:BinOp}:En E op t .nilFn .nilFn=Xo op (AAP E.P t) true:=rfl
theorem Aoz{b:Bool}:Xo .eql true b=some (.bool b):=rfl
theorem Ar7{b:Bool}:Xo .neq true b=some (.bool (!b)):=rfl
theorem Aqq{w i off len:Nat}{k:IntKind}{n:Int}:C9 E t (.bsl w i off len) (.int k n)=if BV E.P t=some w then(if 0≤n∧n<len then some (.ptr i (off+n.toNat * w))else none)else none:=by simp only[C9];by_cases h1:BV E.P t=some w<;>by_cases h2:0≤n<;>by_cases h3:n<len<;>simp[h1,h2,h3]
def iaP (e:Option (Nat×Nat×Bool)) (j o:Nat) (n:Int):Option AVal:=match e with |some (len,z,_)=>if 0≤n∧n<len then some (.ptr j (o+n.toNat * z))else none|none=>none
theorem ArF{j o:Nat}{k:IntKind}{n:Int}:C9 E t (.ptr j o) (.int k n)=iaP (Lr E.P t) j o n:=by simp only[C9,iaP];rcases Lr E.P t with _|⟨len,z,g⟩<;>rfl
theorem Agn{len z j o:Nat}{g:Bool}{n:Int}:iaP (some (len,z,g)) j o n=if 0≤n∧n<(len:Int)then some (.ptr j (o+n.toNat * z))else none:=rfl
def slP (e:Option (Nat×Nat×Bool)) (i o:Nat) (l:Int) (h:Option Int):Option AVal:=match e with |some (len,z,_)=>if 0≤l∧l≤h.getD len∧h.getD len≤len∧len≤CP then some (.bsl z i (o+l.toNat * z) ((h.getD len).toNat-l.toNat))else none|none=>none
theorem Apm{i o:Nat}{lo hi:Option Int}:FO E t (.ptr i o) lo hi none=slP (Lr E.P t) i o (lo.getD 0) hi:=by simp only[FO,slP];rcases Lr E.P t with _|⟨len,z,g⟩<;>simp
theorem Afc{len z i o:Nat}{g:Bool}{l:Int}:slP (some (len,z,g)) i o l none=if 0≤l∧l≤(len:Int)∧len≤CP then some (.bsl z i (o+l.toNat * z) (len-l.toNat))else none:=by simp[slP]
theorem Aks{α:Type}{l:List α}{n:Int} (h:0≤n):l[n.toNat]?=idx l n:=by grind[idx]
theorem Amn{α β:Type}{f:α→β}{l:List α}{k:Nat}{v:α}:(List.map f l).set k (f v)=List.map f (l.set k v):=List.map_set.symm
theorem ApO:unA .not (.bool p)=some (.bool (!p)):=rfl
theorem Ao4:unA .neg (.int k a)=some (.int k (wr k (0-a))):=rfl
end
def ADP (n:Nat):List Bool:=List.replicate n false
theorem AAG{n:Nat}:(ADP n).length=n:=by simp[ADP]
theorem AWn{l:List Bool}:stripL (List.map AVal.bool l)=List.map AVal.bool l:=by induction l<;>grind[stripL,AVal.strip]
theorem AaR{k:IntKind}{l:List Int}:stripL (List.map (AVal.int k) l)=List.map (AVal.int k) l:=by induction l<;>grind[stripL,AVal.strip]
theorem AZo{l:List Bool}{n:Nat} (h:l.length=n):List.take n (List.map AVal.bool l)=List.map AVal.bool l:=by grind[List.take_of_length_le]
theorem AYh{k:IntKind}{l:List Int}{n:Nat} (h:l.length=n):List.take n (List.map (AVal.int k) l)=List.map (AVal.int k) l:=by grind[List.take_of_length_le]
theorem RB: ∀(l q p:List AVal),q.length=l.length→putCells (p++q) p.length l=p++l |[],q,p,h=>by grind[putCells]| x::l,q,p,h=>by cases q with |nil=>grind| cons y q=>rw[putCells];have e:(p++y::q).set p.length x=(p++[x])++q:=fg;have e2:p.length+1=(p++[x]).length:=fg;rw[e,e2,RB l q (p++[x]) (by grind)];simp
theorem AdQ{l q:List Bool} (h:q.length=l.length):putCells (List.map AVal.bool q) 0 (List.map AVal.bool l)=List.map AVal.bool l:=by have:=RB (List.map AVal.bool l) (List.map AVal.bool q) [] (by grind);grind
theorem AiG{k:IntKind}{l q:List Int} (h:q.length=l.length):putCells (List.map (AVal.int k) q) 0 (List.map (AVal.int k) l)=List.map (AVal.int k) l:=by have:=RB (List.map (AVal.int k) l) (List.map (AVal.int k) q) [] (by grind);grind
theorem Ang:AVal.strip (.any)=.any:=by simp[AVal.strip]
theorem AdK{b:Bool}:AVal.strip (.bool b)=.bool b:=by simp[AVal.strip]
theorem Ak6{k:IntKind}{n:Int}:AVal.strip (.int k n)=.int k n:=by simp[AVal.strip]
theorem Aml{l:List UInt8}:AVal.strip (.str l)=.str l:=by simp[AVal.strip]
theorem Anw{w i o l:Nat}:AVal.strip (.bsl w i o l)=.bsl w i o l:=by simp[AVal.strip]
theorem AW6{i n:Nat}{T:TypeId}:AVal.strip (.nself i T n)=.nself i T n:=by simp[AVal.strip]
theorem Akf{e:TypeId}{l:List UInt8}{o:Bool}:AVal.strip (.buf e l o)=.buf e l false:=by simp[AVal.strip]
theorem Adr{e:TypeId}{l:List UInt8}{o:Bool}:AVal.strip (.bufp e l o)=.bufp e l false:=by simp[AVal.strip]
theorem AmC{w i o l:Nat}:AX (.bsl w i o l)=[.bsl w i o l]:=rfl
theorem AYP{i n:Nat}{T:TypeId}:AX (.nself i T n)=[.nself i T n]:=rfl
theorem AkT{e:TypeId}{l:List UInt8}{o:Bool}:AX (.buf e l o)=[.buf e l o]:=rfl
theorem ASQ{i:Nat}:(AVal.sh i).strip=.sh i:=rfl
theorem AhE{i w n:Nat}:(AVal.sptr i w n).strip=.sptr i w n:=rfl
theorem Ail{i:Nat}:AX (.sh i)=[.sh i]:=rfl
theorem Ai1{i w n:Nat}:AX (.sptr i w n)=[.sptr i w n]:=rfl
theorem Ada{i:Nat}:CV (.sh i)=true:=rfl
theorem AiI{i w n:Nat}:CV (.sptr i w n)=true:=rfl
theorem Ami{w i o l:Nat}:CV (.bsl w i o l)=true:=rfl
theorem AaJ{i n:Nat}{T:TypeId}:CV (.nself i T n)=true:=rfl
theorem AnR{e:TypeId}{l:List UInt8}{o:Bool}:CV (.buf e l o)=true:=rfl
theorem AkR{i o:Nat}:AVal.strip (.ptr i o)=.ptr i o:=by simp[AVal.strip]
theorem Agz:AVal.strip (.nilp)=.nilp:=by simp[AVal.strip]
theorem Aiz{l:List AVal}:AVal.strip (.cptr l)=.cptr l:=by simp[AVal.strip]
theorem Apl{f:Fn}{p q:List AVal}:AVal.strip (.fn f p q)=.fn f p q:=by simp[AVal.strip]
theorem AbS:AVal.strip (.nilFn)=.nilFn:=by simp[AVal.strip]
theorem AbQ{t:TypeId}{x:AVal}:AVal.strip (.iface t x)=.iface t x:=by simp[AVal.strip]
theorem AIE:AVal.strip (.nilIface)=.nilIface:=by simp[AVal.strip]
theorem AnT:AX (.any)=[.any]:=rfl
theorem Ag4{b:Bool}:AX (.bool b)=[.bool b]:=rfl
theorem AnU{k:IntKind}{n:Int}:AX (.int k n)=[.int k n]:=rfl
theorem AoC{l:List UInt8}:AX (.str l)=[.str l]:=rfl
theorem Alk{i o:Nat}:AX (.ptr i o)=[.ptr i o]:=rfl
theorem Acp:AX (.nilp)=[.nilp]:=rfl
theorem AfQ{l:List AVal}:AX (.cptr l)=[.cptr l]:=rfl
theorem Ard{f:Fn}{p q:List AVal}:AX (.fn f p q)=[.fn f p q]:=rfl
theorem AZf:AX (.nilFn)=[.nilFn]:=rfl
theorem AYX{t:TypeId}{x:AVal}:AX (.iface t x)=[.iface t x]:=rfl
theorem AGH:AX (.nilIface)=[.nilIface]:=rfl
theorem AbC{l:List AVal}:AX (.tuple l)=[.tuple l]:=rfl
theorem Abm{w:Nat}{l:List AVal}{o:Bool}:AX (.slice w l o)=[.slice w l o]:=rfl
theorem Adz{b:Bool}:CV (.bool b)=true:=rfl
theorem Al6{k:IntKind}{n:Int}:CV (.int k n)=true:=rfl
theorem Ak8{l:List UInt8}:CV (.str l)=true:=rfl
theorem AlU{i o:Nat}:CV (.ptr i o)=true:=rfl
theorem Aeu:CV (.nilp)=true:=rfl
theorem AhG{l:List AVal}:CV (.cptr l)=true:=rfl
theorem ApT{f:Fn}{p q:List AVal}:CV (.fn f p q)=true:=rfl
theorem AZt:CV (.nilFn)=true:=rfl
theorem AZO{t:TypeId}{x:AVal}:CV (.iface t x)=true:=rfl
theorem AFs:CV (.nilIface)=true:=rfl
theorem Am6{l:List AVal}:CV (.agg l)=true:=rfl
theorem AYk{w:Nat}{l:List AVal}{o:Bool}:CV (.slice w l o)=true:=rfl
theorem AZ8{af:List AVal}{v:Value}:stripAt af (.const v)=af:=rfl
theorem Aiu{af:List AVal}{v:Nat}:stripAt af (.global v)=af:=rfl
theorem AeL{af:List AVal}{v:FuncId}:stripAt af (.func v)=af:=rfl
end Go.VM
set_option linter.unusedVariables false
namespace Go.VM
section
variable{E:Env}{st:St}{t:TypeId}
theorem AmL{w:Nat}{xs:List AVal}:AVal.strip (.vec w xs)=.any:=by rw[AVal.strip]
theorem Afi{i w n k:Nat}:AVal.strip (.vptr i w n k)=.vptr i w n k:=rfl
theorem AhM{i w n k:Nat}:Km (.vptr i w n k)=false:=rfl
theorem As7{i:Nat}{y:AVal}:AAF (.sh i) y=RV y:=by simp[AAF,RV]
theorem AsZ{t0 t1:TypeId}{i:Nat}{y:AVal}:IK E t0 t1 (.sh i) y=none:=by cases y<;>rfl
def avS (i:Nat) (x:Option AVal) (st:St):Option St:=match x with |some (.slice w zs _)=>some {m:=(st.next,[.vec w zs])::Ar st.m i [.any],next:=st.next+1}|_=>none
theorem AiY{i w:Nat}{zs:List AVal}{o:Bool}:avS i (some (.slice w zs o)) st=some {m:=(st.next,[.vec w zs])::Ar st.m i [.any],next:=st.next+1}:=rfl
def avR (e:Option (Nat×Nat)) (k:Option IntKind) (b:Bool) (y:AVal) (x:Option (Nat×Nat×List AVal)) (st:St):Option St:=match x with | some (i,wd,xs)=>avS i (AUC e k b wd xs (Oc wd y)) st|none=>none
theorem Asx{t0 t1:TypeId}{i:Nat}{y:AVal}:YT E t0 t1 (.sh i) y st=avR (JL E.P t0) (G5 E.P t1) (Ad E.P t1) y (Je st (.sh i)) st:=by
 unfold YT avR AUC avS;rcases Je st (.sh i)with _|⟨i,wd,xs⟩;·rfl
 ·simp only;rcases JL E.P t0 with _|⟨z,b⟩;·rfl
  ·rcases Oc wd y with _|ys;·rfl
   ·simp only;have e:(z=wd∧G5 E.P t1=none∧Ad E.P t1=true∧(xs.length+ys.length) * b≤140737488355328∧xs.length+ys.length≤CP)↔(z=wd∧G5 E.P t1=none∧Ad E.P t1=true∧Ac (xs.length+ys.length) b):=Iff.rfl;by_cases hc:z=wd∧G5 E.P t1=none∧Ad E.P t1=true∧Ac (xs.length+ys.length) b;·rw[ap (e.2 hc),ap hc]
    ·rw[aj (fun h=>hc (e.1 h)),aj hc]
theorem AdP{e:Option (Nat×Nat)}{k:Option IntKind}{b:Bool}{i wd:Nat}{xs:List AVal}{y:AVal}:avR e k b y (some (i,wd,xs)) st=avS i (AUC e k b wd xs (Oc wd y)) st:=rfl
theorem AtT{i:Nat}{lo hi mx:Option Int}:FO E t (.sh i) lo hi mx=none:=rfl
def svR (e:Option Nat) (x:Option (Nat×Nat×List AVal)) (lo hi:Option Int) (st:St):Option St:=match x with |some (i,wd,xs)=>avS i (AIr e wd false (sub xs (lo.getD 0) (hi.getD xs.length))) st|none=>none
theorem Atl{i:Nat}{lo hi:Option Int}:QC E t (.sh i) lo hi none st=svR (BV E.P t) (Je st (.sh i)) lo hi st:=by
 unfold QC svR;rcases Je st (.sh i)with _|⟨i,wd,xs⟩;·rfl
 ·simp only[AIr,sub,avS];by_cases h1:BV E.P t=some wd<;>by_cases h2:0≤lo.getD 0∧lo.getD 0≤hi.getD xs.length∧hi.getD xs.length≤xs.length<;>simp[h1,h2]
theorem AhN{e:Option Nat}{i wd:Nat}{xs:List AVal}{lo hi:Option Int}:svR e (some (i,wd,xs)) lo hi st=avS i (AIr e wd false (sub xs (lo.getD 0) (hi.getD xs.length))) st:=rfl
theorem As4{i:Nat}{k:IntKind}{n:Int}:C9 E t (.sh i) (.int k n)=none:=rfl
def ioR (e:Option Nat) (j:Nat) (n:Int) (y:Option (List AVal)):Option AVal:=match y with |some [.slop w xs]=>if e=some w∧n=xs.length then some (.sptr j w xs.length)else none|_=>none
theorem AtV{j:Nat}{k:IntKind}{n:Int}:Ga E t (.sh j) (.int k n) st=ioR (BV E.P t) j n (Ae st.m j):=by unfold Ga ioR UX;grind
theorem AlF{e:Option Nat}{j w:Nat}{n:Int}{xs:List AVal}:ioR e j n (some [.vec w xs])=none:=rfl
def ivS (e:Option Nat) (j w:Nat) (n:Int) (y:Option AVal):Option AVal:=match y with |some _=>if e=some w then some (.vptr j w n.toNat 0)else none|none=>none
def ivR (e:Option Nat) (y:Option (Nat×Nat×List AVal)) (n:Int):Option AVal:=match y with |some (j,w,xs)=>ivS e j w n (idx xs n)|none=>none
theorem AtM{j:Nat}{k:IntKind}{n:Int}:PG E t (.sh j) (.int k n) st=ivR (BV E.P t) (Je st (.sh j)) n:=by
 unfold PG ivR ivS idx;rcases Je st (.sh j)with _|⟨i,wd,xs⟩;·rfl
 ·simp only;by_cases h1:BV E.P t=some wd<;>by_cases h2:0≤n<;>by_cases h3:n<xs.length<;>simp[h1,h2,h3]<;>grind
theorem AiJ{e:Option Nat}{j w:Nat}{n:Int}{xs:List AVal}:ivR e (some (j,w,xs)) n=ivS e j w n (idx xs n):=rfl
theorem Ade{j w:Nat}{n:Int}{y:AVal}:ivS (some w) j w n (some y)=some (.vptr j w n.toNat 0):=by simp[ivS]
def caI (w w' k:Nat) (y:Option AVal):Option (List AVal):=match y with |some x=>if w'=w∧CV x=true then some ((AX x).drop k)else none|none=>none
def caR (w n k:Nat) (y:Option (List AVal)):Option (List AVal):=match y with |some [.vec w' xs]=>caI w w' k xs[n]?|_=>none
theorem An5{i w n k:Nat}:RI st (.vptr i w n k)=caR w n k (Ae st.m i):=by
 unfold RI caR caI;simp only;rcases Ae st.m i with _|(_|⟨y,_|_⟩)<;>try rfl
 ·cases y<;>try rfl
  rename_i w' xs;simp only;by_cases h:n<xs.length;·rw[aK h];simp[h,List.getD]
  ·rw[eU (dI h)];simp[h]
 ·cases y<;>rfl
theorem AnS{w w' n k:Nat}{xs:List AVal}:caR w n k (some [.vec w' xs])=caI w w' k xs[n]?:=rfl
theorem AeC{w k:Nat}{x:AVal}:caI w w k (some x)=if CV x=true then some ((AX x).drop k)else none:=by simp[caI]
theorem Aly{i w n k:Nat}{v:AVal}:NK E t (.vptr i w n k) v st=shS (Km v) (SA E t (.vptr i w n k) v st) (XE E t (.vptr i w n k) v st):=Wn
def seR (e:Option Nat) (i w n k:Nat) (v:AVal) (y:Option (List AVal)) (st:St):Option St:=match y with |some [.vec w' xs]=>if w'=w∧k=0∧n<xs.length∧CV v=true∧e=some w∧(AX v).length=w then some {st with m:=Ar st.m i [.vec w (xs.set n v.strip)]}else none|_=>none
def sfI (e:Option Nat) (i w:Nat) (xs:List AVal) (n k:Nat) (v:AVal) (x:Option AVal) (st:St):Option St:=match x with |some x=>if CV v=true∧CV x=true∧(AX x).length=w∧e=some (AX v).length∧k+(AX v).length≤w then some {st with m:=Ar st.m i [.vec w (xs.set n (.agg (putCells (AX x) k (stripL (AX v)))))]}else none|none=>none
def sfR (e:Option Nat) (i w n k:Nat) (v:AVal) (y:Option (List AVal)) (st:St):Option St:=match y with |some [.vec w' xs]=>if w'=w then sfI e i w xs n k v xs[n]? st else none|_=>none
def svK (x y:Option St):Option St:=match x with|some s=>some s|none=>y
theorem Ac1{s:St}{y:Option St}:svK (some s) y=some s:=rfl
theorem Agt{y:Option St}:svK none y=y:=rfl
theorem Ak4{i w n k:Nat}{v:AVal}:XE E t (.vptr i w n k) v st=svK (seR (BK E.P t) i w n k v (Ae st.m i) st) (sfR (BK E.P t) i w n k v (Ae st.m i) st):=by
 have h1:Zc E t (.vptr i w n k) v st=seR (BK E.P t) i w n k v (Ae st.m i) st:=by unfold Zc seR;simp only;rcases Ae st.m i with _|(_|⟨y,_|_⟩)<;>first| rfl| (cases y<;>rfl)
 have h2:AAK E t (.vptr i w n k) v st=sfR (BK E.P t) i w n k v (Ae st.m i) st:=by
  unfold AAK sfR sfI;simp only;rcases Ae st.m i with _|(_|⟨y,_|_⟩)<;>first| rfl| (cases y<;>rfl)| skip
  cases y<;>try rfl
  rename_i w' xs;simp only[];by_cases hw:w'=w
  ·by_cases hn:n<xs.length;·simp[hw,hn,List.getD]
   ·simp[hw,hn]
  ·simp[hw]
 unfold XE svK;rw[h1,h2];cases seR (BK E.P t) i w n k v (Ae st.m i) st<;>rfl
theorem AtG{e:Option Nat}{i w n k:Nat}{v:AVal}{y:Option (List AVal)} (h:k≠0):seR e i w n k v y st=none:=by unfold seR;split<;>simp[h]
theorem Asl{z i w n k:Nat}{v:AVal}{y:Option (List AVal)} (h:z≠w):seR (some z) i w n k v y st=none:=by
 unfold seR;split;·rename_i w' xs;simp[h]
 ·rfl
theorem AkL{e:Option Nat}{i w n k:Nat}{v:AVal}{xs:List AVal}:sfR e i w n k v (some [.vec w xs]) st=sfI e i w xs n k v xs[n]? st:=by simp[sfR]
theorem Afh{z i w n k:Nat}{v x:AVal}{xs:List AVal}:sfI (some z) i w xs n k v (some x) st=if CV v=true∧CV x=true∧(AX x).length=w∧z=(AX v).length∧k+(AX v).length≤w then some {st with m:=Ar st.m i [.vec w (xs.set n (.agg (putCells (AX x) k (stripL (AX v)))))]}else none:=by simp[sfI]
def seI (i w n:Nat) (v:AVal) (xs:List AVal) (x:Option AVal) (st:St):Option St:=match x with |some _=>if CV v=true∧(AX v).length=w then some {st with m:=Ar st.m i [.vec w (xs.set n v.strip)]}else none|none=>none
theorem AhU{i w n:Nat}{v x:AVal}{xs:List AVal}:seI i w n v xs (some x) st=if CV v=true∧(AX v).length=w then some {st with m:=Ar st.m i [.vec w (xs.set n v.strip)]}else none:=rfl
theorem AmX{α:Type}{f:α→AVal}{l:List α}{i w n:Nat}{v:AVal}:seR (some w) i w n 0 v (some [.vec w (List.map f l)]) st=seI i w n v (List.map f l) (List.map f l)[n]? st:=by
 by_cases h:n<l.length;·simp[seR,seI,h]
 ·simp[seR,seI,h]
theorem AsL{t0 t1:TypeId}{i:Nat}{y:AVal}:Oj E t0 t1 (.sh i) y=none:=rfl
def afR (x:Option St):Option (AVal×St):=match x with |some ⟨(n,[.vec w zs])::m,k⟩=>some (.slice w zs false,⟨m,k⟩)|_=>none
theorem Ash{t0 t1:TypeId}{i:Nat}{y:AVal}:ANm E t0 t1 (.sh i) y st=afR (YT E t0 t1 (.sh i) y st):=by unfold ANm afR;rfl
theorem AeF{n w k:Nat}{zs:List AVal}{m:List (Nat×List AVal)}:afR (some ⟨(n,[.vec w zs])::m,k⟩)=some (.slice w zs false,⟨m,k⟩):=rfl
theorem AqA{m:AVal}{s:List UInt8}{ok:Bool}{st:St}:SK E t m (.str s) ok st=PO E t m (.str s) ok st:=by
 have:YF E t m (.str s) ok st=none:=by unfold YF;split<;>simp_all
 unfold SK;rw[this];cases PO E t m (.str s) ok st<;>rfl
theorem AqG{m:AVal}{c:List AVal}{ok:Bool}{st:St}:SK E t m (.agg c) ok st=YF E t m (.agg c) ok st:=by
 have:PO E t m (.agg c) ok st=none:=by unfold PO;split<;>simp_all
 unfold SK;rw[this]
theorem Apj{m x:AVal}{s:List UInt8}{st:St}:Tt E t m (.str s) x st=AAJ E t m (.str s) x st:=by
 have:ARA E t m (.str s) x st=none:=by unfold ARA;split<;>simp_all
 unfold Tt;rw[this];cases AAJ E t m (.str s) x st<;>rfl
theorem ArX{m x:AVal}{c:List AVal}{st:St}:Tt E t m (.agg c) x st=ARA E t m (.agg c) x st:=by
 have:AAJ E t m (.agg c) x st=none:=by unfold AAJ;split<;>simp_all
 unfold Tt;rw[this]
def lhR (b ok:Bool) (x:Option (List (List UInt8×Int))) (k:List UInt8×Int):Option AVal:=if b=true then x.map fun ks=>UB ok (ks.contains k)else none
def uhR (b:Bool) (i:Nat) (x:Option (List (List UInt8×Int))) (k:List UInt8×Int) (st:St):Option St:=if b=true then x.map fun ks=> {st with m:=Ar st.m i [.hset (ACz ks k)]}else none
theorem AsY{i:Nat}{s:List UInt8}{p:Int}{ok:Bool}{st:St}:YF E t (.sh i) (.agg [.str s,.int .i64 p]) ok st=lhR (hpT E.P t) ok (hsA (Ae st.m i)) (s,p):=by unfold YF lhR;cases hpT E.P t<;>rfl
theorem As5{i:Nat}{s:List UInt8}{p:Int}{st:St}:ARA E t (.sh i) (.agg [.str s,.int .i64 p]) (.bool true) st=uhR (hpT E.P t) i (hsA (Ae st.m i)) (s,p) st:=by unfold ARA uhR;cases hpT E.P t<;>rfl
theorem Ahc{ok:Bool}{ks:List (List UInt8×Int)}{k:List UInt8×Int}:lhR true ok (some ks) k=some (UB ok (ks.contains k)):=rfl
theorem Aex{i:Nat}{ks:List (List UInt8×Int)}{k:List UInt8×Int}{st:St}:uhR true i (some ks) k st=some {st with m:=Ar st.m i [.hset (ACz ks k)]}:=rfl
theorem Atc{ks:List (List UInt8×Int)}:hsA (some [.hset ks])=some ks:=rfl
theorem AsP:hsA (some [.map [] []])=some []:=rfl
theorem Atg{b:Bool}:UB false b=.bool b:=rfl
theorem Ati{b:Bool}:UB true b=.tuple [.bool b,.bool b]:=rfl
theorem AqM{t0 t1:TypeId}{i:Tmp}{ax y:AVal}:appW E (.tmp i) t0 t1 ax y st=ANm E t0 t1 ax y st:=by unfold appW Ahe;cases ANm E t0 t1 ax y st<;>rfl
def anR (a:Option (Nat×Nat)) (f:Nat→Option (List AVal)) (c:Bool) (st:St):Option (AVal×St):=match a with
 | some (z,b)=>match f z with |some ys=>if c=true then(if Ac ys.length b then some (.sh st.next,{m:=(st.next,[.vec z ys])::st.m,next:=st.next+1})else none)else none|none=>none
 |none=>none
theorem AqY{t0 t1:TypeId}{w:Nat}{xs ys:List AVal}{o p:Bool}:appW E (.const (.slice none 0 0)) t0 t1 (.slice w xs o) (.slice w ys p) st=anR (JL E.P t0) (fun z=>Oc z (.slice w ys p)) (decide (G5 E.P t1=none)&&Ad E.P t1) st:=by
 have:ANm E t0 t1 (.slice w xs o) (.slice w ys p) st=none:=rfl;unfold appW;rw[this];unfold Ahe anR;rcases JL E.P t0 with _|⟨z,b⟩;·rfl
 ·simp only[];cases Oc z (.slice w ys p)with |none=>rfl|some ys=>simp only[Ac,CP,av,au];by_cases h1:G5 E.P t1=none<;>by_cases h2:Ad E.P t1=true<;>simp[h1,h2]<;>congr 1<;>simp[and_comm]
theorem Ae4{z b:Nat}{f:Nat→Option (List AVal)}:anR (some (z,b)) f true st=match f z with|some ys=>(if Ac ys.length b then some (.sh st.next,{m:=(st.next,[.vec z ys])::st.m,next:=st.next+1})else none)|none=>none:=by simp[anR]
end
end Go.VM
set_option linter.unusedVariables false
namespace Go.VM
abbrev MS:=List (Nat×List AVal)
abbrev PQ:=AVal→St→Prop
structure Gl (P:Prop):Prop where go:P
inductive An where |z |q (a b:An) |c (a b:An) |r (mv:List Tmp)
def JO (F:List AVal→St→Prop) (K:APost):APost:=fun e af st=>match e with |.normal=>F af st|e=>K e af st
def YP (id:Nat) (K:APost):APost:=fun e af st=>match e with |.exit id'=>if id'=id then K .normal af st else K (.exit id') af st|e=>K e af st
def nK (K:APost) (af:List AVal) (st:St):Prop:=K .normal af st
def Sn (x:AVal) (X Y:List AVal→St→Prop) (af:List AVal) (st:St):Prop:=match x with |.bool b=>if b=true then X af st else Y af st|_=>False
theorem ACv{E:Env}{c:Code}{Q:APost}{af:List AVal}{st:St} (h:AWp E c Q af st):AWp E (.scope c) Q af st:=⟨fun F Γ w a hd hs=>wp_scope_straight (eO (h.go F Γ w a hd hs) fun e a' w' q=>by cases e<;>first| exact q| exact q.1.elim)⟩
def wpc (E:Env):Code→An→APost→List AVal→St→Prop |.skip,_,K=>fun af st=>K .normal af st|.ret,_,K=>fun af st=>K .ret af st|.exit id,_,K=>fun af st=>K (.exit id) af st|.seq x y,.q a b,K=>wpc E x a (JO (wpc E y b K) K)|.cond c x y,.c a b,K=>fun af st=>Sn (rd E af 0 c) (wpc E x a K) (wpc E y b K) af st|.block id c,a,K=>wpc E c a (YP id K)|.scope c,a,K=>wpc E c a K|.region _ os false,.r mv,K=>LA E mv os os.toList (nK K)|c,_,K=>AWp E c K
section
variable{E:Env}{K:APost}{af:List AVal}{st:St}{x y:Code}{a b:An}{F:List AVal→St→Prop}
theorem AiM:wpc E .skip a K af st=K .normal af st:=by rw[wpc]
theorem AmM:wpc E .ret a K af st=K .ret af st:=by rw[wpc]
theorem Af6{id:Nat}:wpc E (.exit id) a K af st=K (.exit id) af st:=by rw[wpc]
theorem Ak0:wpc E (.seq x y) (.q a b) K af st=wpc E x a (JO (wpc E y b K) K) af st:=by rw[wpc]
theorem Ae9{c:Operand}:wpc E (.cond c x y) (.c a b) K af st=Sn (rd E af 0 c) (wpc E x a K) (wpc E y b K) af st:=by rw[wpc]
theorem Aan{id:Nat}:wpc E (.block id x) a K af st=wpc E x a (YP id K) af st:=by rw[wpc]
theorem AYm:wpc E (.scope x) a K af st=wpc E x a K af st:=by rw[wpc]
theorem ASv{id:Nat}{os:List Oper}{mv:List Tmp}:wpc E (.region id (List.toArray os) false) (.r mv) K af st=LA E mv ⟨os⟩ os (nK K) af st:=by rw[wpc]
theorem Att:wpc E (.seq x y) .z K af st=AWp E (.seq x y) K af st:=by rw[wpc]<;>simp
theorem AiE:wpc E (.loop x) a K af st=AWp E (.loop x) K af st:=by rw[wpc]<;>simp
theorem Agj{id:Nat}{os:Array Oper}:wpc E (.region id os true) a K af st=AWp E (.region id os true) K af st:=by rw[wpc]<;>simp
theorem AkI:JO F K .normal af st=F af st:=rfl
theorem Amh:JO F K .ret af st=K .ret af st:=rfl
theorem Ana{id:Nat}:JO F K (.exit id) af st=K (.exit id) af st:=rfl
theorem Ao6{id:Nat}:YP id K .normal af st=K .normal af st:=rfl
theorem Aq9{id:Nat}:YP id K .ret af st=K .ret af st:=rfl
theorem ArQ{id:Nat}:YP id K (.exit id) af st=K .normal af st:=by simp[YP]
theorem AqP{id id':Nat} (h:id'≠id):YP id K (.exit id') af st=K (.exit id') af st:=by grind[YP]
theorem Arl:nK K af st=K .normal af st:=rfl
theorem AWT{X Y:List AVal→St→Prop}:Sn (.bool true) X Y af st=X af st:=rfl
theorem AVx{X Y:List AVal→St→Prop}:Sn (.bool false) X Y af st=Y af st:=rfl
theorem Ow: ∀ {c:Code} (a:An){K:APost}{af:List AVal}{st:St},wpc E c a K af st→AWp E c K af st:=by
 intro c;induction c with
 |skip=>intro a K af st h;rw[wpc]at h;exact AMW h
 |ret=>intro a K af st h;rw[wpc]at h;exact AVq h
 |exit id=>intro a K af st h;rw[wpc]at h;exact AM0 h
 | seq x y ihx ihy=>
  intro a K af st h;cases a with
  | q a b=>rw[wpc]at h;refine TM ((ihx a h).mono fun e af' st' _ q=>?_);cases e with |normal=>exact ihy b q|_=>exact q
  |_=>(rw[wpc]at h;exact h)<;>(intros;simp_all)
 | cond c x y ihx ihy=>
  intro a K af st h;cases a with
  | c a b=>
   rw[wpc]at h;unfold Sn at h;split at h;·rename_i b' hb;refine AMe b' hb ?_;cases b' with |true=>simp only[aB]at h⊢;grind|false=>simp only[al,aC]at h⊢;grind
   grind
  |_=>(rw[wpc]at h;exact h)<;>(intros;simp_all)
 | block id c ih=>intro a K af st h;rw[wpc]at h;exact ACy ((ih a h).mono fun e af' st' _ q=>by cases e<;>exact q)
 | region id os d=>intro a K af st h;cases d with |true=>(rw[wpc]at h;exact h)<;>(intros;simp_all)| false=>cases a with |r mv=>rw[wpc]at h;exact U3 mv h|_=>(rw[wpc]at h;exact h)<;>(intros;simp_all)
 |loop c ih=>intro a K af st h;(rw[wpc]at h;exact h)<;>(intros;simp_all)
 |rangeFunc f ps x y ihx ihy=>intro a K af st h;(rw[wpc]at h;exact h)<;>(intros;simp_all)
 |scope c ih=>intro a K af st h;rw[wpc]at h;grind[ACv]
 |label l=>intro a K af st h;(rw[wpc]at h;exact h)<;>(intros;simp_all)
 |goto l=>intro a K af st h;(rw[wpc]at h;exact h)<;>(intros;simp_all)
 |refuse w=>intro a K af st h;(rw[wpc]at h;exact h)<;>(intros;simp_all)
end
inductive TK (X Y:Prop):Type|mk
def gK (g:Option Bool) (X Y:Prop) (u:TK X Y):Prop:=match g with|some true=>X|some false=>Y|none=>False
theorem AuR{X Y:Prop}{u:TK X Y}:gK (some true) X Y u=X:=rfl
theorem Aua{X Y:Prop}{u:TK X Y}:gK (some false) X Y u=Y:=rfl
def nxK (b:Bool) (X Y:Prop) (u:TK X Y):Prop:=if b=true then X else Y
theorem AtH{X Y:Prop}{u:TK X Y}:nxK true X Y u=X:=by simp[nxK]
theorem Ata{X Y:Prop}{u:TK X Y}:nxK false X Y u=Y:=by simp[nxK]
section
variable{E:Env}{mv:List Tmp}{ops:Array Oper}{K:List AVal→St→Prop}{af:List AVal}{st:St}{d:Option Tmp}{ty:TypeId}{pos:String}{aft:Array Edge}{g:Option (Nat×Bool)}
theorem Apn{op:Op}{os' os:List Oper}{j:Nat}{want:Bool}:LA E mv ⟨os'⟩ (⟨d,op,ty,pos,aft,some (j,want)⟩::os) K af st=gK (gdD (OU os' j) af want) (Cw E mv ⟨d,op,ty,pos,aft,some (j,want)⟩ af st (LA E mv ⟨os'⟩ os K)) (LA E mv ⟨os'⟩ os K (Aa af d (.tuple [])) st) .mk:=by grind[LA,AVL,gK,gdD,OU]
theorem Auf{op:Op}{os':List Oper}{j:Nat}{want:Bool}:gWp E mv ⟨os'⟩ ⟨d,op,ty,pos,aft,some (j,want)⟩ af st K=gK (gdD (OU os' j) af want) (Cw E mv ⟨d,op,ty,pos,aft,some (j,want)⟩ af st K) (K (Aa af d (.tuple [])) st) .mk:=by grind[gWp,AVL,gK,gdD,OU]
theorem Anj{t:Tmp}{s:List UInt8}{p:Nat}:Zy (.iter s p) t d K af st=nxK (decide (p<s.length)) (K (Aa (af.set t (.iter s (p+(DU s p).2))) d (.tuple [.bool true,.int .i64 p,.int .i32 (DU s p).1])) st) (K (Aa af d (.tuple [.bool false])) st) .mk:=by rw[ASC];rfl
end
section cong
@[congr] theorem Ats {E : Env} {mv : List Tmp} {ops : Array Oper} {os : List Oper} {K : List AVal → St → Prop} {af : List AVal} {st : St} {af' : List AVal} {st' : St} (h0 : af = af') (h1 : st = st') : LA E mv ops os K af st = LA E mv ops os K af' st' := by grind
@[congr] theorem Aty {E : Env} {mv : List Tmp} {o : Oper} {af : List AVal} {st : St} {K : List AVal → St → Prop} {af' : List AVal} {st' : St} (h0 : af = af') (h1 : st = st') : Cw E mv o af st K = Cw E mv o af' st' K := by grind
@[congr] theorem Atz {x : Option AVal} {d : Option Tmp} {K : List AVal → St → Prop} {af : List AVal} {st : St} {x' : Option AVal} {af' : List AVal} {st' : St} (h0 : x = x') (h1 : af = af') (h2 : st = st') : Qk x d K af st = Qk x' d K af' st' := by grind
@[congr] theorem Asr {x : Option AVal} {d : Option Tmp} {K : List AVal → St → Prop} {af : List AVal} {st : St} {x' : Option AVal} {af' : List AVal} {st' : St} (h0 : x = x') (h1 : af = af') (h2 : st = st') : MW x d K af st = MW x' d K af' st' := by grind
@[congr] theorem As0 {z : Option (AVal × St)} {d : Option Tmp} {K : List AVal → St → Prop} {af : List AVal} {z' : Option (AVal × St)} {af' : List AVal} (h0 : z = z') (h1 : af = af') : O1 z d K af = O1 z' d K af' := by grind
@[congr] theorem Atx {b : Bool} {v : AVal} {d : Option Tmp} {K : List AVal → St → Prop} {af : List AVal} {st : St} {b' : Bool} {v' : AVal} {af' : List AVal} {st' : St} (h0 : b = b') (h1 : v = v') (h2 : af = af') (h3 : st = st') : AYW b v d K af st = AYW b' v' d K af' st' := by grind
@[congr] theorem Ar9 {x : Option (List AVal)} {d : Option Tmp} {K : List AVal → St → Prop} {af : List AVal} {st : St} {x' : Option (List AVal)} {af' : List AVal} {st' : St} (h0 : x = x') (h1 : af = af') (h2 : st = st') : Zu x d K af st = Zu x' d K af' st' := by grind
@[congr] theorem AsA {s : Option St} {K : List AVal → St → Prop} {af : List AVal} {s' : Option St} {af' : List AVal} (h0 : s = s') (h1 : af = af') : Qo s K af = Qo s' K af' := by grind
@[congr] theorem AsB {E : Env} {t : TypeId} {v : AVal} {lo : Option (Option Int)} {hi : Option (Option Int)} {mx : Option (Option Int)} {d : Option Tmp} {K : List AVal → St → Prop} {af : List AVal} {st : St} {v' : AVal} {lo' : Option (Option Int)} {hi' : Option (Option Int)} {mx' : Option (Option Int)} {af' : List AVal} {st' : St} (h0 : v = v') (h1 : lo = lo') (h2 : hi = hi') (h3 : mx = mx') (h4 : af = af') (h5 : st = st') : ZU E t v lo hi mx d K af st = ZU E t v' lo' hi' mx' d K af' st' := by grind
@[congr] theorem Ar8 {b : Bool} {v : AVal} {d : Option Tmp} {K : List AVal → St → Prop} {af : List AVal} {st : St} {b' : Bool} {v' : AVal} {af' : List AVal} {st' : St} (h0 : b = b') (h1 : v = v') (h2 : af = af') (h3 : st = st') : AAA b v d K af st = AAA b' v' d K af' st' := by grind
@[congr] theorem AsF {v : AVal} {tm : Tmp} {d : Option Tmp} {K : List AVal → St → Prop} {af : List AVal} {st : St} {v' : AVal} {af' : List AVal} {st' : St} (h0 : v = v') (h1 : af = af') (h2 : st = st') : Zy v tm d K af st = Zy v' tm d K af' st' := by grind
@[congr] theorem AsK {E : Env} {v : AVal} {l : List AVal} {d : Option Tmp} {K : List AVal → St → Prop} {af : List AVal} {st : St} {v' : AVal} {l' : List AVal} {af' : List AVal} {st' : St} (h0 : v = v') (h1 : l = l') (h2 : af = af') (h3 : st = st') : AP0 E v l d K af st = AP0 E v' l' d K af' st' := by grind
@[congr] theorem Aus {b z : Bool} {u : Operand} {t : TypeId} {E : Env} {d : Option Tmp} {K : List AVal → St → Prop} {af : List AVal} {st : St} {b' z' : Bool} {af' : List AVal} {st' : St} (h0 : b = b') (hz : z = z') (h1 : af = af') (h2 : st = st') : mvK b z u t E d K af st = mvK b' z' u t E d K af' st' := by grind
@[congr] theorem Auh {z : Bool} {y : Option (Nat × Nat × List AVal)} {j : Tmp} {v : AVal} {d : Option Tmp} {K : List AVal → St → Prop} {af : List AVal} {st : St} {z' : Bool} {y' : Option (Nat × Nat × List AVal)} {v' : AVal} {af' : List AVal} {st' : St} (h0 : z = z') (hy : y = y') (hv : v = v') (h1 : af = af') (h2 : st = st') : fzK z y j v d K af st = fzK z' y' j v' d K af' st' := by grind
@[congr] theorem At8 {b : Bool} {t : TypeId} {v : AVal} {E : Env} {d : Option Tmp} {K : List AVal → St → Prop} {af : List AVal} {st : St} {b' : Bool} {v' : AVal} {af' : List AVal} {st' : St} (h0 : b = b') (h1 : v = v') (h2 : af = af') (h3 : st = st') : ldK b t v E d K af st = ldK b' t v' E d K af' st' := by grind
@[congr] theorem AtO {F : List AVal → St → Prop} {L : APost} {e : Exit} {af : List AVal} {st : St} {e' : Exit} {af' : List AVal} {st' : St} (h0 : e = e') (h1 : af = af') (h2 : st = st') : JO F L e af st = JO F L e' af' st' := by grind
@[congr] theorem At2 {id : Nat} {L : APost} {e : Exit} {af : List AVal} {st : St} {e' : Exit} {af' : List AVal} {st' : St} (h0 : e = e') (h1 : af = af') (h2 : st = st') : YP id L e af st = YP id L e' af' st' := by grind
@[congr] theorem Au5 {L : APost} {af : List AVal} {st : St} {af' : List AVal} {st' : St} (h0 : af = af') (h1 : st = st') : nK L af st = nK L af' st' := by grind
@[congr] theorem Aso {v : AVal} {F : List AVal → St → Prop} {G : List AVal → St → Prop} {af : List AVal} {st : St} {v' : AVal} {af' : List AVal} {st' : St} (h0 : v = v') (h1 : af = af') (h2 : st = st') : Sn v F G af st = Sn v' F G af' st' := by grind
@[congr] theorem AuU {E : Env} {c : Code} {a : An} {L : APost} {af : List AVal} {st : St} {af' : List AVal} {st' : St} (h0 : af = af') (h1 : st = st') : wpc E c a L af st = wpc E c a L af' st' := by grind
@[congr] theorem AuH {E : Env} {c : Code} {L : APost} {af : List AVal} {st : St} {af' : List AVal} {st' : St} (h0 : af = af') (h1 : st = st') : AWp E c L af st = AWp E c L af' st' := by grind
@[congr] theorem Asq {E : Env} {f : FuncId} {l : List AVal} {st : St} {Q : AVal → St → Prop} {l' : List AVal} {st' : St} (h0 : l = l') (h1 : st = st') : ACall E f l st Q = ACall E f l' st' Q := by grind
@[congr] theorem AsC {E : Env} {mv : List Tmp} {ops : Array Oper} {p : Plan} {tv : List (Nat × AVal)} {K : List AVal → St → Prop} {af : List AVal} {st : St} {tv' : List (Nat × AVal)} {af' : List AVal} {st' : St} (h0 : tv = tv') (h1 : af = af') (h2 : st = st') : Gn E mv ops p tv K af st = Gn E mv ops p tv' K af' st' := by grind
@[congr] theorem Aue {E : Env} {mv : List Tmp} {os : List Oper} {x : Option AVal} {i : Nat} {d : Option Tmp} {p : Plan} {tv : List (Nat × AVal)} {K : List AVal → St → Prop} {af : List AVal} {st : St} {x' : Option AVal} {tv' : List (Nat × AVal)} {af' : List AVal} {st' : St} (h0 : x = x') (h1 : tv = tv') (h2 : af = af') (h3 : st = st') : tkR E mv os x i d p tv K af st = tkR E mv os x' i d p tv' K af' st' := by grind
@[congr] theorem AuI {E : Env} {mv : List Tmp} {os : List Oper} {w : Option Oper} {i : Nat} {p : Plan} {tv : List (Nat × AVal)} {K : List AVal → St → Prop} {af : List AVal} {st : St} {w' : Option Oper} {tv' : List (Nat × AVal)} {af' : List AVal} {st' : St} (h0 : w = w') (h1 : tv = tv') (h2 : af = af') (h3 : st = st') : tkO E mv os w i p tv K af st = tkO E mv os w' i p tv' K af' st' := by grind
@[congr] theorem At0 {E : Env} {mv : List Tmp} {os : List Oper} {chk : List Nat} {p : Plan} {tv : List (Nat × AVal)} {K : List AVal → St → Prop} {af : List AVal} {st : St} {tv' : List (Nat × AVal)} {af' : List AVal} {st' : St} (h0 : tv = tv') (h1 : af = af') (h2 : st = st') : Ahx E mv os chk p tv K af st = Ahx E mv os chk p tv' K af' st' := by grind
@[congr] theorem At1 {E : Env} {mv : List Tmp} {os : List Oper} {w : Option Oper} {chk : List Nat} {p : Plan} {tv : List (Nat × AVal)} {K : List AVal → St → Prop} {af : List AVal} {st : St} {w' : Option Oper} {tv' : List (Nat × AVal)} {af' : List AVal} {st' : St} (h0 : w = w') (h1 : tv = tv') (h2 : af = af') (h3 : st = st') : Al1 E mv os w chk p tv K af st = Al1 E mv os w' chk p tv' K af' st' := by grind
@[congr] theorem Aux {E : Env} {mv : List Tmp} {ops : Array Oper} {o : Oper} {af : List AVal} {st : St} {K : List AVal → St → Prop} {af' : List AVal} {st' : St} (h0 : af = af') (h1 : st = st') : gWp E mv ops o af st K = gWp E mv ops o af' st' K := by grind
@[congr] theorem Au4 {g : Option Bool} {X : Prop} {Y : Prop} {u : TK X Y} {g' : Option Bool} (h0 : g = g') : gK g X Y u = gK g' X Y u := by grind
@[congr] theorem Atw {d : Option Tmp} {K : List AVal → St → Prop} {af : List AVal} {r : AVal} {sx : St} {af' : List AVal} {r' : AVal} {sx' : St} (h0 : af = af') (h1 : r = r') (h2 : sx = sx') : AbJ d K af r sx = AbJ d K af' r' sx' := by grind
@[congr] theorem At6 {b : Bool} {X : Prop} {Y : Prop} {u : TK X Y} {b' : Bool} (h0 : b = b') : nxK b X Y u = nxK b' X Y u := by grind
end cong
section rules
variable{E:Env}{K Q:APost}{af:List AVal}{st:St}{x y c:Code}
theorem ent{f:FuncId}{fn:Func}{nt:Nat}{rs:List ResultVar}{args:List AVal}{m m':MS}{n:Nat}{r':AVal}{Q:PQ} (hQ: ∀n',n≤n'→Gl (Q r' ⟨m',n'⟩)) (hf:E.P.funcs[f]?=some fn) (hb:fn.body=some c) (hn:fn.ntmps=nt) (hr:fn.results=rs.toArray) (a:An) (h: ∀R:APost,(∀af st xs m0 m1 n',PY E rs af st=some (xs,⟨m1,n'⟩)→m0.Sublist m1→m0=m'→n≤n'→RZ xs=r'→R .ret af st∧R .normal af st)→Gl (wpc E c a R (args++List.replicate (nt-args.length) .any) ⟨m,n⟩)):ACall E f args ⟨m,n⟩ Q:=by
 refine LD hf hb ?_;have hw:=Ow a (h (JY E fn Q) ?_).go;·grind
 ·intro af st xs m0 m1 n' h1 h2 h0 h3 h4;subst h0;have e:fn.results.toList=rs:=by rw[hr]
  subst h4;exact⟨Jt (by rw[e];omega) h2 (hQ n' h3).go,Js (by rw[e];omega) h2 (hQ n' h3).go⟩
theorem Asw{f:FuncId}{fn:Func}{nt:Nat}{rs:List ResultVar}{args:List AVal}{m m':MS}{n:Nat}{r':AVal}{Q:PQ} (hQ: ∀n',n≤n'→Gl (Q r' ⟨m',n'⟩)) (hf:E.P.funcs[f]?=some fn) (hb:fn.body=some c) (hn:fn.ntmps=nt) (hr:fn.results=rs.toArray) (a:An) (h: ∀R:APost,(∀af st xs m0 m1 n',PY E rs af st=some (xs,⟨m1,n'⟩)→m0.Sublist m1→m0=m'→n≤n'→(RZ xs).strip=r'→R .ret af st∧R .normal af st)→Gl (wpc E c a R (args++List.replicate (nt-args.length) .any) ⟨m,n⟩)):ACall E f args ⟨m,n⟩ Q:=by
 refine ACall.strip (LD hf hb ?_);have hw:=Ow a (h (JY E fn fun r st'=>Q r.strip st') ?_).go;·grind
 ·intro af st xs m0 m1 n' h1 h2 h0 h3 h4;subst h0;have e:fn.results.toList=rs:=by rw[hr]
  subst h4;exact⟨Jt (by rw[e];omega) h2 (hQ n' h3).go,Js (by rw[e];omega) h2 (hQ n' h3).go⟩
theorem Og{id:Nat}{os:List Oper} (mv:List Tmp) (plan:Plan) (hm:E.P.follows .mixedOrders=true) (hok:JA (List.toArray os) plan false (Array.replicate (List.toArray os).size false) []=true) (h:Gl (Gn E mv ⟨os⟩ plan [] (nK Q) af st)):AWp E (.region id (List.toArray os) true) Q af st:=RX mv plan hm hok h.go
theorem Sc{α β γ:Type}{k0:α→Option β}{body:(α→Option β)→Option β}{r:β}{m:MS}{n:Nat}{T:Prop}{d:JD α} (h:T∧AA k0 body d=some r) (js cs:List Tmp) (V:α→γ→List AVal) (M:α→γ→MS) (a:An) (rest: ∀j g n',n≤n'→keysLt n' (M j g)→((M j g).map (·.1)).Nodup→T∧k0 j=some r→AWp E y Q (setVals (Ag js af) cs (V j g)) ⟨M j g,n'⟩) (first: ∀(k:α→Option β) (J:List AVal→St→Prop),(∀j g af' m0 m1 n',k j=some r→m0.Sublist m1→m0=M j g→Ag cs (Ag js af')=Ag cs (Ag js af)→Cb (Ag js af') cs=V j g→n≤n'→J af' ⟨m1,n'⟩)→T∧body k=some r→Gl (wpc E x a (JO J Q) af ⟨m,n⟩)):AWp E (.seq x y) Q af ⟨m,n⟩:=by
 refine TM ?_;have key:=Ow a (first k0 (fun af' st'=>AWp E y Q af' ⟨st'.m,st'.next⟩) ?_ h).go;·exact key.mono fun e af' st' _ q=>by cases e<;>exact q
 ·intro j g af' m0 m1 n' h1 h2 h3 h4 h5 h6;subst h3;refine Rh js (AZ6 (m:=M j g) h2 ?_);grind[AWp.known,AWp.nodup,Ka]
theorem Aec{σ β γ:Type}{r:β}{m:MS}{n:Nat}{T:Prop} (G:Nat→σ→Option β) (V:σ→γ→List AVal) (M:σ→γ→MS) (js cs:List Tmp) (s0:σ) (g0:γ){k0:Nat} (h:T∧G k0 s0=some r) (hz: ∀s,G 0 s=none) (hm:m=M s0 g0) (hv:Cb (Ag js af) cs=V s0 g0) (round: ∀k s g n',n≤n'→keysLt n' (M s g)→T∧G (k+1) s=some r→∀J:List AVal→St→Prop,(∀s' g' af' m0 m1 n'',G k s'=some r→m0.Sublist m1→m0=M s' g'→Ag cs (Ag js af')=Ag cs (Ag js af)→Cb (Ag js af') cs=V s' g'→n'≤n''→J af' ⟨m1,n''⟩)→AWp E c (JO J Q) (setVals (Ag js af) cs (V s g)) ⟨M s g,n'⟩):AWp E (.loop c) Q af ⟨m,n⟩:=by
 refine ZY js cs (fun k vs st'=>∃s g,vs=V s g∧st'.m=M s g∧n≤st'.next∧G k s=some r) k0 ⟨s0,g0,hv,hm,aq _,h.2⟩ ?_;rintro k vs ⟨m',n'⟩ ⟨s,g,rfl,hm',hn,hG⟩ J hJ;simp only at hm' hn;subst hm';cases k with
 |zero=>grind
 | succ k=>
  refine AWp.known fun _ hk=>?_;refine(round k s g n' hn hk ⟨h.1,hG⟩ J ?_).mono fun e af' st' _ q=>by cases e<;>first| exact Mt q| exact .oth fg q
  intro s' g' af' m0 m1 n'' h1 h2 h3 h4 h5 h6;exact hJ k af' ⟨m1,n''⟩ m0 (Nat.lt_succ_self _) h2 h4 ⟨s',g',h5,h3,bB hn h6,h1⟩
theorem AZ7{α:Type}{L pre suf:List α}{x:α} (h:L=pre++x::suf) (hL:AC L.length):decide ((pre.length:Int)<(L.length:Int))=true∧idx L (pre.length:Int)=some x∧wr .i64 ((pre.length:Int)+1)=(pre.length:Int)+1:=by subst h;unfold AC at hL;simp only[ah,ag]at hL;refine⟨by simp only[au,ah,ag];omega,by simp[idx],?_⟩;grind[wr,IntKind.wrap,IntKind.bits,IntKind.signed]
theorem AgS{σ β γ:Type}{r:β}{m:MS}{n:Nat}{T:Prop} (i0 b:Int) (hL: -4611686018427387904≤i0∧b≤4611686018427387904) (G:Nat→Int→σ→Option β) (V:Int→σ→γ→List AVal) (M:Int→σ→γ→MS) (js cs:List Tmp) (s0:σ) (g0:γ) (h:T∧G (b-i0).toNat i0 s0=some r) (hm:m=M i0 s0 g0) (hv:Cb (Ag js af) cs=V i0 s0 g0) (rnil: ∀i s g n',n≤n'→keysLt n' (M i s g)→(decide (i<b)=false∧T)∧G 0 i s=some r→AWp E c (JO (fun _ _=>False) Q) (setVals (Ag js af) cs (V i s g)) ⟨M i s g,n'⟩) (rcons: ∀k i s g n',n≤n'→keysLt n' (M i s g)→(decide (i<b)=true∧wr .i64 (i+1)=i+1∧T)∧G (k+1) i s=some r→∀J:List AVal→St→Prop,(∀s' g' af' m0 m1 n'',G k (i+1) s'=some r→m0.Sublist m1→m0=M (i+1) s' g'→Ag cs (Ag js af')=Ag cs (Ag js af)→Cb (Ag js af') cs=V (i+1) s' g'→n'≤n''→J af' ⟨m1,n''⟩)→AWp E c (JO J Q) (setVals (Ag js af) cs (V i s g)) ⟨M i s g,n'⟩):AWp E (.loop c) Q af ⟨m,n⟩:=by
 refine ZY js cs (fun k vs st'=>∃i s g,i0≤i∧k=(b-i).toNat∧vs=V i s g∧st'.m=M i s g∧n≤st'.next∧G k i s=some r) (b-i0).toNat ⟨i0,s0,g0,bg _,rfl,hv,hm,aq _,h.2⟩ ?_;rintro k vs ⟨m',n'⟩ ⟨i,s,g,hi,hk',rfl,hm',hn,hG⟩ J hJ;simp only at hm' hn;subst hm';cases k with
 | zero=>refine AWp.known fun _ hk=>?_;refine(rnil _ s g n' hn hk ⟨⟨by grind,h.1⟩,hG⟩).mono fun e af' st' _ q=>by cases e<;>first| exact q.elim| exact .oth fg q
 | succ k=>
  refine AWp.known fun _ hk=>?_;have hw:wr .i64 (i+1)=i+1:=by grind[wr,IntKind.wrap,IntKind.bits,IntKind.signed]
  refine(rcons k i s g n' hn hk ⟨⟨by simp only[au];omega,hw,h.1⟩,hG⟩ J ?_).mono fun e af' st' _ q=>by cases e<;>first| exact Mt q| exact .oth fg q
  intro s' g' af' m0 m1 n'' h1 h2 h3 h4 h5 h6;exact hJ k af' ⟨m1,n''⟩ m0 fg h2 h4 ⟨i+1,s',g',ff,ff,h5,h3,bB hn h6,h1⟩
theorem Ch (a:An) (h:Gl (wpc E c a K af st)):AWp E c K af st:=Ow a h.go
end rules
theorem AU5{A B:Prop} (a:Gl A) (b:Gl B):Gl (A∧B):=⟨a.go,b.go⟩
theorem KH{α:Type}{c:Bool}{x y:Option α}{r:α}{T:Prop} (h:T∧(if c=true then x else y)=some r):((c=true∧T)∧x=some r)∨((c=false∧T)∧y=some r):=by
 cases c;·exact .inr ⟨⟨rfl,h.1⟩,h.2⟩
 ·exact .inl ⟨⟨rfl,h.1⟩,h.2⟩
theorem FQ{α β:Type}{x:Option α}{f:α→Option β}{r:β}{T:Prop} (h:T∧Option.bind x f=some r): ∃y,(x=some y∧T)∧f y=some r:=by obtain⟨y,h1,h2⟩:=bind_some h.2;grind
theorem MK{α:Type}{c:Prop} [Decidable c]{x:Option α}{r:α}{T:Prop} (h:T∧grd c x=some r):c∧T∧x=some r:=by grind[AAO]
theorem J4{A B C:Prop} (a:A) (h:B∧C):(A∧B)∧C:=⟨⟨a,h.1⟩,h.2⟩
end Go.VM
set_option linter.unusedVariables false
set_option linter.defProp false
set_option maxRecDepth 100000
namespace Go.VM
section
variable{E:Env}{af:List AVal}{t:TypeId}
def fdA (r:Option (Nat×Nat×Bool)) (cs:List AVal):Option AVal:=match r with|some (off,z,g)=>UG cs off z g|none=>none
theorem Aky{s:TypeId}{cs:List AVal}{f:Nat}:UU E s (.agg cs) f=fdA (AU E.P s f) cs:=by unfold UU fdA;rcases AU E.P s f with _|⟨_,_,_⟩<;>rfl
theorem AjB{off z:Nat}{g:Bool}{cs:List AVal}:fdA (some (off,z,g)) cs=UG cs off z g:=rfl
theorem AnD{r:AVal}:RZ [r]=r:=rfl
theorem Akm:RZ []=.tuple []:=rfl
theorem Am5{a b:AVal}{l:List AVal}:RZ (a::b::l)=.tuple (a::b::l):=rfl
theorem Ai0:Ag [] af=af:=rfl
theorem Aah{j:Tmp}{js:List Tmp}:Ag (j::js) af=Ag js (af.set j .any):=rfl
theorem Arz{vs:List AVal}:setVals af [] vs=af:=by cases vs<;>rfl
theorem Akw{c:Tmp}{cs:List Tmp}{v:AVal}{vs:List AVal}:setVals af (c::cs) (v::vs)=setVals (af.set c v) cs vs:=rfl
theorem Arc:Cb af []=[]:=rfl
theorem Am2{c:Tmp}{cs:List Tmp}:Cb af (c::cs)=af.getD c .any::Cb af cs:=rfl
theorem AeA{r:AVal}:Aa af none r=af:=rfl
theorem AgK{d:Tmp}{r:AVal}:Aa af (some d) r=af.set d r:=rfl
theorem Al2{i:Tmp}:stripAt af (.tmp i)=af.set i (af.getD i .any).strip:=rfl
theorem Amy{l:List AVal}:AVal.strip (.agg l)=.agg (stripL l):=by rw[AVal.strip]
theorem AXZ{l:List AVal}:AVal.strip (.tuple l)=.tuple (stripL l):=by rw[AVal.strip]
theorem AYd{w:Nat}{l:List AVal}{o:Bool}:AVal.strip (.slice w l o)=.slice w l false:=by rw[AVal.strip]
theorem AdN{s:List UInt8}{p:Nat}:AVal.strip (.iter s p)=.any:=by rw[AVal.strip]
theorem AgW:stripL []=[]:=by rw[stripL]
theorem Aqw{x:AVal}{bs:List Bool}{xs:List AVal}:stripB (true::bs) (x::xs)=x.strip::stripB bs xs:=by rw[stripB]
theorem Aql{x:AVal}{bs:List Bool}{xs:List AVal}:stripB (false::bs) (x::xs)=x::stripB bs xs:=by rw[stripB]
theorem Aqp{xs:List AVal}:stripB [] xs=xs:=by rw[stripB]
theorem AZ3{x:AVal}{l:List AVal}:stripL (x::l)=x.strip::stripL l:=by rw[stripL]
theorem ArL{i:Tmp}:rd E af t (.tmp i)=af.getD i .any:=rfl
theorem Afg{v:Value}:rd E af t (.const v)=JZ (Hr E.P t) v:=rfl
theorem AmJ{g:FuncId}:rd E af t (.func g)=.fn (.func g) [] []:=rfl
end
def vmC:=ac (ac (ac (ac (ac (ac (ac (ac (ac (@AWw) (@ASc)) (ac (@ATM) (@AZZ))) (ac (ac (@AMc) (@ARO)) (ac (@AHc) (ac (@AHC) (@AOU))))) (ac (ac (ac (@Ag9) (@Afo)) (ac (@Agr) (ac (@Agq) (@AXA)))) (ac (ac (@AhH) (@AbB)) (ac (@Anz) (ac (@AaQ) (@AjA)))))) (ac (ac (ac (ac (@Ape) (@AgE)) (ac (@ABT) (@AnX))) (ac (ac (@AfG) (@AUe)) (ac (@Acz) (ac (@AZK) (@Ah3))))) (ac (ac (ac (@AS4) (@AkM)) (ac (@Al8) (ac (@AVK) (@Alj)))) (ac (ac (@AMA) (@Afk)) (ac (@AlC) (ac (@AUN) (@AOS))))))) (ac (ac (ac (ac (ac (@AFe) (@Afs)) (ac (@AG3) (@Ae2))) (ac (ac (@Arp) (@Aq1)) (ac (@Arj) (ac (@AmE) (@Adx))))) (ac (ac (ac (@AZi) (@Akd)) (ac (@AQT) (ac (@AoB) (@AnO)))) (ac (ac (@AQk) (@Adj)) (ac (@ABm) (ac (@AlD) (@AN4)))))) (ac (ac (ac (ac (@Aga) (@Amw)) (ac (@AR6) (@APB))) (ac (ac (@AKL) (@Af4)) (ac (@AJW) (ac (@Acv) (@Apq))))) (ac (ac (ac (@Aq8) (@Apo)) (ac (@Apv) (ac (@Af3) (@AeG)))) (ac (ac (@Aal) (@Aeq)) (ac (@AWx) (ac (@Abi) (@Abp)))))))) (ac (ac (ac (ac (ac (ac (@Ahy) (@Ak7)) (ac (@Ai3) (@AZa))) (ac (ac (@AtJ) (@Ato)) (ac (@Asn) (ac (@AtI) (@AgO))))) (ac (ac (ac (@AfB) (@AmZ)) (ac (@Alp) (ac (@AiR) (@AXn)))) (ac (ac (@ArC) (@AXy)) (ac (@ArV) (ac (@AbF) (@Ad6)))))) (ac (ac (ac (ac (@AYu) (@AWm)) (ac (@Aim) (@AYf))) (ac (ac (@ASL) (@Agh)) (ac (@ALe) (ac (@VL) (@AVy))))) (ac (ac (ac (@AWh) (@Ou)) (ac (@ApK) (ac (@AqN) (@ArU)))) (ac (ac (@ApA) (@ArY)) (ac (@Aqy) (ac (@AtP) (@AqH))))))) (ac (ac (ac (ac (ac (@AXF) (@Apu)) (ac (@ApB) (@Ap0))) (ac (ac (@Apy) (@AqZ)) (ac (@ApD) (ac (@Aqv) (@Aoy))))) (ac (ac (ac (@AmY) (@Alm)) (ac (@Aln) (ac (@Akn) (@AnC)))) (ac (ac (@AmD) (@Akl)) (ac (@Akq) (ac (@Akc) (@Aq5)))))) (ac (ac (ac (ac (@AZE) (@Abs)) (ac (@Ao5) (ac (@Adt) (@Amj)))) (ac (ac (@Aqh) (@Ag8)) (ac (@Ac9) (ac (@ATf) (@bytesOf_map))))) (ac (ac (ac (@Qm) (@AOT)) (ac (@ANH) (ac (@ApO) (ac (@Ao4) (@Ap4))))) (ac (ac (@List.append_eq.{0}) (@cp.{0,0})) (ac (@ah.{0}) (ac (@bg) (@Int.natCast_nonneg))))))))) (ac (ac (ac (ac (ac (ac (ac (@cL.{0}) (@dC.{0})) (ac (@be) (@d6))) (ac (ac (@cr) (@bL)) (ac (@bI) (ac (@b8.{0,0}) (@Nat.left_eq_add))))) (ac (ac (ac (@eQ) (@Nat.one_ne_zero)) (ac (@Nat.succ_ne_self) (ac (@eJ) (@cu)))) (ac (ac (@ag.{0}) (@an.{0})) (ac (@dp.{0}) (ac (@List.replicate_zero.{0}) (@bA.{0})))))) (ac (ac (ac (ac (@bv.{0}) (@bf.{0})) (ac (@dq.{0}) (@cJ.{0}))) (ac (ac (@bU.{0}) (@cv.{0})) (ac (@aI.{0,0}) (ac (@bK.{0,0}) (@aa.{0,0}))))) (ac (ac (ac (@Option.bind_none.{0,0}) (@ez.{0})) (ac (@bu.{0}) (ac (@List.elem_nil.{0}) (@List.elem_cons.{0})))) (ac (ac (@aB.{1}) (@aC.{1})) (ac (@al) (ac (@ed) (@aJ.{0}))))))) (ac (ac (ac (ac (ac (@List.drop_succ_cons.{0}) (@b7.{0})) (ac (@bO) (@bD))) (ac (ac (@cm.{0}) (@eK.{0})) (ac (@cK.{0}) (ac (@fd) (@dk))))) (ac (ac (ac (@dK) (@bb)) (ac (@cV.{0}) (ac (@Option.isNone_some.{0}) (@dw.{0})))) (ac (ac (@bV.{0}) (@decide_true)) (ac (@dT) (ac (@and_self) (@dB)))))) (ac (ac (ac (ac (@cq) (@aq)) (ac (@c7.{0}) (ac (@dj.{0}) (@bW.{0})))) (ac (ac (@ite_self.{1}) (@aE.{0,0})) (ac (@cc.{0,0}) (ac (@List.range_succ) (@List.range_zero))))) (ac (ac (ac (@bh.{0}) (@eM.{0})) (ac (@dJ) (ac (@cd) (@ae.{0})))) (ac (ac (@bz) (@true_or)) (ac (@or_true) (ac (@false_or) (@eF)))))))) (ac (ac (ac (ac (ac (ac (@cD) (@not_false_eq_true)) (ac (@ew.{1}) (@rdL.eq_1))) (ac (ac (@rdL.eq_2) (@rdL.eq_3)) (ac (@rdo.eq_1) (ac (@rdo.eq_2) (@BR.eq_1))))) (ac (ac (ac (@BR.eq_2) (@OI.eq_1)) (ac (@OI.eq_2) (ac (@OU.eq_1) (@OU.eq_2)))) (ac (ac (@OU.eq_3) (@opAt.eq_1)) (ac (@opAt.eq_2) (ac (@opAt.eq_3) (@WE.eq_1)))))) (ac (ac (ac (ac (@WE.eq_2) (@AX.eq_1)) (ac (@CV.eq_1) (@CV.eq_2))) (ac (ac (@CV.eq_3) (@putCells.eq_1)) (ac (@putCells.eq_2) (ac (@UG.eq_1) (@QV.eq_1))))) (ac (ac (ac (@QJ.eq_1) (@QJ.eq_2)) (ac (@RI.eq_1) (ac (@RI.eq_2) (@Nb.eq_1)))) (ac (ac (@Aky) (@AjB)) (ac (@MN.eq_1) (ac (@MN.eq_2) (@MN.eq_3))))))) (ac (ac (ac (ac (ac (@MN.eq_4) (@JZ.eq_1)) (ac (@JZ.eq_2) (@JZ.eq_3))) (ac (ac (@JZ.eq_4) (@JZ.eq_5)) (ac (@JZ.eq_6) (ac (@JZ.eq_7) (@JZ.eq_8))))) (ac (ac (ac (@Rm.eq_1) (@Xq.eq_1)) (ac (@Xq.eq_2) (ac (@Gw.eq_1) (@QG.eq_1)))) (ac (ac (@QG.eq_2) (@Abd.eq_1)) (ac (@Abd.eq_2) (ac (@Aaq.eq_1) (@Aaq.eq_2)))))) (ac (ac (ac (ac (@CP.eq_1) (@PY.eq_1)) (ac (@PY.eq_2) (ac (@PY.eq_3) (@Vv.eq_1)))) (ac (ac (@Vv.eq_2) (@AnT)) (ac (@Ag4) (ac (@AnU) (@AoC))))) (ac (ac (ac (@Alk) (@Acp)) (ac (@AfQ) (ac (@Ard) (@AZf)))) (ac (ac (@AYX) (@AGH)) (ac (@AbC) (ac (@Abm) (@Adz)))))))))) (ac (ac (ac (ac (ac (ac (ac (ac (@Al6) (@Ak8)) (ac (@AlU) (@Aeu))) (ac (ac (@AhG) (@ApT)) (ac (@AZt) (ac (@AZO) (@AFs))))) (ac (ac (ac (@Am6) (@AYk)) (ac (@Apn) (ac (@Auf) (@Anj)))) (ac (ac (@AuR) (@Aua)) (ac (@AtH) (ac (@Ata) (@AiM)))))) (ac (ac (ac (ac (@AmM) (@Af6)) (ac (@Ak0) (@Ae9))) (ac (ac (@Aan) (@AYm)) (ac (@ASv) (ac (@Att) (@AiE))))) (ac (ac (ac (@Agj) (@AkI)) (ac (@Amh) (ac (@Ana) (@Ao6)))) (ac (ac (@Aq9) (@ArQ)) (ac (@AqP) (ac (@Arl) (@AWT))))))) (ac (ac (ac (ac (ac (@AVx) (@AnD)) (ac (@Akm) (@Am5))) (ac (ac (@Ai0) (@Aah)) (ac (@Arz) (ac (@Akw) (@Arc))))) (ac (ac (ac (@Am2) (@AeA)) (ac (@AgK) (ac (@Al2) (@AZ8)))) (ac (ac (@Aiu) (@AeL)) (ac (@Ang) (ac (@AdK) (@Ak6)))))) (ac (ac (ac (ac (@Aml) (@AkR)) (ac (@Agz) (ac (@Aiz) (@Apl)))) (ac (ac (@AbS) (@AbQ)) (ac (@AIE) (ac (@Amy) (@AXZ))))) (ac (ac (ac (@AYd) (@AdN)) (ac (@AgW) (ac (@AZ3) (@Aqw)))) (ac (ac (@Aql) (@Aqp)) (ac (@ArL) (ac (@Afg) (@AmJ)))))))) (ac (ac (ac (ac (ac (ac (@AmN) (@AnN)) (ac (@AY5) (@AXw))) (ac (ac (@AX3) (@AJ2)) (ac (@Ae8) (ac (@Alc) (@Aqz))))) (ac (ac (ac (@ApL) (@Ao3)) (ac (@ArZ) (ac (@AqF) (@AqL)))) (ac (ac (@Aow) (@Arw)) (ac (@ArH) (ac (@Ag3) (@Agy)))))) (ac (ac (ac (ac (@Apd) (@Ahz)) (ac (@ApV) (@Ait))) (ac (ac (@An9) (@ArF)) (ac (@Agn) (ac (@Apm) (@Afc))))) (ac (ac (ac (@AuE) (@Aq3)) (ac (@Apw) (ac (@Acu) (@ApQ)))) (ac (ac (@Arf) (@Ap8)) (ac (@Aqu) (ac (@AqU) (@Aps))))))) (ac (ac (ac (ac (ac (@Akj) (@AmH)) (ac (@Aqq) (@Aks))) (ac (ac (@Amn) (@Ar3)) (ac (@Afj) (ac (@Anw) (@AW6))))) (ac (ac (ac (@Akf) (@Adr)) (ac (@AmC) (ac (@AYP) (@AkT)))) (ac (ac (@Ami) (@AaJ)) (ac (@AnR) (ac (@AAG) (@AWn)))))) (ac (ac (ac (ac (@AaR) (@AZo)) (ac (@AYh) (ac (@AdQ) (@AiG)))) (ac (ac (@AY8) (@AAb)) (ac (@AZz) (ac (@AWo) (@Alh))))) (ac (ac (ac (@Amo) (@AbH)) (ac (@AiO) (ac (@AVB) (@WY)))) (ac (ac (@Vj) (@AYg)) (ac (@Aoq) (ac (@Aou) (@AqV))))))))) (ac (ac (ac (ac (ac (ac (ac (@AV9) (@XU.eq_1)) (ac (@Al5) (@Ahj))) (ac (ac (@AnM) (@AlT)) (ac (@AnI) (ac (@Aam) (@Aaz))))) (ac (ac (ac (@Alq) (@Ah7)) (ac (@AhF) (ac (@Aq4) (@Aba)))) (ac (ac (@AYD) (@AE9)) (ac (@AlM) (ac (@AXD) (@AmG)))))) (ac (ac (ac (ac (@Aiw) (@Aau)) (ac (@ASQ) (@AhE))) (ac (ac (@Ail) (@Ai1)) (ac (@Ada) (ac (@AiI) (@ApY))))) (ac (ac (ac (@AlP) (@Aqo)) (ac (@AhO) (ac (@Aez) (@Ann)))) (ac (ac (@Ak5) (@AeP)) (ac (@Af2) (ac (@Adv) (@AfF))))))) (ac (ac (ac (ac (ac (@AeR) (@AiB)) (ac (@Ahu) (@AiD))) (ac (ac (@Aon) (@Ag0)) (ac (@Ahs) (ac (@Ani) (@AsV))))) (ac (ac (ac (@Af8) (@AqQ)) (ac (@Atn) (ac (@AsG) (@Aoz)))) (ac (ac (@Ar7) (@AtU)) (ac (@AtA) (ac (@AhP) (@Arb)))))) (ac (ac (ac (ac (@Aqa) (@Aqk)) (ac (@ApP) (ac (@Aov) (@Arh)))) (ac (ac (@Apr) (@AlN)) (ac (@Au2) (ac (ac (@Akh) (ac (@Arr) (@Atm))) (ac (@AlI) (@AlW)))))) (ac (ac (ac (@As9) (@Atk)) (ac (@Air) (ac (@Anl) (@Aqx)))) (ac (ac (@Ais) (@AhK)) (ac (@AXj) (ac (@Ai9) (@AgQ)))))))) (ac (ac (ac (ac (ac (ac (@AkJ) (@Amu)) (ac (@Aii) (@Apx))) (ac (ac (@ApF) (@Aqf)) (ac (@AoA) (ac (@App) (@ApW))))) (ac (ac (ac (@Ac8) (@Ahw)) (ac (@ArB) (ac (@Aru) (@Alb)))) (ac (ac (ac (@AsE) (ac (ac (@AaI) (@AYw)) (ac (@AsX) (ac (@AsM) (@Ate))))) (@AqD)) (ac (@AqT) (ac (@An4) (@Agc)))))) (ac (ac (ac (ac (@Aic) (@Ae3)) (ac (@Ac7) (@Ai2))) (ac (ac (@Ac3) (@Ane)) (ac (@Aqj) (ac (@AeO) (@Abz))))) (ac (ac (ac (@AsW) (@ApS)) (ac (@Ad2) (ac (@Aae) (@AYv)))) (ac (ac (@Ahm) (@AeD)) (ac (@Asu) (ac (@AgD) (@AfI))))))) (ac (ac (ac (ac (ac (@Asz) (@Af7)) (ac (@ArT) (@AeY))) (ac (ac (@Ai6) (@AhI)) (ac (@AgF) (ac (@AjG) (@AmL))))) (ac (ac (ac (@Afi) (@AhM)) (ac (@As7) (ac (@AsZ) (@Asx)))) (ac (ac (@AiY) (@AdP)) (ac (@AtT) (ac (@Atl) (@AhN)))))) (ac (ac (ac (ac (@As4) (@AtV)) (ac (@AlF) (ac (@AtM) (@AiJ)))) (ac (ac (@Ade) (@An5)) (ac (@AnS) (ac (@AeC) (@Aly))))) (ac (ac (ac (ac (@Ak4) (ac (@AmX) (@AhU))) (ac (ac (ac (@Ac1) (@Agt)) (ac (@AtG) (@Asl))) (ac (@AkL) (@Afh)))) (ac (@AsL) (ac (ac (ac (@Ash) (@AeF)) (ac (ac (@AqM) (@AqY)) (@Ae4))) (ac (ac (ac (@AqA) (@AqG)) (ac (@Apj) (@ArX))) (ac (ac (ac (@AsY) (@As5)) (ac (@Ahc) (@Aex))) (ac (ac (@Atc) (@AsP)) (ac (@Atg) (@Ati)))))))) (ac (ac (@bN.{0}) (@List.getElem?_map.{0,0})) (ac (@bQ.{0}) (ac (@fb) (@ca.{0}))))))))))
def liE:=ac (ac (ac (ac (ac (ac (@List.append_eq.{0}) (@cp.{0,0})) (ac (@ah.{0}) (ac (@bg) (@Int.natCast_nonneg)))) (ac (ac (@cL.{0}) (@dC.{0})) (ac (@be) (ac (@d6) (@cr))))) (ac (ac (ac (@bL) (@bI)) (ac (@b8.{0,0}) (ac (@Nat.left_eq_add) (@eQ)))) (ac (ac (@Nat.one_ne_zero) (ac (@Nat.succ_ne_self) (@eJ))) (ac (@cu) (ac (@ag.{0}) (@an.{0})))))) (ac (ac (ac (ac (@dp.{0}) (@List.replicate_zero.{0})) (ac (@bA.{0}) (ac (@bv.{0}) (@bf.{0})))) (ac (ac (@dq.{0}) (@cJ.{0})) (ac (@bU.{0}) (ac (@cv.{0}) (@aI.{0,0}))))) (ac (ac (ac (@bK.{0,0}) (@aa.{0,0})) (ac (@Option.bind_none.{0,0}) (ac (@ez.{0}) (@bu.{0})))) (ac (ac (@List.elem_nil.{0}) (ac (@List.elem_cons.{0}) (@aB.{1}))) (ac (@aC.{1}) (ac (@al) (@ed))))))) (ac (ac (ac (ac (ac (@aJ.{0}) (@List.drop_succ_cons.{0})) (ac (@b7.{0}) (ac (@bO) (@bD)))) (ac (ac (@cm.{0}) (@eK.{0})) (ac (@cK.{0}) (ac (@fd) (@dk))))) (ac (ac (ac (@dK) (@bb)) (ac (@cV.{0}) (ac (@Option.isNone_some.{0}) (@dw.{0})))) (ac (ac (@bV.{0}) (ac (@decide_true) (@dT))) (ac (@and_self) (ac (@dB) (@cq)))))) (ac (ac (ac (ac (@aq) (@c7.{0})) (ac (@dj.{0}) (ac (@bW.{0}) (@ite_self.{1})))) (ac (ac (@aE.{0,0}) (ac (@cc.{0,0}) (@List.range_succ))) (ac (@List.range_zero) (ac (@bh.{0}) (@eM.{0}))))) (ac (ac (ac (@dJ) (@cd)) (ac (@ae.{0}) (ac (@bz) (@true_or)))) (ac (ac (@or_true) (ac (@false_or) (@eF))) (ac (@cD) (ac (@not_false_eq_true) (@ew.{1})))))))
end Go.VM
set_option linter.unusedVariables false
set_option linter.unusedSimpArgs false
namespace Go.VM
abbrev DT:=List (Nat×List Tmp×Plan)
def Zd:DT→Nat→List Tmp |[],_=>[]|(i,m,_)::D,j=>if i=j then m else Zd D j
def An7:DT→Nat→Plan |[],_=>.done|(i,_,p)::D,j=>if i=j then p else An7 D j
inductive DD (D:DT):Prop |mk
def ATn (l:List Tmp) (F:List Tmp→Prop):Prop:=F l
def Wy:Plan→Bool |.stop=>true|_=>false
def Abf:DT→Nat→Bool |[],_=>false|(i,_,p)::D,j=>if i=j then Wy p else Abf D j
def AGo (b:Bool) (X Y:Prop):Prop:=if b=true then X else Y
def wpd (E:Env) (D:DT):Code→APost→List AVal→St→Prop |.skip,K=>fun af st=>K .normal af st|.label _,K=>fun af st=>K .normal af st|.ret,K=>fun af st=>K .ret af st|.exit id,K=>fun af st=>K (.exit id) af st|.seq (.region id os false) y,K=>fun af st=>AGo (Abf D id) (AWp E (.seq (.region id os false) y) K af st) (ATn (Zd D id) fun mv=>LA E mv os os.toList (nK (JO (wpd E D y K) K)) af st)|.cond c x y,K=>fun af st=>Sn (rd E af 0 c) (wpd E D x K) (wpd E D y K) af st|.block id c,K=>wpd E D c (YP id K)|.scope c,K=>wpd E D c K|.region id os false,K=>fun af st=>ATn (Zd D id) fun mv=>LA E mv os os.toList (nK K) af st|c,K=>AWp E c K
section
variable{E:Env}{D:DT}{K:APost}{af:List AVal}{st:St}{x y:Code}{F:List AVal→St→Prop}
theorem Ahf:wpd E D .skip K af st=K .normal af st:=by rw[wpd]
theorem AXS{l:Nat}:wpd E D (.label l) K af st=K .normal af st:=by rw[wpd]
theorem AlO:wpd E D .ret K af st=K .ret af st:=by rw[wpd]
theorem Aes{id:Nat}:wpd E D (.exit id) K af st=K (.exit id) af st:=by rw[wpd]
theorem AdS{id:Nat}{os:List Oper}:wpd E D (.seq (.region id (List.toArray os) false) y) K af st=AGo (Abf D id) (AWp E (.seq (.region id (List.toArray os) false) y) K af st) (ATn (Zd D id) fun mv=>LA E mv ⟨os⟩ os (nK (JO (wpd E D y K) K)) af st):=by rw[wpd]
theorem ApG{X Y:Prop}:AGo true X Y=X:=by simp[AGo]
theorem Apb{X Y:Prop}:AGo false X Y=Y:=by simp[AGo]
theorem AhD{j:Nat}:Abf [] j=false:=rfl
theorem AXK{i j:Nat}{m:List Tmp}{p:Plan}:Abf ((i,m,p)::D) j=if i=j then Wy p else Abf D j:=rfl
theorem AhX:Wy .stop=true:=rfl
theorem Ad1:Wy .done=false:=rfl
theorem AeZ{i:Nat}{p:Plan}:Wy (.take i p)=false:=rfl
theorem An0{i:Nat}{c:List Nat}{p q:Plan}:Wy (.alt i c p q)=false:=rfl
@[congr] theorem Atv {b b' : Bool} {X Y : Prop} (h : b = b') : AGo b X Y = AGo b' X Y := by grind
theorem Ad8{c:Operand}:wpd E D (.cond c x y) K af st=Sn (rd E af 0 c) (wpd E D x K) (wpd E D y K) af st:=by rw[wpd]
theorem AWs{id:Nat}:wpd E D (.block id x) K af st=wpd E D x (YP id K) af st:=by rw[wpd]
theorem AZx:wpd E D (.scope x) K af st=wpd E D x K af st:=by rw[wpd]
theorem ASM{id:Nat}{os:List Oper}:wpd E D (.region id (List.toArray os) false) K af st=ATn (Zd D id) fun mv=>LA E mv ⟨os⟩ os (nK K) af st:=by rw[wpd]
theorem Aeo{l:List Tmp}{F:List Tmp→Prop}:ATn l F=F l:=rfl
theorem Aff{id:Nat}{os:Array Oper}:wpd E D (.region id os true) K af st=AWp E (.region id os true) K af st:=by rw[wpd]<;>simp
theorem AgL:wpd E D (.loop x) K af st=AWp E (.loop x) K af st:=by rw[wpd]<;>simp
theorem Art{a b:Code}:wpd E D (.seq (.seq a b) y) K af st=AWp E (.seq (.seq a b) y) K af st:=by rw[wpd]<;>simp
theorem Aqr{c:Operand}{a b:Code}:wpd E D (.seq (.cond c a b) y) K af st=AWp E (.seq (.cond c a b) y) K af st:=by rw[wpd]<;>simp
theorem Aqg{id:Nat}{a:Code}:wpd E D (.seq (.block id a) y) K af st=AWp E (.seq (.block id a) y) K af st:=by rw[wpd]<;>simp
theorem Ao1{l:Nat}:wpd E D (.seq (.label l) y) K af st=AWp E (.seq (.label l) y) K af st:=by rw[wpd]<;>simp
theorem ApH{a:Code}:wpd E D (.seq (.loop a) y) K af st=AWp E (.seq (.loop a) y) K af st:=by rw[wpd]<;>simp
theorem Apk{id:Nat}{os:Array Oper}:wpd E D (.seq (.region id os true) y) K af st=AWp E (.seq (.region id os true) y) K af st:=by rw[wpd]<;>simp
theorem AqO{a:Code}:wpd E D (.seq (.scope a) y) K af st=AWp E (.seq (.scope a) y) K af st:=by rw[wpd]<;>simp
theorem Ar5:wpd E D (.seq .skip y) K af st=AWp E (.seq .skip y) K af st:=by rw[wpd]<;>simp
theorem AQ2{j:Nat}:Zd [] j=[]:=rfl
theorem ACh{i j:Nat}{m:List Tmp}{p:Plan}:Zd ((i,m,p)::D) j=if i=j then m else Zd D j:=rfl
theorem Aa9{i j:Nat}{m:List Tmp}{p:Plan}:An7 ((i,m,p)::D) j=if i=j then p else An7 D j:=rfl
theorem EW: ∀ {c:Code}{K:APost}{af:List AVal}{st:St},wpd E D c K af st→AWp E c K af st:=by
 intro c;induction c with
 |skip=>intro K af st h;rw[wpd]at h;exact AMW h
 |ret=>intro K af st h;rw[wpd]at h;exact AVq h
 |exit id=>intro K af st h;rw[wpd]at h;exact AM0 h
 | seq x y ihx ihy=>
  intro K af st h;cases x with
  | region id os d=>
   cases d with
   |true=>(rw[wpd]at h;exact h)<;>(intros;simp_all)
   | false=>
    rw[wpd]at h;unfold AGo at h;split at h;·exact h
    refine TM ((U3 (Zd D id) h).mono fun e af' st' _ q=>?_);cases e with |normal=>exact ihy q|_=>exact q
  |_=>(rw[wpd]at h;exact h)<;>(intros;simp_all)
 | cond c x y ihx ihy=>
  intro K af st h;rw[wpd]at h;unfold Sn at h;split at h;·rename_i b hb;refine AMe b hb ?_;cases b with |true=>simp_all|false=>simp_all
  grind
 | block id c ih=>intro K af st h;rw[wpd]at h;exact ACy ((ih h).mono fun e af' st' _ q=>by cases e<;>exact q)
 | region id os d=>intro K af st h;cases d with |true=>(rw[wpd]at h;exact h)<;>(intros;simp_all)|false=>rw[wpd]at h;exact U3 (Zd D id) h
 |loop c ih=>intro K af st h;(rw[wpd]at h;exact h)<;>(intros;simp_all)
 |rangeFunc f ps x y ihx ihy=>intro K af st h;(rw[wpd]at h;exact h)<;>(intros;simp_all)
 |scope c ih=>intro K af st h;rw[wpd]at h;grind[ACv]
 |label l=>intro K af st h;rw[wpd]at h;exact AXz h
 |goto l=>intro K af st h;(rw[wpd]at h;exact h)<;>(intros;simp_all)
 |refuse w=>intro K af st h;(rw[wpd]at h;exact h)<;>(intros;simp_all)
@[congr] theorem AuF {c : Code} {L : APost} {af' : List AVal} {st' : St} (h0 : af = af') (h1 : st = st') : wpd E D c L af st = wpd E D c L af' st' := by grind
def rgs:List (Nat×Nat)→List Tmp |[]=>[]|(a,n)::l=>List.range' a n++rgs l
def AUW:Nat→List AVal→List AVal |n+1,_::l=>.any::AUW n l|_,l=>l
def maskN:Nat→Nat→List AVal→List AVal |0,n,l=>AUW n l|a+1,n,x::l=>x::maskN a n l|_+1,_,[]=>[]
def Ca:List (Nat×Nat)→List AVal→List AVal |[],af=>af|(a,n)::l,af=>Ca l (maskN a n af)
theorem ACr: ∀(js ks:List Tmp) (af:List AVal),Ag (js++ks) af=Ag ks (Ag js af) |[],_,_=>rfl|j::js,ks,af=>by rw[bA,Ag,Ag,ACr js]
theorem U5: ∀(js:List Tmp) (x:AVal) (l:List AVal),Ag (js.map (· +1)) (x::l)=x::Ag js l |[],_,_=>rfl|j::js,x,l=>by rw[aE,Ag,cv,U5 js,Ag]
theorem XY: ∀js:List Tmp,Ag js []=[] |[]=>rfl|j::js=>by rw[Ag,List.set_nil,XY js]
theorem Y6: ∀(a n:Nat),List.range' (a+1) n=(List.range' a n).map (· +1) |a,0=>rfl|a,n+1=>by rw[cO,cO,aE,Y6 (a+1) n]
theorem AAN: ∀(a n:Nat) (l:List AVal),maskN a n l=Ag (List.range' a n) l |0,0,l=>by rw[maskN];cases l<;>rfl|0,n+1,[]=>by rw[XY];rfl| 0,n+1,x::l=>by rw[maskN,AUW,cO,Ag,bU,show List.range' (0+1) n=(List.range' 0 n).map (· +1)from Y6 _ _,U5,←AAN 0 n l,maskN]|a+1,n,[]=>by rw[XY];rfl| a+1,n,x::l=>by rw[maskN,show List.range' (a+1) n=(List.range' a n).map (· +1)from Y6 _ _,U5,AAN a n l]
theorem DY: ∀(js:List (Nat×Nat)) (af:List AVal),Ca js af=Ag (rgs js) af |[],_=>rfl|(a,n)::js,af=>by rw[Ca,AAN,DY js,rgs,ACr]
theorem Aqm:Ca [] af=af:=rfl
theorem AnP{a n:Nat}{l:List (Nat×Nat)}:Ca ((a,n)::l) af=Ca l (maskN a n af):=rfl
theorem Aup{a n:Nat}{v:AVal}{l:List AVal}:maskN (a+1) n (v::l)=v::maskN a n l:=rfl
theorem Aug{n:Nat}{l:List AVal}:maskN 0 n l=AUW n l:=by cases l<;>rfl
theorem Auu{n:Nat}{v:AVal}{l:List AVal}:AUW (n+1) (v::l)=.any::AUW n l:=rfl
theorem Aub{l:List AVal}:AUW 0 l=l:=by cases l<;>rfl
def Yb:List PC→List AVal→List AVal |.k::l,x::xs=>x::Yb l xs|.w::l,x::xs=>x.strip::Yb l xs|.v y::l,_::xs=>y::Yb l xs|_,xs=>xs
def reB:List BX→MS→MS |.k::l,p::m=>p::reB l m|.d::l,_::m=>reB l m|.s c::l,p::m=>(p.1,c)::reB l m|.t c::l,p::m=>(p.1,c p.1)::reB l m|.p ps::l,p::m=>(p.1,Yb ps p.2)::reB l m|_,m=>m
theorem AuP{m:MS}:reB [] m=m:=by cases m<;>rfl
theorem Auy{l:List BX}{p:Nat×List AVal}{m:MS}:reB (.k::l) (p::m)=p::reB l m:=rfl
theorem Au3{l:List BX}{p:Nat×List AVal}{m:MS}:reB (.d::l) (p::m)=reB l m:=rfl
theorem At3{l:List BX}{c x:List AVal}{i:Nat}{m:MS}:reB (.s c::l) ((i,x)::m)=(i,c)::reB l m:=rfl
theorem AuY{l:List BX}{c:Nat→List AVal}{x:List AVal}{i:Nat}{m:MS}:reB (.t c::l) ((i,x)::m)=(i,c i)::reB l m:=rfl
theorem Auv{l:List BX}{ps:List PC}{x:List AVal}{i:Nat}{m:MS}:reB (.p ps::l) ((i,x)::m)=(i,Yb ps x)::reB l m:=rfl
theorem Aud{xs:List AVal}:Yb [] xs=xs:=by cases xs<;>rfl
theorem Aun{l:List PC}{x:AVal}{xs:List AVal}:Yb (.k::l) (x::xs)=x::Yb l xs:=rfl
theorem AuW{l:List PC}{x:AVal}{xs:List AVal}:Yb (.w::l) (x::xs)=x.strip::Yb l xs:=rfl
theorem Aui{l:List PC}{x y:AVal}{xs:List AVal}:Yb (.v y::l) (x::xs)=y::Yb l xs:=rfl
def WJ:Code→Nat×Nat |.seq x y=>((WJ x).1,(WJ x).2+(WJ y).2+1)|.cond _ x y=>((WJ x).1,(WJ x).2+(WJ y).2+1)|.block id x=>(id,(WJ x).2+1)|.loop x=>((WJ x).1,(WJ x).2+1)|.scope x=>((WJ x).1,(WJ x).2+1)|.region id _ _=>(id,1)|_=>(0,1)
end
inductive Wk:AVal→AVal→Prop |same (x:AVal):Wk x x |strip (x:AVal):Wk x x.strip
inductive WkL:List AVal→List AVal→Prop |nil:WkL [] [] |cons{x y:AVal}{xs ys:List AVal} (h:Wk x y) (t:WkL xs ys):WkL (x::xs) (y::ys)
inductive SubW:MS→MS→Prop |refl (m:MS):SubW m m |keep{m0 m1:MS}{i:Nat}{cs cs':List AVal} (h:WkL cs cs') (t:SubW m0 m1):SubW ((i,cs')::m0) ((i,cs)::m1) |drop{m0 m1:MS}{p:Nat×List AVal} (t:SubW m0 m1):SubW m0 (p::m1)
theorem WkL.refl: ∀xs:List AVal,WkL xs xs |[]=>.nil|x::xs=>.cons (.same x) (WkL.refl xs)
theorem WkL.stripB{xs ys:List AVal} (h:WkL xs ys): ∃bs,VM.stripB bs xs=ys:=by induction h with |nil=>exact⟨[],rfl⟩| cons h t ih=>obtain⟨bs,rfl⟩:=ih;cases h with |same=>exact⟨false::bs,by rw[VM.stripB]⟩|strip=>exact⟨true::bs,by rw[VM.stripB]⟩
theorem WkL.set{v u:AVal} (h:Wk u v): ∀ {xs ys:List AVal} (c:Nat),WkL xs ys→WkL (xs.set c u) (ys.set c v) |_,_,_,.nil=>by simpa using WkL.nil|_,_,0,.cons _ t=>.cons h t|_,_,c+1,.cons k t=>.cons k (WkL.set h c t)
theorem WkL.setVals: ∀ {cs:List Tmp}{us vs xs ys:List AVal},WkL xs ys→WkL us vs→WkL (VM.setVals xs cs us) (VM.setVals ys cs vs) |[],us,vs,xs,ys,h,k=>by cases k<;>(rw[VM.setVals,VM.setVals];exact h)<;>simp| c::cs,_,_,xs,ys,h,.nil=>by grind[VM.setVals]|c::cs,_,_,xs,ys,h,.cons h1 t=>by rw[VM.setVals,VM.setVals];exact WkL.setVals (WkL.set h1 c h) t
section
variable{E:Env}{F:Nat→Nat}{Γ:Ghost}{st:St}{w:World}{af af2:List AVal}{a:Act}{Q:APost}{c:Code}{n:Nat}
theorem Sim.wkF (hs:Sim E F Γ st w af a.tmps.toList) (h:WkL af af2):Sim E F Γ st w af2 a.tmps.toList:=by obtain⟨bs,rfl⟩:=h.stripB;exact {hs with rep:=O8 bs _ _ hs.rep,own:=O3 bs _ _ hs.own,tok:=fun b=>by have:=PN b bs af a.tmps.toList;have:=hs.tok b;omega}
theorem AVO: ∀ {pre m:MS}{i:Nat}{cs:List AVal},((pre++(i,cs)::m).map (·.1)).Nodup→Ae (pre++(i,cs)::m) i=some cs∧∀x,Ar (pre++(i,cs)::m) i x=pre++(i,x)::m
 |[],m,i,cs,_=>⟨ALe,fun x=>AVy⟩
 | (j,d)::pre,m,i,cs,h=>by
  rw[bA,aE,bP]at h;have hne:i≠j:=by rintro rfl;grind
  have:=AVO (pre:=pre) h.2;rw[bA,VL hne];exact⟨this.1,fun x=>by rw[AWh hne,this.2 x,bA]⟩
theorem Sim.wkM{m0 m1:MS} (h:SubW m0 m1): ∀ {pre:MS},Sim E F Γ ⟨pre++m1,n⟩ w af a.tmps.toList→Sim E F Γ ⟨pre++m0,n⟩ w af a.tmps.toList:=by
 induction h with
 |refl m=>simp
 | @drop m0 m1 p t ih=>intro pre hs;exact ih (hs.fewer (m:=pre++m1) (List.Sublist.append (bM _) (cn _ (bM _))))
 | @keep m0 m1 i cs cs' h t ih=>
  intro pre hs;obtain⟨bs,rfl⟩:=h.stripB;obtain⟨h1,h2⟩:=AVO hs.keys;have:=hs.stripCells bs h1;rw[h2]at this;have e: ∀m:MS,pre++(i,VM.stripB bs cs)::m=(pre++[(i,VM.stripB bs cs)])++m:=fun m=>by simp
  grind
theorem AWp.wk{m m2:MS} (h:AWp E c Q af2 ⟨m2,n⟩) (h1:WkL af af2) (h2:SubW m2 m):AWp E c Q af ⟨m,n⟩:=⟨fun F Γ w a hd hs=>h.go F Γ w a hd ((Sim.wkM (pre:=[]) h2 hs).wkF h1)⟩
theorem Uj (js cs:List Tmp) (I:Nat→List AVal→St→Prop) (n₀:Nat){vs0:List AVal}{m m0:MS} (hv:WkL (Cb (Ag js af) cs) vs0) (hm:SubW m0 m) (h₀:I n₀ vs0 ⟨m0,n⟩) (round: ∀k vs st',I k vs st'→∀J:List AVal→St→Prop,(∀k' af' st' m vs',k'<k→SubW m st'.m→Ag cs (Ag js af')=Ag cs (Ag js af)→WkL (Cb (Ag js af') cs) vs'→I k' vs' {st' with m:=m}→J af' st')→AWp E c (kPost J Q) (setVals (Ag js af) cs vs) st'):AWp E (.loop c) Q af ⟨m,n⟩:=by
 refine Rh js ?_;constructor;intro F Γ w a hd hs;have hs0:Sim E F Γ ⟨m0,n⟩ w (setVals (Ag js af) cs vs0) a.tmps.toList:=by have h1:=Sim.wkM (pre:=[]) hm hs;rw[Ka cs _ _ (rfl:Ag cs (Ag js af)=Ag cs (Ag js af))]at h1;exact h1.wkF (WkL.setVals (WkL.refl _) hv)
 refine wp_loop_ghost (fun k a' w'=>a'.defers=[]∧∃Γ' vs st',Ext F Γ w Γ' w'∧n≤st'.next∧Sim E F Γ' st' w' (setVals (Ag js af) cs vs) a'.tmps.toList∧I k vs st') n₀ ⟨hd,Γ,vs0,⟨m0,n⟩,Ext.refl _ _ _,aq _,hs0,h₀⟩ ?_;intro k a₁ w₁ ⟨hd1,Γ₁,vs₁,st₁,h2,h3,h4,h5⟩;refine eO ((round k vs₁ st₁ h5 (fun af' st'=>∃k' m vs',k'<k∧SubW m st'.m∧Ag cs (Ag js af')=Ag cs (Ag js af)∧WkL (Cb (Ag js af') cs) vs'∧I k' vs' {st' with m:=m}) (fun k' af' st' m vs' k1 k2 k3 k4 k5=>⟨k',m,vs',k1,k2,k3,k4,k5⟩)).go F Γ₁ w₁ a₁ hd1 h4) ?_;intro e a' w' hq;have hq:=UR h2 h3 hq;cases e with | normal=>obtain⟨_,k1,Γ',af',st',k2,k3,k4,kk⟩:=hq;obtain⟨k',m,vs',k5,k6,k7,k9,k8⟩:=kk.get;refine⟨k',k5,k1,Γ',vs',{st' with m:=m},k2,k3,?_,k8⟩;have h1:=Sim.wkM (pre:=[]) k6 (k4.mask js);rw[Ka cs _ _ k7]at h1;exact h1.wkF (WkL.setVals (WkL.refl _) k9)| _=>obtain⟨k0,k1,Γ',af',st',k2,k3,k4,kk⟩:=hq;exact⟨k0,k1,Γ',af',st',k2,k3,k4,kk.out fg⟩
end
@[congr] theorem Atu {l l' : List Tmp} {F : List Tmp → Prop} (h : l = l') : ATn l F = ATn l' F := by grind
def stp (b:Bool) (v:AVal):AVal:=if b=true then v.strip else v
theorem AWS{v:AVal}:stp true v=v.strip:=rfl
theorem AVm{v:AVal}:stp false v=v:=rfl
structure RH (E:Env) (rs:List ResultVar) (R:APost) (b:Bool) (m':MS) (n:Nat) (r':AVal):Prop where go: ∀af st xs m0 m1 n',PY E rs af st=some (xs,⟨m1,n'⟩)→m0.Sublist m1→m0=m'→n≤n'→stp b (RZ xs)=r'→R .ret af st∧R .normal af st
structure JOK{α β:Type} (k:α→Option β) (r:β) (js:List (Nat×Nat)) (cs:List Tmp) (V:α→List AVal) (Ms:α→List BX) (af0:List AVal) (m:MS) (n:Nat) (J:List AVal→St→Prop):Prop where go: ∀j af' m0 m1 n',k j=some r→SubW m0 m1→m0=reB (Ms j) m→Ag cs (Ca js af')=Ag cs (Ca js af0)→WkL (Cb (Ca js af') cs) (V j)→n≤n'→J af' ⟨m1,n'⟩
def AOd:AVal→Nat |.ptr i _=>i|.sh i=>i|_=>0
theorem AnY{i:Nat}:AOd (.sh i)=i:=rfl
theorem Agm{i o:Nat}:AOd (.ptr i o)=i:=rfl
structure JNK{α β:Type} (k:α→Option β) (r:β) (js:List (Nat×Nat)) (cs:List Tmp) (p:Tmp) (V:α→Nat→List AVal) (Ms:α→Nat→List BX) (C:α→Nat→List AVal) (af0:List AVal) (m:MS) (n:Nat) (J:List AVal→St→Prop):Prop where go: ∀j g af' m0 m1 n',k j=some r→SubW m0 m1→m0=(g,C j g)::reB (Ms j g) m→Ag cs (Ca js af')=Ag cs (Ca js af0)→WkL (Cb (Ca js af') cs) (V j g)→n≤g∧g<n'→J af' ⟨m1,n'⟩
structure LOK{σ β:Type} (G:Nat→σ→Option β) (r:β) (k:Nat) (js:List (Nat×Nat)) (cs:List Tmp) (V:σ→List AVal) (Ms:σ→List BX) (af0:List AVal) (m:MS) (n:Nat) (J:List AVal→St→Prop):Prop where go: ∀s af' m0 m1 n',G k s=some r→SubW m0 m1→m0=reB (Ms s) m→Ag cs (Ca js af')=Ag cs (Ca js af0)→WkL (Cb (Ca js af') cs) (V s)→n≤n'→J af' ⟨m1,n'⟩
structure ROK{α σ β:Type} (G:List α→Int→σ→Option β) (r:β) (xs:List α) (i:Int) (js:List (Nat×Nat)) (cs:List Tmp) (V:Int→σ→List AVal) (Ms:Int→σ→List BX) (af0:List AVal) (m:MS) (n:Nat) (J:List AVal→St→Prop):Prop where go: ∀s af' m0 m1 n',G xs i s=some r→SubW m0 m1→m0=reB (Ms i s) m→Ag cs (Ca js af')=Ag cs (Ca js af0)→WkL (Cb (Ca js af') cs) (V i s)→n≤n'→J af' ⟨m1,n'⟩
structure COK{σ β:Type} (G:Nat→Int→σ→Option β) (r:β) (k:Nat) (i:Int) (js:List (Nat×Nat)) (cs:List Tmp) (V:Int→σ→List AVal) (Ms:Int→σ→List BX) (af0:List AVal) (m:MS) (n:Nat) (J:List AVal→St→Prop):Prop where go: ∀s af' m0 m1 n',G k i s=some r→SubW m0 m1→m0=reB (Ms i s) m→Ag cs (Ca js af')=Ag cs (Ca js af0)→WkL (Cb (Ca js af') cs) (V i s)→n≤n'→J af' ⟨m1,n'⟩
class CF (E:Env){ρ:Type} (X:Option ρ) (f:outParam FuncId) (args:outParam (List AVal)) (er:outParam (ρ→AVal)):Prop where go: ∀ {r:ρ}{n:Nat}{m:MS}{Q:PQ},X=some r→(∀n',n≤n'→Gl (Q (er r) ⟨m,n'⟩))→ACall E f args ⟨m,n⟩ Q
theorem CF.freeze{E:Env}{ρ:Type}{X:Option ρ}{f:FuncId}{args:List AVal}{w:Nat}{g:ρ→List AVal} (h:CF E (ASR X) f args fun r=>.vec w (g r)):CF E X f args fun r=>.slice w (g r) false:=⟨fun hx hQ=>ACall.giveS (h.go hx fun n' hn=>⟨⟨w,_,rfl,fun k hk=>(hQ k (bB hn hk)).go⟩⟩)⟩
class CB (E:Env){ρ:Type} (X:Option ρ) (f:outParam FuncId) (args:outParam (Nat→List AVal)) (pre:outParam (Nat→List AVal)) (er:outParam (ρ→AVal)) (post:outParam (Nat→ρ→List AVal)):Prop where go: ∀ {r:ρ}{n i:Nat}{m:MS}{Q:PQ},X=some r→Ae m i=some (pre i)→(∀n',n≤n'→Gl (Q (er r) ⟨Ar m i (post i r),n'⟩))→ACall E f (args i) ⟨m,n⟩ Q
class CT (E:Env){ρ:Type} (X:Option ρ) (f:outParam FuncId) (pre:outParam (Nat→List AVal)) (er:outParam (ρ→AVal)) (post:outParam (Nat→ρ→List AVal)):Prop where go: ∀ {r:ρ}{n i j:Nat}{m:MS}{Q:PQ},X=some r→Ae m j=some [.ptr i 0]→Ae m i=some (pre i)→i≠j→(∀n',n≤n'→Gl (Q (er r) ⟨Ar m i (post i r),n'⟩))→ACall E f [.ptr j 0] ⟨m,n⟩ Q
class XC (E:Env) (f:FuncId) (args:List AVal) (r:outParam AVal):Prop where go: ∀ {st:St}{Q:PQ},Gl (Q r st)→Xw E f args st Q
class CN (E:Env){ρ:Type} (X:Option ρ) (f:outParam FuncId) (args:outParam (List AVal)) (rv:outParam (Nat→AVal)) (cells:outParam (ρ→Nat→List AVal)):Prop where go: ∀ {r:ρ}{n:Nat}{m:MS}{Q:PQ},X=some r→(∀i n',n≤i→i<n'→Gl (Q (rv i) ⟨(i,cells r i)::m,n'⟩))→ACall E f args ⟨m,n⟩ Q
class LF{β:Type} (X:Option β){σ:outParam Type} (G B:outParam (Nat→σ→Option β)) (k:outParam Nat) (s:outParam σ) (js:outParam (List (Nat×Nat))) (cs:outParam (List Tmp)) (V:outParam (σ→List AVal)) (Ms:outParam (σ→List BX)):Prop where
  eq:X=G k s
  z: ∀s,G 0 s=none
  u: ∀k s,G (k+1) s=B k s
class LR{β:Type} (X:Option β){α σ:outParam Type} (G:outParam (List α→Int→σ→Option β)) (Bn:outParam (Int→σ→Option β)) (Bc:outParam (α→List α→Int→σ→Option β)) (L:outParam (List α)) (i:outParam Int) (s:outParam σ) (js:outParam (List (Nat×Nat))) (cs:outParam (List Tmp)) (V:outParam (Int→σ→List AVal)) (Ms:outParam (Int→σ→List BX)):Prop where
  eq:X=G L i s
  un: ∀i s,G [] i s=Bn i s
  uc: ∀x xs i s,G (x::xs) i s=Bc x xs i s
class LQ{β:Type} (X:Option β){α σ:outParam Type} (G:outParam (List α→Int→σ→Option β)) (Bn:outParam (Int→σ→Option β)) (Bc:outParam (α→List α→Int→σ→Option β)) (L:outParam (List α)) (s:outParam σ) (js:outParam (List (Nat×Nat))) (cs:outParam (List Tmp)) (V:outParam (Int→σ→List AVal)) (Ms:outParam (Int→σ→List BX)):Prop where
  eq: ∀i,X=G L i s
  un: ∀i s,G [] i s=Bn i s
  uc: ∀x xs i s,G (x::xs) i s=Bc x xs i s
class LC{β:Type} (X:Option β){σ:outParam Type} (G:outParam (Nat→Int→σ→Option β)) (Bn:outParam (Int→σ→Option β)) (Bc:outParam (Nat→Int→σ→Option β)) (k:outParam Nat) (i:outParam Int) (s:outParam σ) (js:outParam (List (Nat×Nat))) (cs:outParam (List Tmp)) (V:outParam (Int→σ→List AVal)) (Ms:outParam (Int→σ→List BX)):Prop where
  eq:X=G k i s
  un: ∀i s,G 0 i s=Bn i s
  uc: ∀k i s,G (k+1) i s=Bc k i s
class LU{β:Type} (X:Option β){σ:outParam Type} (G:outParam (Nat→Int→σ→Option β)) (Bn:outParam (Int→σ→Option β)) (Bc:outParam (Nat→Int→σ→Option β)) (k:outParam Nat) (s:outParam σ) (js:outParam (List (Nat×Nat))) (cs:outParam (List Tmp)) (V:outParam (Int→σ→List AVal)) (Ms:outParam (Int→σ→List BX)):Prop where
  eq: ∀i,X=G k i s
  un: ∀i s,G 0 i s=Bn i s
  uc: ∀k i s,G (k+1) i s=Bc k i s
class MX (E:Env):Prop where ok:E.P.follows .mixedOrders=true
section rules
variable{E:Env}{D:DT}{β ρ:Type}{r:β}{T:Prop}{n n':Nat}{m m0 m1:MS}{af af0:List AVal}{st:St}{Q K:APost}{x y c:Code}{js:List (Nat×Nat)}{cs:List Tmp}{J:List AVal→St→Prop}
theorem mkF{X B:Option ρ}{f:FuncId}{fn:Func}{nt:Nat}{rs:List ResultVar}{args:List AVal}{er:ρ→AVal} (hx:X=B) (hf:E.P.funcs[f]?=some fn) (hb:fn.body=some c) (hn:fn.ntmps=nt) (hr:fn.results=rs.toArray) (D:DT) (b:Bool) (w: ∀(r:ρ) (n:Nat) (m:MS) (R:APost),RH E rs R b m n (er r)→True∧B=some r→DD D→Gl (wpd E D c R (args++List.replicate (nt-args.length) .any) ⟨m,n⟩)):CF E X f args er:=by
 constructor;intro r n m Q h hQ;subst hn;have e:fn.results.toList=rs:=by rw[hr]
 cases b with | false=>refine LD hf hb (EW (w r n m (JY E fn Q) ⟨?_⟩ ⟨trivial,hx▸h⟩ ⟨⟩).go);intro af st xs m0 m1 n' h1 h2 h0 h3 h4;subst h0;rw[AVm]at h4;exact⟨Jt (by rw[e];omega) h2 (h4▸(hQ n' h3).go),Js (by rw[e];omega) h2 (h4▸(hQ n' h3).go)⟩| true=>refine ACall.strip (LD hf hb (EW (w r n m (JY E fn fun r st'=>Q r.strip st') ⟨?_⟩ ⟨trivial,hx▸h⟩ ⟨⟩).go));intro af st xs m0 m1 n' h1 h2 h0 h3 h4;subst h0;rw[AWS]at h4;exact⟨Jt (by rw[e];omega) h2 (by rw[h4];exact(hQ n' h3).go),Js (by rw[e];omega) h2 (by rw[h4];exact(hQ n' h3).go)⟩
theorem mkB{X B:Option ρ}{f:FuncId}{fn:Func}{nt:Nat}{rs:List ResultVar}{args:Nat→List AVal}{pre:Nat→List AVal}{er:ρ→AVal}{post:Nat→ρ→List AVal} (hx:X=B) (hf:E.P.funcs[f]?=some fn) (hb:fn.body=some c) (hn:fn.ntmps=nt) (hr:fn.results=rs.toArray) (D:DT) (b:Bool) (w: ∀(r:ρ) (n i:Nat) (m:MS) (R:APost),i<n→RH E rs R b ((i,post i r)::m) n (er r)→True∧B=some r→DD D→Gl (wpd E D c R (args i++List.replicate (nt-(args i).length) .any) ⟨(i,pre i)::m,n⟩)):CB E X f args pre er post:=by
 constructor;intro r n i m Q h hi hQ;subst hn;have e:fn.results.toList=rs:=by rw[hr]
 refine ACall.front hi fun hin=>?_;cases b with | false=>refine LD hf hb (EW (w r n i _ (JY E fn _) hin ⟨?_⟩ ⟨trivial,hx▸h⟩ ⟨⟩).go);intro af st xs m0 m1 n' h1 h2 h0 h3 h4;subst h0;rw[AVm]at h4;exact⟨Jt (by rw[e];omega) h2 ⟨_,rfl,h4▸(hQ n' h3).go⟩,Js (by rw[e];omega) h2 ⟨_,rfl,h4▸(hQ n' h3).go⟩⟩| true=>refine ACall.strip (LD hf hb (EW (w r n i _ (JY E fn fun r st'=>_) hin ⟨?_⟩ ⟨trivial,hx▸h⟩ ⟨⟩).go));intro af st xs m0 m1 n' h1 h2 h0 h3 h4;subst h0;rw[AWS]at h4;exact⟨Jt (by rw[e];omega) h2 ⟨_,rfl,by rw[h4];exact(hQ n' h3).go⟩,Js (by rw[e];omega) h2 ⟨_,rfl,by rw[h4];exact(hQ n' h3).go⟩⟩
theorem Atp{b:Bool}{u v:Option β}{A B:List AVal→St→Prop} (h:T∧(if b=true then u else v)=some r) (a:(b=true∧T)∧u=some r→Gl (A af st)) (a':(b=false∧T)∧v=some r→Gl (B af st)):Gl (Sn (.bool b) A B af st):=by
 rcases KH h with h|h;·grind[AWT]
 grind[AVx]
theorem VF{X:Option ρ}{f:FuncId}{args args':List AVal}{er:ρ→AVal}{y:ρ}{Q:PQ} [i:CF E X f args er] (h:X=some y) (ha:args'=args) (k: ∀n',n≤n'→Gl (Q (er y) ⟨m,n'⟩)):Gl (ACall E f args' ⟨m,n⟩ Q):=⟨ha▸i.go h k⟩
theorem AQK{X:Option ρ}{f:FuncId}{args:Nat→List AVal}{tl:List AVal}{pre:Nat→List AVal}{er:ρ→AVal}{post:Nat→ρ→List AVal}{y:ρ}{Q:PQ}{j:Nat} [i:CB E X f args pre er post] (h:X=some y) (ha: .ptr j 0::tl=args j) (hm:Ae m j=some (pre j)) (k: ∀n',n≤n'→Gl (Q (er y) ⟨Ar m j (post j y),n'⟩)):Gl (ACall E f (.ptr j 0::tl) ⟨m,n⟩ Q):=⟨ha▸i.go h hm k⟩
theorem ARm{X:Option ρ}{f:FuncId}{args:Nat→List AVal}{x:AVal}{g:Fn}{pre:Nat→List AVal}{er:ρ→AVal}{post:Nat→ρ→List AVal}{y:ρ}{Q:PQ}{j:Nat} [i:CB E X f args pre er post] (h:X=some y) (ha:[x,.fn g [] [.ptr j 0]]=args j) (hm:Ae m j=some (pre j)) (k: ∀n',n≤n'→Gl (Q (er y) ⟨Ar m j (post j y),n'⟩)):Gl (ACall E f [x,.fn g [] [.ptr j 0]] ⟨m,n⟩ Q):=⟨ha▸i.go h hm k⟩
theorem ATz{X:Option ρ}{f:FuncId}{args:Nat→List AVal}{x:AVal}{g:Fn}{pre:Nat→List AVal}{er:ρ→AVal}{post:Nat→ρ→List AVal}{y:ρ}{Q:PQ}{j:Nat} [i:CB E X f args pre er post] (h:X=some y) (ha:[x,.fn g [.ptr j 0] []]=args j) (hm:Ae m j=some (pre j)) (k: ∀n',n≤n'→Gl (Q (er y) ⟨Ar m j (post j y),n'⟩)):Gl (ACall E f [x,.fn g [.ptr j 0] []] ⟨m,n⟩ Q):=⟨ha▸i.go h hm k⟩
theorem Atj{f:FuncId}{args:List AVal}{x:AVal}{Q:PQ} [i:XC E f args x] (h:Gl (Q x st)):Gl (Xw E f args st Q):=⟨i.go h⟩
theorem Ahl{X:Option ρ}{f:FuncId}{args args':List AVal}{rv:Nat→AVal}{cells:ρ→Nat→List AVal}{y:ρ}{Q:PQ} [i:CN E X f args rv cells] (h:X=some y) (ha:args'=args) (k: ∀i n',n≤i→i<n'→Gl (Q (rv i) ⟨(i,cells y i)::m,n'⟩)):Gl (ACall E f args' ⟨m,n⟩ Q):=⟨ha▸i.go h k⟩
theorem Ad9{X:Option ρ}{f:FuncId}{pre:Nat→List AVal}{er:ρ→AVal}{post:Nat→ρ→List AVal}{y:ρ}{Q:PQ}{i j:Nat} [c:CT E X f pre er post] (h:X=some y) (hj:Ae m j=some [.ptr i 0]) (hm:Ae m i=some (pre i)) (hne:i≠j) (k: ∀n',n≤n'→Gl (Q (er y) ⟨Ar m i (post i y),n'⟩)):Gl (ACall E f [.ptr j 0] ⟨m,n⟩ Q):=⟨c.go h hj hm hne k⟩
theorem AR8{X:Option ρ}{f:FuncId}{args:Nat→List AVal}{x:AVal}{tl:List AVal}{pre:Nat→List AVal}{er:ρ→AVal}{post:Nat→ρ→List AVal}{y:ρ}{Q:PQ}{j:Nat} [i:CB E X f args pre er post] (h:X=some y) (ha:x:: .ptr j 0::tl=args j) (hm:Ae m j=some (pre j)) (k: ∀n',n≤n'→Gl (Q (er y) ⟨Ar m j (post j y),n'⟩)):Gl (ACall E f (x:: .ptr j 0::tl) ⟨m,n⟩ Q):=⟨ha▸i.go h hm k⟩
theorem ARn{X:Option ρ}{f:FuncId}{args:Nat→List AVal}{x y:AVal}{pre:Nat→List AVal}{er:ρ→AVal}{post:Nat→ρ→List AVal}{yy:ρ}{Q:PQ}{j:Nat} [i:CB E X f args pre er post] (h:X=some yy) (ha:[x,y,.ptr j 0]=args j) (hm:Ae m j=some (pre j)) (k: ∀n',n≤n'→Gl (Q (er yy) ⟨Ar m j (post j yy),n'⟩)):Gl (ACall E f [x,y,.ptr j 0] ⟨m,n⟩ Q):=⟨ha▸i.go h hm k⟩
theorem Auq{id:Nat}{os:List Oper}{mv:List Tmp}{p:Plan} (hD:DD D) [i:MX E] (hm:Zd D id=mv) (hp:An7 D id=p) (hok:JA (List.toArray os) p false (Array.replicate (List.toArray os).size false) []=true) (h:Gl (Gn E mv ⟨os⟩ p [] (nK Q) af st)):Gl (AWp E (.region id (List.toArray os) true) Q af st):=⟨RX mv p i.ok hok h.go⟩
theorem Auw (hD:DD D) (h:Gl (wpd E D x (JO (wpd E D y Q) Q) af st)):Gl (AWp E (.seq x y) Q af st):=⟨TM ((EW h.go).mono fun e af' st' _ q=>by cases e<;>first| exact EW q| exact q)⟩
theorem AoH{α:Type}{id:Nat×Nat}{V:α→List AVal}{Ms:α→List BX}{k0:α→Option β}{body:(α→Option β)→Option β} (h:T∧AA k0 body (.b id js cs V Ms)=some r) (hD:DD D) (hid:WJ x=id) (rest: ∀j n',n≤n'→T∧k0 j=some r→Gl (wpd E D y Q (setVals (Ca js af) cs (V j)) ⟨reB (Ms j) m,n'⟩)) (first: ∀(k:α→Option β) (J:List AVal→St→Prop),JOK k r js cs V Ms af m n J→T∧body k=some r→Gl (wpd E D x (JO J Q) af ⟨m,n⟩)):Gl (AWp E (.seq x y) Q af ⟨m,n⟩):=by
 refine⟨TM ?_⟩;have key:=EW (first k0 (fun af' st'=>AWp E y Q af' ⟨st'.m,st'.next⟩) ⟨?_⟩ h).go;·exact key.mono fun e af' st' _ q=>by cases e<;>exact q
 ·intro j af' m0 m1 n' h1 h2 h3 h4 h5 h6;subst h3;refine Rh (rgs js) ?_;have:=EW (rest j n' h6 ⟨h.1,h1⟩).go;rw[DY,DY]at h4;rw[DY]at h5 this;rw[Ka cs _ _ h4];exact this.wk (WkL.setVals (WkL.refl _) h5) h2
theorem AtC{α:Type}{id:Nat×Nat}{V:α→List AVal}{k0:α→Option β}{body:(α→Option β)→Option β} (h:T∧AA k0 body (.a id js cs V)=some r) (hD:DD D) (hid:WJ x=id) (rest: ∀j n',n≤n'→T∧k0 j=some r→Gl (wpd E D y Q (setVals (Ca js af) cs (V j)) ⟨m,n'⟩)) (first: ∀(k:α→Option β) (J:List AVal→St→Prop),JOK k r js cs V (fun _=>[]) af m n J→T∧body k=some r→Gl (wpd E D x (JO J Q) af ⟨m,n⟩)):Gl (AWp E (.seq x y) Q af ⟨m,n⟩):=by refine AoH (Ms:=fun _=>[]) (k0:=k0) (body:=body) h hD hid (fun j n' hn h=>?_) first;grind[reB]
theorem AtQ{α:Type}{id:Nat×Nat}{p:Tmp}{V:α→Nat→List AVal}{Ms:α→Nat→List BX}{C:α→Nat→List AVal}{k0:α→Option β}{body:(α→Option β)→Option β} (h:T∧AA k0 body (.n id js cs p V Ms C)=some r) (hD:DD D) (hid:WJ x=id) (rest: ∀j n' g,n≤g∧g<n'→T∧k0 j=some r→Gl (wpd E D y Q (setVals (Ca js af) cs (V j g)) ⟨(g,C j g)::reB (Ms j g) m,n'⟩)) (first: ∀(k:α→Option β) (J:List AVal→St→Prop),JNK k r js cs p V Ms C af m n J→True→T∧body k=some r→Gl (wpd E D x (JO J Q) af ⟨m,n⟩)):Gl (AWp E (.seq x y) Q af ⟨m,n⟩):=by
 refine⟨TM ?_⟩;have key:=EW (first k0 (fun af' st'=>AWp E y Q af' ⟨st'.m,st'.next⟩) ⟨?_⟩ trivial h).go;·exact key.mono fun e af' st' _ q=>by cases e<;>exact q
 ·intro j g af' m0 m1 n' h1 h2 h3 h4 h5 h6;subst h3;refine Rh (rgs js) ?_;have:=EW (rest j n' g h6 ⟨h.1,h1⟩).go;rw[DY,DY]at h4;rw[DY]at h5 this;rw[Ka cs _ _ h4];exact this.wk (WkL.setVals (WkL.refl _) h5) h2
theorem AuD{α:Type}{p:Tmp}{V:α→Nat→List AVal}{Ms:α→Nat→List BX}{C:α→Nat→List AVal}{k:α→Option β}{v:α} (hj:JNK k r js cs p V Ms C af0 m n J) (h:T∧k v=some r) (h2:SubW ((AOd (af.getD p .any),C v (AOd (af.getD p .any)))::reB (Ms v (AOd (af.getD p .any))) m) m1) (h4:Ag cs (Ca js af)=Ag cs (Ca js af0)) (h5:WkL (Cb (Ca js af) cs) (V v (AOd (af.getD p .any)))) (h6:n≤AOd (af.getD p .any)∧AOd (af.getD p .any)<n'):Gl (J af ⟨m1,n'⟩):=⟨hj.go v _ af _ m1 n' h.2 h2 rfl h4 h5 h6⟩
theorem Au1{α:Type}{V:α→List AVal}{Ms:α→List BX}{k:α→Option β}{v:α} (hj:JOK k r js cs V Ms af0 m n J) (h:T∧k v=some r) (h2:SubW (reB (Ms v) m) m1) (h4:Ag cs (Ca js af)=Ag cs (Ca js af0)) (h5:WkL (Cb (Ca js af) cs) (V v)) (h6:n≤n'):Gl (J af ⟨m1,n'⟩):=⟨hj.go v af _ m1 n' h.2 h2 rfl h4 h5 h6⟩
theorem AsI{σ:Type}{V:σ→List AVal}{Ms:σ→List BX}{X:Option β}{G B:Nat→σ→Option β}{k:Nat}{s:σ} [i:LF X G B k s js cs V Ms] (h:T∧X=some r) (hj:LOK G r k js cs V Ms af0 m n J) (h2:SubW (reB (Ms s) m) m1) (h4:Ag cs (Ca js af)=Ag cs (Ca js af0)) (h5:WkL (Cb (Ca js af) cs) (V s)) (h6:n≤n'):Gl (J af ⟨m1,n'⟩):=⟨hj.go s af _ m1 n' (i.eq▸h.2) h2 rfl h4 h5 h6⟩
theorem AsD{α σ:Type}{V:Int→σ→List AVal}{Ms:Int→σ→List BX}{X:Option β}{G:List α→Int→σ→Option β}{Bn:Int→σ→Option β}{Bc:α→List α→Int→σ→Option β}{L:List α}{i:Int}{s:σ} [ii:LR X G Bn Bc L i s js cs V Ms] (h:T∧X=some r) (hj:ROK G r L i js cs V Ms af0 m n J) (h2:SubW (reB (Ms i s) m) m1) (h4:Ag cs (Ca js af)=Ag cs (Ca js af0)) (h5:WkL (Cb (Ca js af) cs) (V i s)) (h6:n≤n'):Gl (J af ⟨m1,n'⟩):=⟨hj.go s af _ m1 n' (ii.eq▸h.2) h2 rfl h4 h5 h6⟩
theorem AuN{R:APost}{rs:List ResultVar}{b:Bool}{r':AVal}{xs:List AVal} (hR:RH E rs R b m n r') (h1:PY E rs af st=some (xs,⟨m1,n'⟩)) (h2:m.Sublist m1) (h4:n≤n') (h5:stp b (RZ xs)=r'):Gl (R .ret af st):=⟨(hR.go af st xs m m1 n' h1 h2 rfl h4 h5).1⟩
theorem AuO{R:APost}{rs:List ResultVar}{b:Bool}{r':AVal}{xs:List AVal} (hR:RH E rs R b m n r') (h1:PY E rs af st=some (xs,⟨m1,n'⟩)) (h2:m.Sublist m1) (h4:n≤n') (h5:stp b (RZ xs)=r'):Gl (R .normal af st):=⟨(hR.go af st xs m m1 n' h1 h2 rfl h4 h5).2⟩
theorem Apc{v:β} (h:T∧some v=some r):T∧v=r:=⟨h.1,co h.2⟩
theorem Asg{σ:Type}{V:σ→List AVal}{Ms:σ→List BX}{X:Option β}{G B:Nat→σ→Option β}{k:Nat}{s:σ} [i:LF X G B k s js cs V Ms] (h:T∧X=some r) (hD:DD D) (hm:SubW (reB (Ms s) m) m) (hv:WkL (Cb (Ca js af) cs) (V s)) (round: ∀k s n',n≤n'→T∧B k s=some r→∀J,LOK G r k js cs V Ms af m n' J→Gl (wpd E D c (JO J Q) (setVals (Ca js af) cs (V s)) ⟨reB (Ms s) m,n'⟩)):Gl (AWp E (.loop c) Q af ⟨m,n⟩):=by
 rw[DY]at hv;refine⟨Uj (rgs js) cs (fun k vs st'=>∃s,vs=V s∧st'.m=reB (Ms s) m∧n≤st'.next∧G k s=some r) k hv hm ⟨s,rfl,rfl,aq _,i.eq▸h.2⟩ ?_⟩;rintro k vs ⟨m',n'⟩ ⟨s,rfl,hm',hn,hG⟩ J hJ;simp only at hm' hn;subst hm';cases k with
 |zero=>rw[i.z]at hG;grind
 | succ k=>
  have key:=fun hJ'=>EW (round k s n' hn ⟨h.1,i.u k s▸hG⟩ J hJ').go;rw[DY]at key;refine(key ⟨fun s' af' m0 m1 n'' h1 h2 h3 h4 h5 h6=>?_⟩).mono fun e af' st' _ q=>by cases e<;>first| exact Mt q| exact .oth fg q
  subst h3;rw[DY,DY]at h4;rw[DY]at h5;exact hJ k af' ⟨m1,n''⟩ _ _ (Nat.lt_succ_self _) h2 h4 h5 ⟨s',rfl,rfl,bB hn h6,h1⟩
theorem Ah2{α σ:Type}{V:Int→σ→List AVal}{Ms:Int→σ→List BX}{X:Option β}{G:List α→Int→σ→Option β}{Bn:Int→σ→Option β}{Bc:α→List α→Int→σ→Option β}{L:List α}{s:σ} [ii:LR X G Bn Bc L 0 s js cs V Ms] (h:T∧X=some r) (hD:DD D) (hL:AC L.length) (hm:SubW (reB (Ms 0 s) m) m) (hv:WkL (Cb (Ca js af) cs) (V 0 s)) (rnil: ∀i s n',n≤n'→(decide (i<(L.length:Int))=false∧T)∧Bn i s=some r→Gl (wpd E D c (JO (fun _ _=>False) Q) (setVals (Ca js af) cs (V i s)) ⟨reB (Ms i s) m,n'⟩)) (rcons: ∀x xs i s n',n≤n'→(decide (i<(L.length:Int))=true∧(idx L i=some x∧L[i.toNat]?=some x)∧wr .i64 (i+1)=i+1∧T)∧Bc x xs i s=some r→∀J,ROK G r xs (i+1) js cs V Ms af m n' J→Gl (wpd E D c (JO J Q) (setVals (Ca js af) cs (V i s)) ⟨reB (Ms i s) m,n'⟩)):Gl (AWp E (.loop c) Q af ⟨m,n⟩):=by
 rw[DY]at hv;refine⟨Uj (rgs js) cs (fun k vs st'=>∃pre suf s,L=pre++suf∧k=suf.length∧vs=V pre.length s∧st'.m=reB (Ms pre.length s) m∧n≤st'.next∧G suf pre.length s=some r) L.length hv hm ⟨[],L,s,rfl,rfl,rfl,rfl,aq _,ii.eq▸h.2⟩ ?_⟩;rintro k vs ⟨m',n'⟩ ⟨pre,suf,s,hp,rfl,rfl,hm',hn,hG⟩ J hJ;simp only at hm' hn;subst hm';cases suf with
 | nil=>have key:=EW (rnil _ s n' hn ⟨⟨by grind,h.1⟩,ii.un _ s▸hG⟩).go;rw[DY]at key;exact key.mono fun e af' st' _ q=>by cases e<;>first| exact q.elim| exact .oth fg q
 | cons x xs=>
  obtain⟨f1,f2,f3⟩:=AZ7 hp hL;have key:=fun hJ'=>EW (rcons x xs _ s n' hn ⟨⟨f1,⟨f2,AVi f2⟩,f3,h.1⟩,ii.uc x xs _ s▸hG⟩ J hJ').go;rw[DY]at key;refine(key ⟨fun s' af' m0 m1 n'' h1 h2 h3 h4 h5 h6=>?_⟩).mono fun e af' st' _ q=>by cases e<;>first| exact Mt q| exact .oth fg q
  have e1:((pre.length:Int)+1)=((pre++[x]).length:Int):=fg;rw[e1]at h1 h3 h5;subst h3;rw[DY,DY]at h4;rw[DY]at h5;exact hJ xs.length af' ⟨m1,n''⟩ _ _ fg h2 h4 h5 ⟨pre++[x],xs,s',by grind,rfl,rfl,rfl,bB hn h6,h1⟩
theorem AtB{α σ:Type}{V:Int→σ→List AVal}{Ms:Int→σ→List BX}{X:Option β}{G:List α→Int→σ→Option β}{Bn:Int→σ→Option β}{Bc:α→List α→Int→σ→Option β}{L:List α}{i:Int}{s:σ} [ii:LQ X G Bn Bc L s js cs V Ms] (h:T∧X=some r) (hj:ROK G r L i js cs V Ms af0 m n J) (h2:SubW (reB (Ms i s) m) m1) (h4:Ag cs (Ca js af)=Ag cs (Ca js af0)) (h5:WkL (Cb (Ca js af) cs) (V i s)) (h6:n≤n'):Gl (J af ⟨m1,n'⟩):=⟨hj.go s af _ m1 n' (ii.eq i▸h.2) h2 rfl h4 h5 h6⟩
theorem Apz{α σ:Type}{V:Int→σ→List AVal}{Ms:Int→σ→List BX}{X:Option β}{G:List α→Int→σ→Option β}{Bn:Int→σ→Option β}{Bc:α→List α→Int→σ→Option β}{L:List α}{s:σ} [ii:LQ X G Bn Bc L s js cs V Ms] (h:T∧X=some r) (hD:DD D) (hL:AC L.length) (hm:SubW (reB (Ms 0 s) m) m) (hv:WkL (Cb (Ca js af) cs) (V 0 s))
    (rnil: ∀i s n',n≤n'→(decide (i<(L.length:Int))=false∧T)∧Bn i s=some r→Gl (wpd E D c (JO (fun _ _=>False) Q) (setVals (Ca js af) cs (V i s)) ⟨reB (Ms i s) m,n'⟩))
    (rcons: ∀x xs i s n',n≤n'→(decide (i<(L.length:Int))=true∧(idx L i=some x∧L[i.toNat]?=some x)∧wr .i64 (i+1)=i+1∧T)∧Bc x xs i s=some r→ ∀J,ROK G r xs (i+1) js cs V Ms af m n' J→Gl (wpd E D c (JO J Q) (setVals (Ca js af) cs (V i s)) ⟨reB (Ms i s) m,n'⟩)):Gl (AWp E (.loop c) Q af ⟨m,n⟩):=
  haveI:LR X G Bn Bc L 0 s js cs V Ms:=⟨ii.eq 0,ii.un,ii.uc⟩
  Ah2 h hD hL hm hv rnil rcons
theorem Asy{σ:Type}{V:Int→σ→List AVal}{Ms:Int→σ→List BX}{X:Option β}{G:Nat→Int→σ→Option β}{Bn:Int→σ→Option β}{Bc:Nat→Int→σ→Option β}{k:Nat}{i:Int}{s:σ} [ii:LC X G Bn Bc k i s js cs V Ms] (h:T∧X=some r) (hj:COK G r k i js cs V Ms af0 m n J) (h2:SubW (reB (Ms i s) m) m1) (h4:Ag cs (Ca js af)=Ag cs (Ca js af0)) (h5:WkL (Cb (Ca js af) cs) (V i s)) (h6:n≤n'):Gl (J af ⟨m1,n'⟩):=⟨hj.go s af _ m1 n' (ii.eq▸h.2) h2 rfl h4 h5 h6⟩
theorem AsR{σ:Type}{V:Int→σ→List AVal}{Ms:Int→σ→List BX}{X:Option β}{G:Nat→Int→σ→Option β}{Bn:Int→σ→Option β}{Bc:Nat→Int→σ→Option β}{k:Nat}{i:Int}{s:σ} [ii:LU X G Bn Bc k s js cs V Ms] (h:T∧X=some r) (hj:COK G r k i js cs V Ms af0 m n J) (h2:SubW (reB (Ms i s) m) m1) (h4:Ag cs (Ca js af)=Ag cs (Ca js af0)) (h5:WkL (Cb (Ca js af) cs) (V i s)) (h6:n≤n'):Gl (J af ⟨m1,n'⟩):=⟨hj.go s af _ m1 n' (ii.eq i▸h.2) h2 rfl h4 h5 h6⟩
theorem AiA{σ:Type}{V:Int→σ→List AVal}{Ms:Int→σ→List BX}{X:Option β}{G:Nat→Int→σ→Option β}{Bn:Int→σ→Option β}{Bc:Nat→Int→σ→Option β}{i0 b:Int}{s:σ} [ii:LC X G Bn Bc (b-i0).toNat i0 s js cs V Ms] (h:T∧X=some r) (hD:DD D) (hL: -4611686018427387904≤i0∧b≤4611686018427387904) (hm:SubW (reB (Ms i0 s) m) m) (hv:WkL (Cb (Ca js af) cs) (V i0 s)) (rnil: ∀i s n',n≤n'→(decide (i<b)=false∧T)∧Bn i s=some r→Gl (wpd E D c (JO (fun _ _=>False) Q) (setVals (Ca js af) cs (V i s)) ⟨reB (Ms i s) m,n'⟩)) (rcons: ∀k i s n',n≤n'→(decide (i<b)=true∧wr .i64 (i+1)=i+1∧T)∧Bc k i s=some r→∀J,COK G r k (i+1) js cs V Ms af m n' J→Gl (wpd E D c (JO J Q) (setVals (Ca js af) cs (V i s)) ⟨reB (Ms i s) m,n'⟩)):Gl (AWp E (.loop c) Q af ⟨m,n⟩):=by
 rw[DY]at hv;refine⟨Uj (rgs js) cs (fun k vs st'=>∃i s,i0≤i∧k=(b-i).toNat∧vs=V i s∧st'.m=reB (Ms i s) m∧n≤st'.next∧G k i s=some r) (b-i0).toNat hv hm ⟨i0,s,bg _,rfl,rfl,rfl,aq _,ii.eq▸h.2⟩ ?_⟩;rintro k vs ⟨m',n'⟩ ⟨i,s,hi,hk',rfl,hm',hn,hG⟩ J hJ;simp only at hm' hn;subst hm';cases k with
 | zero=>have key:=EW (rnil _ s n' hn ⟨⟨by grind,h.1⟩,ii.un _ s▸hG⟩).go;rw[DY]at key;exact key.mono fun e af' st' _ q=>by cases e<;>first| exact q.elim| exact .oth fg q
 | succ k=>
  have hw:wr .i64 (i+1)=i+1:=by grind[wr,IntKind.wrap,IntKind.bits,IntKind.signed]
  have key:=fun hJ'=>EW (rcons k i s n' hn ⟨⟨by simp only[au];omega,hw,h.1⟩,ii.uc k i s▸hG⟩ J hJ').go;rw[DY]at key;refine(key ⟨fun s' af' m0 m1 n'' h1 h2 h3 h4 h5 h6=>?_⟩).mono fun e af' st' _ q=>by cases e<;>first| exact Mt q| exact .oth fg q
  subst h3;rw[DY,DY]at h4;rw[DY]at h5;exact hJ k af' ⟨m1,n''⟩ _ _ fg h2 h4 h5 ⟨i+1,s',ff,ff,rfl,rfl,bB hn h6,h1⟩
theorem ApX{σ:Type}{V:Int→σ→List AVal}{Ms:Int→σ→List BX}{X:Option β}{G:Nat→Int→σ→Option β}{Bn:Int→σ→Option β}{Bc:Nat→Int→σ→Option β}{i0 b:Int}{s:σ} [ii:LU X G Bn Bc (b-i0).toNat s js cs V Ms] (h:T∧X=some r) (hD:DD D) (hL: -4611686018427387904≤i0∧b≤4611686018427387904) (hm:SubW (reB (Ms i0 s) m) m) (hv:WkL (Cb (Ca js af) cs) (V i0 s))
    (rnil: ∀i s n',n≤n'→(decide (i<b)=false∧T)∧Bn i s=some r→Gl (wpd E D c (JO (fun _ _=>False) Q) (setVals (Ca js af) cs (V i s)) ⟨reB (Ms i s) m,n'⟩))
    (rcons: ∀k i s n',n≤n'→(decide (i<b)=true∧wr .i64 (i+1)=i+1∧T)∧Bc k i s=some r→ ∀J,COK G r k (i+1) js cs V Ms af m n' J→Gl (wpd E D c (JO J Q) (setVals (Ca js af) cs (V i s)) ⟨reB (Ms i s) m,n'⟩)):Gl (AWp E (.loop c) Q af ⟨m,n⟩):=
  haveI:LC X G Bn Bc (b-i0).toNat i0 s js cs V Ms:=⟨ii.eq i0,ii.un,ii.uc⟩
  AiA h hD hL hm hv rnil rcons
theorem Asf{G:Prop} (h:T∧(none:Option β)=some r):G:=by grind
theorem Au0{α:Type}{u:α}{f:α→Option β} (h:T∧letL u f=some r): ∃y,u=y∧T∧f y=some r:=⟨u,rfl,h⟩
theorem AtL{α:Type}{l:List α}{i:Int}{f:α→Option β} (h:T∧Option.bind (idx l i) f=some r): ∃y,((idx l i=some y∧l[i.toNat]?=some y)∧T)∧f y=some r:=by obtain⟨y,h1,h2⟩:=FQ h;exact⟨y,⟨⟨h1.1,AVi h1.1⟩,h1.2⟩,h2⟩
theorem AtS{α:Type}{l:List α}{i j:Int}{f:List α→Option β} (h:T∧Option.bind (sub l i j) f=some r): ∃y,(sub l i j=some y∧T)∧f y=some r:=FQ h
theorem isW (x:Gl (wpd E D c K af st)):Gl (wpd E D c K af st):=x
theorem isC{f:FuncId}{args:List AVal}{Q:PQ} (x:Gl (ACall E f args st Q)):Gl (ACall E f args st Q):=x
theorem isA (x:Gl (AWp E c K af st)):Gl (AWp E c K af st):=x
end rules
end Go.VM
namespace Go.VM
theorem tD{G:Prop} (x:G:=by first|(simp(disch:=omega) only[vm,seval,h.1];done)|rfl):G:=x
theorem tR{G:Prop} (x:G:=by
 obtain⟨H,h⟩:=h;cases h;simp(disch:= omega) only[vm,seval,H];refine⟨(hR _ _ _ _ _ _ (by simp(disch:= omega) only[vm,seval,H];rfl) ?_ rfl ff ?_).1⟩;·first| ((repeat (first| exact bM _| apply cn));done)| (simp(disch:= omega) only[vm,seval,H];(repeat (first| exact bM _| apply cn));done)
 ·first| (simp(disch:= omega) only[vm,seval,H];done)| rfl):G:=x
theorem tJ{A G:Prop} (a:A) (x:A→G:=by
  intro hz
  simp(disch:=omega) only[vm,seval,h.1]
  refine⟨hz _ _ _ _ h.2 ?_ rfl ?_ ?_ ff⟩
  · first|((repeat (first|exact bM _|apply cn));done)|(simp(disch:=omega) only[vm,seval,h.1];(repeat (first|exact bM _|apply cn));done)
  all_goals first|(simp(disch:=omega) only[vm,seval,h.1];done)|rfl):G:=x a
end Go.VM
