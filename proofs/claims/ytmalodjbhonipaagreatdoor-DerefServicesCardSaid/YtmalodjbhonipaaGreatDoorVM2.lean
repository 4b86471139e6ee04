import Derived.Laws.RangeString
import Derived.Laws.RangeAny
import Derived.Lib.OthersKept
import Derived.Lib.MakeNoZero
import Derived.Test.YtmalodjbhonipaaGreatDoorVM1
import Derived.Test.YtmalodjbhonipaaGreatDoorVM4
import Derived.Scope
set_option linter.unusedSimpArgs false
set_option linter.unusedVariables false
namespace Go.VM
def LM (mv:List Tmp) (dst:Option Tmp):Bool:=match dst with|some d=>mv.contains d|none=>false
def CR (s:List UInt8) (pos:Nat):Nat×Nat:=Utf8.decode ⟨s.toArray⟩ pos
def U4 (s:List UInt8) (pos:Nat) (t:Tmp) (d:Option Tmp) (af:List AVal):List AVal:=if decide (pos<s.length)=true then Am (af.set t (.iter s (pos+(CR s pos).2))) d (.tuple [.bool true,.int .i64 pos,.int .i32 (CR s pos).1]) else Am af d (.tuple [.bool false])
def DZ (E:Env) (mv:List Tmp) (o:Oper) (af:List AVal) (st:St):Option (List AVal×St):=match o.op with
 |.move x=>if LM mv o.dst=true then some (Am (stripAt af x) o.dst (rd E af o.type x),st)else some (Am af o.dst (rd E af o.type x).strip,st)
 |.assign x=>some (Am (stripAt af x) o.dst (rd E af o.type x),st)
 |.alloc t=>(if LM mv o.dst=true then NS E.P t st.next else EZ E.P t st.next).map fun cs=>(Am af o.dst (.ptr st.next 0),{m:=(st.next,cs)::st.m,next:=st.next+1})
 |.box t x=>if C8 (rd E af t x)=true then some (Am (stripAt af x) o.dst (.ptr st.next 0),{m:=(st.next,AY (rd E af t x))::st.m,next:=st.next+1})else none
 |.build t ⟨ps⟩=>(NM E t (Ay E (Ac E.P t) af ps).2).map fun r=>(Am (Ay E (Ac E.P t) af ps).1 o.dst r,st)
 | .buildSlice t len ⟨ps⟩=>if LM mv o.dst=true then(Gx E t len (Ay E (fun _=>Ac E.P t 0) af ps).2).map fun p=>(Am (Ay E (fun _=>Ac E.P t 0) af ps).1 o.dst (.gsl p.1 st.next len),{m:=(st.next,p.2)::st.m,next:=st.next+1}) else(FO E t len (Ay E (fun _=>Ac E.P t 0) af ps).2).map fun r=>(Am af o.dst r,st)
 | .load t x=>if LM mv o.dst=true then(MC E t (rd E af 0 x) st).map fun p=>(Am af o.dst p.1,p.2) else(M0 E t (rd E af 0 x) st).map fun r=>(Am af o.dst r.strip,st)
 |.store t x y=>if o.dst.isNone=true then(Lt E t (rd E af 0 x) (rd E af t y) st).map fun st'=>(stripAt af y,st')else none
 | .extract (.tmp t) n=>match af.getD t .any with |.tuple vs=>(vs[n]?).map fun r=>(Am (af.set t (.tuple (vs.set n r.strip))) o.dst r,st)|_=>none
 | .range t x=>match rd E af t x with |.str s=>if Ch E.P t=true then some (Am af o.dst (.iter s 0),st)else none|_=>none
 | .next (.tmp t) true=>match af.getD t .any with |.iter s pos=>some (U4 s pos t o.dst af,st)|_=>none
 | .slice t x lo hi mx=>match rdo E af lo,rdo E af hi,rdo E af mx with |some l,some h,some m=>(Ex E t (rd E af t x) l h m).map fun r=>(Am af o.dst r,st)|_,_,_=>none
 | .call {callee:=.builtin .append,args:=⟨[x,y]⟩,argTypes:=⟨t0::t1::_⟩}=>if LM mv o.dst=true then(Lj E t0 t1 (rd E af t0 x) (rd E af t1 y)).map fun r=>(Am (stripAt af x) o.dst (.sh st.next),{m:=(st.next,[r])::st.m,next:=st.next+1}) else(FD E t0 t1 (rd E af t0 x) (rd E af t1 y)).map fun r=>(Am (stripAt af x) o.dst r,st)
 |.makeMap t none=>some (Am af o.dst (.sh st.next),{m:=(st.next,[.map [] []])::st.m,next:=st.next+1})
 |.lookup t m k ok=>(PY E t (rd E af t m) (rd E af 0 k) ok st).map fun r=>(Am af o.dst r,st)
 |.mapUpdate t m k x=>if o.dst.isNone=true then(Pp E t (rd E af t m) (rd E af 0 k) (rd E af 0 x) st).map fun st'=>(af,st')else none
 |.insert t m k x=>if o.dst.isNone=true then(Pp E t (rd E af t m) (rd E af 0 k) (rd E af 0 x) st).map fun st'=>(af,st')else none
 | .indexAddr t x i=>match BS E o af with |some r=>some (Am af o.dst r.strip,st)|none=>(Ig E t (rd E af t x) (rd E af 0 i) st).map fun r=>(Am af o.dst r,st)
 |.makeSlice t x y=>(if LM mv o.dst=true then QR E t (rd E af 0 x) (rd E af 0 y) st else PP E t (rd E af 0 x) (rd E af 0 y) st).map fun p=>(Am af o.dst p.1,p.2)
 | .convert s d x=>match BS E o af with |some r=>some (Am af o.dst r.strip,st)| none=>match NV E s d (rd E af s x) st with |some r=>some (Am af o.dst r,st)|none=>(MN E s d (rd E af s x) st).map fun p=>(Am af o.dst p.1,p.2)
 |.call {callee:=.builtin .unsafeSliceData,args:=⟨[x]⟩,argTypes:=⟨t0::_⟩}=>(NK (rd E af t0 x)).map fun r=>(Am (stripAt af x) o.dst r,st)
 |.call {callee:=.builtin .unsafeString,args:=⟨[x,y]⟩,argTypes:=⟨[t0,t1]⟩}=>(Pn E t0 (rd E af t0 x) (rd E af t1 y)).map fun r=>(Am (stripAt af x) o.dst r,st)
 |_=>(BS E o af).map fun r=>(Am af o.dst r.strip,st)
section
variable{E:Env}{F:Nat→Nat}{Γ:Ghost}{st:St}{w:World}{af:List AVal}{a:Act}
theorem AKv (vs:List Value) (t:Nat) (d:Value):vs.set t (vs.getD t d)=vs:=by
 apply dm;intro i;rw[bS];split
 ·rename_i e;subst e;split;·rename_i h;simp[List.getD,aN h]
  ·rename_i h;rw[bz (du h)]
 ·rfl
theorem Sim.newIter (hs:Sim E F Γ st w af a.tmps.toList) (sb:ByteArray) (p:Nat):Sim E F Γ st (w.iter sb p) af a.tmps.toList∧Ext F Γ w Γ (w.iter sb p):=by
 have hold: ∀n,n<w.heap.size→(w.iter sb p).heap[n]?=w.heap[n]?:=fun n hn=>alloc_old (.stringIter sb p) hn;have hsz:(w.iter sb p).heap.size=w.heap.size+1:=by simp[World.iter]
 refine⟨hs.elsewhere (b:=w.heap.size) (fun n hn _=>hold n hn) eT (hs.com_none (ao _)) (fun i hi h=>?_) ?_ ?_,⟨Γ.le_refl,fun n hn=>⟨hold n (hs.F_of hn),rfl⟩,eT,rfl,rfl,rfl⟩⟩;·have:=hs.bx_lt _ _ h;omega
 ·rcases aS 0 (AJ w.heap.size af a.tmps.toList)with h|h;·have:=(BC _ _ hs.own h).1;omega
  ·omega
 ·rcases aS 0 (Aa Γ w w.heap.size st.m)with h|h;·have:=SF hs h;omega
  ·omega
theorem Sim.iterTo (hs:Sim E F Γ st w af a.tmps.toList){t:Tmp}{s:List UInt8}{pos:Nat} (hx:af.getD t .any=.iter s pos){b:Nat}{sb:ByteArray} (hv:a.tmps.toList.getD t undef=.pointer (some ⟨b,0,none⟩)) (hsb:sb.data.toList=s) (hh:w.heap[b]?=some (.stringIter sb pos)) (pos':Nat):Sim E F Γ st (w.iterAt b sb pos') (af.set t (.iter s pos')) a.tmps.toList∧Ext F Γ w Γ (w.iterAt b sb pos'):=by
 have e:=J3 b af a.tmps.toList t undef hs.rep.length;rw[hx,hv]at e;have e1:cnt b (.iter s pos) (.pointer (some ⟨b,0,none⟩))=1:=by simp[cnt,LW]
 rw[e1]at e;have e2:(AVal.iter s pos).strip=.any:=by simp[AVal.strip]
 rw[e2]at e;have tk:=hs.tok b;have hlt:b<w.heap.size:=(aD.1 hh).1;have hold: ∀n,n≠b→(w.iterAt b sb pos').heap[n]?=w.heap[n]?:=fun n hn=>by simp only[World.iterAt];rw[dn (fun e=>hn e.symm)]
 have hsz:(w.iterAt b sb pos').heap.size=w.heap.size:=by simp[World.iterAt]
 have hnew:(w.iterAt b sb pos').heap[b]?=some (.stringIter sb pos'):=by simp[World.iterAt,hlt]
 have hs0:Sim E F Γ st w (af.set t .any) a.tmps.toList:=by have:=hs.stripAt (.tmp t);simpa only[VM.stripAt,hx,e2]using this
 have hcom:Γ.com b=none:=by cases hc:Γ.com b with |none=>rfl|some cs=>obtain⟨ar,e',fz,q2,_⟩:=hs.com_ok b cs hc;rw[hh]at q2;cases q2
 have s1:Sim E F Γ st (w.iterAt b sb pos') (af.set t .any) a.tmps.toList:=hs0.elsewhere (b:=b) (fun n _ hn=>hold n hn) eT hcom (fun i hi h=>by
  obtain⟨p,hp,rfl⟩:=bo.1 hi;rcases hs.box_ok p hp with⟨k,ar,e',hb⟩|⟨v,hv⟩;rotate_left;·have:=hv.bx;rw[h]at this;cases this
  obtain⟨lo,hh2,q3,_⟩:=hb.heap;have:=hb.bx;rw[h]at this;cases this;rw[hh]at q3;cases q3) eT eT;refine⟨?_,⟨Γ.le_refl,fun n hn=>⟨hold n (fun e=>by subst e;omega),rfl⟩,eT,rfl,rfl,rfl⟩⟩;have hset:a.tmps.toList=a.tmps.toList.set t (.pointer (some ⟨b,0,none⟩)):=by rw[←hv,AKv]
 have hss:af.set t (.iter s pos')=(af.set t .any).set t (.iter s pos'):=by rw[eS]
 rw[hss];have h5: ∀n,AJ n ((af.set t .any).set t (.iter s pos')) a.tmps.toList≤AJ n (af.set t .any) a.tmps.toList+cnt n (.iter s pos') (.pointer (some ⟨b,0,none⟩)):=fun n=>by have:=GG n (af.set t .any) a.tmps.toList t (.iter s pos') (.pointer (some ⟨b,0,none⟩));rw[←hset]at this;exact this
 refine {s1 with rep:=?_,own:=?_,tok:=?_};·have:=s1.rep.set t (x:=.iter s pos') (v:=.pointer (some ⟨b,0,none⟩)) (.iter _ _ _);rwa[←hset]at this
 ·have:=s1.own.set t (x:=.iter s pos') (v:=.pointer (some ⟨b,0,none⟩)) (by simp only[VM.own];exact⟨b,sb,rfl,hsb,hnew⟩);rwa[←hset]at this
 ·intro n;have q1:=h5 n;have q2:=s1.tok n;by_cases hn:n=b
  ·subst hn;have q3:Aa Γ (w.iterAt n sb pos') n st.m=0:=by
    rw[Dc (w:=w) fun p hp=>⟨rfl,fun k hk=>hold k (fun e=>by
     subst e;rcases hs.box_ok p hp with⟨k2,ar,e',hb⟩|⟨v,hv⟩;rotate_left;·have:=hv.bx;rw[hk]at this;cases this
     obtain⟨lo,hh2,q3,_⟩:=hb.heap;have:=hb.bx;rw[hk]at this;cases this;rw[hh]at q3;cases q3)⟩];omega
   have q4:cnt n (.iter s pos') (.pointer (some ⟨n,0,none⟩))=1:=by simp[cnt,LW]
   omega
  ·have q4:cnt n (.iter s pos') (.pointer (some ⟨b,0,none⟩))=0:=by simp[cnt,LW];exact fun e=>hn e.symm
   omega
theorem Rp{b:ByteArray}{s:List UInt8} (h:b.data.toList=s):b=⟨s.toArray⟩:=by subst h;simp
theorem AF0 (hs:Sim E F Γ st w af a.tmps.toList){o:Oper}{t:TypeId}{x:Operand}{s:List UInt8} (hop:o.op=.range t x) (hx:rd E af t x=.str s) (ht:Ch E.P t=true):∃nx w' a' Γ',Stepped E F Γ st w a o (Am af o.dst (.iter s 0)) st nx w' a' Γ':=by
 have hr:=hs.rd t x;rw[hx]at hr;generalize hv:a.eval x=v at hr;cases hr;rename_i sb hn;have hrun:=run_range_string (P:=E.P) w t sb (Bh ht);refine⟨.value (.pointer (some ⟨w.heap.size,0,none⟩)),w.iter sb 0,a.put o.dst (.pointer (some ⟨w.heap.size,0,none⟩)),Γ,?_,fun K Q hk=>hk,put_defers _ _ _,?_,ao _,?_⟩;·simp only[execOp,hop,hv];rw[au,hrun];rfl
 ·exact(hs.newIter sb 0).2
 ·refine(hs.newIter sb 0).1.put o.dst (.iter _ _ _) ?_ ?_;·simp only[VM.own];exact⟨_,sb,rfl,rfl,World.iter_heap w sb 0⟩
  ·intro b;have h1:=hs.tok b;have h2:=(hs.newIter sb 0).1.tok b;simp only[cnt,LW];split
   ·rename_i e;have h3:F b=0:=hs.F_lt b eT;have h4:AJ b af a.tmps.toList=0:=by
     rcases aS 0 (AJ b af a.tmps.toList)with h|h;·have:=(BC _ _ hs.own h).1;omega
     ·omega
    have h5:Aa Γ (w.iter sb 0) b st.m=0:=by
     rw[Dc (Γ:=Γ) (w:=w) (w':=w.iter sb 0) fun p hp=>⟨rfl,fun k hk=>alloc_old (.stringIter sb 0) (hs.bx_lt _ _ hk)⟩];rcases aS 0 (Aa Γ w b st.m)with h|h;·have:=SF hs h;omega
     ·omega
    omega
   ·omega
theorem AKg (hs:Sim E F Γ st w af a.tmps.toList){o:Oper}{t:Tmp}{s:List UInt8}{pos:Nat} (hop:o.op=.next (.tmp t) true) (hx:af.getD t .any=.iter s pos):∃nx w' a' Γ',Stepped E F Γ st w a o (U4 s pos t o.dst af) st nx w' a' Γ':=by
 have ho:=hs.own.get hs.rep.length t undef;rw[hx]at ho;simp only[VM.own]at ho;obtain⟨b,sb,hv,hsb,hh⟩:=ho;have hev:a.eval (.tmp t)=.pointer (some ⟨b,0,none⟩):=by simp only[Act.eval,Array.getD_toList'];exact hv
 have hlen:sb.size=s.length:=by rw[←hsb,ap];rfl
 unfold U4;split
 ·rename_i hlt;have hlt:pos<sb.size:=by rw[hlen];simpa using hlt
  have hrun:=Go.Lib.run_next_any_at (P:=E.P) w b sb pos o.type hh hlt;have hde:Utf8.decode sb pos=CR s pos:=by rw[Rp hsb];rfl
  rw[hde]at hrun;obtain⟨s1,x1⟩:=hs.iterTo (t:=t) hx hv hsb hh (pos+(CR s pos).2);refine⟨.value (.tuple #[.bool true,.int .i64 pos,.int .i32 (CR s pos).1]),w.iterAt b sb (pos+(CR s pos).2),a.put o.dst (.tuple #[.bool true,.int .i64 pos,.int .i32 (CR s pos).1]),Γ,?_,fun K Q hk=>hk,put_defers _ _ _,x1,ao _,?_⟩;·simp only[execOp,hop,hev];rw[au,hrun];rfl
  ·refine s1.put o.dst (r:=.tuple [.bool true,.int .i64 pos,.int .i32 (CR s pos).1]) (.tuple (.cons (.bool _) (.cons (.int _ _) (.cons (.int _ _) .nil)))) (by simp[VM.own,ownL]) fun n=>?_;have:=s1.tok n;simp only[cnt,AJ];omega
 ·rename_i hlt;have hlt: ¬pos<sb.size:=by rw[hlen];simpa using hlt
  have hrun:=Go.Lib.run_next_end_at (P:=E.P) w b sb pos o.type hh hlt;refine⟨.value (.tuple #[.bool false]),w,a.put o.dst (.tuple #[.bool false]),Γ,?_,fun K Q hk=>hk,put_defers _ _ _,Ext.refl _ _ _,ao _,?_⟩;·simp only[execOp,hop,hev];rw[au,hrun];rfl
  ·refine hs.put o.dst (r:=.tuple [.bool false]) (.tuple (.cons (.bool _) .nil)) (by simp[VM.own,ownL]) fun n=>?_;have:=hs.tok n;simp only[cnt,AJ];omega
theorem Mj (hs:Sim E F Γ st w af a.tmps.toList){mv:List Tmp}{o:Oper}{af':List AVal}{st':St} (h:DZ E mv o af st=some (af',st')):∃nx w' a' Γ',Stepped E F Γ st w a o af' st' nx w' a' Γ':=by
 unfold DZ at h;split at h
 ·rename_i x hop;split at h;·simp only[ac,aA]at h;obtain⟨rfl,rfl⟩:=h;exact VE hs (.inl hop)
  ·simp only[ac,aA]at h;obtain⟨rfl,rfl⟩:=h;exact⟨.value (a.eval x),w,a.put o.dst (a.eval x),Γ,by simp[execOp,hop],fun K Q hk=>hk,put_defers _ _ _,Ext.refl _ _ _,ao _,hs.putStrip o.dst (hs.rd o.type x)⟩
 ·rename_i x hop;simp only[ac,aA]at h;obtain⟨rfl,rfl⟩:=h;exact VE hs (.inr hop)
 ·rename_i t hop;split at h;·cases hz:NS E.P t st.next with |none=>simp[hz]at h| some z=>simp only[hz,aH,ac,aA]at h;obtain⟨rfl,rfl⟩:=h;exact AAS hs hop hz
  ·cases hz:EZ E.P t st.next with |none=>simp[hz]at h| some z=>simp only[hz,aH,ac,aA]at h;obtain⟨rfl,rfl⟩:=h;exact AGi hs hop hz
 ·rename_i t x hop;split at h;·rename_i hx;simp only[ac,aA]at h;obtain⟨rfl,rfl⟩:=h;exact AFR hs hop hx
  ·cases h
 ·rename_i t ps hop;cases hz:NM E t (Ay E (Ac E.P t) af ps).2 with |none=>simp[hz]at h| some z=>simp only[hz,aH,ac,aA]at h;obtain⟨rfl,rfl⟩:=h;exact AFw hs hop hz
 ·rename_i t len ps hop;split at h;·cases hz:Gx E t len (Ay E (fun _=>Ac E.P t 0) af ps).2 with |none=>simp[hz]at h| some z=>obtain⟨z,cs⟩:=z;simp only[hz,aH,ac,aA]at h;obtain⟨rfl,rfl⟩:=h;exact Qy hs hop hz
  cases hz:FO E t len (Ay E (fun _=>Ac E.P t 0) af ps).2 with |none=>simp[hz]at h| some z=>simp only[hz,aH,ac,aA]at h;obtain⟨rfl,rfl⟩:=h;exact Rv hs hop hz
 ·rename_i t x hop;split at h;·cases hz:MC E t (rd E af 0 x) st with |none=>simp[hz]at h| some z=>obtain⟨r,s⟩:=z;simp only[hz,aH,ac,aA]at h;obtain⟨rfl,rfl⟩:=h;exact ADg hs hop hz
  ·cases hz:M0 E t (rd E af 0 x) st with |none=>simp[hz]at h| some z=>simp only[hz,aH,ac,aA]at h;obtain⟨rfl,rfl⟩:=h;exact AJD hs hop hz
 ·rename_i t x y hop;split at h;·rename_i hd;cases hz:Lt E t (rd E af 0 x) (rd E af t y) st with |none=>simp[hz]at h| some z=>simp only[hz,aH,ac,aA]at h;obtain⟨rfl,rfl⟩:=h;exact AGs hs hop (by simpa using hd) hz
  ·cases h
 ·rename_i t n hop;split at h;·rename_i vs hv;cases hz:vs[n]? with |none=>simp[hz]at h| some z=>simp only[hz,aH,ac,aA]at h;obtain⟨rfl,rfl⟩:=h;exact Zv hs hop hv hz
  ·cases h
 ·rename_i t x hop;split at h
  ·rename_i s hx;split at h;·rename_i ht;simp only[ac,aA]at h;obtain⟨rfl,rfl⟩:=h;exact AF0 hs hop hx ht
   ·cases h
  ·cases h
 ·rename_i t hop;split at h;·rename_i s pos hx;simp only[ac,aA]at h;obtain⟨rfl,rfl⟩:=h;exact AKg hs hop hx
  ·cases h
 ·rename_i t x lo hi mx hop;split at h;·rename_i l hh m h1 h2 h3;cases hz:Ex E t (rd E af t x) l hh m with |none=>simp[hz]at h| some z=>simp only[hz,aH,ac,aA]at h;obtain⟨rfl,rfl⟩:=h;exact AF1 hs hop h1 h2 h3 hz
  ·cases h
 ·rename_i x y t0 t1 ts hop;split at h;·cases hz:Lj E t0 t1 (rd E af t0 x) (rd E af t1 y)with |none=>simp[hz]at h| some z=>simp only[hz,aH,ac,aA]at h;obtain⟨rfl,rfl⟩:=h;exact YS hs hop hz
  cases hz:FD E t0 t1 (rd E af t0 x) (rd E af t1 y)with |none=>simp[hz]at h| some z=>simp only[hz,aH,ac,aA]at h;obtain⟨rfl,rfl⟩:=h;exact AA5 hs hop hz
 ·rename_i t hop;simp only[ac,aA]at h;obtain⟨rfl,rfl⟩:=h;exact WZ hs hop
 ·rename_i t m k ok hop;cases hz:PY E t (rd E af t m) (rd E af 0 k) ok st with |none=>simp[hz]at h| some z=>simp only[hz,aH,ac,aA]at h;obtain⟨rfl,rfl⟩:=h;exact ABG hs hop hz
 ·rename_i t m k x hop;split at h;·rename_i hd;cases hz:Pp E t (rd E af t m) (rd E af 0 k) (rd E af 0 x) st with |none=>simp[hz]at h| some z=>simp only[hz,aH,ac,aA]at h;obtain⟨rfl,rfl⟩:=h;exact Rb hs (.inl hop) (by simpa using hd) hz
  ·cases h
 ·rename_i t m k x hop;split at h;·rename_i hd;cases hz:Pp E t (rd E af t m) (rd E af 0 k) (rd E af 0 x) st with |none=>simp[hz]at h| some z=>simp only[hz,aH,ac,aA]at h;obtain⟨rfl,rfl⟩:=h;exact Rb hs (.inr hop) (by simpa using hd) hz
  ·cases h
 ·rename_i t x i hop;split at h;·rename_i r hz;simp only[ac,aA]at h;obtain⟨rfl,rfl⟩:=h;exact Qa hs hz
  ·cases hz:Ig E t (rd E af t x) (rd E af 0 i) st with |none=>simp[hz]at h| some z=>simp only[hz,aH,ac,aA]at h;obtain⟨rfl,rfl⟩:=h;exact Ry hs hop hz
 ·rename_i t x y hop;split at h;·cases hz:QR E t (rd E af 0 x) (rd E af 0 y) st with |none=>simp[hz]at h| some z=>simp only[hz,aH,ac,aA]at h;obtain⟨rfl,rfl⟩:=h;exact AFJ hs hop hz
  ·cases hz:PP E t (rd E af 0 x) (rd E af 0 y) st with |none=>simp[hz]at h| some z=>simp only[hz,aH,ac,aA]at h;obtain⟨rfl,rfl⟩:=h;exact AIx hs hop hz
 ·rename_i s d x hop;split at h;·rename_i r hz;simp only[ac,aA]at h;obtain⟨rfl,rfl⟩:=h;exact Qa hs hz
  ·split at h;·rename_i r hz;simp only[ac,aA]at h;obtain⟨rfl,rfl⟩:=h;exact AGj hs hop hz
   ·cases hz:MN E s d (rd E af s x) st with |none=>simp[hz]at h| some z=>simp only[hz,aH,ac,aA]at h;obtain⟨rfl,rfl⟩:=h;exact AF5 hs hop hz
 ·rename_i x t0 ts hop;cases hz:NK (rd E af t0 x)with |none=>simp[hz]at h| some z=>simp only[hz,aH,ac,aA]at h;obtain⟨rfl,rfl⟩:=h;exact AGE hs hop hz
 ·rename_i x y t0 t1 hop;cases hz:Pn E t0 (rd E af t0 x) (rd E af t1 y)with |none=>simp[hz]at h| some z=>simp only[hz,aH,ac,aA]at h;obtain⟨rfl,rfl⟩:=h;exact AIn hs hop hz
 ·cases hz:BS E o af with |none=>simp[hz]at h| some z=>simp only[hz,aH,ac,aA]at h;obtain⟨rfl,rfl⟩:=h;exact Qa hs hz
end
def rdL (E:Env) (af:List AVal):List Operand→List TypeId→List AVal |[],_=>[]|x::xs,[]=>rd E af 0 x::rdL E af xs []|x::xs,t::ts=>rd E af t x::rdL E af xs ts
def callable (P:Program) (g:FuncId):Bool:=match P.funcs[g]? with | some fn=>fn.name != "runtime.NumGoroutine" && fn.body.isSome|none=>false
def AWF (E:Env) (g:FuncId) (args:List AVal) (st:St) (Q:AVal→St→Prop):Prop:=∃ fn e r,E.P.funcs[g]? = some fn∧(fn.name == "runtime.NumGoroutine") = false∧fn.body.isNone = true∧Extern.findNext fn = none∧Extern.find fn = some e∧(∀Γ vs w,RepL Γ args vs→∃v,(e vs.toArray).run E.P w=.ok v w∧Rep Γ r v)∧Q r.strip st
def AVn (E:Env) (g:FuncId) (args:List AVal) (st:St) (Q:AVal→St→Prop):Prop:=∃ fn ps t el,∃ n : Nat,E.P.funcs[g]? = some fn∧(fn.name == "runtime.NumGoroutine") = false∧fn.body.isNone = true∧Extern.findNext fn = none∧Extern.find fn = some (Extern.BytealgMakeNoZero.makeNoZero ps #[t])∧E.P.underlying t=some (.slice el)∧1≤n∧n≤140737488355328∧args=[.int .i64 n]∧Q (.trow el st.next n) {m:=(st.next,[.any])::st.m,next:=st.next+1}
def RU (E:Env) (g:FuncId) (args:List AVal) (st:St) (Q:AVal→St→Prop):Prop:=AWF E g args st Q∨AVn E g args st Q
theorem Tp: ∀(n t:Nat) (acc:Array Value),(∀v,v∈acc.toList→v.oneCell'=true)→∀v,v∈(Extern.BytealgMakeNoZero.digits n t acc).toList→v.oneCell'=true
 |0,_,_,h=>h
 | n+1,t,acc,h=>by
  rw[Extern.BytealgMakeNoZero.digits];refine Tp n _ _ fun v hv=>?_;rw[Array.toList_push,aV]at hv;rcases hv with hv|hv;·exact h v hv
  ·rw[bh]at hv;subst hv;rfl
theorem AUH{P:Program} (w:World) (ps:Array TypeId) (t e:TypeId) (ht:P.underlying t=some (.slice e)) (n:Nat) (hn:n≤281474976710656):
    ∃cs:Array Value,(Extern.BytealgMakeNoZero.makeNoZero ps #[t] #[.int .i64 n]).run P w=.ok (.slice (some ⟨w.heap.size,0,none⟩) n cs.size) (w.drew.drew.alloc (.cells cs e))∧n≤cs.size∧ ∀v,v∈cs.toList→v.oneCell'=true:=by
  have h1: ¬(n:Int)<0:=eT
  have h2: ¬(281474976710656:Int)<(n:Int):=eT
  refine ⟨Extern.BytealgMakeNoZero.digits (grownCap w n 0 e) ((Question.extern "internal/bytealg.MakeNoZero.bytes" 0).cut (w.tape (w.drawn + 1) (.extern "internal/bytealg.MakeNoZero.bytes" 0))) #[], ?_, ?_, Tp _ _ _ eU⟩
  · show Sem.run P (do
        let TypeDesc.slice el←underlying t|stuck _
        if(n:Int)<0||(n:Int)>2^48 then runtimePanic _
        let c←choose (.appendCap (n:Int).toNat 0 el)
        askRoom c
        let bs←choose (.extern _ 0)
        let a←newRow el (Extern.BytealgMakeNoZero.digits c bs #[])
        pure (Value.slice (some a) (n:Int).toNat c):Sem Value) w=_
    simp[aB ht,h1,h2,Question.forced,newRow,Go.Lib.size_digits,grownCap]
  · rw[Go.Lib.size_digits]
    simpa using d5 w n 0 e
def CallX (E:Env) (g:FuncId) (args:List AVal) (st:St) (Q:AVal→St→Prop):Prop:=if callable E.P g=true then ACall E g args st Q else RU E g args st Q
theorem CallX.mono{E:Env}{st:St}{g:FuncId}{args:List AVal}{Q Q':AVal→St→Prop} (h:CallX E g args st Q) (k: ∀r st',st.next≤st'.next→Q r st'→Q' r st'):CallX E g args st Q':=by
 unfold CallX at *;split;·rename_i hc;rw[ah hc]at h;exact h.mono k
 ·rename_i hc;rw[ag hc]at h;rcases h with h|h;·obtain⟨fn,e,r,h1,h2,h3,h4,h5,h6,h7⟩:=h;exact .inl ⟨fn,e,r,h1,h2,h3,h4,h5,h6,k _ _ (ao _) h7⟩
  ·obtain⟨fn,ps,t,el,n,h1,h2,h3,h4,h5,h6,h7,h8,h9,h10⟩:=h;exact .inr ⟨fn,ps,t,el,n,h1,h2,h3,h4,h5,h6,h7,h8,h9,k _ _ (Nat.le_succ _) h10⟩
def Ob:AVal→Bool |.gsl _ _ _=>true|_=>false
def Xy (x y:AVal):Bool:=Ob y||Ob x
def OQ:BinOp→Operand→Bool |.eql,.const (.slice none 0 0)=>true|_,_=>false
def AQj (b:Bool) (v:AVal) (K:AVal→Prop):Prop:=match b,v with |true,.slice _ xs _=>∀c:Bool,(c=true→xs=[])→K (.bool c)|_,_=>False
def CO (E:Env) (mv:List Tmp) (o:Oper) (af:List AVal) (st:St) (K:List AVal→St→Prop):Prop:=match o.op with
 | .call {callee:=.value f,args,argTypes}=>match rd E af 0 f with |.fn (.func g) p q=>CallX E g (stripL (p++rdL E af args.toList argTypes.toList++q)) st fun r st'=>K (Am af o.dst r) st'|_=>False
 | .call {callee:=.builtin .append,args:=⟨[x,y]⟩,argTypes:=⟨t0::t1::_⟩}=>if Xy (rd E af t0 x) (rd E af t1 y)=true then match appG E t0 t1 (rd E af t0 x) (rd E af t1 y) st with |some (wd,l,cs,rest,jo)=>∀i,i=st.next∨jo=some i→K (Am af o.dst (.gsl wd i l)) {m:=(i,cs)::rest,next:=st.next+1}|none=>False else match DZ E mv o af st with |some (af',st')=>K af' st'|none=>False
 | .binOp op t x y _=>if OQ op y=true then AQj (CY E.P t) (rd E af t x) fun v=>K (Am af o.dst v) st else match DZ E mv o af st with |some (af',st')=>K af' st'|none=>False
 | _=>match DZ E mv o af st with |some (af',st')=>K af' st'|none=>False
def AY7 (E:Env) (o:Oper) (af:List AVal) (st:St) (K:List AVal→St→Prop):Prop:=∀(F:Nat→Nat) (Γ:Ghost) (w:World) (a:Act),a.defers=[]→Sim E F Γ st w af a.tmps.toList→∀(K':Act→World→Prop) (Qx:Exit→Act→World→Prop),(∀Γ' af' st' a' w',Ext F Γ w Γ' w'→st.next≤st'.next→a'.defers=[]→Sim E F Γ' st' w' af' a'.tmps.toList→K af' st'→K' a' w')→o.wp E.P a w K' Qx
section
variable{E:Env}{F:Nat→Nat}{Γ:Ghost}{st:St}{w:World}{af:List AVal}{a:Act}
theorem RepL.append{xs ys:List AVal}{us vs:List Value} (h:RepL Γ xs us) (k:RepL Γ ys vs):RepL Γ (xs++ys) (us++vs):=by induction xs generalizing us with |nil=>cases h;exact k|cons x xs ih=>cases h with|cons h t=>exact .cons h (ih t)
theorem Yo (hs:Sim E F Γ st w af a.tmps.toList): ∀(xs:List Operand) (ts:List TypeId),RepL Γ (rdL E af xs ts) (xs.map a.eval) |[],_=>.nil|x::xs,[]=>.cons (hs.rd _ x) (Yo hs xs [])|x::xs,t::ts=>.cons (hs.rd _ x) (Yo hs xs ts)
theorem Sim.aside (hs:Sim E F Γ st w af a.tmps.toList){xs:List AVal}{vs:List Value} (hr:RepL Γ xs vs):Sim E (fun b=>F b+AJ b af a.tmps.toList) Γ st w (stripL xs) vs:=by
 refine {hs with bx_F:=?_,F_lt:=?_,rep:=hr.strip,own:=GN _ _ _ _,tok:=?_}
 ·intro p b hp hb;have h1:=hs.bx_F p b hp hb;have h2:AJ b af a.tmps.toList=0:=by
   rcases aS 0 (AJ b af a.tmps.toList)with h|h
   ·rcases hs.box_ok p hp with⟨b',arr,e,hk⟩|⟨v,hv⟩;rotate_left;·have:=hv.bx;rw[hb]at this;cases this
    have:=hk.bx;rw[hb]at this;cases this;rcases (BC _ _ hs.own h).2 with⟨c,hc⟩|⟨s0,p0,hc⟩|⟨s0,p0,hc⟩;·rw[hk.com]at hc;cases hc
    ·obtain⟨lo,hi,hh,_⟩:=hk.heap;rw[hh]at hc;cases hc
    ·obtain⟨lo,hi,hh,_⟩:=hk.heap;rw[hh]at hc;cases hc
   ·omega
  show F b+AJ b af a.tmps.toList=0;omega
 ·intro b hb;have h1:=hs.F_lt b hb;have h2:AJ b af a.tmps.toList=0:=by
   rcases aS 0 (AJ b af a.tmps.toList)with h|h;·have:=(BC _ _ hs.own h).1;omega
   ·omega
  show F b+AJ b af a.tmps.toList=0;omega
 ·intro b;have:=hs.tok b;rw[FW];omega
theorem Sim.back (hs:Sim E F Γ st w af a.tmps.toList){Γ':Ghost}{st':St}{w':World}{r:AVal}{v:Value} (hx:Ext (fun b=>F b+AJ b af a.tmps.toList) Γ w Γ' w') (h:Sim E (fun b=>F b+AJ b af a.tmps.toList) Γ' st' w' [r] [v]) (dst:Option Tmp):Sim E F Γ' st' w' (Am af dst r) (a.put dst v).tmps.toList:=by
 have hown:ownL Γ' w' af a.tmps.toList:=A9 hx.le _ _ hs.own fun b hb=>hx.keep b (by show 1≤F b+AJ b af a.tmps.toList;omega);have hmid:Sim E F Γ' st' w' af a.tmps.toList:=by
  refine {h with bx_F:=?_,F_lt:=?_,rep:=hs.rep.mono hx.le,own:=hown,tok:=?_};·intro p b hp hb;have:=h.bx_F p b hp hb;omega
  ·intro b hb;have:=h.F_lt b hb;omega
  ·intro b;have:=h.tok b;omega
 have hr:Rep Γ' r v:=by have:=h.rep;cases this;assumption
 have ho:VM.own Γ' w' r v:=by have:=h.own;rw[ownL]at this;exact this.1
 refine hmid.put dst hr ho fun b=>?_;have:=h.tok b;have e:AJ b [r] [v]=cnt b r v:=by simp[AJ]
 rw[e]at this;omega
theorem Uc{P:Program}{w:World}{t e:TypeId} (h:P.underlying t=some (.slice e)) (p:Option Addr) (n k:Nat):(binOp .eql t (.slice p n k) (.slice none 0 0)).run P w=.ok (.bool p.isNone) w:=by
 have key: ∀d:Nat,(Op.equalIn (d+1) t (.slice p n k) (.slice none 0 0)).run P w=.ok p.isNone w:=fun d=>by cases p<;>simp[Op.equalIn,aB h]
 simp only[binOp];simp[Op.equal,Op.maxDepth,key 9999]
theorem AHm{op:BinOp}{y:Operand} (h:OQ op y=true):op=.eql∧y=.const (.slice none 0 0):=by
 unfold OQ at h;split at h;·exact⟨rfl,rfl⟩
 ·cases h
theorem Oq {mv:List Tmp}{o:Oper}{K:List AVal→St→Prop} (h:CO E mv o af st K):AY7 E o af st K:=by
 intro F Γ w a hd hs K' Qx hK;unfold CO at h;split at h
 ·rename_i f args ts hop;have hf:=hs.rd 0 f;split at h
  ·rename_i g p q e;rw[e]at hf;generalize hfv:a.eval f=fv at hf;cases hf with
   | fn hp hq=>
    rename_i vp vq;have hargs:=Yo hs args.toList ts.toList;have hall:=hp.append (hargs.append hq);rw[←bb]at hall;unfold CallX at h;split at h;rotate_left
    ·rcases h with h|h
     ·obtain⟨fn,e2,r,h1,h2,h3,h4,h5,h6,h7⟩:=h;obtain⟨v,hv,hr⟩:=h6 Γ (vp.toList++args.toList.map a.eval++vq.toList) w (by have:=hall.strip;simpa using this);have harr:(vp.toList++args.toList.map a.eval++vq.toList).toArray=vp++args.map a.eval++vq:=by apply Array.ext';simp
      rw[harr]at hv;have hrun:(execOp a.eval o).run E.P w=.ok (.value v) w:=by have hcf:=run_callFunc_extern (P:=E.P) h1 h2 h3 h4 h5 (vp++args.map a.eval++vq) w;rw[hv]at hcf;simp only[execOp,hop,resolve,hfv,Deferred.ofValue,au,aZ,aq,invoke];rw[hcf];rfl
      unfold Oper.wp;rw[hrun];exact hK Γ _ st (a.put o.dst v) w (Ext.refl _ _ _) (ao _) (by rw[put_defers];exact hd) (hs.putStrip o.dst hr) h7
     ·obtain⟨fn,ps,t,el,n,h1,h2,h3,h4,h5,h6,h7,h8,h9,h10⟩:=h;have hst:=hall.strip;have harr:(vp.toList++args.toList.map a.eval++vq.toList).toArray=vp++args.map a.eval++vq:=by apply Array.ext';simp
      obtain⟨v0,hv0,hrv⟩: ∃v0,vp.toList++args.toList.map a.eval++vq.toList=[v0]∧Rep Γ (.int .i64 n) v0:=by
       have hst':RepL Γ [.int .i64 n] (vp.toList++args.toList.map a.eval++vq.toList):=by rw[←h9];simpa using hst
       generalize vp.toList++args.toList.map a.eval++vq.toList=vs at hst';cases hst' with |cons q t=>cases t;exact⟨_,rfl,q⟩
      cases hrv;rw[hv0]at harr;obtain⟨cs,r1,r2,r3⟩:=AUH (P:=E.P) w ps t el h6 n eT;have hrun:(execOp a.eval o).run E.P w=.ok (.value (.slice (some ⟨w.drew.drew.heap.size,0,none⟩) n cs.size)) (w.drew.drew.alloc (.cells cs el (0,0))):=by have hcf:=run_callFunc_extern (P:=E.P) h1 h2 h3 h4 h5 (vp++args.map a.eval++vq) w;rw[←harr]at hcf;rw[r1]at hcf;simp only[execOp,hop,resolve,hfv,Deferred.ofValue,au,aZ,aq,invoke];rw[←harr,hcf];rfl
      have hx:Ext F Γ w Γ w.drew.drew:=⟨Γ.le_refl,fun _ _=>⟨rfl,rfl⟩,ao _,rfl,rfl,rfl⟩;obtain⟨nx,w',a',Γ',hp⟩:=RJ (o:=o) (r:=.trow el st.next n) (w1:=w.drew.drew) (cells:=cs) (e:=el) (cs:=[.any]) (fz:=(0,0)) (cap:=cs.size) (len:=n) hs hs.drew.drew hx eU (by
       have hl:1≤cs.toList.length:=by rw[ap];omega
       match hc:cs.toList,hl with |v::vs,_=>exact .cons (.any v) .nil) (fun v hv=>r3 v (bQ hv)) (fun x hx=>by simp only[bh]at hx;subst hx;exact⟨fun v=>by simp[VM.own],fun b v=>by simp[cnt]⟩) (fun Γ' q1 q2=>.trow q1 q2 ⟨r2,by unfold DY;omega⟩ rfl) (fun _ _ _=>by simp[VM.own]) (fun _ _=>by simp[cnt]) hrun;unfold Oper.wp;rw[hp.run];exact hp.upon _ _ (hK Γ' _ _ a' w' hp.ext hp.next (by rw[hp.defers];exact hd) hp.sim h10)
    rename_i hcall;have hac:=h;have hrun:(execOp a.eval o).run E.P w=.ok (.enter g (vp++args.map a.eval++vq)) w:=by
     unfold callable at hcall;split at hcall
     ·rename_i fn hfn;simp only[az,dO,dp]at hcall;have hb:fn.body.isNone=false:=by have:=hcall.2;cases hfb:fn.body<;>simp_all
      simp only[execOp,hop,resolve,hfv,Deferred.ofValue,au,aZ,aq,invoke,callFunc,run_program,hfn];have hname : (fn.name == "runtime.NumGoroutine") = false:=by simpa using hcall.1
      simp only[hname,hb,av,aR];rfl
     ·cases hcall
    have key:=hac.go (fun b=>F b+AJ b af a.tmps.toList) Γ w (vp++args.map a.eval++vq) (by have e2:(vp++args.map a.eval++vq).toList=vp.toList++(args.toList.map a.eval++vq.toList):=eU;rw[e2,←bb];refine hs.aside ?_;rw[←bb]at hall;exact hall);unfold Oper.wp;rw[hrun,Oper.upon_enter];refine key.mono ?_;rintro e' w' ⟨v,rfl,Γ',r,st',x1,n1,s1,q1⟩;exact hK Γ' _ st' (a.put o.dst v) w' (x1.less fun b=>by omega) n1 (by rw[put_defers];exact hd) (hs.back x1 s1 o.dst) q1
  ·cases h
 ·rename_i x y t0 t1 ts hop;split at h
  ·split at h;·rename_i wd l cs rest jo hab;obtain⟨i,hi,nx,w',a',Γ',hp⟩:=AIT hs hop hab;unfold Oper.wp;rw[hp.run];exact hp.upon _ _ (hK Γ' _ _ a' w' hp.ext hp.next (by rw[hp.defers];exact hd) hp.sim (h i hi))
   ·cases h
  ·split at h;·rename_i af' st' hst;obtain⟨nx,w',a',Γ',hp⟩:=Mj hs hst;unfold Oper.wp;rw[hp.run];exact hp.upon _ _ (hK Γ' af' st' a' w' hp.ext hp.next (by rw[hp.defers];exact hd) hp.sim h)
   ·cases h
 ·rename_i op t x y _ hop;split at h
  ·rename_i hn;obtain⟨rfl,rfl⟩:=AHm hn;have hx:=hs.rd t x;unfold AQj at h;split at h
   ·rename_i xs ow ht hr;rw[hr]at hx;obtain⟨e,hu⟩: ∃e,E.P.underlying t=some (.slice e):=by
     unfold CY at ht;split at ht;·rename_i e hu;exact⟨e,hu⟩
     ·cases ht
    have main: ∀(p:Option Addr) (n k:Nat),a.eval x=.slice p n k→(p.isNone=true→xs=[])→o.wp E.P a w K' Qx:=by
     intro p n k hv hc;have hrun:(execOp a.eval o).run E.P w=.ok (.value (.bool p.isNone)) w:=by simp only[execOp,hop];have hc:a.eval (.const (.slice none 0 0))=.slice none 0 0:=rfl;simp[hv,hc,eqGuard,Uc hu]
     unfold Oper.wp;rw[hrun];exact hK Γ _ st (a.put o.dst (.bool p.isNone)) w (Ext.refl _ _ _) (ao _) (by rw[put_defers];exact hd) (hs.putStrip o.dst (.bool _)) (h _ hc)
    generalize hv:a.eval x=v at hx;cases hx with |snil w o a=>exact main _ _ _ hv fun _=>rfl|slice=>exact main _ _ _ hv fun h=>by cases h
   ·cases h
  ·split at h;·rename_i af' st' hst;obtain⟨nx,w',a',Γ',hp⟩:=Mj hs hst;unfold Oper.wp;rw[hp.run];exact hp.upon _ _ (hK Γ' af' st' a' w' hp.ext hp.next (by rw[hp.defers];exact hd) hp.sim h)
   ·cases h
 ·split at h;·rename_i af' st' hst;obtain⟨nx,w',a',Γ',hp⟩:=Mj hs hst;unfold Oper.wp;rw[hp.run];exact hp.upon _ _ (hK Γ' af' st' a' w' hp.ext hp.next (by rw[hp.defers];exact hd) hp.sim h)
  ·cases h
def gd (x:AVal) (want:Bool):Option Bool:=match x with |.bool b=>some (b==want)|.tuple []=>some false|_=>none
def gdA (ops:Array Oper) (af:List AVal) (j:Nat) (want:Bool):Option Bool:=match(ops[j]?).bind (·.dst)with |some d=>gd (af.getD d .any) want|none=>none
def Hz (E:Env) (mv:List Tmp) (ops:Array Oper):List Oper→(List AVal→St→Prop)→List AVal→St→Prop |[],K,af,st=>K af st| o::rest,K,af,st=>match o.guard with |none=>CO E mv o af st (Hz E mv ops rest K)| some (j,want)=>match gdA ops af j want with |some true=>CO E mv o af st (Hz E mv ops rest K)|some false=>Hz E mv ops rest K (Am af o.dst (.tuple [])) st|none=>False
theorem Nn (hs:Sim E F Γ st w af a.tmps.toList){ops:Array Oper}{j:Nat}{want t:Bool} (h:gdA ops af j want=some t):(yielded ops a.tmps j==some want)=t:=by
 unfold gdA at h;split at h
 ·rename_i d hd;have hr:=hs.rep.get d undef;unfold yielded;rw[hd];simp only[aa];unfold gd at h;have hlt:d<a.tmps.size:=by
   rcases aS d a.tmps.size with h'|h';·exact h'
   ·have:af.length=a.tmps.size:=by rw[hs.rep.length,ap]
    rw[List.getD,bz eT]at h;simp at h
  have e:a.tmps.toList.getD d undef=a.tmps[d]:=by simp[List.getD,hlt]
  rw[e]at hr;rw[cu hlt];generalize a.tmps[d]=v at hr;split at h;·rename_i b hb;rw[hb]at hr;cases hr;simp only[ac]at h;simpa using h
  ·rename_i hb;rw[hb]at hr;cases hr;simp only[ac]at h;subst h;rfl
  ·cases h
 ·cases h
theorem KT{ops:Array Oper}{o:Oper}{tmps:Array Value}{j:Nat}{want:Bool} (hg:o.guard=some (j,want)):Region.wanted o (yielded ops tmps)=(yielded ops tmps j==some want):=by simp[Region.wanted,hg]
theorem Sim.skipped (hs:Sim E F Γ st w af a.tmps.toList) (d:Option Tmp):Sim E F Γ st w (Am af d (.tuple [])) (a.put d undef).tmps.toList:=hs.put d (r:=.tuple []) (v:=undef) (.tuple .nil) (by simp[VM.own,undef,ownL]) fun n=>by have:=hs.tok n;simp only[cnt,undef,AJ];omega
theorem AED{mv:List Tmp}{ops:Array Oper}{Qc:Exit→Act→World→Prop}: ∀(rest:List Oper) (i:Nat),ops.toList.drop i=rest→∀ {K:List AVal→St→Prop}{F:Nat→Nat}{Γ:Ghost}{st:St}{w:World}{af:List AVal}{a:Act},a.defers=[]→Sim E F Γ st w af a.tmps.toList→Hz E mv ops rest K af st→(∀Γ' af' st' a' w',Ext F Γ w Γ' w'→st.next≤st'.next→a'.defers=[]→Sim E F Γ' st' w' af' a'.tmps.toList→K af' st'→Qc .normal a' w')→wpOps E.P ops Qc (List.range' i rest.length) a w:=by
 intro rest;induction rest with
 |nil=>intro i hi K F Γ st w af a hd hs h hK;exact hK Γ af st a w (Ext.refl _ _ _) (ao _) hd hs h
 | cons o rest ih=>
  intro i hi K F Γ st w af a hd hs h hK;have hoi:ops[i]?=some o:=by
   have:ops.toList[i]?=some o:=by have:=a7 (·[0]?) hi;simpa using this
   simpa using this
  have hi':ops.toList.drop (i+1)=rest:=by rw[←List.tail_drop,hi];rfl
  rw[ae,cF];simp only[wpOps,hoi];have go:CO E mv o af st (Hz E mv ops rest K)→o.wp E.P a w (wpOps E.P ops Qc (List.range' (i+1) rest.length)) Qc:=fun h=>Oq h F Γ w a hd hs _ _ fun Γ' af' st' a' w' x1 n1 d1 s1 k1=>ih (i+1) hi' d1 s1 k1 fun Γ2 af2 st2 a2 w2 x2 n2 d2 s2 k2=>hK Γ2 af2 st2 a2 w2 (x1.trans x2) (bB n1 n2) d2 s2 k2;simp only[Hz]at h;split at h;·rename_i hg;rw[ah (by simp[Region.wanted,hg])];exact .inl (go h)
  ·rename_i j want hg;split at h;·rename_i hgd;rw[ah (by rw[KT hg,Nn hs hgd])];exact .inl (go h)
   ·rename_i hgd;rw[ag (by rw[KT hg,Nn hs hgd];simp)];exact ih (i+1) hi' (by rw[put_defers];exact hd) (hs.skipped o.dst) h fun Γ2 af2 st2 a2 w2 x2 n2 d2 s2 k2=>hK Γ2 af2 st2 a2 w2 x2 n2 d2 s2 k2
   ·cases h
theorem PD{Q:APost}{id:Nat}{ops:Array Oper} (mv:List Tmp) (h:Hz E mv ops ops.toList (fun af st=>Q .normal af st) af st):AWp E (.region id ops false) Q af st:=by constructor;intro F Γ w a hd hs;refine wp_region ?_;have key:=AED (Qc:=lift E F Γ w st.next Q) ops.toList 0 rfl hd hs h fun Γ' af' st' a' w' x1 n1 d1 s1 k1=>⟨trivial,d1,Γ',af',st',x1,n1,s1,k1⟩;rw[ap,←dy]at key;exact key
theorem AD0{Q:APost}{c:Operand}{x y:Code} (b:Bool) (hb:rd E af 0 c=.bool b) (h:if b=true then AWp E x Q af st else AWp E y Q af st):AWp E (.cond c x y) Q af st:=by
 constructor;intro F Γ w a hd hs;have hr:=hs.rd 0 c;rw[hb]at hr;generalize hv:a.eval c=v at hr;cases hr;refine wp_cond hv ?_;cases b;·exact h.go F Γ w a hd hs
 ·exact h.go F Γ w a hd hs
theorem AIw{Q:APost}{c:Code}{m:List (Nat×List AVal)} (hm:m.Sublist st.m) (h:AWp E c Q af {st with m:=m}):AWp E c Q af st:=⟨fun F Γ w a hd hs=>h.go F Γ w a hd (hs.fewer hm)⟩
def PI (E:Env) (t:TypeId) (addr:AVal) (st:St):Option (AVal×St):=
  match addr with
  | .ptr i 0=>
    match Bv st.m i with
    | some cs=>
      if A7 E.P t=true then
        if CZ E.P t=true then(if Cz E.P t=some cs.length then some (.agg cs,{st with m:=CP st.m i (stripL cs)})else none)
        else match cs with
          |[c]=>some (c,{st with m:=CP st.m i (stripL cs)})
          |_=>none
      else none
    |none=>none
  |_=>none
def MW (E:Env):List ResultVar→List AVal→St→Option (List AVal×St) |[],af,st=>some ([],st)|.tmp t::rs,af,st=>(MW E rs (stripAt af (.tmp t)) st).map fun p=>(af.getD t .any::p.1,p.2)| .cell i t::rs,af,st=>match PI E t (af.getD i .any) st with |some (r,st')=>(MW E rs af st').map fun p=>(r::p.1,p.2)|none=>none
def Jf (E:Env) (fn:Func) (Q:AVal→St→Prop):APost:=fun e af st=>
  match e with
  | .normal|.ret=>
    match MW E fn.results.toList af st with
    |some (rs,st')=> ∃m,m.Sublist st'.m∧Q (match rs with|[r]=>r|rs=>.tuple rs) {st' with m:=m}
    |none=>False
  |_=>False
end
end Go.VM
set_option linter.unusedVariables false
namespace Go.VM
section
variable{E:Env}{F:Nat→Nat}{Γ:Ghost}{st:St}{w:World}{af:List AVal}{a:Act}
theorem Uq (hs:Sim E F Γ st w af a.tmps.toList){t:TypeId}{x:AVal}{v:Value}{r:AVal}{st':St} (hx:Rep Γ x v) (h:PI E t x st=some (r,st')):∃u,(do loadVar t (←asAddr v):Sem Value).run E.P w=.ok u w∧Rep Γ r u∧VM.own Γ w r u∧Sim E F Γ st' w af a.tmps.toList∧st'.next=st.next∧∀b,cnt b r u+Aa Γ w b st'.m=Aa Γ w b st.m:=by
 unfold PI at h;split at h
 ·rename_i i;cases hx with
  |ptr hbx=>
   rename_i b;split at h
   ·rename_i cs hg;split at h
    ·rename_i hk;obtain⟨b',arr,e,hb⟩:=hs.box hg hbx;have:b'=b:=by have:=hb.bx;rw[hbx]at this;exact(aQ this).symm
     subst this;obtain⟨lo,hi,hh,hf⟩:=hb.heap;obtain⟨L,hL⟩: ∃L,L=arr.toList.take cs.length:=⟨_,rfl⟩;have hrepL:RepL Γ cs L:=by rw[hL];exact hb.rep
     have hone: ∀v,v∈L→v.oneCell'=true:=by rw[hL];exact hb.one
     have hownL:VM.ownL Γ w cs L:=by rw[hL];exact(I1 Γ w cs arr.toList).2 hb.own
     have hcntL: ∀n,AJ n cs L=AJ n cs arr.toList:=fun n=>by rw[hL];exact Iw n cs arr.toList
     obtain⟨s1,x1⟩:=hs.setBox (w':=w) (cs':=stripL cs) (arr':=arr) (lo:=lo) (hi:=hi) hg hb hh hf (fun _ _=>rfl) rfl rfl rfl rfl (by rw[II];exact hb.rep.strip) (GN _ _ _ _) (by rw[II];exact hb.one) (fun n=>by rw[FW];have:=hs.tok n;omega);have hcnt: ∀n,AJ n cs arr.toList+Aa Γ w n (CP st.m i (stripL cs))=Aa Γ w n st.m:=by
      intro n;have e1:=Hl (Γ:=Γ) (Γ':=Γ) (w:=w) (w':=w) (b:=n) (x:=stripL cs) hs.keys hg (fun p hp hne=>rfl);have e2:CX Γ w n (i,cs)=AJ n cs arr.toList:=by simp only[CX,hb.bx,hcells,hh]
      have e3:CX Γ w n (i,stripL cs)=0:=by simp only[CX,hb.bx,hcells,hh,FW]
      omega
     have hcell: ∀j u,L[j]?=some u→w.cell? ⟨b',0+j,none⟩=some u:=by intro j u hj;rw[hL]at hj;have hj:=List.getElem?_take_some hj;simp only[World.cell?,hh,bp];simpa using hj
     have ha:=K8 (w:=w) hk;split at h
     ·rename_i hag;rw[hag]at ha;split at h;·rename_i hz;simp only[ac,aA]at h;obtain⟨rfl,rfl⟩:=h;have key:=c8 (P:=E.P) w ⟨b',0,none⟩ L (fun j v hj=>by rw[addr_add];exact hcell j v hj);rw[←hrepL.length]at key;refine⟨.agg L.toArray,?_,.agg (by simpa using hrepL) (by simpa using hone),by simpa[VM.own]using hownL,s1,rfl,fun n=>by have:=hcnt n;rw[←hcntL]at this;simpa[cnt]using this⟩;simp[asAddr,loadVar,ha,De hz,key]
      ·cases h
     ·rename_i hag;rw[ek]at hag;rw[hag]at ha;split at h
      ·rename_i c;simp only[ac,aA]at h;obtain⟨rfl,rfl⟩:=h;obtain⟨u,hu,hrep⟩:=hrepL.get? (i:=0) (x:=c) rfl;have h1:L=[u]:=by
        have:L.length=1:=by rw[←hrepL.length];rfl
        clear hL hcell;match L,this,hu with |[x],_,hu=>simpa using hu
       refine⟨u,?_,hrep,?_,s1,rfl,fun n=>?_⟩;·have:=hcell 0 u hu;simp only[bM]at this;simp[asAddr,loadVar,ha,run_load,this]
       ·have:=hownL;rw[h1,VM.ownL]at this;exact this.1
       ·have:=hcnt n;rw[←hcntL,h1]at this;simpa[AJ]using this
      ·cases h
    ·cases h
   ·cases h
 ·cases h
theorem ACg{m m':List (Nat×List AVal)} (h:m.Sublist m') (n:Nat):Aa Γ w n m≤Aa Γ w n m':=by induction h with |slnil=>exact ao _|cons p _ ih=>rw[Aa];omega|cons_cons p _ ih=>rw[Aa,Aa];omega
def YA (tmps:Array Value) (r:ResultVar):Sem Value:=match r with |.tmp t=>pure (tmps.getD t undef)|.cell i t=>do loadVar t (←asAddr (tmps.getD i undef))
theorem AGn (rs:List ResultVar): ∀ {af:List AVal}{st:St}{xs:List AVal}{st':St},Sim E F Γ st w af a.tmps.toList→MW E rs af st=some (xs,st')→∃vs,(rs.mapM (YA a.tmps)).run E.P w=.ok vs w∧RepL Γ xs vs∧ownL Γ w xs vs∧st'.next=st.next∧∃af',Sim E F Γ st' w af' a.tmps.toList∧∀b,AJ b af' a.tmps.toList+AJ b xs vs+Aa Γ w b st'.m=AJ b af a.tmps.toList+Aa Γ w b st.m:=by
 induction rs with
 | nil=>intro af st xs st' hs h;simp only[MW,ac,aA]at h;obtain⟨rfl,rfl⟩:=h;exact⟨[],eU,.nil,by simp[ownL],rfl,af,hs,fun b=>by simp[AJ]⟩
 | cons x rs ih=>
  intro af st xs st' hs h;cases x with
  | tmp t=>
   simp only[MW]at h;cases hr:MW E rs (stripAt af (.tmp t)) st with
   |none=>simp[hr]at h
   | some p=>
    simp only[hr,aH,ac,aA]at h;obtain⟨rfl,rfl⟩:=h;obtain⟨vs,r1,r2,r3,r4,af',r5,r6⟩:=ih (hs.stripAt (.tmp t)) hr;refine⟨a.tmps.getD t undef::vs,?_,.cons (hs.rd 0 (.tmp t)) r2,?_,r4,af',r5,fun b=>?_⟩;·rw[List.mapM_cons,au];simp only[YA,aZ,aq];rw[au,r1];rfl
    ·rw[ownL];exact⟨hs.rd_own 0 (.tmp t),r3⟩
    ·have:=r6 b;have:=hs.rd_cnt 0 (.tmp t) b;simp only[rd,Act.eval]at this;rw[AJ];omega
  | cell i t=>
   simp only[MW]at h;split at h
   ·rename_i r st1 hc;cases hr:MW E rs af st1 with
    |none=>simp[hr]at h
    | some p=>
     simp only[hr,aH,ac,aA]at h;obtain⟨rfl,rfl⟩:=h;obtain⟨u,c1,c2,c3,c4,c5,c6⟩:=Uq hs (hs.rd 0 (.tmp i)) hc;obtain⟨vs,r1,r2,r3,r4,af',r5,r6⟩:=ih c4 hr;refine⟨u::vs,?_,.cons c2 r2,by rw[ownL];exact⟨c3,r3⟩,eT,af',r5,fun b=>?_⟩;·rw[List.mapM_cons,au];simp only[Act.eval]at c1;simp only[YA];rw[c1];simp only[aq];rw[au,r1];rfl
     ·have:=r6 b;have:=c6 b;rw[AJ];omega
   ·cases h
theorem MK {f:FuncId}{fn:Func}{c:Code}{args:List AVal}{Q:AVal→St→Prop} (hf:E.P.funcs[f]?=some fn) (hb:fn.body=some c)
    (h:AWp E c (Jf E fn Q) (args++List.replicate (fn.ntmps-args.length) .any) st):ACall E f args st Q:=by
  constructor
  intro F Γ w cargs hs
  have hlen:args.length=cargs.size:=by rw[hs.rep.length,ap]
  have hrepl: ∀n,RepL Γ (List.replicate n .any) (List.replicate n undef)∧ownL Γ w (List.replicate n .any) (List.replicate n undef)∧ ∀b,AJ b (List.replicate n .any) (List.replicate n undef)=0:=by
    intro n
    induction n with
    |zero=>exact⟨.nil,by simp[ownL],fun b=>by simp[AJ]⟩
    |succ n ih=>exact⟨.cons (.any _) ih.1,by rw[bW,bW,ownL];exact⟨by simp[VM.own],ih.2.1⟩,fun b=>by rw[bW,bW,AJ,ih.2.2 b];simp[cnt]⟩
  have happ: ∀(xs:List AVal) (vs:List Value),xs.length=vs.length→ownL Γ w xs vs→ ∀n,ownL Γ w (xs++List.replicate n .any) (vs++List.replicate n undef)∧ ∀b,AJ b (xs++List.replicate n .any) (vs++List.replicate n undef)=AJ b xs vs:=by
    intro xs
    induction xs with
    | nil=>intro vs hl _ n;cases vs with
      |nil=>exact⟨(hrepl n).2.1,fun b=>by rw[ba,ba,(hrepl n).2.2 b];simp[AJ]⟩
      |cons _ _=>simp at hl
    | cons x xs ih=>intro vs hl ho n;cases vs with
      |nil=>simp at hl
      | cons v vs=>
        rw[ownL]at ho
        obtain⟨i1,i2⟩:=ih vs (by simpa using hl) ho.2 n
        exact⟨by rw[aJ,aJ,ownL];exact⟨ho.1,i1⟩,fun b=>by rw[aJ,aJ,AJ,AJ,i2 b]⟩
  have htm:(cargs++Array.replicate (fn.ntmps-cargs.size) undef).toList=cargs.toList++List.replicate (fn.ntmps-args.length) undef:=by
    rw[Array.toList_append,Array.toList_replicate,hlen]
  refine calls_of_wp hf hb (eD (h.go F Γ w {tmps:=cargs++Array.replicate (fn.ntmps-cargs.size) undef,defers:=[]} rfl ?_) ?_)
  · simp only
    rw[htm]
    obtain⟨o1,o2⟩:=happ args cargs.toList hs.rep.length hs.own (fn.ntmps-args.length)
    exact {hs with rep:=hs.rep.append (hrepl _).1,own:=o1,tok:=fun b=>by rw[o2 b];exact hs.tok b}
  · intro e a' w' hq
    obtain⟨h0,hd,Γ',af',st',x1,n1,s1,q1⟩:=hq
    have fin:(match MW E fn.results.toList af' st' with
        |some (rs,st')=> ∃m,m.Sublist st'.m∧Q (match rs with|[r]=>r|rs=>.tuple rs) {st' with m:=m}
        |none=>False)→ ∃v,(results fn a'.tmps).run E.P w'=.ok v w'∧ ∃v1,Ending.returned v=.returned v1∧ ∃Γ' r st',Ext F Γ w Γ' w'∧st.next≤st'.next∧Sim E F Γ' st' w' [r] [v1]∧Q r st':=by
      intro q
      split at q
      · rename_i rs st2 hres
        obtain⟨m,hm,hQ⟩:=q
        obtain⟨vs,r1,r2,r3,r4,af2,r5,r6⟩:=AGn fn.results.toList s1 hres
        have hrun:(results fn a'.tmps).run E.P w'=.ok (if h:vs.toArray.size=1 then vs.toArray[0]else .tuple vs.toArray) w':=by
          have e:results fn a'.tmps=(do
            let vs←fn.results.mapM (YA a'.tmps)
            pure (if h:vs.size=1 then vs[0]else .tuple vs)):=rfl
          rw[e,Array.mapM_eq_mapM_toList,au,Sem.run_map,r1]
          rfl
        refine⟨_,hrun,_,rfl,Γ',_,{st2 with m:=m},x1,by show st.next≤st2.next;omega,?_,hQ⟩
        have s2:=r5.fewer hm
        have hcm: ∀n,Aa Γ' w' n m≤Aa Γ' w' n st2.m:=fun n=>ACg hm n
        have htok: ∀b,F b+AJ b rs vs+Aa Γ' w' b m≤1:=by
          intro b
          have:=r6 b
          have:=s1.tok b
          have:=hcm b
          omega
        cases r2 with
        | nil=>
          simp only[bU,an]
          exact {s2 with rep:=.cons (.tuple .nil) .nil,own:=by simp[ownL,VM.own],tok:=fun b=>by have:=htok b;simpa[AJ,cnt]using this}
        | cons hr t=>
          cases t with
          | nil=>
            simp only[bU,ae,an,bp,dite_true]
            exact {s2 with rep:=.cons hr .nil,own:=r3,tok:=htok}
          | cons hy t=>
            rename_i x v y u xs us
            have hne: ¬((v::u::us:List Value).toArray.size=1):=eU
            rw[dif_neg hne]
            have hrp:RepL Γ' (x::y::xs) (v::u::us):=.cons hr (.cons hy t)
            exact {s2 with rep:=.cons (.tuple (by simpa using hrp)) .nil,own:=by rw[ownL];exact⟨by simpa[VM.own]using r3,by simp[ownL]⟩,tok:=fun b=>by have:=htok b;simpa[AJ,cnt]using this}
      · cases q
    cases e with
    |normal=>obtain⟨v,hr,hR⟩:=fin q1;exact⟨hd,v,hr,hR⟩
    |ret=>obtain⟨v,hr,hR⟩:=fin q1;exact⟨hd,v,hr,hR⟩
    |exit id=>exact q1.elim
    |goto l=>exact h0.elim
    |panic c=>exact h0.elim
    |outgrown=>exact h0.elim
end
end Go.VM
set_option linter.unusedVariables false
namespace Go.VM
section
variable{E:Env}{st:St}{af:List AVal}{Q:APost}
inductive kPost (K:List AVal→St→Prop) (Q:APost):APost |nrm{af:List AVal}{st:St} (h:K af st):kPost K Q .normal af st |oth{e:Exit}{af:List AVal}{st:St} (hne:e≠ .normal) (h:Q e af st):kPost K Q e af st
theorem kPost.get{K:List AVal→St→Prop} (h:kPost K Q .normal af st):K af st:=by cases h with |nrm h=>exact h|oth hne h=>exact absurd rfl hne
theorem kPost.out{K:List AVal→St→Prop}{e:Exit} (h:kPost K Q e af st) (hne:e≠ .normal):Q e af st:=by cases h with |nrm h=>exact absurd rfl hne|oth hne h=>exact h
theorem JM{K:List AVal→St→Prop} (h:K af st):kPost K Q .normal af st:=.nrm h
end
end Go.VM
set_option linter.unusedVariables false
namespace Go.VM
def slots (o:Oper):List Tmp:=o.op.operands.toList.filterMap fun|.tmp t=>some t|_=>none
theorem Lh{o:Oper}{d:Tmp} (h:d∉slots o){x:Operand} (hx:x∈o.op.operands):x≠ .tmp d:=by intro e;subst e;exact h (List.mem_filterMap.2 ⟨.tmp d,by simpa using hx,rfl⟩)
section
variable{E:Env}{af:List AVal}{st:St}{d:Tmp}{v:AVal}
theorem Ar{t:TypeId}{x:Operand} (h:x≠ .tmp d):rd E (af.set d v) t x=rd E af t x:=by cases x with | tmp i=>have:d≠i:=fun e=>h (by rw[e]);simp[rd,List.getD,cf this]|_=>rfl
theorem GL{x:Operand} (h:x≠ .tmp d):stripAt (af.set d v) x=(stripAt af x).set d v:=by cases x with | tmp i=>have:d≠i:=fun e=>h (by rw[e]);simp only[stripAt];rw[cZ _ _ this];congr 2;simp[List.getD,cf this]|_=>rfl
theorem BM{dst:Option Tmp} (h:dst≠some d) (r:AVal):Am (af.set d v) dst r=(Am af dst r).set d v:=by cases dst with |none=>rfl| some e=>have:d≠e:=fun he=>h (by rw[he]);simp only[Am];exact cZ _ _ this
theorem OA{x:Option Operand} (h: ∀y,x=some y→y≠ .tmp d):rdo E (af.set d v) x=rdo E af x:=by cases x with |none=>rfl|some y=>simp only[rdo,Ar (h y rfl)]
theorem Xm: ∀(xs:List Operand) (ts:List TypeId),(∀x,x∈xs→x≠ .tmp d)→rdL E (af.set d v) xs ts=rdL E af xs ts |[],_,_=>rfl|x::xs,[],h=>by simp only[rdL,Ar (h x eU),Xm xs [] (fun y hy=>h y (aC _ hy))]|x::xs,t::ts,h=>by simp only[rdL,Ar (h x eU),Xm xs ts (fun y hy=>h y (aC _ hy))]
theorem Lb{ty:Nat→TypeId}: ∀(ps:List (Nat×Operand)){af:List AVal},(∀p,p∈ps→p.2≠ .tmp d)→(Ay E ty (af.set d v) ps).1=(Ay E ty af ps).1.set d v∧(Ay E ty (af.set d v) ps).2=(Ay E ty af ps).2 |[],_,_=>⟨rfl,rfl⟩| (i,x)::ps,af,h=>by have hx:=h (i,x) eU;obtain⟨h1,h2⟩:=Lb ps (af:=stripAt af x) (fun p hp=>h p (aC _ hp));simp only[Ay,GL hx,Ar hx];exact⟨h1,by rw[h2]⟩
theorem Le{o:Oper} (h:d∉slots o):BS E o (af.set d v)=BS E o af:=by
 have hx:=fun x=>Lh h (x:=x);unfold BS;split;·rename_i c x y hop;simp only[hop,Op.operands]at hx;rw[Ar (hx c eU),Ar (hx x eU),Ar (hx y eU)]
 ·rename_i x hop;simp only[hop,Op.operands]at hx;rw[Ar (hx x eU)]
 ·rename_i op t x y u hop;simp only[hop,Op.operands]at hx;rw[Ar (hx x eU),Ar (hx y eU)]
 ·rename_i op t x hop;simp only[hop,Op.operands]at hx;rw[Ar (hx x eU)]
 ·rename_i s e x hop;simp only[hop,Op.operands]at hx;rw[Ar (hx x eU)]
 ·rename_i f p q hop;simp only[hop,Op.operands]at hx;have e1:p.toList.map (rd E (af.set d v) 0)=p.toList.map (rd E af 0):=List.map_congr_left fun y hy=>Ar (hx y (by simp;exact .inl (by simpa using hy)));have e2:q.toList.map (rd E (af.set d v) 0)=q.toList.map (rd E af 0):=List.map_congr_left fun y hy=>Ar (hx y (by simp;exact .inr (by simpa using hy)));rw[e1,e2]
 ·rename_i s x f hop;simp only[hop,Op.operands]at hx;rw[Ar (hx x eU)]
 ·rename_i s x f hop;simp only[hop,Op.operands]at hx;rw[Ar (hx x eU)]
 ·rename_i t x i hop;simp only[hop,Op.operands]at hx;rw[Ar (hx x eU),Ar (hx i eU)]
 ·rename_i t x i hop;simp only[hop,Op.operands]at hx;rw[Ar (hx x eU),Ar (hx i eU)]
 ·rename_i x t ts hop;simp only[hop,Op.operands,Call.operands]at hx;rw[Ar (hx x eU)]
 ·rename_i x y ts hop;simp only[hop,Op.operands,Call.operands]at hx;rw[Ar (hx x eU),Ar (hx y eU)]
 ·rename_i x y ts hop;simp only[hop,Op.operands,Call.operands]at hx;rw[Ar (hx x eU),Ar (hx y eU)]
 ·rename_i x t ts hop;simp only[hop,Op.operands,Call.operands]at hx;rw[Ar (hx x eU)]
 ·rename_i x y t s hop;simp only[hop,Op.operands,Call.operands]at hx;rw[Ar (hx x eU),Ar (hx y eU)]
 ·rfl
theorem Ow{mv:List Tmp}{o:Oper} (h:d∉slots o) (hd:o.dst≠some d):DZ E mv o (af.set d v) st=(DZ E mv o af st).map fun p=>(p.1.set d v,p.2):=by
 have hx:=fun x=>Lh h (x:=x);unfold DZ;split;·rename_i x hop;simp only[hop,Op.operands]at hx;split<;>simp[Ar (hx x eU),GL (hx x eU),BM hd]
 ·rename_i x hop;simp only[hop,Op.operands]at hx;simp[Ar (hx x eU),GL (hx x eU),BM hd]
 ·rename_i t hop;split;·cases NS E.P t st.next<;>simp[BM hd]
  ·cases EZ E.P t st.next<;>simp[BM hd]
 ·rename_i t x hop;simp only[hop,Op.operands]at hx;rw[Ar (hx x eU),GL (hx x eU)];split<;>simp[BM hd]
 ·rename_i t ps hop;simp only[hop,Op.operands]at hx;obtain⟨h1,h2⟩:=Lb (E:=E) (v:=v) (ty:=Ac E.P t) ps (af:=af) (fun p hp=>hx p.2 (by simp;exact⟨p.1,hp⟩));rw[h1,h2];cases NM E t (Ay E (Ac E.P t) af ps).2<;>simp[BM hd]
 ·rename_i t len ps hop;simp only[hop,Op.operands]at hx;obtain⟨h1,h2⟩:=Lb (E:=E) (v:=v) (ty:=fun _=>Ac E.P t 0) ps (af:=af) (fun p hp=>hx p.2 (by simp;exact⟨p.1,hp⟩));rw[h2,h1];split;·cases Gx E t len (Ay E (fun _=>Ac E.P t 0) af ps).2<;>simp[BM hd]
  ·cases FO E t len (Ay E (fun _=>Ac E.P t 0) af ps).2<;>simp[BM hd]
 ·rename_i t x hop;simp only[hop,Op.operands]at hx;rw[Ar (hx x eU)];split;·cases MC E t (rd E af 0 x) st<;>simp[BM hd]
  ·cases M0 E t (rd E af 0 x) st<;>simp[BM hd]
 ·rename_i t x y hop;simp only[hop,Op.operands]at hx;rw[Ar (hx x eU),Ar (hx y eU),GL (hx y eU)];split;·cases Lt E t (rd E af 0 x) (rd E af t y) st<;>simp
  ·simp
 ·rename_i t n hop;simp only[hop,Op.operands]at hx;have ht:d≠t:=fun e=>hx (.tmp t) eU (by rw[e]);have hg:(af.set d v).getD t .any=af.getD t .any:=by simp[List.getD,cf ht]
  rw[hg];split;·rename_i vs hvs;cases vs[n]? with |none=>simp|some r=>simp[cZ _ _ ht,BM hd]
  ·simp
 ·rename_i t x hop;simp only[hop,Op.operands]at hx;rw[Ar (hx x eU)];split;·split<;>simp[BM hd]
  ·simp
 ·rename_i t hop;simp only[hop,Op.operands]at hx;have ht:d≠t:=fun e=>hx (.tmp t) eU (by rw[e]);have hg:(af.set d v).getD t .any=af.getD t .any:=by simp[List.getD,cf ht]
  rw[hg];split;·unfold U4;split<;>simp[cZ _ _ ht,BM hd]
  ·simp
 ·rename_i t x lo hi mx hop;simp only[hop,Op.operands]at hx;rw[Ar (hx x eU),OA (fun y hy=>hx y (by simp[hy])),OA (fun y hy=>hx y (by simp[hy])),OA (fun y hy=>hx y (by simp[hy]))];split;·rename_i l hh m h1 h2 h3;cases Ex E t (rd E af t x) l hh m<;>simp[BM hd]
  ·simp
 ·rename_i x y t0 t1 ts hop;simp only[hop,Op.operands,Call.operands]at hx;rw[Ar (hx x eU),Ar (hx y eU),GL (hx x eU)];split;·cases Lj E t0 t1 (rd E af t0 x) (rd E af t1 y)<;>simp[BM hd]
  ·cases FD E t0 t1 (rd E af t0 x) (rd E af t1 y)<;>simp[BM hd]
 ·rename_i t hop;simp[BM hd]
 ·rename_i t m k ok hop;simp only[hop,Op.operands]at hx;rw[Ar (hx m eU),Ar (hx k eU)];cases PY E t (rd E af t m) (rd E af 0 k) ok st<;>simp[BM hd]
 ·rename_i t m k x hop;simp only[hop,Op.operands]at hx;rw[Ar (hx m eU),Ar (hx k eU),Ar (hx x eU)];split;·cases Pp E t (rd E af t m) (rd E af 0 k) (rd E af 0 x) st<;>simp
  ·simp
 ·rename_i t m k x hop;simp only[hop,Op.operands]at hx;rw[Ar (hx m eU),Ar (hx k eU),Ar (hx x eU)];split;·cases Pp E t (rd E af t m) (rd E af 0 k) (rd E af 0 x) st<;>simp
  ·simp
 ·rename_i t x i hop;simp only[hop,Op.operands]at hx;rw[Le h];cases BS E o af with |some r=>simp[BM hd]| none=>rw[Ar (hx x eU),Ar (hx i eU)];cases Ig E t (rd E af t x) (rd E af 0 i) st<;>simp[BM hd]
 ·rename_i t x y hop;simp only[hop,Op.operands]at hx;rw[Ar (hx x eU),Ar (hx y eU)];split;·cases QR E t (rd E af 0 x) (rd E af 0 y) st<;>simp[BM hd]
  ·cases PP E t (rd E af 0 x) (rd E af 0 y) st<;>simp[BM hd]
 ·rename_i s e x hop;simp only[hop,Op.operands]at hx;rw[Le h];cases BS E o af with |some r=>simp[BM hd]| none=>rw[Ar (hx x eU)];cases NV E s e (rd E af s x) st with |some r=>simp[BM hd]|none=>cases MN E s e (rd E af s x) st<;>simp[BM hd]
 ·rename_i x t0 ts hop;simp only[hop,Op.operands,Call.operands]at hx;rw[Ar (hx x eU),GL (hx x eU)];cases NK (rd E af t0 x)<;>simp[BM hd]
 ·rename_i x y t0 t1 hop;simp only[hop,Op.operands,Call.operands]at hx;rw[Ar (hx x eU),Ar (hx y eU),GL (hx x eU)];cases Pn E t0 (rd E af t0 x) (rd E af t1 y)<;>simp[BM hd]
 ·rw[Le h];cases BS E o af<;>simp[BM hd]
theorem AAt{mv:List Tmp}{o:Oper}{K:List AVal→St→Prop} (h:d∉slots o) (hd:o.dst≠some d) (hw:CO E mv o (af.set d v) st K):CO E mv o af st fun af' st'=>K (af'.set d v) st':=by
 have hx:=fun x=>Lh h (x:=x);unfold CO at *;split at hw
 ·rename_i f args ts hop;simp only[hop,Op.operands,Call.operands]at hx;rw[Ar (hx f eU)]at hw;split at hw;·rename_i g p q e;have hw2:=hw;rw[Xm _ _ (fun x hxm=>hx x (by simp;exact .inr (by simpa using hxm)))]at hw2;exact hw2.mono fun r st' _ q=>by rw[BM hd]at q;exact q
  ·cases hw
 ·rename_i x y t0 t1 ts hop;simp only[hop,Op.operands,Call.operands]at hx;rw[Ar (hx x eU),Ar (hx y eU),Ow h hd]at hw;split at hw
  ·split at hw;·rename_i wd l cs rest jo hab;rw[ah (by assumption)];intro i hi;have:=hw i hi;rw[BM hd]at this;exact this
   ·cases hw
  ·rw[ag (by assumption)];cases hs:DZ E mv o af st with |none=>rw[hs]at hw;exact hw.elim|some p=>rw[hs]at hw;exact hw
 ·rename_i op t x y _ hop;simp only[hop,Op.operands]at hx;rw[Ow h hd,Ar (hx x eU)]at hw;split at hw;·rename_i hn;rw[ah hn];simp only[BM hd]at hw;exact hw
  ·rename_i hn;rw[ag hn];cases hs:DZ E mv o af st with |none=>rw[hs]at hw;exact hw.elim|some p=>rw[hs]at hw;exact hw
 ·rw[Ow h hd]at hw;cases hs:DZ E mv o af st with |none=>rw[hs]at hw;exact hw.elim|some p=>rw[hs]at hw;exact hw
end
def Df (E:Env) (o:Oper) (af:List AVal) (st:St):Option AVal:=match o.op with
 |.move x=>some (rd E af o.type x).strip
 |.load t x=>(M0 E t (rd E af 0 x) st).map AVal.strip
 | .slice t x lo hi mx=>match rdo E af lo,rdo E af hi,rdo E af mx with |some l,some h,some m=>Ex E t (rd E af t x) l h m|_,_,_=>none
 |.buildSlice t len ⟨ps⟩=>FO E t len (Ay E (fun _=>Ac E.P t 0) af ps).2
 |.assign _=>none
 |.alloc _=>none
 |.box _ _=>none
 |.build _ _=>none
 |.store _ _ _=>none
 |.extract _ _=>none
 |.range _ _=>none
 |.next _ _=>none
 |.call {callee:=.builtin .append,args:=_,argTypes:=_}=>none
 |_=>(BS E o af).map AVal.strip
theorem ADH{E:Env}{o:Oper}{af:List AVal}{st:St}{r:AVal} (h:Df E o af st=some r):DZ E [] o af st=some (Am af o.dst r,st):=by
 have hm: ∀dst,LM [] dst=false:=fun dst=>by cases dst<;>rfl
 unfold Df at h;unfold DZ;split at h;·rename_i x hop;simp only[ac]at h;subst h;simp[hop,hm]
 ·rename_i t x hop;simp only[hop,hm,av,aR];cases hl:M0 E t (rd E af 0 x) st with |none=>simp[hl]at h|some z=>simp[hl]at h;subst h;simp
 ·rename_i t x lo hi mx hop;simp only[hop];split at h;·rename_i l hh m h1 h2 h3;simp[h1,h2,h3,h]
  ·cases h
 ·rename_i t len ps hop;simp[hop,h,hm]
 all_goals (try (cases h;done))
 rename_i h1 h2 h3 h4 h5 h6 h7 h8 h9 h10 h12 h13 h11;split;·rename_i x hop;exact absurd hop (h1 x)
 ·rename_i x hop;exact absurd hop (h5 x)
 ·rename_i x hop;exact absurd hop (h6 x)
 ·rename_i t x hop;exact absurd hop (h7 t x)
 ·rename_i t x hop;exact absurd hop (h8 t _)
 ·rename_i t len ps hop;exact absurd hop (h4 t len ps)
 ·rename_i t x hop;exact absurd hop (h2 t x)
 ·rename_i t x y hop;exact absurd hop (h9 t x y)
 ·rename_i t n hop;exact absurd hop (h10 _ n)
 ·rename_i t x hop;exact absurd hop (h12 t x)
 ·rename_i t hop;exact absurd hop (h13 _ _)
 ·rename_i t x lo hi mx hop;exact absurd hop (h3 t x lo hi mx)
 ·rename_i x y t0 t1 ts hop;exact absurd hop (h11 _ _)
 ·rename_i t hop;have:BS E o af=none:=by unfold BS;simp only[hop]
  simp[this]at h
 ·rename_i t m k ok hop;have:BS E o af=none:=by unfold BS;simp only[hop]
  simp[this]at h
 ·rename_i t m k x hop;have:BS E o af=none:=by unfold BS;simp only[hop]
  simp[this]at h
 ·rename_i t m k x hop;have:BS E o af=none:=by unfold BS;simp only[hop]
  simp[this]at h
 ·rename_i t x i hop;cases hp:BS E o af with |none=>simp[hp]at h|some z=>simp[hp]at h;subst h;simp
 ·rename_i t x y hop;have:BS E o af=none:=by unfold BS;simp only[hop]
  simp[this]at h
 ·rename_i s e x hop;cases hp:BS E o af with |none=>simp[hp]at h|some z=>simp[hp]at h;subst h;simp
 ·rename_i x t0 ts hop;have:BS E o af=none:=by unfold BS;simp only[hop]
  simp[this]at h
 ·rename_i x y t0 t1 hop;have:BS E o af=none:=by unfold BS;simp only[hop]
  simp[this]at h
 ·cases hp:BS E o af with |none=>simp[hp]at h|some z=>simp[hp]at h;subst h;simp
theorem TM{E:Env}{o:Oper}{af:List AVal}{st:St}{d:Tmp}{v:AVal} (h:d∉slots o):Df E o (af.set d v) st=Df E o af st:=by
 have hx:=fun x=>Lh h (x:=x);unfold Df;split;·rename_i x hop;simp only[hop,Op.operands]at hx;rw[Ar (hx x eU)]
 ·rename_i t x hop;simp only[hop,Op.operands]at hx;rw[Ar (hx x eU)]
 ·rename_i t x lo hi mx hop;simp only[hop,Op.operands]at hx;rw[Ar (hx x eU),OA (fun y hy=>hx y (by simp[hy])),OA (fun y hy=>hx y (by simp[hy])),OA (fun y hy=>hx y (by simp[hy]))]
 ·rename_i t len ps hop;simp only[hop,Op.operands]at hx;rw[(Lb (E:=E) (v:=v) (ty:=fun _=>Ac E.P t 0) ps (af:=af) (fun p hp=>hx p.2 (by simp;exact⟨p.1,hp⟩))).2]
 all_goals (first| rfl| rw[Le h])
def JS (E:Env) (ops:Array Oper) (o:Oper) (af:List AVal) (st:St):Option AVal:=match o.guard with |none=>Df E o af st| some (j,want)=>match gdA ops af j want with |some true=>Df E o af st|some false=>some (.tuple [])|none=>none
def gWp (E:Env) (mv:List Tmp) (ops:Array Oper) (o:Oper) (af:List AVal) (st:St) (K:List AVal→St→Prop):Prop:=match o.guard with |none=>CO E mv o af st K| some (j,want)=>match gdA ops af j want with |some true=>CO E mv o af st K|some false=>K (Am af o.dst (.tuple [])) st|none=>False
theorem LX{ops:Array Oper}{o:Oper}{d:Tmp} (h:d∉o.looksAt ops):d∉slots o:=fun hm=>h (cB _ hm)
theorem guard_looks{ops:Array Oper}{o:Oper}{d g j:Nat}{want:Bool} (h:d∉o.looksAt ops) (hg:o.guard=some (j,want)) (hd:(ops[j]?).bind (·.dst)=some g):d≠g:=fun e=>by subst e;exact h (cr _ (by simp[hg,hd]))
theorem AH7{ops:Array Oper}{o:Oper}{af:List AVal}{d j:Nat}{want:Bool}{v:AVal} (h:d∉o.looksAt ops) (hg:o.guard=some (j,want)):gdA ops (af.set d v) j want=gdA ops af j want:=by
 unfold gdA;split
 ·rename_i g hgd;have:=guard_looks h hg hgd;have e:(af.set d v).getD g .any=af.getD g .any:=by simp[List.getD,cf this]
  rw[e]
 ·rfl
theorem Qw{E:Env}{ops:Array Oper}{o:Oper}{af:List AVal}{st:St}{d:Tmp}{v:AVal} (h:d∉o.looksAt ops):JS E ops o (af.set d v) st=JS E ops o af st:=by
 unfold JS;split;·exact TM (LX h)
 ·rename_i j want hg;rw[AH7 h hg,TM (LX h)]
theorem AT4{E:Env}{mv:List Tmp}{ops:Array Oper}{o:Oper}{af:List AVal}{st:St}{d:Tmp}{v:AVal}{K:List AVal→St→Prop} (h:d∉o.looksAt ops) (hd:o.dst≠some d) (hw:gWp E mv ops o (af.set d v) st K):gWp E mv ops o af st fun af' st'=>K (af'.set d v) st':=by
 unfold gWp at *;split at hw;·exact AAt (LX h) hd hw
 ·rename_i j want hg;rw[AH7 h hg]at hw;split at hw;·exact AAt (LX h) hd hw
  ·rw[BM hd]at hw;exact hw
  ·exact hw.elim
section
variable{E:Env}{F:Nat→Nat}{Γ:Ghost}{st:St}{w:World}{af:List AVal}{a:Act}
theorem Uy{mv:List Tmp}{ops:Array Oper}{i:Nat}{o:Oper} (ho:ops[i]?=some o){K:List AVal→St→Prop}{K':Act→World→Prop}{Qc:Exit→Act→World→Prop} (hd:a.defers=[]) (hs:Sim E F Γ st w af a.tmps.toList) (h:gWp E mv ops o af st K) (hK: ∀Γ' af' st' a' w',Ext F Γ w Γ' w'→st.next≤st'.next→a'.defers=[]→Sim E F Γ' st' w' af' a'.tmps.toList→K af' st'→K' a' w'):wpOp E.P ops Qc i K' a w:=by
 unfold wpOp;simp only[ho];unfold gWp at h;split at h;·rename_i hg;rw[ah (by simp[Region.wanted,hg])];exact .inl (Oq h F Γ w a hd hs K' Qc hK)
 ·rename_i j want hg;split at h;·rename_i hgd;rw[ah (by rw[KT hg,Nn hs hgd])];exact .inl (Oq h F Γ w a hd hs K' Qc hK)
  ·rename_i hgd;rw[ag (by rw[KT hg,Nn hs hgd];simp)];exact hK Γ _ st _ w (Ext.refl _ _ _) (ao _) (by rw[put_defers];exact hd) (hs.skipped o.dst) h
  ·cases h
theorem AOE{E:Env}{t:TypeId}{w:Nat}{x:AVal}:D8 E .eql t x (.slice w [] true)=none:=by cases x<;>simp[D8,Lv,Vj]
theorem AKO{mv:List Tmp}{ops:Array Oper}{o:Oper}{r:AVal} (h:JS E ops o af st=some r):gWp E [] ops o af st fun af' st'=>af'=Am af o.dst r∧st'=st:=by
 have key: ∀r,Df E o af st=some r→CO E [] o af st fun af' st'=>af'=Am af o.dst r∧st'=st:=by
  intro r hr;have hst:=ADH hr;unfold CO;split;·rename_i f args ts hop;simp[Df,hop,BS]at hr
  ·rename_i x y t0 t1 ts hop;simp[Df,hop]at hr
  ·rename_i op t x y _ hop;split;·rename_i hn;obtain⟨rfl,rfl⟩:=AHm hn;simp[Df,hop,BS,rd,Gh,AOE]at hr
   ·rw[hst];exact⟨rfl,rfl⟩
  ·rw[hst];exact⟨rfl,rfl⟩
 unfold JS at h;unfold gWp;split at h;·exact key r h
 ·split at h;·exact key r h
  ·simp only[ac]at h;subst h;exact⟨rfl,rfl⟩
  ·cases h
end
end Go.VM
set_option linter.unusedVariables false
namespace Go.VM
inductive Plan where |done |take (i:Nat) (p:Plan) |alt (i:Nat) (chk:List Nat) (p rest:Plan) |stop
def Plan.alts:Plan→List Nat |.alt i _ _ rest=>i::rest.alts|_=>[]
def Plan.sub (j:Nat):Plan→Option (List Nat×Plan) |.alt i chk p rest=>if i=j then some (chk,p)else rest.sub j|_=>none
def AXK (o:Oper) (k:Nat):Bool:=o.after.any fun e=>Region.binds .any e&&e.on==k
def AGe (ops:Array Oper) (listed:Array Bool) (taken:List Nat) (i:Nat):Bool:=
  match ops[i]? with
  | some o=>
    match o.dst with
    |some d=>Region.free .any ops listed i&&!(o.looksAt ops).contains d&&taken.all fun j=>match ops[j]? with|some oj=>!(oj.looksAt ops).contains d&&oj.dst !=some d|none=>false
    |none=>false
  |none=>false
def AIO (ops:Array Oper) (taken:List Nat) (i:Nat) (chk:List Nat):Bool:=match ops[i]? with |some o=>taken.all fun k=>chk.contains k||AXK o k|none=>false
def F5 (ops:Array Oper):Plan→Bool→Array Bool→List Nat→Bool |.done,mode,listed,_=>!mode&&(Region.ready .any ops listed).isEmpty|.take i p,mode,listed,taken=>!mode&&(Region.ready .any ops listed).contains i&&AGe ops listed taken i&&F5 ops p false (listed.setIfInBounds i true) (i::taken)| .alt i chk p rest,mode,listed,taken=>(mode||(Region.ready .any ops listed).all fun j=>(i::rest.alts).contains j)&&(Region.ready .any ops listed).contains i&&AIO ops taken i chk&&F5 ops p false (listed.setIfInBounds i true) taken&&F5 ops rest true listed taken|.stop,mode,_,_=>mode
def QI:List (Nat×AVal)→Nat→Option AVal |[],_=>none|(j,r)::tv,k=>if k=j then some r else QI tv k
def Lx (E:Env) (ops:Array Oper) (tv:List (Nat×AVal)) (af:List AVal) (st:St):List Nat→Prop |[]=>True|k::ks=>(match QI tv k,ops[k]? with|some r,some o=>JS E ops o af st=some r|_,_=>False)∧Lx E ops tv af st ks
def FI (E:Env) (mv:List Tmp) (ops:Array Oper):Plan→List (Nat×AVal)→(List AVal→St→Prop)→List AVal→St→Prop
  |.done,_,K,af,st=>K af st
  | .take i p,tv,K,af,st=>
    match ops[i]? with
    | some o=>
      match JS E ops o af st with
      |some r=>FI E mv ops p ((i,r)::tv) K (Am af o.dst r) st
      |none=>False
    |none=>False
  | .alt i chk p rest,tv,K,af,st=>
    (match ops[i]? with
      |some o=>gWp E mv ops o af st fun af' st'=>Lx E ops tv af' st' chk∧FI E mv ops p tv K af' st'
      |none=>False)∧FI E mv ops rest tv K af st
  |.stop,_,_,_,_=>True
def GH (ops:Array Oper) (i:Nat):Option Tmp:=(ops[i]?).bind (·.dst)
def Fa (ops:Array Oper) (af:List AVal):List (Nat×AVal)→List AVal |[]=>af|(i,r)::pend=>Fa ops (Am af (GH ops i) r) pend
theorem NC (ops:Array Oper) (pend:List (Nat×AVal)) (i:Nat) (r:AVal): ∀af,Fa ops af (pend++[(i,r)])=Am (Fa ops af pend) (GH ops i) r:=by induction pend with |nil=>intro af;rfl|cons p pend ih=>intro af;exact ih _
theorem XU{E:Env}{ops:Array Oper}{o:Oper}{st:St} (pend:List (Nat×AVal)): ∀af,(∀p,p∈pend→∀d,GH ops p.1=some d→d∉o.looksAt ops)→JS E ops o (Fa ops af pend) st=JS E ops o af st:=by induction pend with |nil=>intro af _;rfl| cons p pend ih=>intro af h;obtain⟨i,r⟩:=p;simp only[Fa];rw[ih _ (fun q hq=>h q (aC _ hq))];cases hd:GH ops i with |none=>rfl|some d=>exact Qw (h (i,r) eU d hd)
theorem AGm{E:Env}{mv:List Tmp}{ops:Array Oper}{o:Oper}{st:St} (pend:List (Nat×AVal)): ∀ {af:List AVal}{K:List AVal→St→Prop},(∀p,p∈pend→∀d,GH ops p.1=some d→d∉o.looksAt ops∧o.dst≠some d)→gWp E mv ops o (Fa ops af pend) st K→gWp E mv ops o af st fun af' st'=>K (Fa ops af' pend) st':=by induction pend with |nil=>intro af K _ h;exact h| cons p pend ih=>intro af K h hw;obtain⟨i,r⟩:=p;simp only[Fa]at hw⊢;have h1:=ih (fun q hq=>h q (aC _ hq)) hw;cases hd:GH ops i with |none=>rw[hd]at h1;exact h1| some d=>rw[hd]at h1;obtain⟨a1,a2⟩:=h (i,r) eU d hd;exact AT4 (K:=fun af' st'=>K (Fa ops af' pend) st') a1 a2 h1
theorem AKb{af:List AVal}{d e:Option Tmp}{x y:AVal} (h: ∀t,d=some t→e≠some t):Am (Am af d x) e y=Am (Am af e y) d x:=by cases d with |none=>rfl| some d=>cases e with |none=>rfl| some e=>have:d≠e:=fun he=>h d rfl (by rw[he]);simp only[Am];exact cZ _ _ this
theorem QD{ops:Array Oper}{i:Nat}{r:AVal} (pend:List (Nat×AVal)): ∀af,(i,r)∈pend→(pend.map (·.1)).Nodup→(∀p q,p∈pend→q∈pend→p.1≠q.1→∀t,GH ops p.1=some t→GH ops q.1≠some t)→Fa ops af pend=Fa ops (Am af (GH ops i) r) (pend.filter fun p=>p.1 !=i):=by
 induction pend with
 |nil=>intro af h _ _;cases h
 | cons p pend ih=>
  intro af h hn hd;obtain⟨j,s⟩:=p;simp only[aK,bY]at hn;by_cases hij:j=i
  ·subst hij;have hsr:s=r:=by
    rcases aL.1 h with e|e;·cases e;rfl
    ·exact absurd (bo.2 ⟨(j,r),e,rfl⟩) hn.1
   subst hsr;have hf:pend.filter (fun p=>p.1 !=j)=pend:=List.filter_eq_self.2 fun q hq=>by simp only[dO,dp];intro e;exact hn.1 (bo.2 ⟨q,hq,e⟩)
   simp[Fa,hf]
  ·have hm:(i,r)∈pend:=by
    rcases aL.1 h with e|e;·cases e;exact absurd rfl hij
    ·exact e
   have hne:(j !=i)=true:=by simpa using hij
   rw[eu,ah hne];simp only[Fa];rw[ih _ hm hn.2 (fun p q hp hq=>hd p q (aC _ hp) (aC _ hq))];rw[AKb (fun t ht=>hd (j,s) (i,r) eU h (by simpa using hij) t ht)]
def OrdP (ops:Array Oper):(Nat→Prop)→List (Nat×AVal)→Prop |_,[]=>True|P,(i,_)::rest=>(∀o,ops[i]?=some o→∀e,e∈o.after→Region.binds .any e=true→P e.on)∧OrdP ops (fun k=>P k∨k=i) rest
theorem OrdP.mono{ops:Array Oper}: ∀ {pend:List (Nat×AVal)}{P P':Nat→Prop},(∀k,P k→P' k)→OrdP ops P pend→OrdP ops P' pend |[],_,_,_,_=>trivial|(i,_)::rest,_,_,h,⟨h1,h2⟩=>⟨fun o ho e he hb=>h _ (h1 o ho e he hb),OrdP.mono (fun k hk=>hk.imp (h k) id) h2⟩
theorem OrdP.snoc{ops:Array Oper}{i:Nat}{r:AVal}: ∀ {pend:List (Nat×AVal)}{P:Nat→Prop},OrdP ops P pend→(∀o,ops[i]?=some o→∀e,e∈o.after→Region.binds .any e=true→P e.on∨e.on∈pend.map (·.1))→OrdP ops P (pend++[(i,r)])
 |[],P,_,h=>⟨fun o ho e he hb=>(h o ho e he hb).resolve_right eU,trivial⟩
 | (j,_)::rest,P,⟨h1,h2⟩,h=>⟨h1,OrdP.snoc h2 fun o ho e he hb=>by
  rcases h o ho e he hb with h|h;·exact .inl (.inl h)
  ·rcases aL.1 h with h|h;·exact .inl (.inr h)
   ·exact .inr h⟩
theorem OrdP.erase{ops:Array Oper}{k:Nat}: ∀ {pend:List (Nat×AVal)}{P:Nat→Prop},OrdP ops P pend→OrdP ops (fun j=>P j∨j=k) (pend.filter fun p=>p.1 !=k)
 |[],_,_=>trivial
 | (i,s)::rest,P,⟨h1,h2⟩=>by
  have ih:=OrdP.erase (k:=k) h2;by_cases hik:i=k;·subst hik;have hne:(i !=i)=false:=eU;rw[eu,hne];exact ih.mono fun j hj=>by rcases hj with(h|h)|h;exact .inl h;exact .inr h;exact .inr h
  ·have hne:(i !=k)=true:=by simpa using hik
   rw[eu,ah hne];exact⟨fun o ho e he hb=>.inl (h1 o ho e he hb),ih.mono fun j hj=>by rcases hj with(h|h)|h;exact .inl (.inl h);exact .inr h;exact .inl (.inr h)⟩
def J9 (n:Nat) (listed:Array Bool):Nat:=(List.range n).countP fun k=>!listed.getD k true
theorem Tc{i:Nat}{f g:Nat→Bool} (hf:f i=false) (hg:g i=true) (h: ∀k,k≠i→f k=g k): ∀l:List Nat,l.countP f+l.count i=l.countP g
 |[]=>rfl
 | k::l=>by
  have ih:=Tc hf hg h l;rw[List.countP_cons,List.countP_cons,List.count_cons];by_cases hk:k=i;·subst hk;rw[hf,hg];simp;omega
  ·have:(k==i)=false:=by simpa using hk
   rw[h k hk,this];simp;omega
theorem PV{n i:Nat}{listed:Array Bool} (hi:listed.getD i true=false) (hn:i<n):J9 n (listed.setIfInBounds i true)+1≤J9 n listed:=by
 have hlt:i<listed.size:=by
  rcases aS i listed.size with h|h;·exact h
  ·simp[bT h]at hi
 have hset:(listed.setIfInBounds i true).getD i true=true:=by simp[hlt]
 have hother: ∀k,k≠i→(listed.setIfInBounds i true).getD k true=listed.getD k true:=fun k hk=>eP true (Ne.symm hk);unfold J9;have key:=fun l=>Tc (i:=i) (f:=fun k=>!(listed.setIfInBounds i true).getD k true) (g:=fun k=>!listed.getD k true) (by simp only[hset,bI]) (by simp only[hi,bg]) (fun k hk=>by simp only[hother k hk]) l;have hc:1≤(List.range n).count i:=List.count_pos_iff.2 (de.2 hn);have:=key (List.range n);omega
theorem Oh{n:Nat}{listed:Array Bool} (h:J9 n listed=0){k:Nat} (hk:k<n):listed.getD k true=true:=by have:=List.countP_eq_zero.1 h k (de.2 hk);simpa using this
structure Inv (E:Env) (ops:Array Oper) (act asap:Array Bool) (taken:List Nat) (pend tv:List (Nat×AVal)) (af:List AVal) (st:St):Prop where
  sz1:act.size=ops.size
  sz2:asap.size=ops.size
  list: ∀k,k<ops.size→(asap.getD k true=true↔act.getD k true=true∨k∈pend.map (·.1))
  notin: ∀p,p∈pend→act.getD p.1 true=false∧p.1<ops.size∧p.1∈taken
  nodup:(pend.map (·.1)).Nodup
  tvl: ∀p,p∈pend→QI tv p.1=some p.2
  val: ∀p,p∈pend→ ∀o,ops[p.1]?=some o→JS E ops o (Fa ops af pend) st=some p.2
  free: ∀p,p∈pend→ ∀d,GH ops p.1=some d→ ∀j oj,ops[j]?=some oj→asap.getD j true=false→(∀e,e∈oj.after→Region.binds .any e=true→e.on≠p.1)→d∉oj.looksAt ops∧oj.dst≠some d
  self: ∀p,p∈pend→ ∀d o,GH ops p.1=some d→ops[p.1]?=some o→d∉o.looksAt ops
  pair: ∀p q,p∈pend→q∈pend→p.1≠q.1→ ∀d,GH ops p.1=some d→GH ops q.1≠some d∧ ∀oq,ops[q.1]?=some oq→(∀e,e∈oq.after→Region.binds .any e=true→e.on≠p.1)→d∉oq.looksAt ops
  ord:OrdP ops (fun k=>act.getD k false=true) pend
theorem J4{l:Array Bool}{k:Nat} (h:k<l.size):l.getD k false=l.getD k true:=by simp[Array.getD,h]
section
variable{E:Env}{ops:Array Oper}
theorem Inv.ready_sub{act asap:Array Bool}{taken:List Nat}{pend tv:List (Nat×AVal)}{af:List AVal}{st:St} (I:Inv E ops act asap taken pend tv af st){j:Nat} (hj:j∈Region.ready .any ops act) (hp:j∉pend.map (·.1)):j∈Region.ready .any ops asap:=by
 obtain⟨h0,o,ho,h1⟩:=cG.1 hj;have hlt:j<ops.size:=(aD.1 ho).1;refine cG.2 ⟨?_,o,ho,fun e he hb=>?_⟩
 ·cases h:asap.getD j true with
  |false=>rfl
  | true=>
   rcases (I.list j hlt).1 h with h|h;·rw[h0]at h;cases h
   ·exact absurd h hp
 ·have:=h1 e he hb;have hlt':e.on<act.size:=by
   rcases aS e.on act.size with h|h;·exact h
   ·simp[bT h]at this
  rw[J4 hlt']at this;rw[J4 (by rw[I.sz2,←I.sz1];exact hlt')];exact(I.list e.on (by rw[←I.sz1];exact hlt')).2 (.inl this)
theorem Inv.some_ready{act asap:Array Bool}{taken:List Nat}{pend tv:List (Nat×AVal)}{af:List AVal}{st:St} (I:Inv E ops act asap taken pend tv af st) (h:Region.ready .any ops act=[]):pend=[]:=by
 cases hp:pend with
 |nil=>rfl
 | cons p rest=>
  exfalso;obtain⟨i,r⟩:=p;have hm:(i,r)∈pend:=by rw[hp];simp
  obtain⟨h0,hlt,_⟩:=I.notin _ hm;have hord:=I.ord;rw[hp]at hord;obtain⟨o,ho⟩: ∃o,ops[i]?=some o:=⟨ops[i],cu hlt⟩;have:i∈Region.ready .any ops act:=cG.2 ⟨h0,o,ho,fun e he hb=>hord.1 o ho e he hb⟩;rw[h]at this;cases this
theorem Inv.asap_ready{act asap:Array Bool}{taken:List Nat}{tv:List (Nat×AVal)}{af:List AVal}{st:St} (I:Inv E ops act asap taken [] tv af st){j:Nat} (hj:j∈Region.ready .any ops asap):j∈Region.ready .any ops act:=by
 obtain⟨h0,o,ho,h1⟩:=cG.1 hj;have hlt:j<ops.size:=(aD.1 ho).1;refine cG.2 ⟨?_,o,ho,fun e he hb=>?_⟩;·cases h:act.getD j true with |false=>rfl|true=>have:=(I.list j hlt).2 (.inl h);rw[h0]at this;cases this
 ·have:=h1 e he hb;have hlt':e.on<asap.size:=by
   rcases aS e.on asap.size with h|h;·exact h
   ·simp[bT h]at this
  rw[J4 hlt']at this;rw[J4 (by rw[I.sz1,←I.sz2];exact hlt')];rcases (I.list e.on (by rw[←I.sz2];exact hlt')).1 this with h|h;·exact h
  ·simp at h
theorem Tx{tv:List (Nat×AVal)}{af:List AVal}{st:St}: ∀ {chk:List Nat},Lx E ops tv af st chk→∀ {k:Nat},k∈chk→∃r o,QI tv k=some r∧ops[k]?=some o∧JS E ops o af st=some r
 |[],_,_,h=>by cases h
 | x::xs,⟨h1,h2⟩,k,h=>by
  rcases aL.1 h with rfl|h
  ·split at h1;·rename_i r o e1 e2;exact⟨r,o,e1,e2,h1⟩
   ·cases h1
  ·exact Tx h2 h
theorem ACm{mv:List Tmp}{listed:Array Bool}{taken:List Nat}{tv:List (Nat×AVal)}{K:List AVal→St→Prop}{af:List AVal}{st:St}: ∀ {p:Plan},F5 ops p true listed taken=true→FI E mv ops p tv K af st→∀ {j:Nat},j∈p.alts→∃chk q o,ops[j]?=some o∧AIO ops taken j chk=true∧F5 ops q false (listed.setIfInBounds j true) taken=true∧gWp E mv ops o af st fun af' st'=>Lx E ops tv af' st' chk∧FI E mv ops q tv K af' st'
 | .alt i chk p rest,hok,hw,j,hj=>by
  simp only[F5,az]at hok;simp only[FI]at hw;rcases aL.1 hj with rfl|hj
  ·have h1:=hw.1;split at h1;·rename_i o ho;exact⟨chk,p,o,ho,hok.1.1.2,hok.1.2,h1⟩
   ·cases h1
  ·exact ACm hok.2 hw.2 hj
 |.done,_,_,_,h=>by cases h
 |.take _ _,_,_,_,h=>by cases h
 |.stop,_,_,_,h=>by cases h
theorem Inv.take{act asap:Array Bool}{taken:List Nat}{pend tv:List (Nat×AVal)}{af:List AVal}{st:St} (I:Inv E ops act asap taken pend tv af st){i:Nat}{o:Oper}{r:AVal} (hr:i∈Region.ready .any ops asap) (hok:AGe ops asap taken i=true) (ho:ops[i]?=some o) (hv:JS E ops o (Fa ops af pend) st=some r):Inv E ops act (asap.setIfInBounds i true) (i::taken) (pend++[(i,r)]) ((i,r)::tv) af st:=by
 obtain⟨h0,o',ho',hw⟩:=cG.1 hr;rw[ho]at ho';cases ho';have hlt:i<ops.size:=(aD.1 ho).1;have hact:act.getD i true=false:=by cases h:act.getD i true with |false=>rfl|true=>have:=(I.list i hlt).2 (.inl h);rw[h0]at this;cases this
 have hnp:i∉pend.map (·.1):=fun h=>by have:=(I.list i hlt).2 (.inr h);rw[h0]at this;cases this
 unfold AGe at hok;rw[ho]at hok;simp only at hok;split at hok
 ·rename_i d hd;simp only[az,dY,br]at hok;obtain⟨⟨hfree,hself⟩,htk⟩:=hok;have hself':d∉o.looksAt ops:=by simpa using hself
  have hdst:GH ops i=some d:=by simp[GH,ho,hd]
  have hfr:=fun j oj hj hne hun hno=>Oper.apart_spec (Region.free_spec ho hfree j oj hj hne hun hno);have htk': ∀j,j∈taken→∀oj,ops[j]?=some oj→d∉oj.looksAt ops∧oj.dst≠some d:=by intro j hj oj hoj;have:=htk j hj;rw[hoj]at this;simp only[az,dY,dO,dp]at this;exact⟨by simpa using this.1,this.2⟩
  have hset: ∀k,k≠i→(asap.setIfInBounds i true).getD k true=asap.getD k true:=fun k hk=>eP true (Ne.symm hk);have hseti:(asap.setIfInBounds i true).getD i true=true:=by simp[I.sz2,hlt]
  have hpne: ∀p,p∈pend→p.1≠i:=fun p hp e=>hnp (bo.2 ⟨p,hp,e⟩);refine {sz1:=I.sz1,sz2:=by simp[I.sz2],list:=?_,notin:=?_,nodup:=?_,tvl:=?_,val:=?_,free:=?_,self:=?_,pair:=?_,ord:=?_}
  ·intro k hk;rw[cx,aV];by_cases hki:k=i;·subst hki;rw[hseti];simp
   ·rw[hset k hki,I.list k hk];simp[hki]
  ·intro p hp;rcases aV.1 hp with hp|hp;·obtain⟨a,b,c⟩:=I.notin p hp;exact⟨a,b,aC _ c⟩
   ·simp only[bh]at hp;subst hp;exact⟨hact,hlt,eU⟩
  ·rw[cx,List.nodup_append];refine⟨I.nodup,eU,?_⟩;intro x hx y hy;simp only[aK,cy,bh]at hy;subst hy;exact fun e=>hnp (e▸hx)
  ·intro p hp;rcases aV.1 hp with hp|hp;·simp only[QI];rw[ag (hpne p hp)];exact I.tvl p hp
   ·simp only[bh]at hp;subst hp;simp[QI]
  ·intro p hp op hop;rw[NC,hdst];rcases aV.1 hp with hp|hp;·rw[show Am (Fa ops af pend) (some d) r=(Fa ops af pend).set d r from rfl,Qw (htk' p.1 (I.notin p hp).2.2 op hop).1];exact I.val p hp op hop
   ·simp only[bh]at hp;subst hp;rw[ho]at hop;cases hop;rw[show Am (Fa ops af pend) (some d) r=(Fa ops af pend).set d r from rfl,Qw hself'];exact hv
  ·intro p hp dd hdd j oj hoj hun hno;have hji:j≠i:=fun e=>by subst e;rw[hseti]at hun;cases hun
   rw[hset j hji]at hun;rcases aV.1 hp with hp|hp;·exact I.free p hp dd hdd j oj hoj hun hno
   ·simp only[bh]at hp;subst hp;simp only at hdd hno;rw[hdst]at hdd;cases hdd;obtain⟨a,b,c⟩:=hfr j oj hoj hji hun hno;exact⟨a d hd,b d hd⟩
  ·intro p hp dd op hdd hop;rcases aV.1 hp with hp|hp;·exact I.self p hp dd op hdd hop
   ·simp only[bh]at hp;subst hp;simp only at hdd hop;rw[hdst]at hdd;cases hdd;rw[ho]at hop;cases hop;exact hself'
  ·intro p q hp hq hne dd hdd;rcases aV.1 hp with hp|hp<;>rcases aV.1 hq with hq|hq;·exact I.pair p q hp hq hne dd hdd
   ·simp only[bh]at hq;subst hq;simp only at hne⊢;refine⟨?_,fun oq hoq hno=>?_⟩
    ·rw[hdst];intro e;simp only[ac]at e;have hpo: ∃op,ops[p.1]?=some op:=⟨_,cu (I.notin p hp).2.1⟩;obtain⟨op,hop⟩:=hpo;have:=(htk' p.1 (I.notin p hp).2.2 op hop).2;have hdd':op.dst=some dd:=by simpa[GH,hop]using hdd
     rw[hdd',e]at this;exact this rfl
    ·rw[ho]at hoq;cases hoq;exact(I.free p hp dd hdd i o ho h0 hno).1
   ·simp only[bh]at hp;subst hp;simp only at hne hdd⊢;rw[hdst]at hdd;cases hdd;obtain⟨oq,hoq⟩: ∃oq,ops[q.1]?=some oq:=⟨_,cu (I.notin q hq).2.1⟩;have hh:=htk' q.1 (I.notin q hq).2.2;refine⟨?_,fun oq hoq _=>(hh oq hoq).1⟩;simp only[GH,hoq,aa];exact(hh oq hoq).2
   ·simp only[bh]at hp hq;subst hp;subst hq;exact absurd rfl hne
  ·refine I.ord.snoc fun o'' ho'' e he hb=>?_;rw[ho]at ho'';cases ho'';have:=hw e he hb;have hlt':e.on<asap.size:=by
    rcases aS e.on asap.size with h|h;·exact h
    ·simp[bT h]at this
   rw[J4 hlt']at this;rcases (I.list e.on (by rw[←I.sz2];exact hlt')).1 this with h|h;·exact .inl (by rw[J4 (by rw[I.sz1,←I.sz2];exact hlt')];exact h)
   ·exact .inr h
 ·cases hok
theorem Inv.come{act asap:Array Bool}{taken:List Nat}{pend tv:List (Nat×AVal)}{af:List AVal}{st:St} (I:Inv E ops act asap taken pend tv af st){i:Nat}{r:AVal} (hm:(i,r)∈pend):Inv E ops (act.setIfInBounds i true) asap taken (pend.filter fun p=>p.1 !=i) tv (Am af (GH ops i) r) st:=by
 obtain⟨h0,hlt,htk⟩:=I.notin _ hm;have hmem: ∀p,p∈pend.filter (fun p=>p.1 !=i)→p∈pend∧p.1≠i:=fun p hp=>by obtain⟨a,b⟩:=List.mem_filter.1 hp;exact⟨a,by simpa using b⟩
 have hset: ∀k,k≠i→(act.setIfInBounds i true).getD k true=act.getD k true:=fun k hk=>eP true (Ne.symm hk);have hseti:(act.setIfInBounds i true).getD i true=true:=by simp[I.sz1,hlt]
 have herase:=QD pend af hm I.nodup (fun p q hp hq hne t ht=>(I.pair p q hp hq hne t ht).1);refine {sz1:=by simp[I.sz1],sz2:=I.sz2,list:=?_,notin:=?_,nodup:=?_,tvl:=fun p hp=>I.tvl p (hmem p hp).1,val:=?_,free:=fun p hp=>I.free p (hmem p hp).1,self:=fun p hp=>I.self p (hmem p hp).1,pair:=fun p q hp hq=>I.pair p q (hmem p hp).1 (hmem q hq).1,ord:=?_}
 ·intro k hk;by_cases hki:k=i;·subst hki;rw[hseti];simp only[true_or,iff_true];exact(I.list k hk).2 (.inr (bo.2 ⟨_,hm,rfl⟩))
  ·rw[hset k hki,I.list k hk];have:k∈(pend.filter fun p=>p.1 !=i).map (·.1)↔k∈pend.map (·.1):=by
    simp only[bo];constructor;·rintro⟨p,hp,rfl⟩;exact⟨p,(hmem p hp).1,rfl⟩
    ·rintro⟨p,hp,rfl⟩;exact⟨p,List.mem_filter.2 ⟨hp,by simpa using hki⟩,rfl⟩
   rw[this]
 ·intro p hp;obtain⟨a,b⟩:=hmem p hp;obtain⟨c,d,e⟩:=I.notin p a;exact⟨by rw[hset p.1 b];exact c,d,e⟩
 ·exact(List.filter_sublist.map _).nodup I.nodup
 ·intro p hp o ho;rw[←herase];exact I.val p (hmem p hp).1 o ho
 ·refine(I.ord.erase (k:=i)).mono fun k hk=>?_;rcases hk with hk|hk;·exact getD_set_true hk
  ·subst hk;rw[J4 (by simp[I.sz1,hlt])];exact hseti
theorem Inv.step{act asap:Array Bool}{taken:List Nat}{pend tv:List (Nat×AVal)}{af af':List AVal}{st st':St} (I:Inv E ops act asap taken pend tv af st){i:Nat}{chk:List Nat}{o:Oper} (hr:i∈Region.ready .any ops act) (hp:i∉pend.map (·.1)) (ho:ops[i]?=some o) (hchk:AIO ops taken i chk=true) (hall:Lx E ops tv (Fa ops af' pend) st' chk):Inv E ops (act.setIfInBounds i true) (asap.setIfInBounds i true) taken pend tv af' st':=by
 obtain⟨h0,o',ho',hw⟩:=cG.1 hr;rw[ho]at ho';cases ho';have hlt:i<ops.size:=(aD.1 ho).1;have hset: ∀(l:Array Bool) k,k≠i→(l.setIfInBounds i true).getD k true=l.getD k true:=fun l k hk=>eP true (Ne.symm hk);have hseti: ∀(l:Array Bool),l.size=ops.size→(l.setIfInBounds i true).getD i true=true:=fun l hl=>by simp[hl,hlt]
 have hpne: ∀p,p∈pend→p.1≠i:=fun p hpm e=>hp (bo.2 ⟨p,hpm,e⟩);refine {sz1:=by simp[I.sz1],sz2:=by simp[I.sz2],list:=?_,notin:=?_,nodup:=I.nodup,tvl:=I.tvl,val:=?_,free:=?_,self:=I.self,pair:=I.pair,ord:=?_}
 ·intro k hk;by_cases hki:k=i;·subst hki;rw[hseti act I.sz1,hseti asap I.sz2];simp
  ·rw[hset act k hki,hset asap k hki];exact I.list k hk
 ·intro p hpm;obtain⟨a,b,c⟩:=I.notin p hpm;exact⟨by rw[hset act p.1 (hpne p hpm)];exact a,b,c⟩
 ·intro p hpm op hop;unfold AIO at hchk;rw[ho]at hchk;simp only[br,cj]at hchk;obtain⟨a,b,c⟩:=I.notin p hpm;rcases hchk p.1 c with h|h;·obtain⟨r,o2,e1,e2,e3⟩:=Tx hall (by simpa using h);rw[I.tvl p hpm]at e1;cases e1;rw[hop]at e2;cases e2;exact e3
  ·exfalso;obtain⟨e,he,hb⟩:=Array.any_eq_true'.1 h;simp only[az,bw]at hb;have:=hw e he hb.1;rw[hb.2,J4 (by rw[I.sz1];exact b),a]at this;cases this
 ·intro p hpm d hd j oj hoj hun hno;have hji:j≠i:=fun e=>by subst e;rw[hseti asap I.sz2]at hun;cases hun
  rw[hset asap j hji]at hun;exact I.free p hpm d hd j oj hoj hun hno
 ·exact I.ord.mono fun k hk=>getD_set_true hk
theorem AGr{mv:List Tmp}{K:List AVal→St→Prop}{Qc:Exit→Act→World→Prop}{F:Nat→Nat} (fuel:Nat): ∀(plan:Plan){act asap:Array Bool}{taken:List Nat}{pend tv:List (Nat×AVal)}{af:List AVal}{st:St}{a:Act}{w:World}{Γ:Ghost},F5 ops plan false asap taken=true→J9 ops.size act≤fuel→Inv E ops act asap taken pend tv af st→a.defers=[]→Sim E F Γ st w af a.tmps.toList→FI E mv ops plan tv K (Fa ops af pend) st→(∀Γ' af' st' a' w',Ext F Γ w Γ' w'→st.next≤st'.next→a'.defers=[]→Sim E F Γ' st' w' af' a'.tmps.toList→K af' st'→Qc .normal a' w')→wpAny E.P .any ops Qc fuel act a w:=by
 induction fuel with
 | zero=>
  intro plan;induction plan with
  | done=>
   intro act asap taken pend tv af st a w Γ hok hn I hd hs hw hK;have hrd:Region.ready .any ops act=[]:=List.eq_nil_iff_forall_not_mem.2 fun j hj=>by obtain⟨h0,o,ho,_⟩:=cG.1 hj;rw[Oh (Nat.le_zero.1 hn) (aD.1 ho).1]at h0;cases h0
   have:=I.some_ready hrd;subst this;exact⟨hrd,hK Γ af st a w (Ext.refl _ _ _) (ao _) hd hs hw⟩
  | take i p ih=>
   intro act asap taken pend tv af st a w Γ hok hn I hd hs hw hK;simp only[F5,az]at hok;simp only[FI]at hw;split at hw
   ·rename_i o ho;split at hw;·rename_i r hr;have I2:=I.take (by simpa using hok.1.1.2) hok.1.2 ho hr;refine ih hok.2 hn I2 hd hs ?_ hK;rw[NC,show GH ops i=o.dst by simp[GH,ho]];exact hw
    ·cases hw
   ·cases hw
  | alt i chk p rest _ _=>
   intro act asap taken pend tv af st a w Γ hok hn I hd hs hw hK;exfalso;simp only[F5,az]at hok;have hi:i∈Region.ready .any ops asap:=by simpa using hok.1.1.1.2
   obtain⟨h0,o,ho,_⟩:=cG.1 hi;have hlt:=(aD.1 ho).1;have:=(I.list i hlt).2 (.inl (Oh (Nat.le_zero.1 hn) hlt));rw[h0]at this;cases this
  |stop=>intro act asap taken pend tv af st a w Γ hok;simp[F5]at hok
 | succ fuel ihf=>
  have come: ∀(plan:Plan){act asap:Array Bool}{taken:List Nat}{pend tv:List (Nat×AVal)}{af:List AVal}{st:St}{a:Act}{w:World}{Γ:Ghost},F5 ops plan false asap taken=true→J9 ops.size act≤fuel+1→Inv E ops act asap taken pend tv af st→a.defers=[]→Sim E F Γ st w af a.tmps.toList→FI E mv ops plan tv K (Fa ops af pend) st→(∀Γ' af' st' a' w',Ext F Γ w Γ' w'→st.next≤st'.next→a'.defers=[]→Sim E F Γ' st' w' af' a'.tmps.toList→K af' st'→Qc .normal a' w')→∀j,j∈Region.ready .any ops act→j∈pend.map (·.1)→wpOp E.P ops Qc j (wpAny E.P .any ops Qc fuel (act.setIfInBounds j true)) a w:=by
   intro plan act asap taken pend tv af st a w Γ hok hn I hd hs hw hK j hj hjp;obtain⟨p,hp,rfl⟩:=bo.1 hjp;obtain⟨h0,o,ho,hwt⟩:=cG.1 hj;have hlt:=(aD.1 ho).1;have hlooks: ∀q,q∈pend→∀d,GH ops q.1=some d→d∉o.looksAt ops:=by
    intro q hq d hdd;by_cases hqp:q.1=p.1;·exact I.self q hq d o hdd (by rw[hqp];exact ho)
    ·refine(I.pair q p hq hp hqp d hdd).2 o ho fun e he hb heq=>?_;have:=hwt e he hb;obtain⟨a1,b1,_⟩:=I.notin q hq;rw[heq,J4 (by rw[I.sz1];exact b1),a1]at this;cases this
   have hval:=I.val p hp o ho;rw[XU pend af hlooks]at hval;refine Uy ho hd hs (AKO (mv:=mv) hval) fun Γ' af' st' a' w' x1 n1 d1 s1 k1=>?_;obtain⟨rfl,rfl⟩:=k1;have hdst:GH ops p.1=o.dst:=by simp[GH,ho]
   have hpm:(p.1,p.2)∈pend:=hp;have I2:=I.come hpm;rw[hdst]at I2;refine ihf plan hok (by have:=PV h0 hlt;omega) I2 d1 s1 ?_ fun Γ2 af2 st2 a2 w2 x2 n2 d2 s2 k2=>hK Γ2 af2 st2 a2 w2 (x1.trans x2) (bB n1 n2) d2 s2 k2;rw[QD pend af hpm I.nodup (fun p q hp hq hne t ht=>(I.pair p q hp hq hne t ht).1),hdst]at hw;exact hw
  intro plan;induction plan with
  | done=>
   intro act asap taken pend tv af st a w Γ hok hn I hd hs hw hK;refine⟨fun hrd=>?_,fun j hj=>?_⟩;·have:=I.some_ready hrd;subst this;exact hK Γ af st a w (Ext.refl _ _ _) (ao _) hd hs hw
   ·by_cases hjp:j∈pend.map (·.1);·exact come .done hok hn I hd hs hw hK j hj hjp
    ·exfalso;have:=I.ready_sub hj hjp;simp only[F5,bg,bu,List.isEmpty_iff]at hok;rw[hok]at this;cases this
  | take i p ih=>
   intro act asap taken pend tv af st a w Γ hok hn I hd hs hw hK;simp only[F5,az]at hok;simp only[FI]at hw;split at hw
   ·rename_i o ho;split at hw;·rename_i r hr;have I2:=I.take (by simpa using hok.1.1.2) hok.1.2 ho hr;refine ih hok.2 hn I2 hd hs ?_ hK;rw[NC,show GH ops i=o.dst by simp[GH,ho]];exact hw
    ·cases hw
   ·cases hw
  | alt i chk p rest _ _=>
   intro act asap taken pend tv af st a w Γ hok hn I hd hs hw hK;have hok0:=hok;simp only[F5,az]at hok;have hi:i∈Region.ready .any ops asap:=by simpa using hok.1.1.1.2
   refine⟨fun hrd=>?_,fun j hj=>?_⟩;·exfalso;have:=I.some_ready hrd;subst this;have:=I.asap_ready hi;rw[hrd]at this;cases this
   ·by_cases hjp:j∈pend.map (·.1);·exact come _ hok0 hn I hd hs hw hK j hj hjp
    ·have hja:=I.ready_sub hj hjp;have hall:=hok.1.1.1.1;simp only[bd,br]at hall;have hjm:j∈(Plan.alt i chk p rest).alts:=by simpa[Plan.alts]using hall j hja
     have hok':F5 ops (.alt i chk p rest) true asap taken=true:=by simp only[F5,dh,bu,az];exact⟨⟨⟨hok.1.1.1.2,hok.1.1.2⟩,hok.1.2⟩,hok.2⟩
     obtain⟨chk',q,o,ho,hc,hq,hg⟩:=ACm hok' hw hjm;obtain⟨h0,o',ho',hwt⟩:=cG.1 hj;rw[ho]at ho';cases ho';have hlt:=(aD.1 ho).1;have hun:asap.getD j true=false:=(cG.1 hja).1;have hlooks: ∀p,p∈pend→∀d,GH ops p.1=some d→d∉o.looksAt ops∧o.dst≠some d:=by intro p hp d hdd;refine I.free p hp d hdd j o ho hun fun e he hb heq=>?_;have:=hwt e he hb;obtain⟨a1,b1,_⟩:=I.notin p hp;rw[heq,J4 (by rw[I.sz1];exact b1),a1]at this;cases this
     refine Uy ho hd hs (AGm pend hlooks hg) fun Γ' af' st' a' w' x1 n1 d1 s1 k1=>?_;have I2:=I.step hj hjp ho hc k1.1;exact ihf q hq (by have:=PV h0 hlt;omega) I2 d1 s1 k1.2 fun Γ2 af2 st2 a2 w2 x2 n2 d2 s2 k2=>hK Γ2 af2 st2 a2 w2 (x1.trans x2) (bB n1 n2) d2 s2 k2
  |stop=>intro act asap taken pend tv af st a w Γ hok;simp[F5]at hok
end
theorem Mx{E:Env}{Q:APost}{af:List AVal}{st:St}{id:Nat}{ops:Array Oper} (mv:List Tmp) (plan:Plan) (hm:E.P.follows .mixedOrders=true) (hok:F5 ops plan false (Array.replicate ops.size false) []=true) (h:FI E mv ops plan [] (fun af st=>Q .normal af st) af st):AWp E (.region id ops true) Q af st:=by
 constructor;intro F Γ w a hd hs;refine wp_region_any hm ?_;have I:Inv E ops (Array.replicate ops.size false) (Array.replicate ops.size false) [] [] [] af st:=by
  have hno: ∀p:Nat×AVal,p∈([]:List (Nat×AVal))→False:=fun p hp=>by cases hp
  exact {sz1:=eU,sz2:=eU,list:=(fun k hk=>by simp),notin:=(fun p hp=>(hno p hp).elim),nodup:=eU,tvl:=(fun p hp=>(hno p hp).elim),val:=(fun p hp=>(hno p hp).elim),free:=(fun p hp=>(hno p hp).elim),self:=(fun p hp=>(hno p hp).elim),pair:=(fun p q hp=>(hno p hp).elim),ord:=trivial}
 have hun:J9 ops.size (Array.replicate ops.size false)≤ops.size:=by unfold J9;have:=List.countP_le_length (p:=fun k=>!(Array.replicate ops.size false).getD k true) (l:=List.range ops.size);simpa using this
 exact AGr ops.size plan hok hun I hd hs.drew h fun Γ' af' st' a' w' x1 n1 d1 s1 k1=>⟨trivial,d1,Γ',af',st',⟨x1.le,x1.keep,x1.size,x1.os,x1.output,x1.tape⟩,n1,s1,k1⟩
end Go.VM
set_option linter.unusedVariables false
namespace Go.VM
def AX:List Tmp→List AVal→List AVal |[],af=>af|j::js,af=>AX js (af.set j .any)
def setVals:List AVal→List Tmp→List AVal→List AVal |af,c::cs,v::vs=>setVals (af.set c v) cs vs|af,_,_=>af
def Bd (af:List AVal) (cs:List Tmp):List AVal:=cs.map fun c=>af.getD c .any
section
variable{E:Env}{F:Nat→Nat}{Γ:Ghost}{st:St}{w:World}{af:List AVal}{a:Act}{Q:APost}
theorem Sim.setAny (hs:Sim E F Γ st w af a.tmps.toList) (j:Tmp):Sim E F Γ st w (af.set j .any) a.tmps.toList:=by
 have key: ∀ {xs:List AVal}{vs:List Value} (j:Nat),RepL Γ xs vs→RepL Γ (xs.set j .any) vs:=by intro xs;induction xs with |nil=>intro vs j h;cases h;simpa using RepL.nil| cons x xs ih=>intro vs j h;cases h with | cons h t=>cases j with |zero=>exact .cons (.any _) t|succ j=>exact .cons h (ih j t)
 have keyo: ∀ {xs:List AVal}{vs:List Value} (j:Nat),ownL Γ w xs vs→ownL Γ w (xs.set j .any) vs:=by intro xs;induction xs with |nil=>intro vs j h;simp[ownL]| cons x xs ih=>intro vs j h;cases vs with |nil=>cases j<;>simp[ownL]| cons v vs=>rw[ownL]at h;cases j with |zero=>simp only[bv,ownL];exact⟨by simp[VM.own],h.2⟩|succ j=>simp only[bH,ownL];exact⟨h.1,ih j h.2⟩
 have keyc: ∀(xs:List AVal) (vs:List Value) (j b:Nat),AJ b (xs.set j .any) vs≤AJ b xs vs:=by intro xs;induction xs with |nil=>intro vs j b;simp| cons x xs ih=>intro vs j b;cases vs with |nil=>cases j<;>simp[AJ]| cons v vs=>cases j with |zero=>simp only[bv,AJ,cnt];omega|succ j=>simp only[bH,AJ];have:=ih vs j b;omega
 exact {hs with rep:=key j hs.rep,own:=keyo j hs.own,tok:=fun b=>by have:=keyc af a.tmps.toList j b;have:=hs.tok b;omega}
theorem Sim.mask (js:List Tmp): ∀ {af:List AVal},Sim E F Γ st w af a.tmps.toList→Sim E F Γ st w (AX js af) a.tmps.toList:=by induction js with |nil=>intro af hs;exact hs|cons j js ih=>intro af hs;exact ih (hs.setAny j)
theorem NG{c:Code} (js:List Tmp) (h:AWp E c Q (AX js af) st):AWp E c Q af st:=⟨fun F Γ w a hd hs=>h.go F Γ w a hd (hs.mask js)⟩
theorem NU (js:List Tmp): ∀(af:List AVal) (j:Tmp),AX js (af.set j .any)=(AX js af).set j .any:=by
 induction js with
 |nil=>intro af j;rfl
 | cons k js ih=>
  intro af j;simp only[AX];by_cases hk:j=k;·subst hk;rw[eS,ih];simp
  ·rw[cZ _ _ hk,ih]
theorem G6: ∀(cs:List Tmp) (af af0:List AVal),AX cs af=AX cs af0→af=setVals af0 cs (Bd af cs):=by
 intro cs;induction cs with
 |nil=>intro af af0 h;exact h
 | cons c cs ih=>
  intro af af0 h;simp only[AX]at h;simp only[Bd,aK,setVals];have h2:AX cs af=AX cs (af0.set c (af.getD c .any)):=by
   have hl:af.length=af0.length:=by
    have hlen: ∀(l:List Tmp) (x:List AVal),(AX l x).length=x.length:=by intro l;induction l with |nil=>intro x;rfl|cons j l ih=>intro x;simp[AX,ih]
    have:=a7 List.length h;simpa[hlen]using this
   rw[NU,NU]at h;apply dm;intro i;have hi:=a7 (·[i]?) h;simp only[bS]at hi;have hmask: ∀(l:List Tmp) (x:List AVal) (k:Nat),(AX l x)[k]?=if k∈l then(if k<x.length then some .any else none)else x[k]?:=by
    intro l;induction l with
    |nil=>intro x k;simp[AX]
    | cons j l ih=>
     intro x k;simp only[AX,ih,cw,aL];by_cases hkl:k∈l;·simp[hkl]
     ·by_cases hkj:k=j;·subst hkj;simp only[hkl,aR,true_or,aE,bS]
      ·simp only[hkl,aR,hkj,dj,bS];rw[ag (fun e=>hkj e.symm)]
   rw[hmask,hmask];rw[hmask,hmask]at hi;by_cases hic:i∈cs;·simp[hic,hl]
   ·simp only[hic,aR]at hi⊢;rw[bS];by_cases hci:c=i
    ·subst hci;simp only[aE];by_cases hlt:c<af.length
     ·have hlt0:c<af0.length:=by rw[←hl];exact hlt
      rw[ah hlt0];simp[List.getD,aN hlt]
     ·have hlt0: ¬c<af0.length:=by rw[←hl];exact hlt
      rw[ag hlt0,bz (du hlt)]
    ·rw[ag hci]at hi;rw[ag hci]at hi;rw[ag hci];exact hi
  exact ih af _ h2
theorem SQ{c:Code} (js cs:List Tmp) (I:Nat→List AVal→St→Prop) (n₀:Nat) (h₀:I n₀ (Bd (AX js af) cs) st) (round: ∀n vs st',I n vs st'→∀J:List AVal→St→Prop,(∀n' af' st' m,n'<n→m.Sublist st'.m→AX cs (AX js af')=AX cs (AX js af)→I n' (Bd (AX js af') cs) {st' with m:=m}→J af' st')→AWp E c (kPost J Q) (setVals (AX js af) cs vs) st'):AWp E (.loop c) Q af st:=by refine NG js ?_;constructor;intro F Γ w a hd hs;refine wp_loop_ghost (fun n a' w'=>a'.defers=[]∧∃Γ' vs st',Ext F Γ w Γ' w'∧st.next≤st'.next∧Sim E F Γ' st' w' (setVals (AX js af) cs vs) a'.tmps.toList∧I n vs st') n₀ ⟨hd,Γ,Bd (AX js af) cs,st,Ext.refl _ _ _,ao _,by rw[←G6 cs _ _ rfl];exact hs,h₀⟩ ?_;intro n a₁ w₁ ⟨hd1,Γ₁,vs₁,st₁,h2,h3,h4,h5⟩;refine eD ((round n vs₁ st₁ h5 (fun af' st'=>∃n' m,n'<n∧m.Sublist st'.m∧AX cs (AX js af')=AX cs (AX js af)∧I n' (Bd (AX js af') cs) {st' with m:=m}) (fun n' af' st' m k1 k2 k3 k4=>⟨n',m,k1,k2,k3,k4⟩)).go F Γ₁ w₁ a₁ hd1 h4) ?_;intro e a' w' hq;have hq:=O1 h2 h3 hq;cases e with | normal=>obtain⟨_,k1,Γ',af',st',k2,k3,k4,kk⟩:=hq;obtain⟨n',m,k5,k6,k7,k8⟩:=kk.get;refine⟨n',k5,k1,Γ',Bd (AX js af') cs,{st' with m:=m},k2,k3,?_,k8⟩;rw[←G6 cs _ _ k7];exact(k4.mask js).fewer k6| _=>obtain⟨k0,k1,Γ',af',st',k2,k3,k4,kk⟩:=hq;exact⟨k0,k1,Γ',af',st',k2,k3,k4,kk.out eU⟩
theorem ACall.strip{f:FuncId}{args:List AVal}{Q:AVal→St→Prop} (h:ACall E f args st fun r st'=>Q r.strip st'):ACall E f args st Q:=⟨fun F Γ w cargs hs=>(h.go F Γ w cargs hs).mono fun e w' ⟨v,he,Γ',r,st',h1,h2,h3,h4⟩=>⟨v,he,Γ',r.strip,st',h1,h2,by
 have hr:Rep Γ' r v:=by have:=h3.rep;cases this;assumption
 have ht: ∀b,F b+AJ b [r.strip] [v]+Aa Γ' w' b st'.m≤1:=fun b=>by
  have:=h3.tok b;have e:AJ b [r.strip] [v]=0:=by simp[AJ,Iz]
  rw[e];omega
 exact {h3 with rep:=.cons hr.strip .nil,own:=(by rw[ownL];exact⟨Jw _ _ _ _,by simp[ownL]⟩),tok:=ht},h4⟩⟩
end
end Go.VM
set_option linter.unusedVariables false
namespace Go.VM
mutual def bnd:AVal→Prop |.agg cs=>bndL cs|.tuple cs=>bndL cs|.slice _ xs _=>xs.length≤DY|.str s=>s.length≤DY|.buf _ l _=>l.length≤DY|_=>True def bndL:List AVal→Prop |[]=>True|x::xs=>bnd x∧bndL xs end
mutual theorem Rep.bnd{Γ:Ghost}: {x:AVal}→{v:Value}→Rep Γ x v→VM.bnd x |_,_,.any v=>by simp[VM.bnd]|_,_,.bool b=>by simp[VM.bnd]|_,_,.int k n=>by simp[VM.bnd]|_,_,.str b h=>by simp only[VM.bnd];exact h|_,_,.agg h o=>by simp only[VM.bnd];exact RepL.bndL h|_,_,.tuple h=>by simp only[VM.bnd];exact RepL.bndL h|_,_,.snil w o a=>by simp[VM.bnd]|_,_,.slice o hb hl hc h _=>by simp only[VM.bnd];omega|_,_,.ptr h=>by simp[VM.bnd]|_,_,.nilp=>by simp[VM.bnd]|_,_,.cptr hb hd h _=>by simp[VM.bnd]|_,_,.fn h k=>by simp[VM.bnd]|_,_,.nilFn=>by simp[VM.bnd]|_,_,.iface h=>by simp[VM.bnd]|_,_,.nilIface=>by simp[VM.bnd]|_,_,.iter _ _ _=>by simp[VM.bnd]|_,_,.bsl _ _ _=>by simp[VM.bnd]|_,_,.nself _=>by simp[VM.bnd]| _,_,.buf _ h _=>by have:=Rep.bnd h;simp only[VM.bnd,u8s,bE]at this⊢;exact this|_,_,.bnil _ _=>by simp[VM.bnd]|_,_,.bufp _ _ _ _ _=>by simp[VM.bnd]|_,_,.map _ _ _=>by simp[VM.bnd]|_,_,.slop _ _ _ _=>by simp[VM.bnd]|_,_,.sh _ _=>by simp[VM.bnd]|_,_,.sptr _=>by simp[VM.bnd]|_,_,.gsl _ _ _ _=>by simp[VM.bnd]|_,_,.nmap=>by simp[VM.bnd]|_,_,.num _ _=>by simp[VM.bnd]|_,_,.nbuf _=>by simp[VM.bnd]|_,_,.trow _ _ _ _=>by simp[VM.bnd] theorem RepL.bndL{Γ:Ghost}: {xs:List AVal}→{vs:List Value}→RepL Γ xs vs→VM.bndL xs |_,_,.nil=>by simp[VM.bndL]|_,_,.cons h t=>by simp only[VM.bndL];exact⟨Rep.bnd h,RepL.bndL t⟩ end
theorem RepS.bndL{Γ:Ghost}{w:Nat}{xs:List AVal}{cs:List Value} (h:RepS Γ w xs cs):VM.bndL xs:=by induction xs generalizing cs with |nil=>simp[VM.bndL]| cons x xs ih=>cases h with |cons h hw t=>simp only[VM.bndL];exact⟨h.bnd,ih t⟩
def keysLt (n:Nat) (m:List (Nat×List AVal)):Prop:= ∀i,n≤i→Bv m i=none
theorem Sim.keysLt{E:Env}{F:Nat→Nat}{Γ:Ghost}{st:St}{w:World}{af:List AVal}{tm:List Value} (hs:Sim E F Γ st w af tm):keysLt st.next st.m:=by intro i hi;cases hm:Bv st.m i with |none=>rfl| some c=>have:=hs.key_lt (K9 hm);have h2:i<st.next:=this;omega
theorem AWp.known{E:Env}{c:Code}{Q:APost}{af:List AVal}{st:St} (h:bndL af→keysLt st.next st.m→AWp E c Q af st):AWp E c Q af st:=⟨fun F Γ w a hd hs=>(h hs.rep.bndL hs.keysLt).go F Γ w a hd hs⟩
theorem ACall.known{E:Env}{f:FuncId}{args:List AVal}{st:St}{Q:AVal→St→Prop} (h:bndL args→keysLt st.next st.m→ACall E f args st Q):ACall E f args st Q:=⟨fun F Γ w cargs hs=>(h hs.rep.bndL hs.keysLt).go F Γ w cargs hs⟩
inductive Deep:AVal→Prop |leaf{x:AVal} (h:bnd x) (hc:match x with|.agg _|.tuple _|.slice _ _ _=>False|_=>True):Deep x |agg{cs:List AVal} (h: ∀x,x∈cs→Deep x):Deep (.agg cs) |tuple{cs:List AVal} (h: ∀x,x∈cs→Deep x):Deep (.tuple cs) |slice{w:Nat}{xs:List AVal}{o:Bool} (hl:xs.length≤DY) (h: ∀x,x∈xs→Deep x):Deep (.slice w xs o)
theorem Deep.bnd{x:AVal} (h:Deep x):VM.bnd x:=by
 induction h with
 |leaf h hc=>exact h
 | agg h ih=>rename_i cs;simp only[VM.bnd];clear h;induction cs with |nil=>simp[VM.bndL]|cons x xs ih2=>simp only[VM.bndL];exact⟨ih x eU,ih2 fun y hy=>ih y (by simp[hy])⟩
 | tuple h ih=>rename_i cs;simp only[VM.bnd];clear h;induction cs with |nil=>simp[VM.bndL]|cons x xs ih2=>simp only[VM.bndL];exact⟨ih x eU,ih2 fun y hy=>ih y (by simp[hy])⟩
 |slice hl h ih=>simp only[VM.bnd];exact hl
end Go.VM
set_option linter.unusedVariables false
namespace Go.VM
section
variable{E:Env}{mv:List Tmp}{ops:Array Oper}{K:List AVal→St→Prop}{af:List AVal}{st:St}
def LV (x:Option AVal) (d:Option Tmp) (K:List AVal→St→Prop) (af:List AVal) (st:St):Prop:=match x with|some r=>K (Am af d r) st|none=>False
def IP (x:Option AVal) (d:Option Tmp) (K:List AVal→St→Prop) (af:List AVal) (st:St):Prop:=match x with|some r=>K (Am af d r.strip) st|none=>False
def M5 (x:Option (AVal×St)) (d:Option Tmp) (K:List AVal→St→Prop) (af:List AVal):Prop:=match x with|some p=>K (Am af d p.1) p.2|none=>False
def AI7 (b:Bool) (x:AVal) (d:Option Tmp) (K:List AVal→St→Prop) (af:List AVal) (st:St):Prop:=if b=true then K (Am af d (.ptr st.next 0)) {m:=(st.next,AY x)::st.m,next:=st.next+1}else False
def SY (x:Option (List AVal)) (d:Option Tmp) (K:List AVal→St→Prop) (af:List AVal) (st:St):Prop:=match x with|some cs=>K (Am af d (.ptr st.next 0)) {m:=(st.next,cs)::st.m,next:=st.next+1}|none=>False
def AFc (x u:Option AVal) (y:Option (AVal×St)) (st:St):Option (AVal×St):=match x with |some r=>some (r.strip,st)|none=>match u with|some r=>some (r,st)|none=>y
def Mr (x:Option St) (K:List AVal→St→Prop) (af:List AVal):Prop:=match x with|some st=>K af st|none=>False
def AGR (x:AVal) (n:Nat):Option AVal:=match x with|.tuple vs=>vs[n]?|_=>none
def AG8 (x:AVal) (n:Nat):AVal:=match x with|.tuple vs=>.tuple (vs.set n ((vs.getD n .any).strip))|x=>x
def Sy (E:Env) (t:TypeId) (x:AVal) (lo hi mx:Option (Option Int)) (d:Option Tmp) (K:List AVal→St→Prop) (af:List AVal) (st:St):Prop:=match lo,hi,mx with |some l,some h,some m=>LV (Ex E t x l h m) d K af st|_,_,_=>False
def AIi (d:Option Tmp) (K:List AVal→St→Prop) (af:List AVal):AVal→St→Prop:=fun r st=>K (Am af d r) st
def AAe (E:Env) (f:AVal) (xs:List AVal) (d:Option Tmp) (K:List AVal→St→Prop) (af:List AVal) (st:St):Prop:=match f with |.fn (.func g) p q=>CallX E g (stripL (p++xs++q)) st (AIi d K af)|_=>False
theorem AJJ{r:AVal}{d:Option Tmp}:LV (some r) d K af st=K (Am af d r) st:=rfl
theorem AE2{r:AVal}{d:Option Tmp}:IP (some r) d K af st=K (Am af d r.strip) st:=rfl
theorem AFV{r:AVal}{s:St}{d:Option Tmp}:M5 (some (r,s)) d K af=K (Am af d r) s:=rfl
theorem AIj{x:AVal}{d:Option Tmp}:AI7 true x d K af st=K (Am af d (.ptr st.next 0)) {m:=(st.next,AY x)::st.m,next:=st.next+1}:=by simp[AI7]
theorem ABw{cs:List AVal}{d:Option Tmp}:SY (some cs) d K af st=K (Am af d (.ptr st.next 0)) {m:=(st.next,cs)::st.m,next:=st.next+1}:=rfl
theorem AVt{r:AVal}{u:Option AVal}{y:Option (AVal×St)}:AFc (some r) u y st=some (r.strip,st):=rfl
theorem AVx{r:AVal}{y:Option (AVal×St)}:AFc none (some r) y st=some (r,st):=rfl
theorem AVs{y:Option (AVal×St)}:AFc none none y st=y:=rfl
theorem AEb:Mr (some st) K af=K af st:=rfl
theorem ZA{n:Nat}{vs:List AVal}:AGR (.tuple vs) n=vs[n]?:=rfl
theorem WJ{n:Nat}{vs:List AVal}:AG8 (.tuple vs) n=.tuple (vs.set n ((vs.getD n .any).strip)):=rfl
theorem AC7{t:TypeId}{x:AVal}{lo hi mx:Option Int}{d:Option Tmp}:Sy E t x (some lo) (some hi) (some mx) d K af st=LV (Ex E t x lo hi mx) d K af st:=rfl
theorem AMp{d:Option Tmp}{r:AVal}:AIi d K af r st=K (Am af d r) st:=rfl
theorem APr{g:FuncId}{p q xs:List AVal}{d:Option Tmp}:AAe E (.fn (.func g) p q) xs d K af st=if callable E.P g=true then ACall E g (stripL (p++xs++q)) st (AIi d K af)else RU E g (stripL (p++xs++q)) st (AIi d K af):=rfl
theorem AOw{d:Option Tmp}:LM [] d=false:=by cases d<;>rfl
section ops
variable{d:Option Tmp}{ty:TypeId}{pos:String}{aft:Array Edge}{g:Option (Nat×Bool)}
def mvK (b:Bool) (x:Operand) (ty:TypeId) (E:Env) (d:Option Tmp) (K:List AVal→St→Prop) (af:List AVal) (st:St):Prop:=if b=true then K (Am (stripAt af x) d (rd E af ty x)) st else K (Am af d (rd E af ty x).strip) st
theorem AMX{x:Operand}:mvK true x ty E d K af st=K (Am (stripAt af x) d (rd E af ty x)) st:=by simp[mvK]
theorem AK1{x:Operand}:mvK false x ty E d K af st=K (Am af d (rd E af ty x).strip) st:=by simp[mvK]
def ldK (b:Bool) (t:TypeId) (x:AVal) (E:Env) (d:Option Tmp) (K:List AVal→St→Prop) (af:List AVal) (st:St):Prop:=if b=true then M5 (MC E t x st) d K af else IP (M0 E t x st) d K af st
theorem ANc{t:TypeId}{x:AVal}:ldK true t x E d K af st=M5 (MC E t x st) d K af:=by simp[ldK]
theorem ALl{t:TypeId}{x:AVal}:ldK false t x E d K af st=IP (M0 E t x st) d K af st:=by simp[ldK]
theorem AUM{x:Operand}:CO E mv ⟨d,.move x,ty,pos,aft,g⟩ af st K=mvK (LM mv d) x ty E d K af st:=by simp only[CO,DZ,mvK];cases LM mv d<;>simp
theorem AK9{x:Operand}:CO E mv ⟨d,.assign x,ty,pos,aft,g⟩ af st K=K (Am (stripAt af x) d (rd E af ty x)) st:=rfl
def alG{α:Type} (b:Bool) (x y:Option α):Option α:=if b=true then x else y
theorem AYK{α:Type}{x y:Option α}:alG false x y=y:=rfl
theorem AXd{α:Type}{x y:Option α}:alG true x y=x:=rfl
theorem APo{t:TypeId}:CO E mv ⟨d,.alloc t,ty,pos,aft,g⟩ af st K=SY (alG (LM mv d) (NS E.P t st.next) (EZ E.P t st.next)) d K af st:=by
 simp only[CO,DZ,SY,alG];cases LM mv d<;>simp only[aE,aR,av];·cases EZ E.P t st.next<;>rfl
 ·cases NS E.P t st.next<;>rfl
theorem AWu{t:TypeId}{x:Operand}:CO E mv ⟨d,.box t x,ty,pos,aft,g⟩ af st K=AI7 (C8 (rd E af t x)) (rd E af t x) d K (stripAt af x) st:=by simp only[CO,DZ,AI7];cases C8 (rd E af t x)<;>simp
theorem AQ5{t:TypeId}{ps:List (Nat×Operand)}:CO E mv ⟨d,.build t ⟨ps⟩,ty,pos,aft,g⟩ af st K=LV (NM E t (Ay E (Ac E.P t) af ps).2) d K (Ay E (Ac E.P t) af ps).1 st:=by simp only[CO,DZ,LV];cases NM E t (Ay E (Ac E.P t) af ps).2<;>rfl
def bsK (b:Bool) (u:Option (Nat×List AVal)) (v:Option AVal) (n:Nat) (d:Option Tmp) (K:List AVal→St→Prop) (af1 af:List AVal) (st:St):Prop:=if b=true then(match u with|some p=>K (Am af1 d (.gsl p.1 st.next n)) {m:=(st.next,p.2)::st.m,next:=st.next+1}|none=>False)else LV v d K af st
theorem AIS{u:Option (Nat×List AVal)}{v:Option AVal}{n:Nat}{af1:List AVal}:bsK false u v n d K af1 af st=LV v d K af st:=by simp[bsK]
theorem APf{v:Option AVal}{n w:Nat}{cs af1:List AVal}:bsK true (some (w,cs)) v n d K af1 af st=K (Am af1 d (.gsl w st.next n)) {m:=(st.next,cs)::st.m,next:=st.next+1}:=by simp[bsK]
theorem Un{t:TypeId}{n:Nat}{ps:List (Nat×Operand)}:CO E mv ⟨d,.buildSlice t n ⟨ps⟩,ty,pos,aft,g⟩ af st K=bsK (LM mv d) (Gx E t n (Ay E (fun _=>Ac E.P t 0) af ps).2) (FO E t n (Ay E (fun _=>Ac E.P t 0) af ps).2) n d K (Ay E (fun _=>Ac E.P t 0) af ps).1 af st:=by
 simp only[CO,DZ,LV,bsK];cases LM mv d;·simp only[av,aR];cases FO E t n (Ay E (fun _=>Ac E.P t 0) af ps).2<;>rfl
 ·simp only[aE];cases Gx E t n (Ay E (fun _=>Ac E.P t 0) af ps).2<;>rfl
theorem AUT{t:TypeId}{x:Operand}:CO E mv ⟨d,.load t x,ty,pos,aft,g⟩ af st K=ldK (LM mv d) t (rd E af 0 x) E d K af st:=by
 simp only[CO,DZ,ldK,M5,IP];cases LM mv d;·simp only[av,aR];cases M0 E t (rd E af 0 x) st<;>rfl
 ·simp only[aE];cases MC E t (rd E af 0 x) st<;>rfl
theorem AOB{t:TypeId}{x y:Operand}:CO E mv ⟨none,.store t x y,ty,pos,aft,g⟩ af st K=Mr (Lt E t (rd E af 0 x) (rd E af t y) st) K (stripAt af y):=by simp only[CO,DZ,Mr,cK,aE];cases Lt E t (rd E af 0 x) (rd E af t y) st<;>rfl
theorem AHE{t n:Nat}:CO E mv ⟨d,.extract (.tmp t) n,ty,pos,aft,g⟩ af st K=LV (AGR (af.getD t .any) n) d K (af.set t (AG8 (af.getD t .any) n)) st:=by simp only[CO,DZ];cases af.getD t .any with | tuple vs=>simp only[AGR,AG8,LV,List.getD];cases vs[n]?<;>rfl|_=>rfl
theorem AP1{t:TypeId}{x:Operand}{lo hi mx:Option Operand}:CO E mv ⟨d,.slice t x lo hi mx,ty,pos,aft,g⟩ af st K=Sy E t (rd E af t x) (rdo E af lo) (rdo E af hi) (rdo E af mx) d K af st:=by simp only[CO,DZ,Sy];cases rdo E af lo<;>cases rdo E af hi<;>cases rdo E af mx<;>(try rfl);simp only[LV];cases Ex E t (rd E af t x) _ _ _<;>rfl
def Sl (g:Bool) (x:AVal) (d:Option Tmp) (K:List AVal→St→Prop) (af:List AVal) (st:St):Prop:=match x with|.str s=>if g=true then K (Am af d (.iter s 0)) st else False|_=>False
theorem APT{t:TypeId}{x:Operand}:CO E mv ⟨d,.range t x,ty,pos,aft,g⟩ af st K=Sl (Ch E.P t) (rd E af t x) d K af st:=by simp only[CO,DZ,Sl];cases rd E af t x with |str s=>simp only[];cases Ch E.P t<;>simp|_=>rfl
theorem AGZ{s:List UInt8}:Sl true (.str s) d K af st=K (Am af d (.iter s 0)) st:=rfl
def UJ (x:AVal) (t:Tmp) (d:Option Tmp) (K:List AVal→St→Prop) (af:List AVal) (st:St):Prop:=match x with|.iter s pos=>K (U4 s pos t d af) st|_=>False
theorem ASm{t:Tmp}:CO E mv ⟨d,.next (.tmp t) true,ty,pos,aft,g⟩ af st K=UJ (af.getD t .any) t d K af st:=by simp only[CO,DZ,UJ];cases af.getD t .any<;>rfl
theorem AFy{t:Tmp}{s:List UInt8}{p:Nat}:UJ (.iter s p) t d K af st=if decide (p<s.length)=true then K (Am (af.set t (.iter s (p+(CR s p).2))) d (.tuple [.bool true,.int .i64 p,.int .i32 (CR s p).1])) st else K (Am af d (.tuple [.bool false])) st:=by simp only[UJ,U4];split<;>rfl
theorem AUD:Jl (.any)=false:=rfl
theorem AOr{b:Bool}:Jl (.bool b)=false:=rfl
theorem ASw{k:IntKind}{n:Int}:Jl (.int k n)=false:=rfl
theorem ASZ{s:List UInt8}:Jl (.str s)=false:=rfl
theorem AUG{c:List AVal}:Jl (.agg c)=false:=rfl
theorem AI2{c:List AVal}:Jl (.tuple c)=false:=rfl
theorem AId{w:Nat}{c:List AVal}{o:Bool}:Jl (.slice w c o)=false:=rfl
theorem ASF{i f:Nat}:Jl (.ptr i f)=false:=rfl
theorem ANI:Jl (.nilp)=false:=rfl
theorem ANO{c:List AVal}:Jl (.cptr c)=false:=rfl
theorem AWO{f:Fn}{p q:List AVal}:Jl (.fn f p q)=false:=rfl
theorem AKz:Jl (.nilFn)=false:=rfl
theorem AIY{t:TypeId}{v:AVal}:Jl (.iface t v)=false:=rfl
theorem ZO:Jl (.nilIface)=false:=rfl
theorem ASq{w i f n:Nat}:Jl (.bsl w i f n)=false:=rfl
theorem AIV{i:Nat}{T:TypeId}{n:Nat}:Jl (.nself i T n)=false:=rfl
theorem ATZ{e:TypeId}{l:List UInt8}{o:Bool}:Jl (.buf e l o)=false:=rfl
theorem AMP{e:TypeId}{l:List UInt8}{o:Bool}:Jl (.bufp e l o)=false:=rfl
def shS (b:Bool) (x y:Option St):Option St:=if b=true then x else y
theorem AXj{x y:Option St}:shS false x y=y:=by simp[shS]
theorem AXs{x y:Option St}:shS true x y=x:=by simp[shS]
def AGg (E:Env) (t:TypeId) (addr v:AVal) (st:St):Option St:=match v with
 | .sh i=>match Bv st.m i with |some [.slice w xs o]=>if Jl addr=false then Mh E t addr (.slice w xs o) {st with m:=CP st.m i [.slice w xs false]}else none|_=>Mh E t addr (.sh i) st
 |v=>Mh E t addr v st
theorem Vw{t:TypeId}{x v:AVal}:Lt E t x v st=shS (Jl v) (AGg E t x v st) (Mh E t x v st):=by cases v<;>first| rfl| (simp only[shS,Jl,aE];rfl)
theorem AWK{t:TypeId}{i f:Nat}{v:AVal}:Lt E t (.ptr i f) v st=shS (Jl v) (AGg E t (.ptr i f) v st) (Sk E t (.ptr i f) v st):=Vw
theorem AR6{t:TypeId}{i w n:Nat}{v:AVal}:Lt E t (.sptr i w n) v st=shS (Jl v) (AGg E t (.sptr i w n) v st) (V4 E t (.sptr i w n) v st):=Vw
def agK (b:Bool) (u:Option (Nat×Nat×List AVal×List (Nat×List AVal)×Option Nat)) (X:Prop) (d:Option Tmp) (K:List AVal→St→Prop) (af:List AVal) (st:St):Prop:=if b=true then(match u with|some (wd,l,cs,rest,jo)=>∀i,i=st.next∨jo=some i→K (Am af d (.gsl wd i l)) {m:=(i,cs)::rest,next:=st.next+1}|none=>False)else X
theorem ALT{u:Option (Nat×Nat×List AVal×List (Nat×List AVal)×Option Nat)}{X:Prop}:agK false u X d K af st=X:=by simp[agK]
theorem ALC{w:Nat}{l:List AVal}{o:Bool}:Ob (.slice w l o)=false:=rfl
theorem ASy{l:List UInt8}:Ob (.str l)=false:=rfl
theorem ASk{w i n:Nat}:Ob (.gsl w i n)=true:=rfl
theorem APH{w:Nat}{l:List AVal}{o:Bool}{y:AVal}:Xy (.slice w l o) y=Ob y:=by simp[Xy,Ob]
theorem AVp{e:TypeId}{l:List UInt8}{o:Bool}{y:AVal}:Xy (.buf e l o) y=Ob y:=by simp[Xy,Ob]
theorem AWh{w i n:Nat}{y:AVal}:Xy (.gsl w i n) y=true:=by simp[Xy,Ob]
theorem AWH{t0 t1:TypeId}{x:AVal}{w i n:Nat}:appG E t0 t1 x (.gsl w i n) st=ASv E t0 t1 x (.gsl w i n) st:=rfl
theorem ASD{wd l:Nat}{cs:List AVal}{rest:List (Nat×List AVal)}{jo:Option Nat}{X:Prop}{d:Option Tmp}{K:List AVal→St→Prop}{af:List AVal}{st:St} (h: ∀i,i=st.next∨jo=some i→K (Am af d (.gsl wd i l)) {m:=(i,cs)::rest,next:=st.next+1}):agK true (some (wd,l,cs,rest,jo)) X d K af st:=by simpa[agK]using h
theorem AWN{t0 t1:TypeId}{x:AVal}{l:List UInt8}:appG E t0 t1 x (.str l) st=AI1 E t0 t1 x (.str l) st:=rfl
def apK (b:Bool) (u v:Option AVal) (d:Option Tmp) (K:List AVal→St→Prop) (af:List AVal) (st:St):Prop:=if b=true then(match u with|some r=>K (Am af d (.sh st.next)) {m:=(st.next,[r])::st.m,next:=st.next+1}|none=>False)else LV v d K af st
theorem AKT{u v:Option AVal}:apK false u v d K af st=LV v d K af st:=by simp[apK]
theorem APQ{v:Option AVal}{r:AVal}:apK true (some r) v d K af st=K (Am af d (.sh st.next)) {m:=(st.next,[r])::st.m,next:=st.next+1}:=by simp[apK]
theorem AFj{t:TypeId}:CO E mv ⟨d,.makeMap t none,ty,pos,aft,g⟩ af st K=K (Am af d (.sh st.next)) {m:=(st.next,[.map [] []])::st.m,next:=st.next+1}:=rfl
theorem ALP{t:TypeId}{m k:Operand}{ok:Bool}:CO E mv ⟨d,.lookup t m k ok,ty,pos,aft,g⟩ af st K=LV (PY E t (rd E af t m) (rd E af 0 k) ok st) d K af st:=by simp only[CO,DZ,LV];cases PY E t (rd E af t m) (rd E af 0 k) ok st<;>rfl
theorem ZX{t:TypeId}{m k x:Operand}:CO E mv ⟨none,.mapUpdate t m k x,ty,pos,aft,g⟩ af st K=Mr (Pp E t (rd E af t m) (rd E af 0 k) (rd E af 0 x) st) K af:=by simp only[CO,DZ,Mr,cK,aE];cases Pp E t (rd E af t m) (rd E af 0 k) (rd E af 0 x) st<;>rfl
theorem AKl{t:TypeId}{m k x:Operand}:CO E mv ⟨none,.insert t m k x,ty,pos,aft,g⟩ af st K=Mr (Pp E t (rd E af t m) (rd E af 0 k) (rd E af 0 x) st) K af:=by simp only[CO,DZ,Mr,cK,aE];cases Pp E t (rd E af t m) (rd E af 0 k) (rd E af 0 x) st<;>rfl
theorem ALQ{x y:Operand}{t0 t1:TypeId}{ts:List TypeId}:CO E mv ⟨d,.call {callee:=.builtin .append,args:=⟨[x,y]⟩,argTypes:=⟨t0::t1::ts⟩},ty,pos,aft,g⟩ af st K=agK (Xy (rd E af t0 x) (rd E af t1 y)) (appG E t0 t1 (rd E af t0 x) (rd E af t1 y) st) (apK (LM mv d) (Lj E t0 t1 (rd E af t0 x) (rd E af t1 y)) (FD E t0 t1 (rd E af t0 x) (rd E af t1 y)) d K (stripAt af x) st) d K af st:=by
 simp only[CO,DZ,LV,apK,agK];cases Xy (rd E af t0 x) (rd E af t1 y);rotate_left;·first| rfl| (simp only[aE];done)| (simp only[aE];rfl)
 simp only[av,aR];cases LM mv d;·simp only[av,aR];cases FD E t0 t1 (rd E af t0 x) (rd E af t1 y)<;>rfl
 ·simp only[aE];cases Lj E t0 t1 (rd E af t0 x) (rd E af t1 y)<;>rfl
theorem ATD{f:Operand}{xs:List Operand}{ts:List TypeId}:CO E mv ⟨d,.call {callee:=.value f,args:=⟨xs⟩,argTypes:=⟨ts⟩},ty,pos,aft,g⟩ af st K=AAe E (rd E af 0 f) (rdL E af xs ts) d K af st:=by simp only[CO,AAe];rfl
theorem IY{o:Oper} (h:CO E mv o af st K=(match(BS E o af).map fun r=>(Am af o.dst r.strip,st)with|some (af',st')=>K af' st'|none=>False)):CO E mv o af st K=IP (BS E o af) o.dst K af st:=by rw[h];simp only[IP];cases BS E o af<;>rfl
def AQ6 (c x y:AVal):Option AVal:=match c with|.bool t=>some (if t=true then x else y)|_=>none
theorem AFs{b:Bool}{x y:AVal}:AQ6 (.bool b) x y=some (if b=true then x else y):=rfl
theorem ARt{c x y:Operand}:CO E mv ⟨d,.pick c x y,ty,pos,aft,g⟩ af st K=IP (AQ6 (rd E af 0 c) (rd E af ty x) (rd E af ty y)) d K af st:=IY rfl
theorem ADn{x:Operand}:CO E mv ⟨d,.nilCheck x,ty,pos,aft,g⟩ af st K=IP (I5 (rd E af 0 x)) d K af st:=IY rfl
def bnK (c b:Bool) (v:AVal) (d:Option Tmp) (K:List AVal→St→Prop) (af:List AVal) (st:St) (X:Prop):Prop:=if c=true then AQj b v (fun r=>K (Am af d r) st)else X
theorem AX8{b:Bool}{v:AVal}{X:Prop}:bnK false b v d K af st X=X:=by simp[bnK]
theorem AXc{w:Nat}{xs:List AVal}{o:Bool}{X:Prop}:bnK true true (.slice w xs o) d K af st X= ∀c:Bool,(c=true→xs=[])→K (Am af d (.bool c)) st:=by simp[bnK,AQj]
theorem APK{op:BinOp}{k:Tmp}:OQ op (.tmp k)=false:=by cases op<;>rfl
theorem AUK{op:BinOp}{k:FuncId}:OQ op (.func k)=false:=by cases op<;>rfl
theorem AVj{op:BinOp}{k:Nat}:OQ op (.global k)=false:=by cases op<;>rfl
theorem APW{op:BinOp}{k:IntKind}{n:Int}:OQ op (.const (.int k n))=false:=by cases op<;>rfl
theorem AO8{op:BinOp}{s:ByteArray}:OQ op (.const (.string s))=false:=by cases op<;>rfl
theorem AKr{op:BinOp}{s:Bool}:OQ op (.const (.bool s))=false:=by cases op<;>rfl
theorem AOW{op:BinOp}{s:Option Addr}:OQ op (.const (.pointer s))=false:=by cases op<;>rfl
theorem AO2{op:BinOp}{s:Array Value}:OQ op (.const (.agg s))=false:=by cases op<;>rfl
theorem ASb{op:BinOp}:OQ op (.const .nilFunc)=false:=by cases op<;>rfl
theorem AT5{op:BinOp}:OQ op (.const .nilIface)=false:=by cases op<;>rfl
theorem APS:OQ .eql (.const (.slice none 0 0))=true:=rfl
theorem AQE{op:BinOp}{t u:TypeId}{x y:Operand}:CO E mv ⟨d,.binOp op t x y u,ty,pos,aft,g⟩ af st K=bnK (OQ op y) (CY E.P t) (rd E af t x) d K af st (IP (D8 E op t (rd E af t x) (rd E af t y)) d K af st):=by
 have e:CO E mv ⟨d,.binOp op t x y u,ty,pos,aft,g⟩ af st K=if OQ op y=true then AQj (CY E.P t) (rd E af t x) (fun v=>K (Am af d v) st)else(match(D8 E op t (rd E af t x) (rd E af t y)).map (fun r=>(Am af d r.strip,st))with|some (af',st')=>K af' st'|none=>False):=rfl;rw[e];unfold bnK IP;split;·rfl
 ·cases D8 E op t (rd E af t x) (rd E af t y)<;>rfl
theorem ATj{op:UnOp}{t:TypeId}{x:Operand}:CO E mv ⟨d,.unOp op t x,ty,pos,aft,g⟩ af st K=IP (unA op (rd E af 0 x)) d K af st:=IY rfl
theorem AF3{s t:TypeId}{x:Operand}:CO E mv ⟨d,.convert s t x,ty,pos,aft,g⟩ af st K=M5 (AFc (MP E s t (rd E af s x)) (NV E s t (rd E af s x) st) (MN E s t (rd E af s x) st) st) d K af:=by have h:BS E ⟨d,.convert s t x,ty,pos,aft,g⟩ af=MP E s t (rd E af s x):=rfl;simp only[CO,DZ,M5,h];cases MP E s t (rd E af s x)with |some r=>rfl| none=>simp only[AFc];cases NV E s t (rd E af s x) st with |some r=>rfl|none=>simp only[];cases MN E s t (rd E af s x) st<;>rfl
theorem Yh{t:TypeId}{x y:Operand}:CO E mv ⟨d,.makeSlice t x y,ty,pos,aft,g⟩ af st K=M5 (alG (LM mv d) (QR E t (rd E af 0 x) (rd E af 0 y) st) (PP E t (rd E af 0 x) (rd E af 0 y) st)) d K af:=by
 simp only[CO,DZ,M5,alG];cases LM mv d<;>simp only[aE,aR,av];·cases PP E t (rd E af 0 x) (rd E af 0 y) st<;>rfl
 ·cases QR E t (rd E af 0 x) (rd E af 0 y) st<;>rfl
theorem APJ{x:Operand}{t0:TypeId}{ts:List TypeId}:CO E mv ⟨d,.call {callee:=.builtin .unsafeSliceData,args:=⟨[x]⟩,argTypes:=⟨t0::ts⟩},ty,pos,aft,g⟩ af st K=LV (NK (rd E af t0 x)) d K (stripAt af x) st:=by simp only[CO,DZ,LV];cases NK (rd E af t0 x)<;>rfl
theorem AUY{x y:Operand}{t0 t1:TypeId}:CO E mv ⟨d,.call {callee:=.builtin .unsafeString,args:=⟨[x,y]⟩,argTypes:=⟨[t0,t1]⟩},ty,pos,aft,g⟩ af st K=LV (Pn E t0 (rd E af t0 x) (rd E af t1 y)) d K (stripAt af x) st:=by simp only[CO,DZ,LV];cases Pn E t0 (rd E af t0 x) (rd E af t1 y)<;>rfl
theorem ACi{f:Fn}{p q:List Operand}:CO E mv ⟨d,.makeFunc f ⟨p⟩ ⟨q⟩,ty,pos,aft,g⟩ af st K=K (Am af d (AVal.fn f (p.map (rd E af 0)) (q.map (rd E af 0))).strip) st:=IY rfl
theorem Y0{s:TypeId}{x:Operand}{f:Nat}:CO E mv ⟨d,.fieldAddr s x f,ty,pos,aft,g⟩ af st K=IP (Jt E s (rd E af 0 x) f) d K af st:=IY rfl
theorem AMQ{s:TypeId}{x:Operand}{f:Nat}:CO E mv ⟨d,.field s x f,ty,pos,aft,g⟩ af st K=IP (O4 E s (rd E af s x) f) d K af st:=IY rfl
theorem YH{t:TypeId}{x i:Operand}:CO E mv ⟨d,.indexAddr t x i,ty,pos,aft,g⟩ af st K=M5 (AFc (Dw E t (rd E af t x) (rd E af 0 i)) (Ig E t (rd E af t x) (rd E af 0 i) st) none st) d K af:=by have h:BS E ⟨d,.indexAddr t x i,ty,pos,aft,g⟩ af=Dw E t (rd E af t x) (rd E af 0 i):=rfl;simp only[CO,DZ,M5,h];cases Dw E t (rd E af t x) (rd E af 0 i)with |some r=>rfl| none=>simp only[AFc];cases Ig E t (rd E af t x) (rd E af 0 i) st<;>rfl
theorem AO0{t:TypeId}{x i:Operand}:CO E mv ⟨d,.index t x i,ty,pos,aft,g⟩ af st K=IP (Om E t (rd E af t x) (rd E af 0 i)) d K af st:=IY rfl
theorem AVh{x:Operand}{t:TypeId}{ts:List TypeId}:CO E mv ⟨d,.call {callee:=.builtin .len,args:=⟨[x]⟩,argTypes:=⟨t::ts⟩},ty,pos,aft,g⟩ af st K=IP (UV E t (rd E af t x)) d K af st:=IY rfl
theorem AXH{x:Operand}{t:TypeId}{ts:List TypeId}:CO E mv ⟨d,.call {callee:=.builtin .cap,args:=⟨[x]⟩,argTypes:=⟨t::ts⟩},ty,pos,aft,g⟩ af st K=IP (APg E t (rd E af t x)) d K af st:=IY rfl
theorem ASz{x y:Operand}{t s:TypeId}:CO E mv ⟨d,.call {callee:=.builtin .copy,args:=⟨[x,y]⟩,argTypes:=⟨[t,s]⟩},ty,pos,aft,g⟩ af st K=IP (AHa E t (rd E af t x) (rd E af s y)) d K af st:=IY rfl
theorem AWE{x y:Operand}{ts:Array TypeId}:CO E mv ⟨d,.call {callee:=.builtin .min,args:=⟨[x,y]⟩,argTypes:=ts},ty,pos,aft,g⟩ af st K=IP (ALh (rd E af 0 x) (rd E af 0 y)) d K af st:=IY rfl
theorem AVd{x y:Operand}{ts:Array TypeId}:CO E mv ⟨d,.call {callee:=.builtin .max,args:=⟨[x,y]⟩,argTypes:=ts},ty,pos,aft,g⟩ af st K=IP (AJ5 (rd E af 0 x) (rd E af 0 y)) d K af st:=IY rfl
def gdD (d:Option Tmp) (af:List AVal) (want:Bool):Option Bool:=match d with|some i=>gd (af.getD i .any) want|none=>none
def KQ:List Oper→Nat→Option Tmp |[],_=>none|o::_,0=>o.dst|_::os,n+1=>KQ os n
theorem ANj (os:List Oper) (j:Nat):KQ os j=((List.toArray os)[j]?).bind (·.dst):=by rw[cO];induction os generalizing j with |nil=>simp[KQ]| cons o os ih=>cases j with |zero=>simp[KQ]|succ j=>simp[KQ,ih]
theorem AGv (os:List Oper) (j:Nat) (want:Bool):gdA ⟨os⟩ af j want=gdD (KQ os j) af want:=by rw[ANj];rfl
theorem ASI:Hz E mv ops [] K af st=K af st:=rfl
theorem AP9{op:Op}{os:List Oper}:Hz E mv ops (⟨d,op,ty,pos,aft,none⟩::os) K af st=CO E mv ⟨d,op,ty,pos,aft,none⟩ af st (Hz E mv ops os K):=rfl
theorem AJe{op:Op}:JS E ops ⟨d,op,ty,pos,aft,none⟩ af st=Df E ⟨d,op,ty,pos,aft,none⟩ af st:=rfl
theorem ATq{op:Op}{os':List Oper}{j:Nat}{want:Bool}:JS E ⟨os'⟩ ⟨d,op,ty,pos,aft,some (j,want)⟩ af st=if gdD (KQ os' j) af want=some true then Df E ⟨d,op,ty,pos,aft,some (j,want)⟩ af st else if gdD (KQ os' j) af want=some false then some (.tuple [])else none:=by simp only[JS,AGv];cases gdD (KQ os' j) af want with |none=>simp|some b=>cases b<;>simp
def Ia (x:Option AVal):Option AVal:=x.map AVal.strip
theorem AET{r:AVal}:Ia (some r)=some r.strip:=rfl
theorem ASe{x:Operand}:Df E ⟨d,.move x,ty,pos,aft,g⟩ af st=some (rd E af ty x).strip:=rfl
theorem ASA{t:TypeId}{x:Operand}:Df E ⟨d,.load t x,ty,pos,aft,g⟩ af st=Ia (M0 E t (rd E af 0 x) st):=rfl
def AG5 (E:Env) (t:TypeId) (x:AVal) (lo hi mx:Option (Option Int)):Option AVal:=match lo,hi,mx with|some l,some h,some m=>Ex E t x l h m|_,_,_=>none
theorem ACe{t:TypeId}{x:AVal}{lo hi mx:Option Int}:AG5 E t x (some lo) (some hi) (some mx)=Ex E t x lo hi mx:=rfl
theorem AOe{t:TypeId}{x:Operand}{lo hi mx:Option Operand}:Df E ⟨d,.slice t x lo hi mx,ty,pos,aft,g⟩ af st=AG5 E t (rd E af t x) (rdo E af lo) (rdo E af hi) (rdo E af mx):=by simp only[Df,AG5];all_goals (cases rdo E af lo<;>cases rdo E af hi<;>cases rdo E af mx<;>rfl)
theorem UZ{t:TypeId}{n:Nat}{ps:List (Nat×Operand)}:Df E ⟨d,.buildSlice t n ⟨ps⟩,ty,pos,aft,g⟩ af st=FO E t n (Ay E (fun _=>Ac E.P t 0) af ps).2:=rfl
theorem AUl{c x y:Operand}:Df E ⟨d,.pick c x y,ty,pos,aft,g⟩ af st=Ia (AQ6 (rd E af 0 c) (rd E af ty x) (rd E af ty y)):=rfl
theorem AB9{x:Operand}:Df E ⟨d,.nilCheck x,ty,pos,aft,g⟩ af st=Ia (I5 (rd E af 0 x)):=rfl
theorem ANp{op:BinOp}{t u:TypeId}{x y:Operand}:Df E ⟨d,.binOp op t x y u,ty,pos,aft,g⟩ af st=Ia (D8 E op t (rd E af t x) (rd E af t y)):=rfl
theorem ASo{op:UnOp}{t:TypeId}{x:Operand}:Df E ⟨d,.unOp op t x,ty,pos,aft,g⟩ af st=Ia (unA op (rd E af 0 x)):=rfl
theorem AFq{s t:TypeId}{x:Operand}:Df E ⟨d,.convert s t x,ty,pos,aft,g⟩ af st=Ia (MP E s t (rd E af s x)):=rfl
theorem AA9{f:Fn}{p q:List Operand}:Df E ⟨d,.makeFunc f ⟨p⟩ ⟨q⟩,ty,pos,aft,g⟩ af st=some (AVal.fn f (p.map (rd E af 0)) (q.map (rd E af 0))).strip:=rfl
theorem ZW{s:TypeId}{x:Operand}{f:Nat}:Df E ⟨d,.fieldAddr s x f,ty,pos,aft,g⟩ af st=Ia (Jt E s (rd E af 0 x) f):=rfl
theorem AOS{s:TypeId}{x:Operand}{f:Nat}:Df E ⟨d,.field s x f,ty,pos,aft,g⟩ af st=Ia (O4 E s (rd E af s x) f):=rfl
theorem Xt{t:TypeId}{x i:Operand}:Df E ⟨d,.indexAddr t x i,ty,pos,aft,g⟩ af st=Ia (Dw E t (rd E af t x) (rd E af 0 i)):=rfl
theorem AQB{t:TypeId}{x i:Operand}:Df E ⟨d,.index t x i,ty,pos,aft,g⟩ af st=Ia (Om E t (rd E af t x) (rd E af 0 i)):=rfl
theorem AWV{x:Operand}{t:TypeId}{ts:List TypeId}:Df E ⟨d,.call {callee:=.builtin .len,args:=⟨[x]⟩,argTypes:=⟨t::ts⟩},ty,pos,aft,g⟩ af st=Ia (UV E t (rd E af t x)):=rfl
theorem AWQ{x:Operand}{t:TypeId}{ts:List TypeId}:Df E ⟨d,.call {callee:=.builtin .cap,args:=⟨[x]⟩,argTypes:=⟨t::ts⟩},ty,pos,aft,g⟩ af st=Ia (APg E t (rd E af t x)):=rfl
theorem AXG{x y:Operand}{ts:Array TypeId}:Df E ⟨d,.call {callee:=.builtin .min,args:=⟨[x,y]⟩,argTypes:=ts},ty,pos,aft,g⟩ af st=Ia (ALh (rd E af 0 x) (rd E af 0 y)):=rfl
theorem AVO{x y:Operand}{ts:Array TypeId}:Df E ⟨d,.call {callee:=.builtin .max,args:=⟨[x,y]⟩,argTypes:=ts},ty,pos,aft,g⟩ af st=Ia (AJ5 (rd E af 0 x) (rd E af 0 y)):=rfl
theorem AWq{op:Op}:gWp E mv ops ⟨d,op,ty,pos,aft,none⟩ af st K=CO E mv ⟨d,op,ty,pos,aft,none⟩ af st K:=rfl
theorem AYD:gd (.bool true) true=some true:=rfl
theorem AXb:gd (.bool true) false=some false:=rfl
theorem AXz:gd (.bool false) true=some false:=rfl
theorem AYO:gd (.bool false) false=some true:=rfl
theorem AQe{want:Bool}:gd (.tuple []) want=some false:=rfl
theorem AOT{i:Nat}{want:Bool}:gdD (some i) af want=gd (af.getD i .any) want:=rfl
def opAt:List Oper→Nat→Option Oper |[],_=>none|o::_,0=>some o|_::os,n+1=>opAt os n
theorem Zr (os:List Oper) (j:Nat):opAt os j=(List.toArray os)[j]?:=by rw[cO];induction os generalizing j with |nil=>simp[opAt]| cons o os ih=>cases j with |zero=>simp[opAt]|succ j=>simp[opAt,ih]
def tkR (E:Env) (mv:List Tmp) (os:List Oper) (x:Option AVal) (i:Nat) (d:Option Tmp) (p:Plan) (tv:List (Nat×AVal)) (K:List AVal→St→Prop) (af:List AVal) (st:St):Prop:=match x with|some r=>FI E mv ⟨os⟩ p ((i,r)::tv) K (Am af d r) st|none=>False
def tkO (E:Env) (mv:List Tmp) (os:List Oper) (x:Option Oper) (i:Nat) (p:Plan) (tv:List (Nat×AVal)) (K:List AVal→St→Prop) (af:List AVal) (st:St):Prop:=match x with|some o=>tkR E mv os (JS E ⟨os⟩ o af st) i o.dst p tv K af st|none=>False
def AMt (E:Env) (mv:List Tmp) (os:List Oper) (chk:List Nat) (p:Plan) (tv:List (Nat×AVal)) (K:List AVal→St→Prop) (af:List AVal) (st:St):Prop:=Lx E ⟨os⟩ tv af st chk∧FI E mv ⟨os⟩ p tv K af st
def ASV (E:Env) (mv:List Tmp) (os:List Oper) (x:Option Oper) (chk:List Nat) (p:Plan) (tv:List (Nat×AVal)) (K:List AVal→St→Prop) (af:List AVal) (st:St):Prop:=match x with|some o=>gWp E mv ⟨os⟩ o af st (AMt E mv os chk p tv K)|none=>False
def AXh (E:Env) (os:List Oper) (x:Option AVal) (o:Option Oper) (af:List AVal) (st:St):Prop:=match x,o with|some r,some o=>JS E ⟨os⟩ o af st=some r|_,_=>False
variable{os:List Oper}{tv:List (Nat×AVal)}{p rest:Plan}{chk:List Nat}{i:Nat}
theorem AQN{op:Op}:tkO E mv os (some ⟨d,op,ty,pos,aft,g⟩) i p tv K af st=tkR E mv os (JS E ⟨os⟩ ⟨d,op,ty,pos,aft,g⟩ af st) i d p tv K af st:=rfl
theorem AQy{r:AVal}:tkR E mv os (some r) i d p tv K af st=FI E mv ⟨os⟩ p ((i,r)::tv) K (Am af d r) st:=rfl
theorem ALG{o:Oper}:ASV E mv os (some o) chk p tv K af st=gWp E mv ⟨os⟩ o af st (AMt E mv os chk p tv K):=rfl
theorem ANh:AMt E mv os chk p tv K af st=(Lx E ⟨os⟩ tv af st chk∧FI E mv ⟨os⟩ p tv K af st):=rfl
theorem AJp:FI E mv ⟨os⟩ .done tv K af st=K af st:=rfl
theorem ALo:FI E mv ⟨os⟩ .stop tv K af st=True:=rfl
theorem AKj:FI E mv ⟨os⟩ (.take i p) tv K af st=tkO E mv os (opAt os i) i p tv K af st:=by rw[Zr];rfl
theorem AQ1:FI E mv ⟨os⟩ (.alt i chk p rest) tv K af st=(ASV E mv os (opAt os i) chk p tv K af st∧FI E mv ⟨os⟩ rest tv K af st):=by rw[Zr];rfl
theorem AUB:Lx E ⟨os⟩ tv af st []=True:=rfl
theorem ARD{k:Nat}{ks:List Nat}:Lx E ⟨os⟩ tv af st (k::ks)=(AXh E os (QI tv k) (opAt os k) af st∧Lx E ⟨os⟩ tv af st ks):=by rw[Zr];rfl
theorem AJF{r:AVal}{o:Oper}:AXh E os (some r) (some o) af st=(JS E ⟨os⟩ o af st=some r):=rfl
end ops
end
end Go.VM
set_option linter.unusedVariables false
namespace Go.VM
def grd{α:Type} (c:Prop) [Decidable c] (x:Option α):Option α:=if c then x else none
inductive PC where |k |w |v (x:AVal)
inductive BX where |k |d |s (c:List AVal) |t (c:Nat→List AVal) |p (ps:List PC)
inductive JD (α:Type) where |z |a (id:Nat×Nat) (js:List (Nat×Nat)) (cs:List Tmp) (V:α→List AVal) |b (id:Nat×Nat) (js:List (Nat×Nat)) (cs:List Tmp) (V:α→List AVal) (Ms:α→List BX) |n (id:Nat×Nat) (js:List (Nat×Nat)) (cs:List Tmp) (p:Tmp) (V:α→Nat→List AVal) (Ms:α→Nat→List BX) (C:α→Nat→List AVal)
def AA{α β:Type} (k:α→Option β) (body:(α→Option β)→Option β) (d:JD α:=.z):Option β:=body k
theorem AA2{α:Type}{c:Prop} [Decidable c]{x:Option α}{r:α} (h:grd c x=some r):c∧x=some r:=by
 unfold grd at h;split at h;·exact⟨by assumption,h⟩
 ·cases h
theorem bind_some{α β:Type}{x:Option α}{f:α→Option β}{r:β} (h:Option.bind x f=some r): ∃y,x=some y∧f y=some r:=by cases x with |none=>cases h|some y=>exact⟨y,rfl,h⟩
def letL{α β:Type} (x:α) (f:α→Option β):Option β:=f x
def idx{α:Type} (l:List α) (i:Int):Option α:=if 0≤i then l[i.toNat]? else none
def sub{α:Type} (l:List α) (a b:Int):Option (List α):=if 0≤a∧a≤b∧b≤l.length then some ((l.drop a.toNat).take (b.toNat-a.toNat))else none
theorem AUS{α β:Type} (f:α→β) (l:List α) (i:Int):idx (l.map f) i=(idx l i).map f:=by unfold idx;split<;>simp
theorem ASU{α β:Type} (f:α→β) (l:List α) (a b:Int):sub (l.map f) a b=(sub l a b).map (List.map f):=by unfold sub;simp only[bE];split<;>simp[d7,List.map_drop]
def CW (n b:Nat):Prop:=n * b≤140737488355328∧n≤4611686018427387904
instance (n b:Nat):Decidable (CW n b):=by unfold CW;infer_instance
def AL (n:Nat):Prop:=n≤4611686018427387904
instance (n:Nat):Decidable (AL n):=by unfold AL;infer_instance
def wr (k:IntKind) (n:Int):Int:=k.wrap n
def Jo (k:IntKind) (a b:Int):Int:=k.wrap (BitVec.ofInt k.bits a&&&BitVec.ofInt k.bits b).toNat
def LP (k:IntKind) (a b:Int):Int:=k.wrap (BitVec.ofInt k.bits a|||BitVec.ofInt k.bits b).toNat
def AUu (k:IntKind) (a b:Int):Int:=k.wrap (BitVec.ofInt k.bits a^^^BitVec.ofInt k.bits b).toNat
def K7 (k:IntKind) (a b:Int):Int:=k.wrap (BitVec.ofInt k.bits a&&& ~~~ BitVec.ofInt k.bits b).toNat
def AHA (k:IntKind) (x y:Int):Int:=k.wrap (x * 2^min y.toNat k.bits)
def UQ (k:IntKind) (x y:Int):Int:=x.fdiv (2^min y.toNat k.bits)
section
variable{E:Env}{st:St}{af:List AVal}
def AWr (e:Option Nat) (w:Nat) (y:Option AVal):Option AVal:=match y with |some y=>if e=some w∧(AY y).length=w then some (.cptr (AY y))else none|none=>none
theorem AQd{t:TypeId}{w:Nat}{xs:List AVal}{o:Bool}{k:IntKind}{n:Int}:Dw E t (.slice w xs o) (.int k n)=AWr (DU E.P t) w (idx xs n):=by simp only[Dw,AWr,idx];by_cases h1:DU E.P t=some w<;>by_cases h2:0≤n<;>simp[h1,h2]<;>cases xs[n.toNat]?<;>simp
theorem AKt{e:Option Nat}{w:Nat}{y:AVal}:AWr e w (some y)=if e=some w∧(AY y).length=w then some (.cptr (AY y))else none:=rfl
def AWm (b:Bool) (x:Option UInt8):Option AVal:=match x with|some c=>if b=true then some (.int .u8 c.toNat)else none|none=>none
theorem AWS{t:TypeId}{s:List UInt8}{k:IntKind}{n:Int}:Om E t (.str s) (.int k n)=AWm (Ch E.P t) (idx s n):=by simp only[Om,AWm,idx];cases Ch E.P t<;>by_cases h2:0≤n<;>simp[h2]<;>cases s[n.toNat]?<;>simp
theorem AJG{c:UInt8}:AWm true (some c)=some (.int .u8 (AC c)):=rfl
def AVm (b:Bool) (x:Option (List UInt8)):Option AVal:=match x with|some s=>if b=true then some (.str s)else none|none=>none
theorem AXM{t:TypeId}{s:List UInt8}{lo hi:Option Int}:Ex E t (.str s) lo hi none=AVm (Ch E.P t) (sub s (lo.getD 0) (hi.getD s.length)):=by
 simp only[Ex,AVm,sub];by_cases h:0≤lo.getD 0∧lo.getD 0≤hi.getD s.length∧hi.getD s.length≤s.length
 ·rw[ah h];cases Ch E.P t;·rw[ag eU];rfl
  ·rw[ah ⟨rfl,trivial,h⟩];rfl
 ·rw[ag h,ag (fun k=>h k.2.2)]
theorem AKK{s:List UInt8}:AVm true (some s)=some (.str s):=rfl
def AJR (e:Option Nat) (w:Nat) (o:Bool) (x:Option (List AVal)):Option AVal:=match x with|some s=>if e=some w then some (.slice w s o)else none|none=>none
theorem AOJ{t:TypeId}{w:Nat}{xs:List AVal}{o:Bool}{lo hi:Option Int}:Ex E t (.slice w xs o) lo hi none=AJR (DU E.P t) w false (sub xs (lo.getD 0) (hi.getD xs.length)):=by
 simp only[Ex,AJR,sub];by_cases h1:DU E.P t=some w;·simp[h1];by_cases h:0≤lo.getD 0∧lo.getD 0≤hi.getD xs.length∧hi.getD xs.length≤xs.length<;>simp[h]
 ·simp[h1];split<;>simp_all
theorem AIt{t:TypeId}{w:Nat}{xs:List AVal}{o:Bool}{lo:Option Int}{h:Int}:Ex E t (.slice w xs o) lo (some h) (some h)=AJR (DU E.P t) w true (sub xs (lo.getD 0) h):=by
 simp only[Ex,AJR,sub];by_cases h1:DU E.P t=some w;·simp[h1];by_cases hh:0≤lo.getD 0∧lo.getD 0≤h∧h≤xs.length<;>simp[hh]
 ·simp[h1];split<;>simp_all
theorem AJa{w:Nat}{o:Bool}{s:List AVal}:AJR (some w) w o (some s)=some (.slice w s o):=by simp[AJR]
def ASY (e:Option (Nat×Nat)) (i:Option IntKind) (b:Bool) (wd:Nat) (xs:List AVal) (ys:Option (List AVal)):Option AVal:=match e,ys with |some (z,by_),some ys=>if z=wd∧i=none∧b=true∧CW (xs.length+ys.length) by_ then some (.slice wd (xs++ys) true)else none|_,_=>none
set_option linter.unusedSimpArgs false in theorem AP3{t0 t1:TypeId}{wd:Nat}{xs:List AVal}{y:AVal}:FD E t0 t1 (.slice wd xs true) y=ASY (Lp E.P t0) (JC E.P t1) (A7 E.P t1) wd xs (Mk wd y):=by simp only[FD,Ha,ASY];rcases Lp E.P t0 with _|⟨z,b⟩<;>rcases Mk wd y with _|ys<;>try rfl
theorem ALF{wd by_:Nat}{xs ys:List AVal}:ASY (some (wd,by_)) none true wd xs (some ys)=if CW (xs.length+ys.length) by_ then some (.slice wd (xs++ys) true)else none:=by simp[ASY]
theorem AG2{wd:Nat}{ys:List AVal}{o:Bool}:Mk wd (.slice wd ys o)=some ys:=by simp[Mk]
theorem ANs{l:List UInt8}:Mk 1 (.str l)=some ((l.map AC).map (.int .u8)):=by simp[Mk,AC]
def apB (i:Bool) (e:Option (Nat×Nat)) (n:Option IntKind) (b:Bool) (el:TypeId) (l m:List UInt8):Option AVal:=match i,e,n,b with |true,some (1,by_),none,true=>if CW (l.length+m.length) by_ then some (.buf el (l++m) true)else none|_,_,_,_=>none
theorem ARI{by_:Nat}{el:TypeId}{l m:List UInt8}:apB true (some (1,by_)) none true el l m=if CW (l.length+m.length) by_ then some (.buf el (l++m) true)else none:=rfl
theorem AVb{t0 t1 el:TypeId}{l m:List UInt8}:FD E t0 t1 (.buf el l true) (.str m)=apB (TG E.P t0 el) (Lp E.P t0) (JC E.P t1) (A7 E.P t1) el l m:=by
 have hl:(u8s l).length=l.length:=by simp[u8s]
 cases h1:TG E.P t0 el;·simp[FD,h1,apB]
 rcases h2:Lp E.P t0 with _|⟨z,by_⟩;·simp[FD,Ha,h2,apB]
 cases h3:JC E.P t1
 ·cases h4:A7 E.P t1
  ·by_cases hz:z=1;·subst hz;simp[FD,Ha,h2,h3,h4,Mk,apB]
   ·simp[FD,Ha,h2,h3,h4,Mk,apB]
  ·by_cases hz:z=1
   ·subst hz;rw[ARI];by_cases hf:CW (l.length+m.length) by_;·have hf':=hf;unfold CW at hf';simp[FD,Ha,h1,h2,h3,h4,Mk,hl,hf,DY];exact hf'
    ·have hf':=hf;unfold CW at hf';simp[FD,Ha,h1,h2,h3,h4,Mk,hl,hf,DY];intro k1;have:=fun k2=>hf' ⟨k1,k2⟩;omega
   ·have:apB true (some (z,by_)) none true el l m=none:=by
     unfold apB;split;·rename_i e1 e2 e3 e4;cases e2;exact absurd rfl hz
     ·rfl
    rw[this];simp[FD,Ha,h2,h3,h4,Mk,hz]
 ·by_cases hz:z=1;·subst hz;simp[FD,Ha,h2,h3,Mk,apB]
  ·simp[FD,Ha,h2,h3,Mk,apB]
theorem AUo{a b:List UInt8}:Te .add a b=if AL (a.length+b.length)then some (.str (a++b))else none:=by simp only[Te,DY];by_cases h:a.length+b.length≤4611686018427387904<;>simp[h,AL]
theorem AID{i:Nat}{c:List AVal}{m:List (Nat×List AVal)}:Bv ((i,c)::m) i=some c:=by simp[Bv]
theorem AHV{i j:Nat}{c:List AVal}{m:List (Nat×List AVal)} (h:i≠j):Bv ((j,c)::m) i=Bv m i:=by simp[Bv,h]
theorem AHz{i:Nat}{c x:List AVal}{m:List (Nat×List AVal)}:CP ((i,c)::m) i x=(i,x)::m:=by simp[CP]
theorem AHZ{i j:Nat}{c x:List AVal}{m:List (Nat×List AVal)} (h:i≠j):CP ((j,c)::m) i x=(j,c)::CP m i x:=by simp[CP,h]
theorem ACall.of{f:FuncId}{args args':List AVal}{Q Q':AVal→St→Prop} (hc:ACall E f args' st Q') (ha:args=args') (hq: ∀r st',st.next≤st'.next→Q' r st'→Q r st'):ACall E f args st Q:=by subst ha;exact hc.mono hq
def Og:List AVal→AVal |[r]=>r|rs=>.tuple rs
theorem Ke{fn:Func}{Q:AVal→St→Prop}{xs:List AVal}{st':St}{m:List (Nat×List AVal)} (h:MW E fn.results.toList af st=some (xs,st')) (hm:m.Sublist st'.m) (hq:Q (Og xs) {st' with m:=m}):Jf E fn Q .ret af st:=by unfold Jf;rw[h];exact⟨m,hm,hq⟩
theorem Kc{fn:Func}{Q:AVal→St→Prop}{xs:List AVal}{st':St}{m:List (Nat×List AVal)} (h:MW E fn.results.toList af st=some (xs,st')) (hm:m.Sublist st'.m) (hq:Q (Og xs) {st' with m:=m}):Jf E fn Q .normal af st:=by unfold Jf;rw[h];exact⟨m,hm,hq⟩
theorem AWp.congr{c:Code}{Q:APost}{af':List AVal} (h:af=af') (k:AWp E c Q af' st):AWp E c Q af st:=h▸k
def stripB:List Bool→List AVal→List AVal |true::bs,x::xs=>x.strip::stripB bs xs|false::bs,x::xs=>x::stripB bs xs|[],xs=>xs|_::_,[]=>[]
theorem Ml: ∀(bs:List Bool) (xs:List AVal),(stripB bs xs).length=xs.length |[],xs=>by rw[stripB]|_::_,[]=>by rw[stripB]|true::bs,x::xs=>by rw[stripB,ae,ae,Ml bs xs]|false::bs,x::xs=>by rw[stripB,ae,ae,Ml bs xs]
theorem K5{Γ:Ghost}: ∀(bs:List Bool) (xs:List AVal) (vs:List Value),RepL Γ xs vs→RepL Γ (stripB bs xs) vs
 |[],xs,vs,h=>by rw[stripB];exact h
 |_::_,[],vs,h=>by rw[stripB];exact h
 | true::bs,x::xs,vs,h=>by cases h with |cons h t=>rw[stripB];exact .cons h.strip (K5 bs _ _ t)
 | false::bs,x::xs,vs,h=>by cases h with |cons h t=>rw[stripB];exact .cons h (K5 bs _ _ t)
theorem Kn{Γ:Ghost}{w:World}: ∀(bs:List Bool) (xs:List AVal) (vs:List Value),ownL Γ w xs vs→ownL Γ w (stripB bs xs) vs |[],xs,vs,h=>by rw[stripB];exact h|_::_,[],vs,h=>by rw[stripB];exact h|true::bs,x::xs,[],h=>by rw[stripB];simp[ownL]|false::bs,x::xs,[],h=>by rw[stripB];simp[ownL]|true::bs,x::xs,v::vs,h=>by rw[ownL]at h;rw[stripB,ownL];exact⟨Jw _ _ _ _,Kn bs xs vs h.2⟩|false::bs,x::xs,v::vs,h=>by rw[ownL]at h;rw[stripB,ownL];exact⟨h.1,Kn bs xs vs h.2⟩
theorem LB (b:Nat): ∀(bs:List Bool) (xs:List AVal) (vs:List Value),AJ b (stripB bs xs) vs≤AJ b xs vs |[],xs,vs=>by rw[stripB];exact ao _|_::_,[],vs=>by rw[stripB];exact ao _|true::bs,x::xs,[]=>by rw[stripB];simp[AJ]|false::bs,x::xs,[]=>by rw[stripB];simp[AJ]| true::bs,x::xs,v::vs=>by have:=LB b bs xs vs;rw[stripB,AJ,AJ,Iz];omega| false::bs,x::xs,v::vs=>by have:=LB b bs xs vs;rw[stripB,AJ,AJ];omega
theorem Sim.stripCells{F:Nat→Nat}{Γ:Ghost}{w:World}{a:Act}{i:Nat}{cs:List AVal} (bs:List Bool) (hs:Sim E F Γ st w af a.tmps.toList) (hg:Bv st.m i=some cs):Sim E F Γ {st with m:=CP st.m i (stripB bs cs)} w af a.tmps.toList:=by
 rcases hs.box_ok _ (K9 hg)with⟨b,arr,e,hb⟩|⟨v,hv⟩;rotate_left;·exact hs.setSh hg hv (K5 bs _ _ hv.rep) (Kn bs _ _ hv.own) fun n=>by have h1:=LB n bs cs [v];have h2:=hs.tok n;omega
 obtain⟨lo,hi,hh,hf⟩:=hb.heap;exact(hs.setBox (w':=w) (cs':=stripB bs cs) (arr':=arr) (lo:=lo) (hi:=hi) hg hb hh hf (fun _ _=>rfl) rfl rfl rfl rfl (by rw[Ml];exact K5 bs _ _ hb.rep) (Kn bs _ _ hb.own) (by rw[Ml];exact hb.one) (fun n=>by have h1:=LB n bs cs arr.toList;have h2:=hs.tok n;omega)).1
theorem ACall.perm{f:FuncId}{args:List AVal}{Q:AVal→St→Prop}{m m':List (Nat×List AVal)}{n:Nat} (hp:m.Perm m') (h:ACall E f args ⟨m',n⟩ Q):ACall E f args ⟨m,n⟩ Q:=⟨fun F Γ w cargs hs=>h.go F Γ w cargs (hs.perm hp)⟩
theorem AWp.nodup{c:Code}{Q:APost} (h:(st.m.map (·.1)).Nodup→AWp E c Q af st):AWp E c Q af st:=⟨fun F Γ w a hd hs=>(h hs.keys).go F Γ w a hd hs⟩
theorem Vt: ∀ {m:List (Nat×List AVal)}{i:Nat}{c x:List AVal},Bv m i=some c→((i,x)::FB m i).Perm (CP m i x)
 |[],_,_,_,h=>by simp[Bv]at h
 | (j,d)::m,i,c,x,h=>by
  simp only[Bv]at h;simp only[FB,CP];split at h;·rename_i e;subst e;simp
  ·rename_i e;rw[ag e,ag e];exact(List.Perm.swap _ _ _).trans ((Vt h).cons _)
theorem ACall.front{f:FuncId}{args:List AVal}{m:List (Nat×List AVal)}{n i:Nat}{c:List AVal}{Q:AVal→St→Prop} (hi:Bv m i=some c) (h:i<n→ACall E f args ⟨(i,c)::FB m i,n⟩ fun r st'=>∃c',st'.m=(i,c')::FB m i∧Q r ⟨CP m i c',st'.next⟩):ACall E f args ⟨m,n⟩ Q:=by
 refine ACall.known fun _ hk=>?_;have hin:i<n:=by
  rcases aS i n with h'|h';·exact h'
  ·have:=hk i h';simp only at this;rw[this]at hi;cases hi
 constructor;intro F Γ w cargs hs;refine((h hin).go F Γ w cargs (hs.perm (Jq hi))).mono ?_;rintro e w' ⟨v,he,Γ',r,⟨m',n'⟩,h1,h2,h3,c',hm,hq⟩;simp only at hm;subst hm;exact⟨v,he,Γ',r,⟨CP m i c',n'⟩,h1,h2,h3.perm (Vt hi),hq⟩
end
end Go.VM
set_option linter.unusedVariables false
set_option linter.defProp false
set_option maxRecDepth 100000
namespace Go.VM
section
variable{E:Env}{t:TypeId}{k:IntKind}{a b:Int}
theorem AWB:D8 E .add t (.int k a) (.int k b)=some (.int k (wr k (a+b))):=by simp[D8,Gm,wr]
theorem AWL:D8 E .sub t (.int k a) (.int k b)=some (.int k (wr k (a-b))):=by simp[D8,Gm,wr]
theorem AV7:D8 E .mul t (.int k a) (.int k b)=some (.int k (wr k (a * b))):=by simp[D8,Gm,wr]
theorem AWP:D8 E .quo t (.int k a) (.int k b)=if b=0 then none else some (.int k (wr k (a.tdiv b))):=by simp[D8,Gm,wr]
theorem AVR:D8 E .rem t (.int k a) (.int k b)=if b=0 then none else some (.int k (a.tmod b)):=by simp[D8,Gm]
theorem AVD:D8 E .and t (.int k a) (.int k b)=some (.int k (Jo k a b)):=by simp[D8,Gm,Jo]
theorem AX1:D8 E .or t (.int k a) (.int k b)=some (.int k (LP k a b)):=by simp[D8,Gm,LP]
theorem AWe:D8 E .xor t (.int k a) (.int k b)=some (.int k (AUu k a b)):=by simp[D8,Gm,AUu]
theorem ALf:D8 E .andNot t (.int k a) (.int k b)=some (.int k (K7 k a b)):=by simp[D8,Gm,K7]
theorem AWl:D8 E .eql t (.int k a) (.int k b)=some (.bool (a==b)):=by simp[D8,Gm]
theorem AWj:D8 E .neq t (.int k a) (.int k b)=some (.bool (a !=b)):=by simp[D8,Gm]
theorem AWf:D8 E .lss t (.int k a) (.int k b)=some (.bool (decide (a<b))):=by simp[D8,Gm]
theorem AVE:D8 E .leq t (.int k a) (.int k b)=some (.bool (decide (a≤b))):=by simp[D8,Gm]
theorem AVF:D8 E .gtr t (.int k a) (.int k b)=some (.bool (decide (a>b))):=by simp[D8,Gm]
theorem AVP:D8 E .geq t (.int k a) (.int k b)=some (.bool (decide (a≥b))):=by simp[D8,Gm]
theorem AVY{j:IntKind}:D8 E .shl t (.int k a) (.int j b)=if b<0 then none else some (.int k (AHA k a b)):=by simp[D8,UI,AHA]
theorem AWR{j:IntKind}:D8 E .shr t (.int k a) (.int j b)=if b<0 then none else some (.int k (UQ k a b)):=by simp[D8,UI,UQ]
variable{x y:List UInt8}{p q:Bool}
theorem AUi:D8 E .add t (.str x) (.str y)=if AL (x.length+y.length)then some (.str (x++y))else none:=AUo
theorem AR7:D8 E .eql t (.str x) (.str y)=some (.bool (x==y)):=rfl
theorem AUU:D8 E .neq t (.str x) (.str y)=some (.bool (!(x==y))):=rfl
theorem AUe:D8 E .lss t (.str x) (.str y)=some (.bool (Op.bytesLess x y)):=rfl
theorem ATL:D8 E .leq t (.str x) (.str y)=some (.bool (Op.bytesLess x y||x==y)):=rfl
theorem AUE:D8 E .gtr t (.str x) (.str y)=some (.bool (!(Op.bytesLess x y||x==y))):=rfl
theorem ATT:D8 E .geq t (.str x) (.str y)=some (.bool (!(Op.bytesLess x y))):=rfl
theorem ATb:D8 E .eql t (.bool p) (.bool q)=if Px E.P t=true then some (.bool (p==q))else none:=rfl
theorem ASE:D8 E .neq t (.bool p) (.bool q)=if Px E.P t=true then some (.bool (!(p==q)))else none:=rfl
def APO (op:BinOp) (g:Bool) (e:Option Bool):Option AVal:=if g=true then none else match op,e with |.eql,some b=>some (.bool b)|.neq,some b=>some (.bool (!b))|_,_=>none
theorem AW5{op:BinOp}{xs ys:List AVal}:D8 E op t (.agg xs) (.agg ys)=APO op (E.P.eqGuardType E.P.depth t) (eqA E.P 10000 t (.agg xs) (.agg ys)):=rfl
theorem AJg:APO .eql false (some p)=some (.bool p):=rfl
theorem AJh:APO .neq false (some p)=some (.bool (!p)):=rfl
def cvI (g:Bool) (st:Bool) (k:Option IntKind) (n:Int):Option AVal:=if(g&&st)=true then some (.str (Gi n))else if g=true then(match k with|some k=>some (.int k (wr k n))|none=>none)else none
theorem AWt{s d:TypeId}{n:Int}:MP E s d (.int k n)=cvI (A7 E.P s) (Ch E.P d) (JC E.P d) n:=rfl
theorem AQT{n:Int}:cvI true false (some k) n=some (.int k (wr k n)):=rfl
theorem ASn{n:Int}{j:Option IntKind}:cvI true true j n=some (.str (Gi n)):=rfl
def cvS (g h:Bool) (l:List UInt8):Option AVal:=if(g&&h)=true then some (.str l)else none
theorem AVV{s d:TypeId}{l:List UInt8}:MP E s d (.str l)=cvS (A7 E.P s) (Ch E.P d) l:=rfl
theorem AMW{l:List UInt8}:cvS true true l=some (.str l):=rfl
theorem AMc{s d:TypeId}{w:Nat}{xs:List AVal}{o:Bool}:MP E s d (.slice w xs o)=strOf (u8T E.P s&&Ch E.P d) (bytesOf xs):=rfl
theorem AGH{l:List UInt8}:strOf true (some l)=some (.str l):=rfl
theorem bytesOf_map{l:List Int}:bytesOf (l.map (AVal.int .u8))=some (l.map FZ):=by induction l with |nil=>rfl|cons x l ih=>simp[bytesOf,ih]
theorem MZ{n:Int}{xs:List AVal}:bytesOf (.int .u8 n::xs)=(bytesOf xs).map (FZ n:: ·):=rfl
theorem ABy:bytesOf []=some []:=rfl
theorem AAb{xs ys:List AVal}:bytesOf (xs++ys)=(bytesOf xs).bind fun a=>(bytesOf ys).map (a++ ·):=by
 induction xs with
 |nil=>cases h:bytesOf ys<;>simp[bytesOf,h]
 | cons x xs ih=>
  rw[aJ];cases x with
  | int k n=>
   cases k<;>try rfl
   rw[MZ,MZ,ih];cases bytesOf xs<;>cases bytesOf ys<;>simp
  |_=>rfl
theorem AVz{l:List UInt8}:cvS true false l=none:=rfl
theorem AV0{s d:TypeId}{w i l:Nat}:MP E s d (.gsl w i l)=none:=rfl
theorem AVa{s d:TypeId}{w i o l:Nat}:MP E s d (.bsl w i o l)=none:=rfl
theorem AW4{s d:TypeId}{i o:Nat}:MP E s d (.ptr i o)=none:=rfl
section
variable{s d:TypeId}{st:St}
theorem AVU{l:List UInt8}:NV E s d (.str l) st=none:=rfl
theorem AWT{w i l:Nat}:NV E s d (.gsl w i l) st=none:=rfl
theorem AVo{w i o l:Nat}:NV E s d (.bsl w i o l) st=none:=rfl
def cuB (b:Bool) (i:Nat):Option AVal:=if b=true then some (.ptr i 0)else none
theorem ANv{i:Nat}:cuB true i=some (.ptr i 0):=rfl
def cuR (E:Env) (s d:TypeId) (i:Nat) (x:Option (List AVal)):Option AVal:=match x with |some (.nself j T n::_)=>if j=i then cuB (PX E.P s d T n) i else none|_=>none
theorem AP5{i n:Nat}{T:TypeId}{cs:List AVal}:cuR E s d i (some (.nself i T n::cs))=cuB (PX E.P s d T n) i:=by simp[cuR]
theorem AVu{i:Nat}:NV E s d (.ptr i 0) st=cuR E s d i (Bv st.m i):=by
 simp only[NV];generalize Bv st.m i=x;unfold cuR;split;·rename_i j T n rest;simp only[cuB];by_cases h1:j=i<;>by_cases h2:PX E.P s d T n=true<;>simp[h1,h2]
 ·rename_i h;split;·rename_i j T n rest;exact absurd rfl (h j T n rest)
  ·rfl
def H5 (i:Nat) (T:TypeId) (n:Nat) (b:Bool):AVal:=if b=true then .ptr i 0 else .nself i T n
theorem ATR{i n:Nat}{T:TypeId}:H5 i T n true=.ptr i 0:=rfl
theorem ATN{i n:Nat}{T:TypeId}:H5 i T n false=.nself i T n:=rfl
theorem AKW{i n:Nat}{T:TypeId}{b:Bool}:(H5 i T n b).strip=H5 i T n b:=by cases b<;>simp[H5,AVal.strip]
theorem AKm{i n:Nat}{T:TypeId}{b:Bool}:AY (H5 i T n b)=[H5 i T n b]:=by cases b<;>rfl
theorem AIW{i n:Nat}{T:TypeId}{b:Bool}:Jl (H5 i T n b)=false:=by cases b<;>rfl
theorem ALU{i n:Nat}{T:TypeId}{b:Bool}:C8 (H5 i T n b)=true:=by cases b<;>rfl
def cmS (a b:Bool) (l:List UInt8) (st:St):Option (AVal×St):=if a=true∧b=true then some (.bsl 1 st.next 0 l.length,{m:=(st.next,List.map (AVal.int .u8) (List.map AC l))::st.m,next:=st.next+1})else none
theorem AVq{l:List UInt8}:MN E s d (.str l) st=cmS (u8T E.P d) (Ch E.P s) l st:=by simp only[MN,cmS,List.map_map];rfl
theorem ANn{l:List UInt8}:cmS true true l st=some (.bsl 1 st.next 0 l.length,{m:=(st.next,List.map (AVal.int .u8) (List.map AC l))::st.m,next:=st.next+1}):=by simp[cmS]
def cmB (b:Bool) (off n:Nat) (st:St) (x:Option (List AVal)):Option (AVal×St):=match x with
 |some cs=>if b=true then(match bytesOf ((cs.drop off).take n)with|some l=>if l.length=n∧AL n then some (.str l,st)else none|none=>none)else none
 |none=>none
theorem AVI{i off n:Nat}:MN E s d (.bsl 1 i off n) st=cmB (u8T E.P s&&Ch E.P d) off n st (Bv st.m i):=by simp only[MN,cmB,eb,DY,AL];cases (u8T E.P s&&Ch E.P d)<;>cases Bv st.m i<;>simp;all_goals rfl
theorem AMz{q:List Int}{off n:Nat}:cmB true off n st (some (List.map (AVal.int .u8) q))=if n≤q.length-off∧AL n then some (.str (List.map FZ (List.take n (List.drop off q))),st)else none:=by
 simp only[cmB,aE,←d7,←List.map_drop,bytesOf_map,bE,bm,aw];by_cases h:n≤q.length-off;·simp[h]
 ·have: ¬min n (q.length-off)=n:=eT;simp[h,this]
def Pz (n:Int) (b:Nat):Prop:=0≤n∧n≤4611686018427387904∧n * b≤140737488355328
instance (n:Int) (b:Nat):Decidable (Pz n b):=by unfold Pz;infer_instance
def mkR (e:Option (Nat×AVal)) (n:Int) (st:St):Option (AVal×St):=match e with |some (b,z)=>if 0≤n∧n≤DY∧n * b≤140737488355328 then some (.bsl 1 st.next 0 n.toNat,{m:=(st.next,List.replicate n.toNat z)::st.m,next:=st.next+1})else none|none=>none
theorem AUf{b:Nat}{k:IntKind}{z n:Int}:mkR (some (b,.int k z)) n st=if Pz n b then some (.bsl 1 st.next 0 n.toNat,{m:=(st.next,List.map (AVal.int k) (List.replicate n.toNat z))::st.m,next:=st.next+1})else none:=by simp only[mkR,Pz,DY,c9];rfl
theorem ATM{b:Nat}{n:Int}:mkR (some (b,.str [])) n st=if Pz n b then some (.bsl 1 st.next 0 n.toNat,{m:=(st.next,List.map AVal.str (List.replicate n.toNat []))::st.m,next:=st.next+1})else none:=by simp only[mkR,Pz,DY,c9];rfl
def Q8 (n n':Int) (b:Nat):Prop:=0≤n∧n≤n'∧n'≤4611686018427387904∧n' * b≤140737488355328
instance (n n':Int) (b:Nat):Decidable (Q8 n n' b):=by unfold Q8;infer_instance
def mkG (e:Option (Nat×AVal)) (n n':Int) (st:St):Option (AVal×St):=match e with |some (b,z)=>if 0≤n∧n≤n'∧n'≤DY∧n' * b≤140737488355328 then some (.gsl 1 st.next n.toNat,{m:=(st.next,List.replicate n.toNat z)::st.m,next:=st.next+1})else none|none=>none
theorem AR5{b:Nat}{k:IntKind}{z n n':Int}:mkG (some (b,.int k z)) n n' st=if Q8 n n' b then some (.gsl 1 st.next n.toNat,{m:=(st.next,List.map (AVal.int k) (List.replicate n.toNat z))::st.m,next:=st.next+1})else none:=by simp only[mkG,Q8,DY,c9];rfl
theorem ATs{b:Nat}{n n':Int}:mkG (some (b,.str [])) n n' st=if Q8 n n' b then some (.gsl 1 st.next n.toNat,{m:=(st.next,List.map AVal.str (List.replicate n.toNat []))::st.m,next:=st.next+1})else none:=by simp only[mkG,Q8,DY,c9];rfl
theorem AY2{k k':IntKind}{n n':Int}:QR E t (.int k n) (.int k' n') st=mkG (OY E.P t) n n' st:=by simp only[QR,mkG];rcases OY E.P t with _|⟨b,z⟩<;>simp
theorem AWz{i n:Nat}:MN E s d (.gsl 1 i n) st=cmB (u8T E.P s&&Ch E.P d) 0 n st (Bv st.m i):=by simp only[MN,cmB,eb,DY,AL,aT];cases (u8T E.P s&&Ch E.P d)<;>cases Bv st.m i<;>simp;all_goals rfl
theorem AYl{k k':IntKind}{n:Int}:PP E t (.int k n) (.int k' n) st=mkR (OY E.P t) n st:=by simp only[PP,mkR];rcases OY E.P t with _|⟨b,z⟩<;>simp
end
theorem AVM{e:TypeId}{l:List UInt8}{o:Bool}:NK (.buf e l o)=some (.bufp e l o):=rfl
def usB (b:Bool) (l:List UInt8):Option AVal:=if b=true then some (.str l)else none
theorem ANW{l:List UInt8}:usB true l=some (.str l):=rfl
theorem AVv{t0 e:TypeId}{l:List UInt8}:Pn E t0 (.bufp e l true) (.int .i64 (l.length:Int))=usB (ptrTo E.P t0 e) l:=by simp[Pn,usB]
theorem AVX{op:BinOp}:D8 E op t .nilp .nilp=Lv op (Me E.P t) (some true):=rfl
theorem AW8{op:BinOp}{i n:Nat}{T:TypeId}:D8 E op t (.nself i T n) .nilp=Lv op (Me E.P t) (some true):=rfl
theorem AVi{op:BinOp}{i o:Nat}:D8 E op t (.ptr i o) .nilp=Lv op (Me E.P t) (some false):=rfl
theorem AXS{op:BinOp}{i o:Nat}:D8 E op t (.ptr i o) (.ptr i o)=Lv op (Me E.P t) (some true):=by simp[D8,Vj]
theorem AXQ:Lv .eql true (some p)=some (.bool p):=rfl
theorem AV4:Lv .neq true (some p)=some (.bool (!p)):=rfl
theorem AMi{e:TypeId}:UV E t (.nbuf e)=if CY E.P t=true then some (.int .i64 0)else none:=rfl
theorem AMd{e:TypeId}:APg E t (.nbuf e)=if CY E.P t=true then some (.int .i64 0)else none:=rfl
theorem AR1{T:TypeId}{i:Nat}{e:TypeId}:AHa E t (.trow T i 0) (.nbuf e)=if DU E.P t=some 1 then some (.int .i64 0)else none:=rfl
theorem AUg{T:TypeId}{i len:Nat}{h:Int}:Ex E t (.trow T i len) none (some h) none=if DU E.P t=some 1 then(if 0≤h∧h≤len then some (.trow T i h.toNat)else none)else none:=by simp only[Ex];by_cases h1:DU E.P t=some 1<;>by_cases h2:0≤h<;>by_cases h3:h≤len<;>simp[h1,h2,h3]
theorem AP0{T:TypeId}{i l:Nat}:(AVal.trow T i l).strip=.trow T i l:=rfl
theorem AMU{T:TypeId}{i l:Nat}:AY (.trow T i l)=[.trow T i l]:=rfl
theorem APM{T:TypeId}{i l:Nat}:C8 (.trow T i l)=true:=rfl
theorem ANC{T:TypeId}{i l:Nat}:Jl (.trow T i l)=false:=rfl
theorem AOq{e:TypeId}:(AVal.nbuf e).strip=.nbuf e:=rfl
theorem AOA{e:TypeId}:AY (.nbuf e)=[.nbuf e]:=rfl
theorem AQt{e:TypeId}:C8 (.nbuf e)=true:=rfl
theorem APy{e:TypeId}:Jl (.nbuf e)=false:=rfl
theorem AS2{e:TypeId}{l:List UInt8}{o:Bool}:UV E t (.buf e l o)=if CY E.P t=true then some (.int .i64 l.length)else none:=rfl
theorem AS5{w i o l:Nat}:UV E t (.bsl w i o l)=if CY E.P t=true then some (.int .i64 l)else none:=rfl
theorem BI{w i len:Nat}{k:IntKind}{n:Int}:Dw E t (.gsl w i len) (.int k n)=if DU E.P t=some w then(if 0≤n∧n<len then some (.ptr i (n.toNat * w))else none)else none:=by simp only[Dw];by_cases h1:DU E.P t=some w<;>by_cases h2:0≤n<;>by_cases h3:n<len<;>simp[h1,h2,h3]
theorem BK{w i len:Nat}{h:Int}:Ex E t (.gsl w i len) none (some h) none=if DU E.P t=some w then(if 0≤h∧h≤len then some (.gsl w i h.toNat)else none)else none:=by simp only[Ex];by_cases h1:DU E.P t=some w<;>by_cases h2:0≤h<;>by_cases h3:h≤len<;>simp[h1,h2,h3]
theorem AVH{w i len:Nat}{h:Int}:Ex E t (.bsl w i 0 len) none (some h) none=if DU E.P t=some w then(if 0≤h∧h≤len then some (.bsl w i 0 h.toNat)else none)else none:=by simp only[Ex];by_cases h1:DU E.P t=some w<;>by_cases h2:0≤h<;>by_cases h3:h≤len<;>simp[h1,h2,h3]
def apT (e:Option (Nat×Nat)) (g:Bool) (x:Option (List AVal)) (m:List (Nat×List AVal)) (j len:Nat) (s:List UInt8):Option (Nat×Nat×List AVal×List (Nat×List AVal)×Option Nat):=match x,e with |some cs,some (z,by_)=>if z=1∧len≤cs.length∧(len+s.length) * by_≤140737488355328∧len+s.length≤DY∧g=true then some (1,len+s.length,cs.take len++u8s s,FB m j,some j)else none|_,_=>none
theorem E9{t0 t1:TypeId}{j len:Nat}{s:List UInt8}{st:St}:AI1 E t0 t1 (.gsl 1 j len) (.str s) st=apT (Lp E.P t0) ((JC E.P t1).isNone&&A7 E.P t1) (Bv st.m j) st.m j len s:=by simp only[AI1,apT];rcases Bv st.m j with _|cs<;>rcases Lp E.P t0 with _|⟨z,b⟩<;>simp
theorem Ag{b j len:Nat}{q:List Int}{m:List (Nat×List AVal)}{s:List UInt8}:apT (some (1,b)) true (some (List.map (AVal.int .u8) q)) m j len s=if len≤q.length∧CW (len+s.length) b then some (1,len+s.length,List.map (AVal.int .u8) (List.take len q++List.map AC s),FB m j,some j)else none:=by
 have e:u8s s=List.map (AVal.int .u8) (List.map AC s):=by simp[u8s,AC]
 simp only[apT,CW,DY,bE,e,cx,←d7,eb,cY]
theorem Af{w i l:Nat}:(AVal.gsl w i l).strip=.gsl w i l:=rfl
theorem Ap{i:Nat}{c:List AVal}{m:List (Nat×List AVal)}:FB ((i,c)::m) i=m:=by simp[FB]
def lkV:List (List UInt8)→List AVal→List UInt8→AVal→AVal |k::ks,v::vs,s,z=>if(s==k)=true then v.strip else lkV ks vs s z|_,_,_,z=>z.strip
theorem AOu{k s:List UInt8}{ks:List (List UInt8)}{v z:AVal}{vs:List AVal}:lkV (k::ks) (v::vs) s z=if(s==k)=true then v.strip else lkV ks vs s z:=rfl
theorem ASx{s:List UInt8}{z:AVal}:lkV [] [] s z=z.strip:=rfl
def lkR (z:Option AVal) (x:Option (List AVal)) (s:List UInt8):Option AVal:=match z,x with |some z,some [.map ks vs]=>some (lkV ks vs s z)|_,_=>none
theorem AGC{s:List UInt8}{z:AVal}: ∀(ks:List (List UInt8)) (vs:List AVal),(match Jm ks vs s with|some x=>x.strip|none=>z.strip)=lkV ks vs s z
 |[],_=>by simp[Jm,lkV]
 |_::_,[]=>by simp[Jm,lkV]
 | k::ks,v::vs=>by
  simp only[Jm,lkV,bw];split
  ·rename_i x hx;split at hx;·rename_i e;cases hx;rw[ah e]
   ·rename_i e;rw[ag e,←AGC ks vs,hx]
  ·rename_i hx;split at hx;·cases hx
   ·rename_i e;rw[ag e,←AGC ks vs,hx]
theorem AXw{i:Nat}{s:List UInt8}{st:St}:PY E t (.sh i) (.str s) false st=lkR ((AAU E.P t).bind (GJ E.P)) (Bv st.m i) s:=by
 unfold PY Vi lkR;cases AAU E.P t with
 |none=>simp
 | some e=>
  simp only[aa];cases hm:Bv st.m i with
  |none=>cases GJ E.P e<;>simp
  | some cs=>
   cases hz:GJ E.P e with
   | none=>match cs with |[]=>simp|[.map _ _]=>simp[hz]|x::y::_=>cases x<;>simp|[.any]|[.bool _]|[.int _ _]|[.str _]|[.agg _]|[.tuple _]|[.slice _ _ _]|[.ptr _ _]|[.nilp]|[.cptr _]|[.fn _ _ _]|[.nilFn]|[.iface _ _]|[.nilIface]|[.iter _ _]|[.bsl _ _ _ _]|[.nself _ _ _]|[.buf _ _ _]|[.bufp _ _ _]|[.slop _ _]|[.sh _]|[.sptr _ _ _]|[.gsl _ _ _]|[.nmap]|[.num _]|[.nbuf _]|[.trow _ _ _]=>simp
   | some z=>match cs with |[]=>simp|[.map ks vs]=>simp[hz];exact AGC ks vs|x::y::_=>cases x<;>simp|[.any]|[.bool _]|[.int _ _]|[.str _]|[.agg _]|[.tuple _]|[.slice _ _ _]|[.ptr _ _]|[.nilp]|[.cptr _]|[.fn _ _ _]|[.nilFn]|[.iface _ _]|[.nilIface]|[.iter _ _]|[.bsl _ _ _ _]|[.nself _ _ _]|[.buf _ _ _]|[.bufp _ _ _]|[.slop _ _]|[.sh _]|[.sptr _ _ _]|[.gsl _ _ _]|[.nmap]|[.num _]|[.nbuf _]|[.trow _ _ _]=>simp
theorem AOi{s:List UInt8}{z:AVal}{ks:List (List UInt8)}{vs:List AVal}:lkR (some z) (some [.map ks vs]) s=some (lkV ks vs s z):=rfl
def upR (b:Bool) (y:Option (List AVal)) (i:Nat) (s:List UInt8) (x:AVal) (st:St):Option St:=match b,y with |true,some [.map ks vs]=>some {st with m:=CP st.m i [.map (M9 ks s) (M4 ks vs s x)]}|_,_=>none
theorem AXr{i:Nat}{s:List UInt8}{x:AVal}{st:St}:Pp E t (.sh i) (.str s) x st=upR (AAU E.P t).isSome (Bv st.m i) i s x st:=by
 simp only[Pp,Vi,upR];rcases AAU E.P t with _|e;·rfl
 simp only[b8];rcases Bv st.m i with _|cs;·rfl
 rcases cs with _|⟨y,cs⟩;·rfl
 rcases cs with _|⟨z,cs⟩;·cases y<;>rfl
 ·cases y<;>rfl
theorem APj{i:Nat}{s:List UInt8}{x:AVal}{st:St}{ks:List (List UInt8)}{vs:List AVal}:upR true (some [.map ks vs]) i s x st=some {st with m:=CP st.m i [.map (M9 ks s) (M4 ks vs s x)]}:=rfl
theorem AXY{op:BinOp}{f:Fn}{x y:List AVal}:D8 E op t (.fn f x y) .nilFn=RI op (VW E.P t) false:=rfl
theorem AXk{op:BinOp}:D8 E op t .nilFn .nilFn=RI op (VW E.P t) true:=rfl
theorem AWv{b:Bool}:RI .eql true b=some (.bool b):=rfl
theorem AVQ{b:Bool}:RI .neq true b=some (.bool (!b)):=rfl
theorem AW7{w i off len:Nat}{k:IntKind}{n:Int}:Dw E t (.bsl w i off len) (.int k n)=if DU E.P t=some w then(if 0≤n∧n<len then some (.ptr i (off+n.toNat * w))else none)else none:=by simp only[Dw];by_cases h1:DU E.P t=some w<;>by_cases h2:0≤n<;>by_cases h3:n<len<;>simp[h1,h2,h3]
def iaP (e:Option (Nat×Nat×Bool)) (j o:Nat) (n:Int):Option AVal:=match e with |some (len,z,_)=>if 0≤n∧n<len then some (.ptr j (o+n.toNat * z))else none|none=>none
theorem AV9{j o:Nat}{k:IntKind}{n:Int}:Dw E t (.ptr j o) (.int k n)=iaP (Jh E.P t) j o n:=by simp only[Dw,iaP];rcases Jh E.P t with _|⟨len,z,g⟩<;>rfl
theorem ANE{len z j o:Nat}{g:Bool}{n:Int}:iaP (some (len,z,g)) j o n=if 0≤n∧n<(len:Int)then some (.ptr j (o+n.toNat * z))else none:=rfl
def slP (e:Option (Nat×Nat×Bool)) (i o:Nat) (l:Int) (h:Option Int):Option AVal:=match e with |some (len,z,_)=>if 0≤l∧l≤h.getD len∧h.getD len≤len∧len≤DY then some (.bsl z i (o+l.toNat * z) ((h.getD len).toNat-l.toNat))else none|none=>none
theorem AWw{i o:Nat}{lo hi:Option Int}:Ex E t (.ptr i o) lo hi none=slP (Jh E.P t) i o (lo.getD 0) hi:=by simp only[Ex,slP];rcases Jh E.P t with _|⟨len,z,g⟩<;>simp
theorem AM5{len z i o:Nat}{g:Bool}{l:Int}:slP (some (len,z,g)) i o l none=if 0≤l∧l≤(len:Int)∧len≤DY then some (.bsl z i (o+l.toNat * z) (len-l.toNat))else none:=by simp[slP]
theorem AUj{α:Type}{l:List α}{n:Int} (h:0≤n):l[n.toNat]?=idx l n:=by simp[idx,h]
theorem ARv{α β:Type}{f:α→β}{l:List α}{k:Nat}{v:α}:(List.map f l).set k (f v)=List.map f (l.set k v):=List.map_set.symm
theorem AVy:unA .not (.bool p)=some (.bool (!p)):=rfl
theorem AWX:unA .neg (.int k a)=some (.int k (wr k (0-a))):=rfl
end
def AGJ (n:Nat):List Bool:=List.replicate n false
theorem TZ{n:Nat}:(AGJ n).length=n:=by simp[AGJ]
theorem AKu{l:List Bool}:stripL (List.map AVal.bool l)=List.map AVal.bool l:=by induction l with |nil=>simp[stripL]|cons x l ih=>simp[stripL,AVal.strip,ih]
theorem AKx{k:IntKind}{l:List Int}:stripL (List.map (AVal.int k) l)=List.map (AVal.int k) l:=by induction l with |nil=>simp[stripL]|cons x l ih=>simp[stripL,AVal.strip,ih]
theorem AJ6{l:List Bool}{n:Nat} (h:l.length=n):List.take n (List.map AVal.bool l)=List.map AVal.bool l:=by subst h;rw[aM];simp
theorem ALX{k:IntKind}{l:List Int}{n:Nat} (h:l.length=n):List.take n (List.map (AVal.int k) l)=List.map (AVal.int k) l:=by subst h;rw[aM];simp
theorem Mo: ∀(l q p:List AVal),q.length=l.length→putCells (p++q) p.length l=p++l |[],q,p,h=>by simp at h;subst h;simp[putCells]| x::l,q,p,h=>by cases q with |nil=>simp at h| cons y q=>rw[putCells];have e:(p++y::q).set p.length x=(p++[x])++q:=eU;have e2:p.length+1=(p++[x]).length:=eU;rw[e,e2,Mo l q (p++[x]) (by simpa using h)];simp
theorem AMh{l q:List Bool} (h:q.length=l.length):putCells (List.map AVal.bool q) 0 (List.map AVal.bool l)=List.map AVal.bool l:=by have:=Mo (List.map AVal.bool l) (List.map AVal.bool q) [] (by simpa using h);simpa using this
theorem AQ7{k:IntKind}{l q:List Int} (h:q.length=l.length):putCells (List.map (AVal.int k) q) 0 (List.map (AVal.int k) l)=List.map (AVal.int k) l:=by have:=Mo (List.map (AVal.int k) l) (List.map (AVal.int k) q) [] (by simpa using h);simpa using this
theorem AS6:AVal.strip (.any)=.any:=by simp[AVal.strip]
theorem AN4{b:Bool}:AVal.strip (.bool b)=.bool b:=by simp[AVal.strip]
theorem ASh{k:IntKind}{n:Int}:AVal.strip (.int k n)=.int k n:=by simp[AVal.strip]
theorem AUJ{l:List UInt8}:AVal.strip (.str l)=.str l:=by simp[AVal.strip]
theorem ARp{w i o l:Nat}:AVal.strip (.bsl w i o l)=.bsl w i o l:=by simp[AVal.strip]
theorem AK2{i n:Nat}{T:TypeId}:AVal.strip (.nself i T n)=.nself i T n:=by simp[AVal.strip]
theorem ARy{e:TypeId}{l:List UInt8}{o:Bool}:AVal.strip (.buf e l o)=.buf e l false:=by simp[AVal.strip]
theorem ANA{e:TypeId}{l:List UInt8}{o:Bool}:AVal.strip (.bufp e l o)=.bufp e l false:=by simp[AVal.strip]
theorem AT2{w i o l:Nat}:AY (.bsl w i o l)=[.bsl w i o l]:=rfl
theorem ALm{i n:Nat}{T:TypeId}:AY (.nself i T n)=[.nself i T n]:=rfl
theorem ATJ{e:TypeId}{l:List UInt8}{o:Bool}:AY (.buf e l o)=[.buf e l o]:=rfl
theorem AWa{i:Nat}:(AVal.sh i).strip=.sh i:=rfl
theorem ANG{i w n:Nat}:(AVal.sptr i w n).strip=.sptr i w n:=rfl
theorem AVL{i:Nat}:AY (.sh i)=[.sh i]:=rfl
theorem ARF{i w n:Nat}:AY (.sptr i w n)=[.sptr i w n]:=rfl
theorem AV8{i:Nat}:C8 (.sh i)=true:=rfl
theorem AQz{i w n:Nat}:C8 (.sptr i w n)=true:=rfl
theorem AS0{w i o l:Nat}:C8 (.bsl w i o l)=true:=rfl
theorem AIh{i n:Nat}{T:TypeId}:C8 (.nself i T n)=true:=rfl
theorem AUQ{e:TypeId}{l:List UInt8}{o:Bool}:C8 (.buf e l o)=true:=rfl
theorem ATl{i o:Nat}:AVal.strip (.ptr i o)=.ptr i o:=by simp[AVal.strip]
theorem APd:AVal.strip (.nilp)=.nilp:=by simp[AVal.strip]
theorem APE{l:List AVal}:AVal.strip (.cptr l)=.cptr l:=by simp[AVal.strip]
theorem AXI{f:Fn}{p q:List AVal}:AVal.strip (.fn f p q)=.fn f p q:=by simp[AVal.strip]
theorem AJH:AVal.strip (.nilFn)=.nilFn:=by simp[AVal.strip]
theorem AIm{t:TypeId}{x:AVal}:AVal.strip (.iface t x)=.iface t x:=by simp[AVal.strip]
theorem Yi:AVal.strip (.nilIface)=.nilIface:=by simp[AVal.strip]
theorem AUp:AY (.any)=[.any]:=rfl
theorem ANu{b:Bool}:AY (.bool b)=[.bool b]:=rfl
theorem AUR{k:IntKind}{n:Int}:AY (.int k n)=[.int k n]:=rfl
theorem AUb{l:List UInt8}:AY (.str l)=[.str l]:=rfl
theorem AST{i o:Nat}:AY (.ptr i o)=[.ptr i o]:=rfl
theorem AOa:AY (.nilp)=[.nilp]:=rfl
theorem ANz{l:List AVal}:AY (.cptr l)=[.cptr l]:=rfl
theorem AWU{f:Fn}{p q:List AVal}:AY (.fn f p q)=[.fn f p q]:=rfl
theorem AIo:AY (.nilFn)=[.nilFn]:=rfl
theorem AK0{t:TypeId}{x:AVal}:AY (.iface t x)=[.iface t x]:=rfl
theorem Yq:AY (.nilIface)=[.nilIface]:=rfl
theorem AJ7{l:List AVal}:AY (.tuple l)=[.tuple l]:=rfl
theorem AJc{w:Nat}{l:List AVal}{o:Bool}:AY (.slice w l o)=[.slice w l o]:=rfl
theorem AN9{b:Bool}:C8 (.bool b)=true:=rfl
theorem ASO{k:IntKind}{n:Int}:C8 (.int k n)=true:=rfl
theorem ATX{l:List UInt8}:C8 (.str l)=true:=rfl
theorem AR9{i o:Nat}:C8 (.ptr i o)=true:=rfl
theorem AMy:C8 (.nilp)=true:=rfl
theorem AOX{l:List AVal}:C8 (.cptr l)=true:=rfl
theorem AXR{f:Fn}{p q:List AVal}:C8 (.fn f p q)=true:=rfl
theorem AKQ:C8 (.nilFn)=true:=rfl
theorem AKH{t:TypeId}{x:AVal}:C8 (.iface t x)=true:=rfl
theorem Y7:C8 (.nilIface)=true:=rfl
theorem ASp{l:List AVal}:C8 (.agg l)=true:=rfl
theorem AJ9{w:Nat}{l:List AVal}{o:Bool}:C8 (.slice w l o)=true:=rfl
theorem AJW{af:List AVal}{v:Value}:stripAt af (.const v)=af:=rfl
theorem AMR{af:List AVal}{v:Nat}:stripAt af (.global v)=af:=rfl
theorem AQW{af:List AVal}{v:FuncId}:stripAt af (.func v)=af:=rfl
end Go.VM
set_option linter.unusedVariables false
namespace Go.VM
abbrev MS:=List (Nat×List AVal)
abbrev PQ:=AVal→St→Prop
structure Gl (P:Prop):Prop where go:P
inductive An where |z |q (a b:An) |c (a b:An) |r (mv:List Tmp)
def GK (F:List AVal→St→Prop) (K:APost):APost:=fun e af st=>match e with |.normal=>F af st|e=>K e af st
def Rw (id:Nat) (K:APost):APost:=fun e af st=>match e with |.exit id'=>if id'=id then K .normal af st else K (.exit id') af st|e=>K e af st
def nK (K:APost) (af:List AVal) (st:St):Prop:=K .normal af st
def NJ (x:AVal) (X Y:List AVal→St→Prop) (af:List AVal) (st:St):Prop:=match x with |.bool b=>if b=true then X af st else Y af st|_=>False
theorem Vn{E:Env}{c:Code}{Q:APost}{af:List AVal}{st:St} (h:AWp E c Q af st):AWp E (.scope c) Q af st:=⟨fun F Γ w a hd hs=>wp_scope_straight (eD (h.go F Γ w a hd hs) fun e a' w' q=>by cases e<;>first| exact q| exact q.1.elim)⟩
def wpc (E:Env):Code→An→APost→List AVal→St→Prop |.skip,_,K=>fun af st=>K .normal af st|.ret,_,K=>fun af st=>K .ret af st|.exit id,_,K=>fun af st=>K (.exit id) af st|.seq x y,.q a b,K=>wpc E x a (GK (wpc E y b K) K)|.cond c x y,.c a b,K=>fun af st=>NJ (rd E af 0 c) (wpc E x a K) (wpc E y b K) af st|.block id c,a,K=>wpc E c a (Rw id K)|.scope c,a,K=>wpc E c a K|.region _ os false,.r mv,K=>Hz E mv os os.toList (nK K)|c,_,K=>AWp E c K
section
variable{E:Env}{K:APost}{af:List AVal}{st:St}{x y:Code}{a b:An}{F:List AVal→St→Prop}
theorem AMg:wpc E .skip a K af st=K .normal af st:=by rw[wpc]
theorem ARx:wpc E .ret a K af st=K .ret af st:=by rw[wpc]
theorem ANb{id:Nat}:wpc E (.exit id) a K af st=K (.exit id) af st:=by rw[wpc]
theorem ASd:wpc E (.seq x y) (.q a b) K af st=wpc E x a (GK (wpc E y b K) K) af st:=by rw[wpc]
theorem AQw{c:Operand}:wpc E (.cond c x y) (.c a b) K af st=NJ (rd E af 0 c) (wpc E x a K) (wpc E y b K) af st:=by rw[wpc]
theorem ALd{id:Nat}:wpc E (.block id x) a K af st=wpc E x a (Rw id K) af st:=by rw[wpc]
theorem AJQ:wpc E (.scope x) a K af st=wpc E x a K af st:=by rw[wpc]
theorem AG6{id:Nat}{os:List Oper}{mv:List Tmp}:wpc E (.region id (List.toArray os) false) (.r mv) K af st=Hz E mv ⟨os⟩ os (nK K) af st:=by rw[wpc]
theorem AX9:wpc E (.seq x y) .z K af st=AWp E (.seq x y) K af st:=by rw[wpc]<;>simp
theorem AP6:wpc E (.loop x) a K af st=AWp E (.loop x) K af st:=by rw[wpc]<;>simp
theorem AOb{id:Nat}{os:Array Oper}:wpc E (.region id os true) a K af st=AWp E (.region id os true) K af st:=by rw[wpc]<;>simp
theorem ATV:GK F K .normal af st=F af st:=rfl
theorem ATI:GK F K .ret af st=K .ret af st:=rfl
theorem ASl{id:Nat}:GK F K (.exit id) af st=K (.exit id) af st:=rfl
theorem AWc{id:Nat}:Rw id K .normal af st=K .normal af st:=rfl
theorem AXC{id:Nat}:Rw id K .ret af st=K .ret af st:=rfl
theorem AVS{id:Nat}:Rw id K (.exit id) af st=K .normal af st:=by simp[Rw]
theorem AWI{id id':Nat} (h:id'≠id):Rw id K (.exit id') af st=K (.exit id') af st:=by simp[Rw,h]
theorem AV3:nK K af st=K .normal af st:=rfl
theorem AHj{X Y:List AVal→St→Prop}:NJ (.bool true) X Y af st=X af st:=rfl
theorem AH0{X Y:List AVal→St→Prop}:NJ (.bool false) X Y af st=Y af st:=rfl
theorem Nk: ∀ {c:Code} (a:An){K:APost}{af:List AVal}{st:St},wpc E c a K af st→AWp E c K af st:=by
 intro c;induction c with
 |skip=>intro a K af st h;rw[wpc]at h;exact ADe h
 |ret=>intro a K af st h;rw[wpc]at h;exact AIG h
 |exit id=>intro a K af st h;rw[wpc]at h;exact AAf h
 | seq x y ihx ihy=>
  intro a K af st h;cases a with
  | q a b=>rw[wpc]at h;refine OB ((ihx a h).mono fun e af' st' _ q=>?_);cases e with |normal=>exact ihy b q|_=>exact q
  |_=>(rw[wpc]at h;exact h)<;>(intros;simp_all)
 | cond c x y ihx ihy=>
  intro a K af st h;cases a with
  | c a b=>
   rw[wpc]at h;unfold NJ at h;split at h;·rename_i b' hb;refine AD0 b' hb ?_;cases b' with |true=>simp only[aE]at h⊢;exact ihx a h|false=>simp only[av,aR]at h⊢;exact ihy b h
   ·exact h.elim
  |_=>(rw[wpc]at h;exact h)<;>(intros;simp_all)
 | block id c ih=>intro a K af st h;rw[wpc]at h;exact VC ((ih a h).mono fun e af' st' _ q=>by cases e<;>exact q)
 | region id os d=>intro a K af st h;cases d with |true=>(rw[wpc]at h;exact h)<;>(intros;simp_all)| false=>cases a with |r mv=>rw[wpc]at h;exact PD mv h|_=>(rw[wpc]at h;exact h)<;>(intros;simp_all)
 |loop c ih=>intro a K af st h;(rw[wpc]at h;exact h)<;>(intros;simp_all)
 |rangeFunc f ps x y ihx ihy=>intro a K af st h;(rw[wpc]at h;exact h)<;>(intros;simp_all)
 |scope c ih=>intro a K af st h;rw[wpc]at h;exact Vn (ih a h)
 |label l=>intro a K af st h;(rw[wpc]at h;exact h)<;>(intros;simp_all)
 |goto l=>intro a K af st h;(rw[wpc]at h;exact h)<;>(intros;simp_all)
 |refuse w=>intro a K af st h;(rw[wpc]at h;exact h)<;>(intros;simp_all)
end
def gK (g:Option Bool) (X Y:Prop):Prop:=match g with|some true=>X|some false=>Y|none=>False
theorem AY4{X Y:Prop}:gK (some true) X Y=X:=rfl
theorem AY1{X Y:Prop}:gK (some false) X Y=Y:=rfl
def nxK (b:Bool) (X Y:Prop):Prop:=if b=true then X else Y
theorem AYH{X Y:Prop}:nxK true X Y=X:=by simp[nxK]
theorem AXx{X Y:Prop}:nxK false X Y=Y:=by simp[nxK]
section
variable{E:Env}{mv:List Tmp}{ops:Array Oper}{K:List AVal→St→Prop}{af:List AVal}{st:St}{d:Option Tmp}{ty:TypeId}{pos:String}{aft:Array Edge}{g:Option (Nat×Bool)}
theorem AWG{op:Op}{os' os:List Oper}{j:Nat}{want:Bool}:Hz E mv ⟨os'⟩ (⟨d,op,ty,pos,aft,some (j,want)⟩::os) K af st=gK (gdD (KQ os' j) af want) (CO E mv ⟨d,op,ty,pos,aft,some (j,want)⟩ af st (Hz E mv ⟨os'⟩ os K)) (Hz E mv ⟨os'⟩ os K (Am af d (.tuple [])) st):=by simp only[Hz,AGv,gK];all_goals (rcases gdD (KQ os' j) af want with _|(_|_)<;>simp)
theorem AYd{op:Op}{os':List Oper}{j:Nat}{want:Bool}:gWp E mv ⟨os'⟩ ⟨d,op,ty,pos,aft,some (j,want)⟩ af st K=gK (gdD (KQ os' j) af want) (CO E mv ⟨d,op,ty,pos,aft,some (j,want)⟩ af st K) (K (Am af d (.tuple [])) st):=by simp only[gWp,AGv,gK];all_goals (rcases gdD (KQ os' j) af want with _|(_|_)<;>simp)
theorem ASM{t:Tmp}{s:List UInt8}{p:Nat}:UJ (.iter s p) t d K af st=nxK (decide (p<s.length)) (K (Am (af.set t (.iter s (p+(CR s p).2))) d (.tuple [.bool true,.int .i64 p,.int .i32 (CR s p).1])) st) (K (Am af d (.tuple [.bool false])) st):=by rw[AFy];rfl
end
section cong
@[congr] theorem AXl {E : Env} {mv : List Tmp} {ops : Array Oper} {os : List Oper} {K : List AVal → St → Prop} {af : List AVal} {st : St} {af' : List AVal} {st' : St} (h0 : af = af') (h1 : st = st') : Hz E mv ops os K af st = Hz E mv ops os K af' st' := by subst h0; subst h1; rfl
@[congr] theorem AYW {E : Env} {mv : List Tmp} {o : Oper} {af : List AVal} {st : St} {K : List AVal → St → Prop} {af' : List AVal} {st' : St} (h0 : af = af') (h1 : st = st') : CO E mv o af st K = CO E mv o af' st' K := by subst h0; subst h1; rfl
@[congr] theorem AYV {x : Option AVal} {d : Option Tmp} {K : List AVal → St → Prop} {af : List AVal} {st : St} {x' : Option AVal} {af' : List AVal} {st' : St} (h0 : x = x') (h1 : af = af') (h2 : st = st') : LV x d K af st = LV x' d K af' st' := by subst h0; subst h1; subst h2; rfl
@[congr] theorem AXf {x : Option AVal} {d : Option Tmp} {K : List AVal → St → Prop} {af : List AVal} {st : St} {x' : Option AVal} {af' : List AVal} {st' : St} (h0 : x = x') (h1 : af = af') (h2 : st = st') : IP x d K af st = IP x' d K af' st' := by subst h0; subst h1; subst h2; rfl
@[congr] theorem AXy {z : Option (AVal × St)} {d : Option Tmp} {K : List AVal → St → Prop} {af : List AVal} {z' : Option (AVal × St)} {af' : List AVal} (h0 : z = z') (h1 : af = af') : M5 z d K af = M5 z' d K af' := by subst h0; subst h1; rfl
@[congr] theorem AYU {b : Bool} {v : AVal} {d : Option Tmp} {K : List AVal → St → Prop} {af : List AVal} {st : St} {b' : Bool} {v' : AVal} {af' : List AVal} {st' : St} (h0 : b = b') (h1 : v = v') (h2 : af = af') (h3 : st = st') : AI7 b v d K af st = AI7 b' v' d K af' st' := by subst h0; subst h1; subst h2; subst h3; rfl
@[congr] theorem AXV {x : Option (List AVal)} {d : Option Tmp} {K : List AVal → St → Prop} {af : List AVal} {st : St} {x' : Option (List AVal)} {af' : List AVal} {st' : St} (h0 : x = x') (h1 : af = af') (h2 : st = st') : SY x d K af st = SY x' d K af' st' := by subst h0; subst h1; subst h2; rfl
@[congr] theorem AXX {s : Option St} {K : List AVal → St → Prop} {af : List AVal} {s' : Option St} {af' : List AVal} (h0 : s = s') (h1 : af = af') : Mr s K af = Mr s' K af' := by subst h0; subst h1; rfl
@[congr] theorem AXW {E : Env} {t : TypeId} {v : AVal} {lo : Option (Option Int)} {hi : Option (Option Int)} {mx : Option (Option Int)} {d : Option Tmp} {K : List AVal → St → Prop} {af : List AVal} {st : St} {v' : AVal} {lo' : Option (Option Int)} {hi' : Option (Option Int)} {mx' : Option (Option Int)} {af' : List AVal} {st' : St} (h0 : v = v') (h1 : lo = lo') (h2 : hi = hi') (h3 : mx = mx') (h4 : af = af') (h5 : st = st') : Sy E t v lo hi mx d K af st = Sy E t v' lo' hi' mx' d K af' st' := by subst h0; subst h1; subst h2; subst h3; subst h4; subst h5; rfl
@[congr] theorem AXU {b : Bool} {v : AVal} {d : Option Tmp} {K : List AVal → St → Prop} {af : List AVal} {st : St} {b' : Bool} {v' : AVal} {af' : List AVal} {st' : St} (h0 : b = b') (h1 : v = v') (h2 : af = af') (h3 : st = st') : Sl b v d K af st = Sl b' v' d K af' st' := by subst h0; subst h1; subst h2; subst h3; rfl
@[congr] theorem AXe {v : AVal} {tm : Tmp} {d : Option Tmp} {K : List AVal → St → Prop} {af : List AVal} {st : St} {v' : AVal} {af' : List AVal} {st' : St} (h0 : v = v') (h1 : af = af') (h2 : st = st') : UJ v tm d K af st = UJ v' tm d K af' st' := by subst h0; subst h1; subst h2; rfl
@[congr] theorem AXi {E : Env} {v : AVal} {l : List AVal} {d : Option Tmp} {K : List AVal → St → Prop} {af : List AVal} {st : St} {v' : AVal} {l' : List AVal} {af' : List AVal} {st' : St} (h0 : v = v') (h1 : l = l') (h2 : af = af') (h3 : st = st') : AAe E v l d K af st = AAe E v' l' d K af' st' := by subst h0; subst h1; subst h2; subst h3; rfl
@[congr] theorem AYy {b : Bool} {u : Operand} {t : TypeId} {E : Env} {d : Option Tmp} {K : List AVal → St → Prop} {af : List AVal} {st : St} {b' : Bool} {af' : List AVal} {st' : St} (h0 : b = b') (h1 : af = af') (h2 : st = st') : mvK b u t E d K af st = mvK b' u t E d K af' st' := by subst h0; subst h1; subst h2; rfl
@[congr] theorem AYf {b : Bool} {t : TypeId} {v : AVal} {E : Env} {d : Option Tmp} {K : List AVal → St → Prop} {af : List AVal} {st : St} {b' : Bool} {v' : AVal} {af' : List AVal} {st' : St} (h0 : b = b') (h1 : v = v') (h2 : af = af') (h3 : st = st') : ldK b t v E d K af st = ldK b' t v' E d K af' st' := by subst h0; subst h1; subst h2; subst h3; rfl
@[congr] theorem AYC {F : List AVal → St → Prop} {L : APost} {e : Exit} {af : List AVal} {st : St} {e' : Exit} {af' : List AVal} {st' : St} (h0 : e = e') (h1 : af = af') (h2 : st = st') : GK F L e af st = GK F L e' af' st' := by subst h0; subst h1; subst h2; rfl
@[congr] theorem AYc {id : Nat} {L : APost} {e : Exit} {af : List AVal} {st : St} {e' : Exit} {af' : List AVal} {st' : St} (h0 : e = e') (h1 : af = af') (h2 : st = st') : Rw id L e af st = Rw id L e' af' st' := by subst h0; subst h1; subst h2; rfl
@[congr] theorem AZM {L : APost} {af : List AVal} {st : St} {af' : List AVal} {st' : St} (h0 : af = af') (h1 : st = st') : nK L af st = nK L af' st' := by subst h0; subst h1; rfl
@[congr] theorem AX7 {v : AVal} {F : List AVal → St → Prop} {G : List AVal → St → Prop} {af : List AVal} {st : St} {v' : AVal} {af' : List AVal} {st' : St} (h0 : v = v') (h1 : af = af') (h2 : st = st') : NJ v F G af st = NJ v' F G af' st' := by subst h0; subst h1; subst h2; rfl
@[congr] theorem AZG {E : Env} {c : Code} {a : An} {L : APost} {af : List AVal} {st : St} {af' : List AVal} {st' : St} (h0 : af = af') (h1 : st = st') : wpc E c a L af st = wpc E c a L af' st' := by subst h0; subst h1; rfl
@[congr] theorem AZD {E : Env} {c : Code} {L : APost} {af : List AVal} {st : St} {af' : List AVal} {st' : St} (h0 : af = af') (h1 : st = st') : AWp E c L af st = AWp E c L af' st' := by subst h0; subst h1; rfl
@[congr] theorem AYP {E : Env} {f : FuncId} {l : List AVal} {st : St} {Q : AVal → St → Prop} {l' : List AVal} {st' : St} (h0 : l = l') (h1 : st = st') : ACall E f l st Q = ACall E f l' st' Q := by subst h0; subst h1; rfl
@[congr] theorem AXT {E : Env} {mv : List Tmp} {ops : Array Oper} {p : Plan} {tv : List (Nat × AVal)} {K : List AVal → St → Prop} {af : List AVal} {st : St} {tv' : List (Nat × AVal)} {af' : List AVal} {st' : St} (h0 : tv = tv') (h1 : af = af') (h2 : st = st') : FI E mv ops p tv K af st = FI E mv ops p tv' K af' st' := by subst h0; subst h1; subst h2; rfl
@[congr] theorem AY9 {E : Env} {mv : List Tmp} {os : List Oper} {x : Option AVal} {i : Nat} {d : Option Tmp} {p : Plan} {tv : List (Nat × AVal)} {K : List AVal → St → Prop} {af : List AVal} {st : St} {x' : Option AVal} {tv' : List (Nat × AVal)} {af' : List AVal} {st' : St} (h0 : x = x') (h1 : tv = tv') (h2 : af = af') (h3 : st = st') : tkR E mv os x i d p tv K af st = tkR E mv os x' i d p tv' K af' st' := by subst h0; subst h1; subst h2; subst h3; rfl
@[congr] theorem AYi {E : Env} {mv : List Tmp} {os : List Oper} {w : Option Oper} {i : Nat} {p : Plan} {tv : List (Nat × AVal)} {K : List AVal → St → Prop} {af : List AVal} {st : St} {w' : Option Oper} {tv' : List (Nat × AVal)} {af' : List AVal} {st' : St} (h0 : w = w') (h1 : tv = tv') (h2 : af = af') (h3 : st = st') : tkO E mv os w i p tv K af st = tkO E mv os w' i p tv' K af' st' := by subst h0; subst h1; subst h2; subst h3; rfl
@[congr] theorem AYb {E : Env} {mv : List Tmp} {os : List Oper} {chk : List Nat} {p : Plan} {tv : List (Nat × AVal)} {K : List AVal → St → Prop} {af : List AVal} {st : St} {tv' : List (Nat × AVal)} {af' : List AVal} {st' : St} (h0 : tv = tv') (h1 : af = af') (h2 : st = st') : AMt E mv os chk p tv K af st = AMt E mv os chk p tv' K af' st' := by subst h0; subst h1; subst h2; rfl
@[congr] theorem AYZ {E : Env} {mv : List Tmp} {os : List Oper} {w : Option Oper} {chk : List Nat} {p : Plan} {tv : List (Nat × AVal)} {K : List AVal → St → Prop} {af : List AVal} {st : St} {w' : Option Oper} {tv' : List (Nat × AVal)} {af' : List AVal} {st' : St} (h0 : w = w') (h1 : tv = tv') (h2 : af = af') (h3 : st = st') : ASV E mv os w chk p tv K af st = ASV E mv os w' chk p tv' K af' st' := by subst h0; subst h1; subst h2; subst h3; rfl
@[congr] theorem AZA {E : Env} {mv : List Tmp} {ops : Array Oper} {o : Oper} {af : List AVal} {st : St} {K : List AVal → St → Prop} {af' : List AVal} {st' : St} (h0 : af = af') (h1 : st = st') : gWp E mv ops o af st K = gWp E mv ops o af' st' K := by subst h0; subst h1; rfl
@[congr] theorem AZN {g : Option Bool} {X : Prop} {Y : Prop} {g' : Option Bool} (h0 : g = g') : gK g X Y = gK g' X Y := by subst h0; rfl
@[congr] theorem AYX {d : Option Tmp} {K : List AVal → St → Prop} {af : List AVal} {r : AVal} {sx : St} {af' : List AVal} {r' : AVal} {sx' : St} (h0 : af = af') (h1 : r = r') (h2 : sx = sx') : AIi d K af r sx = AIi d K af' r' sx' := by subst h0; subst h1; subst h2; rfl
@[congr] theorem AYn {b : Bool} {X : Prop} {Y : Prop} {b' : Bool} (h0 : b = b') : nxK b X Y = nxK b' X Y := by subst h0; rfl
end cong
section rules
variable{E:Env}{K Q:APost}{af:List AVal}{st:St}{x y c:Code}
theorem ent{f:FuncId}{fn:Func}{nt:Nat}{rs:List ResultVar}{args:List AVal}{m m':MS}{n:Nat}{r':AVal}{Q:PQ} (hQ: ∀n',n≤n'→Gl (Q r' ⟨m',n'⟩)) (hf:E.P.funcs[f]?=some fn) (hb:fn.body=some c) (hn:fn.ntmps=nt) (hr:fn.results=rs.toArray) (a:An) (h: ∀R:APost,(∀af st xs m0 m1 n',MW E rs af st=some (xs,⟨m1,n'⟩)→m0.Sublist m1→m0=m'→n≤n'→Og xs=r'→R .ret af st∧R .normal af st)→Gl (wpc E c a R (args++List.replicate (nt-args.length) .any) ⟨m,n⟩)):ACall E f args ⟨m,n⟩ Q:=by
 refine MK hf hb ?_;have hw:=Nk a (h (Jf E fn Q) ?_).go;·subst hn;exact hw
 ·intro af st xs m0 m1 n' h1 h2 h0 h3 h4;subst h0;have e:fn.results.toList=rs:=by rw[hr]
  subst h4;exact⟨Ke (by rw[e];exact h1) h2 (hQ n' h3).go,Kc (by rw[e];exact h1) h2 (hQ n' h3).go⟩
theorem AIL{id:Nat}{os:List Oper} (mv:List Tmp) (plan:Plan) (hm:E.P.follows .mixedOrders=true) (hok:F5 (List.toArray os) plan false (Array.replicate (List.toArray os).size false) []=true) (h:Gl (FI E mv ⟨os⟩ plan [] (nK Q) af st)):AWp E (.region id (List.toArray os) true) Q af st:=Mx mv plan hm hok h.go
theorem Vf{α β γ:Type}{k0:α→Option β}{body:(α→Option β)→Option β}{r:β}{m:MS}{n:Nat}{T:Prop}{d:JD α} (h:T∧AA k0 body d=some r) (js cs:List Tmp) (V:α→γ→List AVal) (M:α→γ→MS) (a:An) (rest: ∀j g n',n≤n'→keysLt n' (M j g)→((M j g).map (·.1)).Nodup→T∧k0 j=some r→AWp E y Q (setVals (AX js af) cs (V j g)) ⟨M j g,n'⟩) (first: ∀(k:α→Option β) (J:List AVal→St→Prop),(∀j g af' m0 m1 n',k j=some r→m0.Sublist m1→m0=M j g→AX cs (AX js af')=AX cs (AX js af)→Bd (AX js af') cs=V j g→n≤n'→J af' ⟨m1,n'⟩)→T∧body k=some r→Gl (wpc E x a (GK J Q) af ⟨m,n⟩)):AWp E (.seq x y) Q af ⟨m,n⟩:=by
 refine OB ?_;have key:=Nk a (first k0 (fun af' st'=>AWp E y Q af' ⟨st'.m,st'.next⟩) ?_ h).go;·exact key.mono fun e af' st' _ q=>by cases e<;>exact q
 ·intro j g af' m0 m1 n' h1 h2 h3 h4 h5 h6;subst h3;refine NG js (AIw (m:=M j g) h2 ?_);refine AWp.known fun _ hk=>AWp.nodup fun hd=>?_;have:=rest j g n' h6 hk hd ⟨h.1,h1⟩;rw[G6 cs _ _ h4,h5];exact this
theorem AXg{σ β γ:Type}{r:β}{m:MS}{n:Nat}{T:Prop} (G:Nat→σ→Option β) (V:σ→γ→List AVal) (M:σ→γ→MS) (js cs:List Tmp) (s0:σ) (g0:γ){k0:Nat} (h:T∧G k0 s0=some r) (hz: ∀s,G 0 s=none) (hm:m=M s0 g0) (hv:Bd (AX js af) cs=V s0 g0) (round: ∀k s g n',n≤n'→keysLt n' (M s g)→T∧G (k+1) s=some r→∀J:List AVal→St→Prop,(∀s' g' af' m0 m1 n'',G k s'=some r→m0.Sublist m1→m0=M s' g'→AX cs (AX js af')=AX cs (AX js af)→Bd (AX js af') cs=V s' g'→n'≤n''→J af' ⟨m1,n''⟩)→AWp E c (GK J Q) (setVals (AX js af) cs (V s g)) ⟨M s g,n'⟩):AWp E (.loop c) Q af ⟨m,n⟩:=by
 refine SQ js cs (fun k vs st'=>∃s g,vs=V s g∧st'.m=M s g∧n≤st'.next∧G k s=some r) k0 ⟨s0,g0,hv,hm,ao _,h.2⟩ ?_;rintro k vs ⟨m',n'⟩ ⟨s,g,rfl,hm',hn,hG⟩ J hJ;simp only at hm' hn;subst hm';cases k with
 |zero=>rw[hz]at hG;cases hG
 | succ k=>
  refine AWp.known fun _ hk=>?_;refine(round k s g n' hn hk ⟨h.1,hG⟩ J ?_).mono fun e af' st' _ q=>by cases e<;>first| exact JM q| exact .oth eU q
  intro s' g' af' m0 m1 n'' h1 h2 h3 h4 h5 h6;exact hJ k af' ⟨m1,n''⟩ m0 (ef _) h2 h4 ⟨s',g',h5,h3,bB hn h6,h1⟩
theorem ALD{α:Type}{L pre suf:List α}{x:α} (h:L=pre++x::suf) (hL:AL L.length):decide ((pre.length:Int)<(L.length:Int))=true∧idx L (pre.length:Int)=some x∧wr .i64 ((pre.length:Int)+1)=(pre.length:Int)+1:=by subst h;unfold AL at hL;simp only[aj,ae]at hL;refine⟨by simp only[al,aj,ae];omega,by simp[idx],?_⟩;simp[wr,IntKind.wrap,IntKind.bits,IntKind.signed];omega
theorem AVw{σ β γ:Type}{r:β}{m:MS}{n:Nat}{T:Prop} (i0 b:Int) (hL: -4611686018427387904≤i0∧b≤4611686018427387904) (G:Nat→Int→σ→Option β) (V:Int→σ→γ→List AVal) (M:Int→σ→γ→MS) (js cs:List Tmp) (s0:σ) (g0:γ) (h:T∧G (b-i0).toNat i0 s0=some r) (hm:m=M i0 s0 g0) (hv:Bd (AX js af) cs=V i0 s0 g0) (rnil: ∀i s g n',n≤n'→keysLt n' (M i s g)→(decide (i<b)=false∧T)∧G 0 i s=some r→AWp E c (GK (fun _ _=>False) Q) (setVals (AX js af) cs (V i s g)) ⟨M i s g,n'⟩) (rcons: ∀k i s g n',n≤n'→keysLt n' (M i s g)→(decide (i<b)=true∧wr .i64 (i+1)=i+1∧T)∧G (k+1) i s=some r→∀J:List AVal→St→Prop,(∀s' g' af' m0 m1 n'',G k (i+1) s'=some r→m0.Sublist m1→m0=M (i+1) s' g'→AX cs (AX js af')=AX cs (AX js af)→Bd (AX js af') cs=V (i+1) s' g'→n'≤n''→J af' ⟨m1,n''⟩)→AWp E c (GK J Q) (setVals (AX js af) cs (V i s g)) ⟨M i s g,n'⟩):AWp E (.loop c) Q af ⟨m,n⟩:=by
 refine SQ js cs (fun k vs st'=>∃i s g,i0≤i∧k=(b-i).toNat∧vs=V i s g∧st'.m=M i s g∧n≤st'.next∧G k i s=some r) (b-i0).toNat ⟨i0,s0,g0,be _,rfl,hv,hm,ao _,h.2⟩ ?_;rintro k vs ⟨m',n'⟩ ⟨i,s,g,hi,hk',rfl,hm',hn,hG⟩ J hJ;simp only at hm' hn;subst hm';cases k with
 | zero=>refine AWp.known fun _ hk=>?_;refine(rnil _ s g n' hn hk ⟨⟨by simp only[bP];omega,h.1⟩,hG⟩).mono fun e af' st' _ q=>by cases e<;>first| exact q.elim| exact .oth eU q
 | succ k=>
  refine AWp.known fun _ hk=>?_;have hw:wr .i64 (i+1)=i+1:=by simp[wr,IntKind.wrap,IntKind.bits,IntKind.signed];omega
  refine(rcons k i s g n' hn hk ⟨⟨by simp only[al];omega,hw,h.1⟩,hG⟩ J ?_).mono fun e af' st' _ q=>by cases e<;>first| exact JM q| exact .oth eU q
  intro s' g' af' m0 m1 n'' h1 h2 h3 h4 h5 h6;exact hJ k af' ⟨m1,n''⟩ m0 eU h2 h4 ⟨i+1,s',g',eT,eT,h5,h3,bB hn h6,h1⟩
theorem KX (a:An) (h:Gl (wpc E c a K af st)):AWp E c K af st:=Nk a h.go
end rules
theorem AWs{A B:Prop} (a:Gl A) (b:Gl B):Gl (A∧B):=⟨a.go,b.go⟩
theorem H6{α:Type}{c:Bool}{x y:Option α}{r:α}{T:Prop} (h:T∧(if c=true then x else y)=some r):((c=true∧T)∧x=some r)∨((c=false∧T)∧y=some r):=by
 cases c;·exact .inr ⟨⟨rfl,h.1⟩,h.2⟩
 ·exact .inl ⟨⟨rfl,h.1⟩,h.2⟩
theorem D7{α β:Type}{x:Option α}{f:α→Option β}{r:β}{T:Prop} (h:T∧Option.bind x f=some r): ∃y,(x=some y∧T)∧f y=some r:=by obtain⟨y,h1,h2⟩:=bind_some h.2;exact⟨y,⟨h1,h.1⟩,h2⟩
theorem KS{α:Type}{c:Prop} [Decidable c]{x:Option α}{r:α}{T:Prop} (h:T∧grd c x=some r):c∧T∧x=some r:=by obtain⟨h1,h2⟩:=AA2 h.2;exact⟨h1,h.1,h2⟩
theorem JO{A B C:Prop} (a:A) (h:B∧C):(A∧B)∧C:=⟨⟨a,h.1⟩,h.2⟩
end Go.VM
set_option linter.unusedVariables false
set_option linter.defProp false
set_option maxRecDepth 100000
namespace Go.VM
section
variable{E:Env}{af:List AVal}{t:TypeId}
theorem ATQ{r:AVal}:Og [r]=r:=rfl
theorem AUc:Og []=.tuple []:=rfl
theorem ATt{a b:AVal}{l:List AVal}:Og (a::b::l)=.tuple (a::b::l):=rfl
theorem ANk:AX [] af=af:=rfl
theorem AIg{j:Tmp}{js:List Tmp}:AX (j::js) af=AX js (af.set j .any):=rfl
theorem AXD{vs:List AVal}:setVals af [] vs=af:=by cases vs<;>rfl
theorem AUh{c:Tmp}{cs:List Tmp}{v:AVal}{vs:List AVal}:setVals af (c::cs) (v::vs)=setVals (af.set c v) cs vs:=rfl
theorem AVl:Bd af []=[]:=rfl
theorem ATu{c:Tmp}{cs:List Tmp}:Bd af (c::cs)=af.getD c .any::Bd af cs:=rfl
theorem AOs{r:AVal}:Am af none r=af:=rfl
theorem ANK{d:Tmp}{r:AVal}:Am af (some d) r=af.set d r:=rfl
theorem ATf{i:Tmp}:stripAt af (.tmp i)=af.set i (af.getD i .any).strip:=rfl
theorem ASj{l:List AVal}:AVal.strip (.agg l)=.agg (stripL l):=by rw[AVal.strip]
theorem ALp{l:List AVal}:AVal.strip (.tuple l)=.tuple (stripL l):=by rw[AVal.strip]
theorem AKZ{w:Nat}{l:List AVal}{o:Bool}:AVal.strip (.slice w l o)=.slice w l false:=by rw[AVal.strip]
theorem APA{s:List UInt8}{p:Nat}:AVal.strip (.iter s p)=.any:=by rw[AVal.strip]
theorem AOF:stripL []=[]:=by rw[stripL]
theorem AXP{x:AVal}{bs:List Bool}{xs:List AVal}:stripB (true::bs) (x::xs)=x.strip::stripB bs xs:=by rw[stripB]
theorem AV6{x:AVal}{bs:List Bool}{xs:List AVal}:stripB (false::bs) (x::xs)=x::stripB bs xs:=by rw[stripB]
theorem AWn{xs:List AVal}:stripB [] xs=xs:=by rw[stripB]
theorem ALR{x:AVal}{l:List AVal}:stripL (x::l)=x.strip::stripL l:=by rw[stripL]
theorem AXL{i:Tmp}:rd E af t (.tmp i)=af.getD i .any:=rfl
theorem AQn{v:Value}:rd E af t (.const v)=Gh (JE E.P t) v:=rfl
theorem AUa{g:FuncId}:rd E af t (.func g)=.fn (.func g) [] []:=rfl
end
def vmC:=ab (ab (ab (ab (ab (ab (ab (ab (ab (@AJJ) (@AE2)) (ab (@AFV) (@AIj))) (ab (ab (@ABw) (@AEb)) (ab (@ZA) (@WJ)))) (ab (ab (ab (@AC7) (@AMp)) (ab (@APr) (@AOw))) (ab (ab (@AMX) (@AK1)) (ab (@ANc) (ab (@ALl) (@AUM)))))) (ab (ab (ab (ab (@AK9) (@APo)) (ab (@AWu) (@AQ5))) (ab (ab (@Un) (@AUT)) (ab (@AOB) (@AHE)))) (ab (ab (ab (@AP1) (@ALQ)) (ab (@APT) (@AGZ))) (ab (ab (@ASm) (@ATD)) (ab (@AFs) (ab (@ARt) (@ADn))))))) (ab (ab (ab (ab (ab (@AQE) (@ATj)) (ab (@AF3) (@ACi))) (ab (ab (@Y0) (@AMQ)) (ab (@YH) (@AO0)))) (ab (ab (ab (@AVh) (@AWE)) (ab (@AVd) (@ASI))) (ab (ab (@AP9) (@AJe)) (ab (@ATq) (ab (@AET) (@ASe)))))) (ab (ab (ab (ab (@ASA) (@ACe)) (ab (@AOe) (@UZ))) (ab (ab (@AUl) (@AB9)) (ab (@ANp) (@ASo)))) (ab (ab (ab (@AFq) (@AA9)) (ab (@ZW) (@AOS))) (ab (ab (@Xt) (@AQB)) (ab (@AWV) (ab (@AXG) (@AVO)))))))) (ab (ab (ab (ab (ab (ab (@AWq) (@AQN)) (ab (@AQy) (@ALG))) (ab (ab (@ANh) (@AJp)) (ab (@ALo) (@AKj)))) (ab (ab (ab (@AQ1) (@AUB)) (ab (@ARD) (@AJF))) (ab (ab (@AYD) (@AXb)) (ab (@AXz) (ab (@AYO) (@AQe)))))) (ab (ab (ab (ab (@AOT) (@AUS)) (ab (@ASU) (@AQd))) (ab (ab (@AKt) (@AWS)) (ab (@AJG) (@AXM)))) (ab (ab (ab (@AKK) (@AOJ)) (ab (@AIt) (@AJa))) (ab (ab (@AP3) (@ALF)) (ab (@AG2) (ab (@ANs) (@AID))))))) (ab (ab (ab (ab (ab (@AHV) (@AHz)) (ab (@AHZ) (@Nj))) (ab (ab (@AWB) (@AWL)) (ab (@AV7) (@AWP)))) (ab (ab (ab (@AVR) (@AVD)) (ab (@AX1) (@AWe))) (ab (ab (@ALf) (@AWl)) (ab (@AWj) (ab (@AWf) (@AVE)))))) (ab (ab (ab (ab (@AVF) (@AVP)) (ab (@AVY) (@AWR))) (ab (ab (@AUi) (@AR7)) (ab (@AUU) (@AUe)))) (ab (ab (ab (@ATL) (@AUE)) (ab (@ATT) (@ATb))) (ab (ab (@ASE) (@AW5)) (ab (@AJg) (ab (@AJh) (@AWt))))))))) (ab (ab (ab (ab (ab (ab (ab (@AQT) (@ASn)) (ab (@AVV) (@AMW))) (ab (ab (@AMc) (@AGH)) (ab (@bytesOf_map) (@MZ)))) (ab (ab (ab (@ABy) (@AAb)) (ab (@AVy) (@AWX))) (ab (ab (@List.append_eq.{0}) (@cx.{0,0})) (ab (@aj.{0}) (ab (@be) (@Int.natCast_nonneg)))))) (ab (ab (ab (ab (@ev.{0}) (@dQ.{0})) (ab (@bA) (@dR))) (ab (ab (@bu) (@bI)) (ab (@bg) (@bE.{0,0})))) (ab (ab (ab (@Nat.left_eq_add) (@eI)) (ab (@Nat.one_ne_zero) (@Nat.succ_ne_self))) (ab (ab (@ew) (@d9)) (ab (@ae.{0}) (ab (@an.{0}) (@bW.{0}))))))) (ab (ab (ab (ab (ab (@List.replicate_zero.{0}) (@aJ.{0})) (ab (@ba.{0}) (@aI.{0}))) (ab (ab (@dG.{0}) (@cU.{0})) (ab (@bv.{0}) (@bH.{0})))) (ab (ab (ab (@aH.{0,0}) (@bD.{0,0})) (ab (@aa.{0,0}) (@Option.bind_none.{0,0}))) (ab (ab (@dZ.{0}) (@aX.{0})) (ab (@List.elem_nil.{0}) (ab (@List.elem_cons.{0}) (@aE.{1})))))) (ab (ab (ab (ab (@aR.{1}) (@av)) (ab (@Bool.true_eq_false) (@aT.{0}))) (ab (ab (@List.drop_succ_cons.{0}) (@bX.{0})) (ab (@bM) (@bp)))) (ab (ab (ab (@db.{0}) (@ez.{0})) (ab (@beq_self_eq_true.{0}) (@Bool.or_true))) (ab (ab (@dh) (@cW)) (ab (@bd) (ab (@cK.{0}) (@Option.isNone_some.{0})))))))) (ab (ab (ab (ab (ab (ab (@c7.{0}) (@b8.{0})) (ab (@decide_true) (@dL))) (ab (ab (@and_self) (@eb)) (ab (@cY) (@ao)))) (ab (ab (ab (@cO.{0}) (@cR.{0})) (ab (@cn.{0}) (@ite_self.{1}))) (ab (ab (@aK.{0,0}) (@cy.{0,0})) (ab (@List.range_succ) (ab (@List.range_zero) (@aG.{0})))))) (ab (ab (ab (ab (@eB.{0}) (@dw)) (ab (@cV) (@ac.{0}))) (ab (ab (@bl) (@true_or)) (ab (@or_true) (@false_or)))) (ab (ab (ab (@dj) (@ch)) (ab (@not_false_eq_true) (@dp.{1}))) (ab (ab (@rdL.eq_1) (@rdL.eq_2)) (ab (@rdL.eq_3) (ab (@rdo.eq_1) (@rdo.eq_2))))))) (ab (ab (ab (ab (ab (@Ay.eq_1) (@Ay.eq_2)) (ab (@LM.eq_1) (@LM.eq_2))) (ab (ab (@KQ.eq_1) (@KQ.eq_2)) (ab (@KQ.eq_3) (@opAt.eq_1)))) (ab (ab (ab (@opAt.eq_2) (@opAt.eq_3)) (ab (@QI.eq_1) (@QI.eq_2))) (ab (ab (@AY.eq_1) (@C8.eq_1)) (ab (@C8.eq_2) (ab (@C8.eq_3) (@putCells.eq_1)))))) (ab (ab (ab (ab (@putCells.eq_2) (@Re.eq_1)) (ab (@M0.eq_1) (@MC.eq_1))) (ab (ab (@MC.eq_2) (@Ny.eq_1)) (ab (@Ny.eq_2) (ab (@Ny.eq_3) (@Jt.eq_1))))) (ab (ab (ab (@O4.eq_1) (@O4.eq_2)) (ab (@I5.eq_1) (@I5.eq_2))) (ab (ab (@I5.eq_3) (@I5.eq_4)) (ab (@Gh.eq_1) (ab (@Gh.eq_2) (@Gh.eq_3)))))))))) (ab (ab (ab (ab (ab (ab (ab (ab (@Gh.eq_4) (@Gh.eq_5)) (ab (@Gh.eq_6) (@Gh.eq_7))) (ab (ab (@Gh.eq_8) (@NM.eq_1)) (ab (@RZ.eq_1) (@RZ.eq_2)))) (ab (ab (ab (@FO.eq_1) (@UV.eq_1)) (ab (@UV.eq_2) (@ALh.eq_1))) (ab (ab (@ALh.eq_2) (@AJ5.eq_1)) (ab (@AJ5.eq_2) (ab (@DY.eq_1) (@MW.eq_1)))))) (ab (ab (ab (ab (@MW.eq_2) (@MW.eq_3)) (ab (@PI.eq_1) (@PI.eq_2))) (ab (ab (@AUp) (@ANu)) (ab (@AUR) (@AUb)))) (ab (ab (ab (@AST) (@AOa)) (ab (@ANz) (@AWU))) (ab (ab (@AIo) (@AK0)) (ab (@Yq) (ab (@AJ7) (@AJc))))))) (ab (ab (ab (ab (ab (@AN9) (@ASO)) (ab (@ATX) (@AR9))) (ab (ab (@AMy) (@AOX)) (ab (@AXR) (@AKQ)))) (ab (ab (ab (@AKH) (@Y7)) (ab (@ASp) (@AJ9))) (ab (ab (@AWG) (@AYd)) (ab (@ASM) (ab (@AY4) (@AY1)))))) (ab (ab (ab (ab (@AYH) (@AXx)) (ab (@AMg) (@ARx))) (ab (ab (@ANb) (@ASd)) (ab (@AQw) (@ALd)))) (ab (ab (ab (@AJQ) (@AG6)) (ab (@AX9) (@AP6))) (ab (ab (@AOb) (@ATV)) (ab (@ATI) (ab (@ASl) (@AWc)))))))) (ab (ab (ab (ab (ab (ab (@AXC) (@AVS)) (ab (@AWI) (@AV3))) (ab (ab (@AHj) (@AH0)) (ab (@ATQ) (@AUc)))) (ab (ab (ab (@ATt) (@ANk)) (ab (@AIg) (@AXD))) (ab (ab (@AUh) (@AVl)) (ab (@ATu) (ab (@AOs) (@ANK)))))) (ab (ab (ab (ab (@ATf) (@AJW)) (ab (@AMR) (@AQW))) (ab (ab (@AS6) (@AN4)) (ab (@ASh) (@AUJ)))) (ab (ab (ab (@ATl) (@APd)) (ab (@APE) (@AXI))) (ab (ab (@AJH) (@AIm)) (ab (@Yi) (ab (@ASj) (@ALp))))))) (ab (ab (ab (ab (ab (@AKZ) (@APA)) (ab (@AOF) (@ALR))) (ab (ab (@AXP) (@AV6)) (ab (@AWn) (@AXL)))) (ab (ab (ab (@AQn) (@AUa)) (ab (@ATR) (@ATN))) (ab (ab (@AKW) (@AKm)) (ab (@ALU) (ab (@Yh) (@APJ)))))) (ab (ab (ab (ab (@AUY) (@AVt)) (ab (@AVx) (@AVs))) (ab (ab (@AVz) (@AVa)) (ab (@AW4) (ab (@AVU) (@AVo))))) (ab (ab (ab (@AVu) (@AP5)) (ab (@ANv) (@AVq))) (ab (ab (@ANn) (@AVI)) (ab (@AMz) (ab (@AUf) (@AV9))))))))) (ab (ab (ab (ab (ab (ab (ab (@ANE) (@AWw)) (ab (@AM5) (@AYl))) (ab (ab (@AVM) (@AVv)) (ab (@ANW) (@AVX)))) (ab (ab (ab (@AW8) (@AVi)) (ab (@AXS) (@AXQ))) (ab (ab (@AV4) (@AS2)) (ab (@AS5) (ab (@AW7) (@AUj)))))) (ab (ab (ab (ab (@ARv) (@AVb)) (ab (@ARI) (@ARp))) (ab (ab (@AK2) (@ARy)) (ab (@ANA) (@AT2)))) (ab (ab (ab (@ALm) (@ATJ)) (ab (@AS0) (@AIh))) (ab (ab (@AUQ) (@TZ)) (ab (@AKu) (ab (@AKx) (@AJ6))))))) (ab (ab (ab (ab (ab (@ALX) (@AMh)) (ab (@AQ7) (@AIS))) (ab (ab (@APf) (@ALT)) (ab (@ALC) (@ASy)))) (ab (ab (ab (@ASk) (@AKT)) (ab (@APQ) (@AFj))) (ab (ab (@ALP) (@ZX)) (ab (@AKl) (ab (@AXj) (@AXs)))))) (ab (ab (ab (ab (@AWK) (@AR6)) (ab (@Sk.eq_1) (@AUD))) (ab (ab (@AOr) (@ASw)) (ab (@ASZ) (@AUG)))) (ab (ab (ab (@AI2) (@AId)) (ab (@ASF) (@ANI))) (ab (ab (@ANO) (@AWO)) (ab (@AKz) (ab (@AIY) (@ZO)))))))) (ab (ab (ab (ab (ab (ab (@ASq) (@AIV)) (ab (@ATZ) (@AMP))) (ab (ab (@AIW) (@AWa)) (ab (@ANG) (@AVL)))) (ab (ab (ab (@ARF) (@AV8)) (ab (@AQz) (@AXH))) (ab (ab (@ASz) (@AWQ)) (ab (@AMd) (ab (@AMi) (@AR1)))))) (ab (ab (ab (ab (@AUg) (@AP0)) (ab (@AMU) (@APM))) (ab (ab (@ANC) (@AOq)) (ab (@AOA) (@AQt)))) (ab (ab (ab (@APy) (@AXw)) (ab (@AOi) (@AOu))) (ab (ab (@ASx) (@AXr)) (ab (@APj) (ab (@AVH) (@AXY))))))) (ab (ab (ab (ab (ab (@AXk) (@AWv)) (ab (@AVQ) (@AYK))) (ab (ab (@AXd) (@APH)) (ab (@AVp) (@AWh)))) (ab (ab (ab (@AWH) (@AWN)) (ab (@AV0) (@AWT))) (ab (ab (@AWz) (@ATM)) (ab (@AY2) (ab (@AR5) (@ATs)))))) (ab (ab (ab (ab (@AX8) (@AXc)) (ab (@APK) (@AUK))) (ab (ab (@AVj) (@APW)) (ab (@AO8) (ab (@AKr) (@AOW))))) (ab (ab (ab (@AO2) (@ASb)) (ab (@AT5) (@APS))) (ab (ab (@b7.{0}) (@List.getElem?_map.{0,0})) (ab (@cw.{0}) (ab (@eQ) (@cM.{0}))))))))))
def liE:=ab (ab (ab (ab (ab (ab (@List.append_eq.{0}) (@cx.{0,0})) (ab (@aj.{0}) (ab (@be) (@Int.natCast_nonneg)))) (ab (ab (@ev.{0}) (@dQ.{0})) (ab (@bA) (ab (@dR) (@bu))))) (ab (ab (ab (@bI) (@bg)) (ab (@bE.{0,0}) (ab (@Nat.left_eq_add) (@eI)))) (ab (ab (@Nat.one_ne_zero) (ab (@Nat.succ_ne_self) (@ew))) (ab (@d9) (ab (@ae.{0}) (@an.{0})))))) (ab (ab (ab (ab (@bW.{0}) (@List.replicate_zero.{0})) (ab (@aJ.{0}) (ab (@ba.{0}) (@aI.{0})))) (ab (ab (@dG.{0}) (@cU.{0})) (ab (@bv.{0}) (ab (@bH.{0}) (@aH.{0,0}))))) (ab (ab (ab (@bD.{0,0}) (@aa.{0,0})) (ab (@Option.bind_none.{0,0}) (ab (@dZ.{0}) (@aX.{0})))) (ab (ab (@List.elem_nil.{0}) (ab (@List.elem_cons.{0}) (@aE.{1}))) (ab (@aR.{1}) (ab (@av) (@Bool.true_eq_false))))))) (ab (ab (ab (ab (ab (@aT.{0}) (@List.drop_succ_cons.{0})) (ab (@bX.{0}) (ab (@bM) (@bp)))) (ab (ab (@db.{0}) (@ez.{0})) (ab (@beq_self_eq_true.{0}) (ab (@Bool.or_true) (@dh))))) (ab (ab (ab (@cW) (@bd)) (ab (@cK.{0}) (ab (@Option.isNone_some.{0}) (@c7.{0})))) (ab (ab (@b8.{0}) (ab (@decide_true) (@dL))) (ab (@and_self) (ab (@eb) (@cY)))))) (ab (ab (ab (ab (@ao) (@cO.{0})) (ab (@cR.{0}) (ab (@cn.{0}) (@ite_self.{1})))) (ab (ab (@aK.{0,0}) (ab (@cy.{0,0}) (@List.range_succ))) (ab (@List.range_zero) (ab (@aG.{0}) (@eB.{0}))))) (ab (ab (ab (@dw) (@cV)) (ab (@ac.{0}) (ab (@bl) (@true_or)))) (ab (ab (@or_true) (ab (@false_or) (@dj))) (ab (@ch) (ab (@not_false_eq_true) (@dp.{1})))))))
end Go.VM
set_option linter.unusedVariables false
set_option linter.unusedSimpArgs false
namespace Go.VM
abbrev DT:=List (Nat×List Tmp×Plan)
def UC:DT→Nat→List Tmp |[],_=>[]|(i,m,_)::D,j=>if i=j then m else UC D j
def ATo:DT→Nat→Plan |[],_=>.done|(i,_,p)::D,j=>if i=j then p else ATo D j
inductive DD (D:DT):Prop |mk
def AGU (l:List Tmp) (F:List Tmp→Prop):Prop:=F l
def Qd:Plan→Bool |.stop=>true|_=>false
def AIz:DT→Nat→Bool |[],_=>false|(i,_,p)::D,j=>if i=j then Qd p else AIz D j
def Yw (b:Bool) (X Y:Prop):Prop:=if b=true then X else Y
def wpd (E:Env) (D:DT):Code→APost→List AVal→St→Prop |.skip,K=>fun af st=>K .normal af st|.label _,K=>fun af st=>K .normal af st|.ret,K=>fun af st=>K .ret af st|.exit id,K=>fun af st=>K (.exit id) af st|.seq (.region id os false) y,K=>fun af st=>Yw (AIz D id) (AWp E (.seq (.region id os false) y) K af st) (AGU (UC D id) fun mv=>Hz E mv os os.toList (nK (GK (wpd E D y K) K)) af st)|.cond c x y,K=>fun af st=>NJ (rd E af 0 c) (wpd E D x K) (wpd E D y K) af st|.block id c,K=>wpd E D c (Rw id K)|.scope c,K=>wpd E D c K|.region id os false,K=>fun af st=>AGU (UC D id) fun mv=>Hz E mv os os.toList (nK K) af st|c,K=>AWp E c K
section
variable{E:Env}{D:DT}{K:APost}{af:List AVal}{st:St}{x y:Code}{F:List AVal→St→Prop}
theorem AMr:wpd E D .skip K af st=K .normal af st:=by rw[wpd]
theorem AIk{l:Nat}:wpd E D (.label l) K af st=K .normal af st:=by rw[wpd]
theorem ATE:wpd E D .ret K af st=K .ret af st:=by rw[wpd]
theorem AN7{id:Nat}:wpd E D (.exit id) K af st=K (.exit id) af st:=by rw[wpd]
theorem AQZ{id:Nat}{os:List Oper}:wpd E D (.seq (.region id (List.toArray os) false) y) K af st=Yw (AIz D id) (AWp E (.seq (.region id (List.toArray os) false) y) K af st) (AGU (UC D id) fun mv=>Hz E mv ⟨os⟩ os (nK (GK (wpd E D y K) K)) af st):=by rw[wpd]
theorem AXA{X Y:Prop}:Yw true X Y=X:=by simp[Yw]
theorem AWW{X Y:Prop}:Yw false X Y=Y:=by simp[Yw]
theorem AQ2{j:Nat}:AIz [] j=false:=rfl
theorem AJA{i j:Nat}{m:List Tmp}{p:Plan}:AIz ((i,m,p)::D) j=if i=j then Qd p else AIz D j:=rfl
theorem AMj:Qd .stop=true:=rfl
theorem AQc:Qd .done=false:=rfl
theorem AMs{i:Nat}{p:Plan}:Qd (.take i p)=false:=rfl
theorem AT1{i:Nat}{c:List Nat}{p q:Plan}:Qd (.alt i c p q)=false:=rfl
@[congr] theorem AYa {b b' : Bool} {X Y : Prop} (h : b = b') : Yw b X Y = Yw b' X Y := by subst h; rfl
theorem AO7{c:Operand}:wpd E D (.cond c x y) K af st=NJ (rd E af 0 c) (wpd E D x K) (wpd E D y K) af st:=by rw[wpd]
theorem AJM{id:Nat}:wpd E D (.block id x) K af st=wpd E D x (Rw id K) af st:=by rw[wpd]
theorem AJq:wpd E D (.scope x) K af st=wpd E D x K af st:=by rw[wpd]
theorem AF4{id:Nat}{os:List Oper}:wpd E D (.region id (List.toArray os) false) K af st=AGU (UC D id) fun mv=>Hz E mv ⟨os⟩ os (nK K) af st:=by rw[wpd]
theorem ANR{l:List Tmp}{F:List Tmp→Prop}:AGU l F=F l:=rfl
theorem AOo{id:Nat}{os:Array Oper}:wpd E D (.region id os true) K af st=AWp E (.region id os true) K af st:=by rw[wpd]<;>simp
theorem AOD:wpd E D (.loop x) K af st=AWp E (.loop x) K af st:=by rw[wpd]<;>simp
theorem AWo{a b:Code}:wpd E D (.seq (.seq a b) y) K af st=AWp E (.seq (.seq a b) y) K af st:=by rw[wpd]<;>simp
theorem AWx{c:Operand}{a b:Code}:wpd E D (.seq (.cond c a b) y) K af st=AWp E (.seq (.cond c a b) y) K af st:=by rw[wpd]<;>simp
theorem AXB{id:Nat}{a:Code}:wpd E D (.seq (.block id a) y) K af st=AWp E (.seq (.block id a) y) K af st:=by rw[wpd]<;>simp
theorem AV2{l:Nat}:wpd E D (.seq (.label l) y) K af st=AWp E (.seq (.label l) y) K af st:=by rw[wpd]<;>simp
theorem AV5{a:Code}:wpd E D (.seq (.loop a) y) K af st=AWp E (.seq (.loop a) y) K af st:=by rw[wpd]<;>simp
theorem AV1{id:Nat}{os:Array Oper}:wpd E D (.seq (.region id os true) y) K af st=AWp E (.seq (.region id os true) y) K af st:=by rw[wpd]<;>simp
theorem AVK{a:Code}:wpd E D (.seq (.scope a) y) K af st=AWp E (.seq (.scope a) y) K af st:=by rw[wpd]<;>simp
theorem AW9:wpd E D (.seq .skip y) K af st=AWp E (.seq .skip y) K af st:=by rw[wpd]<;>simp
theorem AEh{j:Nat}:UC [] j=[]:=rfl
theorem Vy{i j:Nat}{m:List Tmp}{p:Plan}:UC ((i,m,p)::D) j=if i=j then m else UC D j:=rfl
theorem AJL{i j:Nat}{m:List Tmp}{p:Plan}:ATo ((i,m,p)::D) j=if i=j then p else ATo D j:=rfl
theorem ET: ∀ {c:Code}{K:APost}{af:List AVal}{st:St},wpd E D c K af st→AWp E c K af st:=by
 intro c;induction c with
 |skip=>intro K af st h;rw[wpd]at h;exact ADe h
 |ret=>intro K af st h;rw[wpd]at h;exact AIG h
 |exit id=>intro K af st h;rw[wpd]at h;exact AAf h
 | seq x y ihx ihy=>
  intro K af st h;cases x with
  | region id os d=>
   cases d with
   |true=>(rw[wpd]at h;exact h)<;>(intros;simp_all)
   | false=>
    rw[wpd]at h;unfold Yw at h;split at h;·exact h
    refine OB ((PD (UC D id) h).mono fun e af' st' _ q=>?_);cases e with |normal=>exact ihy q|_=>exact q
  |_=>(rw[wpd]at h;exact h)<;>(intros;simp_all)
 | cond c x y ihx ihy=>
  intro K af st h;rw[wpd]at h;unfold NJ at h;split at h;·rename_i b hb;refine AD0 b hb ?_;cases b with |true=>simp only[aE]at h⊢;exact ihx h|false=>simp only[av,aR]at h⊢;exact ihy h
  ·exact h.elim
 | block id c ih=>intro K af st h;rw[wpd]at h;exact VC ((ih h).mono fun e af' st' _ q=>by cases e<;>exact q)
 | region id os d=>intro K af st h;cases d with |true=>(rw[wpd]at h;exact h)<;>(intros;simp_all)|false=>rw[wpd]at h;exact PD (UC D id) h
 |loop c ih=>intro K af st h;(rw[wpd]at h;exact h)<;>(intros;simp_all)
 |rangeFunc f ps x y ihx ihy=>intro K af st h;(rw[wpd]at h;exact h)<;>(intros;simp_all)
 |scope c ih=>intro K af st h;rw[wpd]at h;exact Vn (ih h)
 |label l=>intro K af st h;rw[wpd]at h;exact AJT h
 |goto l=>intro K af st h;(rw[wpd]at h;exact h)<;>(intros;simp_all)
 |refuse w=>intro K af st h;(rw[wpd]at h;exact h)<;>(intros;simp_all)
@[congr] theorem AYq {c : Code} {L : APost} {af' : List AVal} {st' : St} (h0 : af = af') (h1 : st = st') : wpd E D c L af st = wpd E D c L af' st' := by subst h0; subst h1; rfl
def rgs:List (Nat×Nat)→List Tmp |[]=>[]|(a,n)::l=>List.range' a n++rgs l
def AHB:Nat→List AVal→List AVal |n+1,_::l=>.any::AHB n l|_,l=>l
def maskN:Nat→Nat→List AVal→List AVal |0,n,l=>AHB n l|a+1,n,x::l=>x::maskN a n l|_+1,_,[]=>[]
def Be:List (Nat×Nat)→List AVal→List AVal |[],af=>af|(a,n)::l,af=>Be l (maskN a n af)
theorem VL: ∀(js ks:List Tmp) (af:List AVal),AX (js++ks) af=AX ks (AX js af) |[],_,_=>rfl|j::js,ks,af=>by rw[aJ,AX,AX,VL js]
theorem Oj: ∀(js:List Tmp) (x:AVal) (l:List AVal),AX (js.map (· +1)) (x::l)=x::AX js l |[],_,_=>rfl|j::js,x,l=>by rw[aK,AX,bH,Oj js,AX]
theorem QZ: ∀js:List Tmp,AX js []=[] |[]=>rfl|j::js=>by rw[AX,List.set_nil,QZ js]
theorem Tw: ∀(a n:Nat),List.range' (a+1) n=(List.range' a n).map (· +1) |a,0=>rfl|a,n+1=>by rw[cF,cF,aK,Tw (a+1) n]
theorem TA: ∀(a n:Nat) (l:List AVal),maskN a n l=AX (List.range' a n) l |0,0,l=>by rw[maskN];cases l<;>rfl|0,n+1,[]=>by rw[QZ];rfl| 0,n+1,x::l=>by rw[maskN,AHB,cF,AX,bv,show List.range' (0+1) n=(List.range' 0 n).map (· +1)from Tw _ _,Oj,←TA 0 n l,maskN]|a+1,n,[]=>by rw[QZ];rfl| a+1,n,x::l=>by rw[maskN,show List.range' (a+1) n=(List.range' a n).map (· +1)from Tw _ _,Oj,TA a n l]
theorem Cq: ∀(js:List (Nat×Nat)) (af:List AVal),Be js af=AX (rgs js) af |[],_=>rfl|(a,n)::js,af=>by rw[Be,TA,Cq js,rgs,VL]
theorem AWC:Be [] af=af:=rfl
theorem ASJ{a n:Nat}{l:List (Nat×Nat)}:Be ((a,n)::l) af=Be l (maskN a n af):=rfl
theorem AYj{a n:Nat}{v:AVal}{l:List AVal}:maskN (a+1) n (v::l)=v::maskN a n l:=rfl
theorem AYr{n:Nat}{l:List AVal}:maskN 0 n l=AHB n l:=by cases l<;>rfl
theorem AZE{n:Nat}{v:AVal}{l:List AVal}:AHB (n+1) (v::l)=.any::AHB n l:=rfl
theorem AYg{l:List AVal}:AHB 0 l=l:=by cases l<;>rfl
def Rz:List PC→List AVal→List AVal |.k::l,x::xs=>x::Rz l xs|.w::l,x::xs=>x.strip::Rz l xs|.v y::l,_::xs=>y::Rz l xs|_,xs=>xs
def reB:List BX→MS→MS |.k::l,p::m=>p::reB l m|.d::l,_::m=>reB l m|.s c::l,p::m=>(p.1,c)::reB l m|.t c::l,p::m=>(p.1,c p.1)::reB l m|.p ps::l,p::m=>(p.1,Rz ps p.2)::reB l m|_,m=>m
theorem AYE{m:MS}:reB [] m=m:=by cases m<;>rfl
theorem AYx{l:List BX}{p:Nat×List AVal}{m:MS}:reB (.k::l) (p::m)=p::reB l m:=rfl
theorem AYs{l:List BX}{p:Nat×List AVal}{m:MS}:reB (.d::l) (p::m)=reB l m:=rfl
theorem AYp{l:List BX}{c x:List AVal}{i:Nat}{m:MS}:reB (.s c::l) ((i,x)::m)=(i,c)::reB l m:=rfl
theorem AYz{l:List BX}{c:Nat→List AVal}{x:List AVal}{i:Nat}{m:MS}:reB (.t c::l) ((i,x)::m)=(i,c i)::reB l m:=rfl
theorem AY6{l:List BX}{ps:List PC}{x:List AVal}{i:Nat}{m:MS}:reB (.p ps::l) ((i,x)::m)=(i,Rz ps x)::reB l m:=rfl
theorem AYu{xs:List AVal}:Rz [] xs=xs:=by cases xs<;>rfl
theorem AYt{l:List PC}{x:AVal}{xs:List AVal}:Rz (.k::l) (x::xs)=x::Rz l xs:=rfl
theorem AYh{l:List PC}{x:AVal}{xs:List AVal}:Rz (.w::l) (x::xs)=x.strip::Rz l xs:=rfl
theorem AZK{l:List PC}{x y:AVal}{xs:List AVal}:Rz (.v y::l) (x::xs)=y::Rz l xs:=rfl
def P7:Code→Nat×Nat |.seq x y=>((P7 x).1,(P7 x).2+(P7 y).2+1)|.cond _ x y=>((P7 x).1,(P7 x).2+(P7 y).2+1)|.block id x=>(id,(P7 x).2+1)|.loop x=>((P7 x).1,(P7 x).2+1)|.scope x=>((P7 x).1,(P7 x).2+1)|.region id _ _=>(id,1)|_=>(0,1)
end
inductive Wk:AVal→AVal→Prop |same (x:AVal):Wk x x |strip (x:AVal):Wk x x.strip
inductive WkL:List AVal→List AVal→Prop |nil:WkL [] [] |cons{x y:AVal}{xs ys:List AVal} (h:Wk x y) (t:WkL xs ys):WkL (x::xs) (y::ys)
inductive SubW:MS→MS→Prop |refl (m:MS):SubW m m |keep{m0 m1:MS}{i:Nat}{cs cs':List AVal} (h:WkL cs cs') (t:SubW m0 m1):SubW ((i,cs')::m0) ((i,cs)::m1) |drop{m0 m1:MS}{p:Nat×List AVal} (t:SubW m0 m1):SubW m0 (p::m1)
theorem WkL.refl: ∀xs:List AVal,WkL xs xs |[]=>.nil|x::xs=>.cons (.same x) (WkL.refl xs)
theorem WkL.stripB{xs ys:List AVal} (h:WkL xs ys): ∃bs,VM.stripB bs xs=ys:=by induction h with |nil=>exact⟨[],rfl⟩| cons h t ih=>obtain⟨bs,rfl⟩:=ih;cases h with |same=>exact⟨false::bs,by rw[VM.stripB]⟩|strip=>exact⟨true::bs,by rw[VM.stripB]⟩
theorem WkL.set{v u:AVal} (h:Wk u v): ∀ {xs ys:List AVal} (c:Nat),WkL xs ys→WkL (xs.set c u) (ys.set c v) |_,_,_,.nil=>by simpa using WkL.nil|_,_,0,.cons _ t=>.cons h t|_,_,c+1,.cons k t=>.cons k (WkL.set h c t)
theorem WkL.setVals: ∀ {cs:List Tmp}{us vs xs ys:List AVal},WkL xs ys→WkL us vs→WkL (VM.setVals xs cs us) (VM.setVals ys cs vs)
 |[],us,vs,xs,ys,h,k=>by cases k<;>(rw[VM.setVals,VM.setVals];exact h)<;>simp
 | c::cs,_,_,xs,ys,h,.nil=>by
  have e: ∀zs:List AVal,VM.setVals zs (c::cs) []=zs:=fun zs=>by rw[VM.setVals];intros;simp_all
  rw[e,e];exact h
 |c::cs,_,_,xs,ys,h,.cons h1 t=>by rw[VM.setVals,VM.setVals];exact WkL.setVals (WkL.set h1 c h) t
section
variable{E:Env}{F:Nat→Nat}{Γ:Ghost}{st:St}{w:World}{af af2:List AVal}{a:Act}{Q:APost}{c:Code}{n:Nat}
theorem Sim.wkF (hs:Sim E F Γ st w af a.tmps.toList) (h:WkL af af2):Sim E F Γ st w af2 a.tmps.toList:=by obtain⟨bs,rfl⟩:=h.stripB;exact {hs with rep:=K5 bs _ _ hs.rep,own:=Kn bs _ _ hs.own,tok:=fun b=>by have:=LB b bs af a.tmps.toList;have:=hs.tok b;omega}
theorem AHW: ∀ {pre m:MS}{i:Nat}{cs:List AVal},((pre++(i,cs)::m).map (·.1)).Nodup→Bv (pre++(i,cs)::m) i=some cs∧∀x,CP (pre++(i,cs)::m) i x=pre++(i,x)::m
 |[],m,i,cs,_=>⟨AID,fun x=>AHz⟩
 | (j,d)::pre,m,i,cs,h=>by
  rw[aJ,aK,bY]at h;have hne:i≠j:=by rintro rfl;exact h.1 eU
  have:=AHW (pre:=pre) h.2;rw[aJ,AHV hne];exact⟨this.1,fun x=>by rw[AHZ hne,this.2 x,aJ]⟩
theorem Sim.wkM{m0 m1:MS} (h:SubW m0 m1): ∀ {pre:MS},Sim E F Γ ⟨pre++m1,n⟩ w af a.tmps.toList→Sim E F Γ ⟨pre++m0,n⟩ w af a.tmps.toList:=by
 induction h with
 |refl m=>intro pre hs;exact hs
 | @drop m0 m1 p t ih=>intro pre hs;exact ih (hs.fewer (m:=pre++m1) (List.Sublist.append (bG _) (ci _ (bG _))))
 | @keep m0 m1 i cs cs' h t ih=>
  intro pre hs;obtain⟨bs,rfl⟩:=h.stripB;obtain⟨h1,h2⟩:=AHW hs.keys;have:=hs.stripCells bs h1;rw[h2]at this;have e: ∀m:MS,pre++(i,VM.stripB bs cs)::m=(pre++[(i,VM.stripB bs cs)])++m:=fun m=>by simp
  rw[e]at this⊢;exact ih this
theorem AWp.wk{m m2:MS} (h:AWp E c Q af2 ⟨m2,n⟩) (h1:WkL af af2) (h2:SubW m2 m):AWp E c Q af ⟨m,n⟩:=⟨fun F Γ w a hd hs=>h.go F Γ w a hd ((Sim.wkM (pre:=[]) h2 hs).wkF h1)⟩
theorem O8 (js cs:List Tmp) (I:Nat→List AVal→St→Prop) (n₀:Nat){vs0:List AVal}{m m0:MS} (hv:WkL (Bd (AX js af) cs) vs0) (hm:SubW m0 m) (h₀:I n₀ vs0 ⟨m0,n⟩) (round: ∀k vs st',I k vs st'→∀J:List AVal→St→Prop,(∀k' af' st' m vs',k'<k→SubW m st'.m→AX cs (AX js af')=AX cs (AX js af)→WkL (Bd (AX js af') cs) vs'→I k' vs' {st' with m:=m}→J af' st')→AWp E c (kPost J Q) (setVals (AX js af) cs vs) st'):AWp E (.loop c) Q af ⟨m,n⟩:=by
 refine NG js ?_;constructor;intro F Γ w a hd hs;have hs0:Sim E F Γ ⟨m0,n⟩ w (setVals (AX js af) cs vs0) a.tmps.toList:=by have h1:=Sim.wkM (pre:=[]) hm hs;rw[G6 cs _ _ (rfl:AX cs (AX js af)=AX cs (AX js af))]at h1;exact h1.wkF (WkL.setVals (WkL.refl _) hv)
 refine wp_loop_ghost (fun k a' w'=>a'.defers=[]∧∃Γ' vs st',Ext F Γ w Γ' w'∧n≤st'.next∧Sim E F Γ' st' w' (setVals (AX js af) cs vs) a'.tmps.toList∧I k vs st') n₀ ⟨hd,Γ,vs0,⟨m0,n⟩,Ext.refl _ _ _,ao _,hs0,h₀⟩ ?_;intro k a₁ w₁ ⟨hd1,Γ₁,vs₁,st₁,h2,h3,h4,h5⟩;refine eD ((round k vs₁ st₁ h5 (fun af' st'=>∃k' m vs',k'<k∧SubW m st'.m∧AX cs (AX js af')=AX cs (AX js af)∧WkL (Bd (AX js af') cs) vs'∧I k' vs' {st' with m:=m}) (fun k' af' st' m vs' k1 k2 k3 k4 k5=>⟨k',m,vs',k1,k2,k3,k4,k5⟩)).go F Γ₁ w₁ a₁ hd1 h4) ?_;intro e a' w' hq;have hq:=O1 h2 h3 hq;cases e with | normal=>obtain⟨_,k1,Γ',af',st',k2,k3,k4,kk⟩:=hq;obtain⟨k',m,vs',k5,k6,k7,k9,k8⟩:=kk.get;refine⟨k',k5,k1,Γ',vs',{st' with m:=m},k2,k3,?_,k8⟩;have h1:=Sim.wkM (pre:=[]) k6 (k4.mask js);rw[G6 cs _ _ k7]at h1;exact h1.wkF (WkL.setVals (WkL.refl _) k9)| _=>obtain⟨k0,k1,Γ',af',st',k2,k3,k4,kk⟩:=hq;exact⟨k0,k1,Γ',af',st',k2,k3,k4,kk.out eU⟩
end
@[congr] theorem AYY {l l' : List Tmp} {F : List Tmp → Prop} (h : l = l') : AGU l F = AGU l' F := by subst h; rfl
def stp (b:Bool) (v:AVal):AVal:=if b=true then v.strip else v
theorem ANd{v:AVal}:stp true v=v.strip:=rfl
theorem AM4{v:AVal}:stp false v=v:=rfl
structure RH (E:Env) (rs:List ResultVar) (R:APost) (b:Bool) (m':MS) (n:Nat) (r':AVal):Prop where go: ∀af st xs m0 m1 n',MW E rs af st=some (xs,⟨m1,n'⟩)→m0.Sublist m1→m0=m'→n≤n'→stp b (Og xs)=r'→R .ret af st∧R .normal af st
structure JOK{α β:Type} (k:α→Option β) (r:β) (js:List (Nat×Nat)) (cs:List Tmp) (V:α→List AVal) (Ms:α→List BX) (af0:List AVal) (m:MS) (n:Nat) (J:List AVal→St→Prop):Prop where go: ∀j af' m0 m1 n',k j=some r→SubW m0 m1→m0=reB (Ms j) m→AX cs (Be js af')=AX cs (Be js af0)→WkL (Bd (Be js af') cs) (V j)→n≤n'→J af' ⟨m1,n'⟩
def AGc:AVal→Nat |.ptr i _=>i|_=>0
theorem AQP{i o:Nat}:AGc (.ptr i o)=i:=rfl
structure JNK{α β:Type} (k:α→Option β) (r:β) (js:List (Nat×Nat)) (cs:List Tmp) (p:Tmp) (V:α→Nat→List AVal) (Ms:α→Nat→List BX) (C:α→Nat→List AVal) (af0:List AVal) (m:MS) (n:Nat) (J:List AVal→St→Prop):Prop where go: ∀j g af' m0 m1 n',k j=some r→SubW m0 m1→m0=(g,C j g)::reB (Ms j g) m→AX cs (Be js af')=AX cs (Be js af0)→WkL (Bd (Be js af') cs) (V j g)→n≤g∧g<n'→J af' ⟨m1,n'⟩
structure LOK{σ β:Type} (G:Nat→σ→Option β) (r:β) (k:Nat) (js:List (Nat×Nat)) (cs:List Tmp) (V:σ→List AVal) (Ms:σ→List BX) (af0:List AVal) (m:MS) (n:Nat) (J:List AVal→St→Prop):Prop where go: ∀s af' m0 m1 n',G k s=some r→SubW m0 m1→m0=reB (Ms s) m→AX cs (Be js af')=AX cs (Be js af0)→WkL (Bd (Be js af') cs) (V s)→n≤n'→J af' ⟨m1,n'⟩
structure ROK{α σ β:Type} (G:List α→Int→σ→Option β) (r:β) (xs:List α) (i:Int) (js:List (Nat×Nat)) (cs:List Tmp) (V:Int→σ→List AVal) (Ms:Int→σ→List BX) (af0:List AVal) (m:MS) (n:Nat) (J:List AVal→St→Prop):Prop where go: ∀s af' m0 m1 n',G xs i s=some r→SubW m0 m1→m0=reB (Ms i s) m→AX cs (Be js af')=AX cs (Be js af0)→WkL (Bd (Be js af') cs) (V i s)→n≤n'→J af' ⟨m1,n'⟩
structure COK{σ β:Type} (G:Nat→Int→σ→Option β) (r:β) (k:Nat) (i:Int) (js:List (Nat×Nat)) (cs:List Tmp) (V:Int→σ→List AVal) (Ms:Int→σ→List BX) (af0:List AVal) (m:MS) (n:Nat) (J:List AVal→St→Prop):Prop where go: ∀s af' m0 m1 n',G k i s=some r→SubW m0 m1→m0=reB (Ms i s) m→AX cs (Be js af')=AX cs (Be js af0)→WkL (Bd (Be js af') cs) (V i s)→n≤n'→J af' ⟨m1,n'⟩
class CF (E:Env){ρ:Type} (X:Option ρ) (f:outParam FuncId) (args:outParam (List AVal)) (er:outParam (ρ→AVal)):Prop where go: ∀ {r:ρ}{n:Nat}{m:MS}{Q:PQ},X=some r→(∀n',n≤n'→Gl (Q (er r) ⟨m,n'⟩))→ACall E f args ⟨m,n⟩ Q
class CB (E:Env){ρ:Type} (X:Option ρ) (f:outParam FuncId) (args:outParam (Nat→List AVal)) (pre:outParam (Nat→List AVal)) (er:outParam (ρ→AVal)) (post:outParam (Nat→ρ→List AVal)):Prop where go: ∀ {r:ρ}{n i:Nat}{m:MS}{Q:PQ},X=some r→Bv m i=some (pre i)→(∀n',n≤n'→Gl (Q (er r) ⟨CP m i (post i r),n'⟩))→ACall E f (args i) ⟨m,n⟩ Q
class CT (E:Env){ρ:Type} (X:Option ρ) (f:outParam FuncId) (pre:outParam (Nat→List AVal)) (er:outParam (ρ→AVal)) (post:outParam (Nat→ρ→List AVal)):Prop where go: ∀ {r:ρ}{n i j:Nat}{m:MS}{Q:PQ},X=some r→Bv m j=some [.ptr i 0]→Bv m i=some (pre i)→i≠j→(∀n',n≤n'→Gl (Q (er r) ⟨CP m i (post i r),n'⟩))→ACall E f [.ptr j 0] ⟨m,n⟩ Q
class XC (E:Env) (f:FuncId) (args:List AVal) (r:outParam AVal):Prop where go: ∀ {st:St}{Q:PQ},Gl (Q r st)→RU E f args st Q
class CN (E:Env){ρ:Type} (X:Option ρ) (f:outParam FuncId) (args:outParam (List AVal)) (rv:outParam (Nat→AVal)) (cells:outParam (ρ→Nat→List AVal)):Prop where go: ∀ {r:ρ}{n:Nat}{m:MS}{Q:PQ},X=some r→(∀i n',n≤i→i<n'→Gl (Q (rv i) ⟨(i,cells r i)::m,n'⟩))→ACall E f args ⟨m,n⟩ Q
class LF{β:Type} (X:Option β){σ:outParam Type} (G B:outParam (Nat→σ→Option β)) (k:outParam Nat) (s:outParam σ) (js:outParam (List (Nat×Nat))) (cs:outParam (List Tmp)) (V:outParam (σ→List AVal)) (Ms:outParam (σ→List BX)):Prop where
  eq:X=G k s
  z: ∀s,G 0 s=none
  u: ∀k s,G (k+1) s=B k s
class LR{β:Type} (X:Option β){α σ:outParam Type} (G:outParam (List α→Int→σ→Option β)) (Bn:outParam (Int→σ→Option β)) (Bc:outParam (α→List α→Int→σ→Option β)) (L:outParam (List α)) (i:outParam Int) (s:outParam σ) (js:outParam (List (Nat×Nat))) (cs:outParam (List Tmp)) (V:outParam (Int→σ→List AVal)) (Ms:outParam (Int→σ→List BX)):Prop where
  eq:X=G L i s
  un: ∀i s,G [] i s=Bn i s
  uc: ∀x xs i s,G (x::xs) i s=Bc x xs i s
class LQ{β:Type} (X:Option β){α σ:outParam Type} (G:outParam (List α→Int→σ→Option β)) (Bn:outParam (Int→σ→Option β)) (Bc:outParam (α→List α→Int→σ→Option β)) (L:outParam (List α)) (s:outParam σ) (js:outParam (List (Nat×Nat))) (cs:outParam (List Tmp)) (V:outParam (Int→σ→List AVal)) (Ms:outParam (Int→σ→List BX)):Prop where
  eq: ∀i,X=G L i s
  un: ∀i s,G [] i s=Bn i s
  uc: ∀x xs i s,G (x::xs) i s=Bc x xs i s
class LC{β:Type} (X:Option β){σ:outParam Type} (G:outParam (Nat→Int→σ→Option β)) (Bn:outParam (Int→σ→Option β)) (Bc:outParam (Nat→Int→σ→Option β)) (k:outParam Nat) (i:outParam Int) (s:outParam σ) (js:outParam (List (Nat×Nat))) (cs:outParam (List Tmp)) (V:outParam (Int→σ→List AVal)) (Ms:outParam (Int→σ→List BX)):Prop where
  eq:X=G k i s
  un: ∀i s,G 0 i s=Bn i s
  uc: ∀k i s,G (k+1) i s=Bc k i s
class LU{β:Type} (X:Option β){σ:outParam Type} (G:outParam (Nat→Int→σ→Option β)) (Bn:outParam (Int→σ→Option β)) (Bc:outParam (Nat→Int→σ→Option β)) (k:outParam Nat) (s:outParam σ) (js:outParam (List (Nat×Nat))) (cs:outParam (List Tmp)) (V:outParam (Int→σ→List AVal)) (Ms:outParam (Int→σ→List BX)):Prop where
  eq: ∀i,X=G k i s
  un: ∀i s,G 0 i s=Bn i s
  uc: ∀k i s,G (k+1) i s=Bc k i s
class MX (E:Env):Prop where ok:E.P.follows .mixedOrders=true
section rules
variable{E:Env}{D:DT}{β ρ:Type}{r:β}{T:Prop}{n n':Nat}{m m0 m1:MS}{af af0:List AVal}{st:St}{Q K:APost}{x y c:Code}{js:List (Nat×Nat)}{cs:List Tmp}{J:List AVal→St→Prop}
theorem mkF{X B:Option ρ}{f:FuncId}{fn:Func}{nt:Nat}{rs:List ResultVar}{args:List AVal}{er:ρ→AVal} (hx:X=B) (hf:E.P.funcs[f]?=some fn) (hb:fn.body=some c) (hn:fn.ntmps=nt) (hr:fn.results=rs.toArray) (D:DT) (b:Bool) (w: ∀(r:ρ) (n:Nat) (m:MS) (R:APost),RH E rs R b m n (er r)→True∧B=some r→DD D→Gl (wpd E D c R (args++List.replicate (nt-args.length) .any) ⟨m,n⟩)):CF E X f args er:=by
 constructor;intro r n m Q h hQ;subst hn;have e:fn.results.toList=rs:=by rw[hr]
 cases b with | false=>refine MK hf hb (ET (w r n m (Jf E fn Q) ⟨?_⟩ ⟨trivial,hx▸h⟩ ⟨⟩).go);intro af st xs m0 m1 n' h1 h2 h0 h3 h4;subst h0;rw[AM4]at h4;exact⟨Ke (by rw[e];exact h1) h2 (h4▸(hQ n' h3).go),Kc (by rw[e];exact h1) h2 (h4▸(hQ n' h3).go)⟩| true=>refine ACall.strip (MK hf hb (ET (w r n m (Jf E fn fun r st'=>Q r.strip st') ⟨?_⟩ ⟨trivial,hx▸h⟩ ⟨⟩).go));intro af st xs m0 m1 n' h1 h2 h0 h3 h4;subst h0;rw[ANd]at h4;exact⟨Ke (by rw[e];exact h1) h2 (by rw[h4];exact(hQ n' h3).go),Kc (by rw[e];exact h1) h2 (by rw[h4];exact(hQ n' h3).go)⟩
theorem mkB{X B:Option ρ}{f:FuncId}{fn:Func}{nt:Nat}{rs:List ResultVar}{args:Nat→List AVal}{pre:Nat→List AVal}{er:ρ→AVal}{post:Nat→ρ→List AVal} (hx:X=B) (hf:E.P.funcs[f]?=some fn) (hb:fn.body=some c) (hn:fn.ntmps=nt) (hr:fn.results=rs.toArray) (D:DT) (b:Bool) (w: ∀(r:ρ) (n i:Nat) (m:MS) (R:APost),i<n→RH E rs R b ((i,post i r)::m) n (er r)→True∧B=some r→DD D→Gl (wpd E D c R (args i++List.replicate (nt-(args i).length) .any) ⟨(i,pre i)::m,n⟩)):CB E X f args pre er post:=by
 constructor;intro r n i m Q h hi hQ;subst hn;have e:fn.results.toList=rs:=by rw[hr]
 refine ACall.front hi fun hin=>?_;cases b with | false=>refine MK hf hb (ET (w r n i _ (Jf E fn _) hin ⟨?_⟩ ⟨trivial,hx▸h⟩ ⟨⟩).go);intro af st xs m0 m1 n' h1 h2 h0 h3 h4;subst h0;rw[AM4]at h4;exact⟨Ke (by rw[e];exact h1) h2 ⟨_,rfl,h4▸(hQ n' h3).go⟩,Kc (by rw[e];exact h1) h2 ⟨_,rfl,h4▸(hQ n' h3).go⟩⟩| true=>refine ACall.strip (MK hf hb (ET (w r n i _ (Jf E fn fun r st'=>_) hin ⟨?_⟩ ⟨trivial,hx▸h⟩ ⟨⟩).go));intro af st xs m0 m1 n' h1 h2 h0 h3 h4;subst h0;rw[ANd]at h4;exact⟨Ke (by rw[e];exact h1) h2 ⟨_,rfl,by rw[h4];exact(hQ n' h3).go⟩,Kc (by rw[e];exact h1) h2 ⟨_,rfl,by rw[h4];exact(hQ n' h3).go⟩⟩
theorem AYL{b:Bool}{u v:Option β}{A B:List AVal→St→Prop} (h:T∧(if b=true then u else v)=some r) (a:(b=true∧T)∧u=some r→Gl (A af st)) (a':(b=false∧T)∧v=some r→Gl (B af st)):Gl (NJ (.bool b) A B af st):=by
 rcases H6 h with h|h;·rw[h.1.1,AHj];exact a h
 ·rw[h.1.1,AH0];exact a' h
theorem PU{X:Option ρ}{f:FuncId}{args args':List AVal}{er:ρ→AVal}{y:ρ}{Q:PQ} [i:CF E X f args er] (h:X=some y) (ha:args'=args) (k: ∀n',n≤n'→Gl (Q (er y) ⟨m,n'⟩)):Gl (ACall E f args' ⟨m,n⟩ Q):=⟨ha▸i.go h k⟩
theorem ADk{X:Option ρ}{f:FuncId}{args:Nat→List AVal}{tl:List AVal}{pre:Nat→List AVal}{er:ρ→AVal}{post:Nat→ρ→List AVal}{y:ρ}{Q:PQ}{j:Nat} [i:CB E X f args pre er post] (h:X=some y) (ha: .ptr j 0::tl=args j) (hm:Bv m j=some (pre j)) (k: ∀n',n≤n'→Gl (Q (er y) ⟨CP m j (post j y),n'⟩)):Gl (ACall E f (.ptr j 0::tl) ⟨m,n⟩ Q):=⟨ha▸i.go h hm k⟩
theorem AFm{X:Option ρ}{f:FuncId}{args:Nat→List AVal}{x:AVal}{g:Fn}{pre:Nat→List AVal}{er:ρ→AVal}{post:Nat→ρ→List AVal}{y:ρ}{Q:PQ}{j:Nat} [i:CB E X f args pre er post] (h:X=some y) (ha:[x,.fn g [] [.ptr j 0]]=args j) (hm:Bv m j=some (pre j)) (k: ∀n',n≤n'→Gl (Q (er y) ⟨CP m j (post j y),n'⟩)):Gl (ACall E f [x,.fn g [] [.ptr j 0]] ⟨m,n⟩ Q):=⟨ha▸i.go h hm k⟩
theorem AGG{X:Option ρ}{f:FuncId}{args:Nat→List AVal}{x:AVal}{g:Fn}{pre:Nat→List AVal}{er:ρ→AVal}{post:Nat→ρ→List AVal}{y:ρ}{Q:PQ}{j:Nat} [i:CB E X f args pre er post] (h:X=some y) (ha:[x,.fn g [.ptr j 0] []]=args j) (hm:Bv m j=some (pre j)) (k: ∀n',n≤n'→Gl (Q (er y) ⟨CP m j (post j y),n'⟩)):Gl (ACall E f [x,.fn g [.ptr j 0] []] ⟨m,n⟩ Q):=⟨ha▸i.go h hm k⟩
theorem AYT{f:FuncId}{args:List AVal}{x:AVal}{Q:PQ} [i:XC E f args x] (h:Gl (Q x st)):Gl (RU E f args st Q):=⟨i.go h⟩
theorem AMJ{X:Option ρ}{f:FuncId}{args args':List AVal}{rv:Nat→AVal}{cells:ρ→Nat→List AVal}{y:ρ}{Q:PQ} [i:CN E X f args rv cells] (h:X=some y) (ha:args'=args) (k: ∀i n',n≤i→i<n'→Gl (Q (rv i) ⟨(i,cells y i)::m,n'⟩)):Gl (ACall E f args' ⟨m,n⟩ Q):=⟨ha▸i.go h k⟩
theorem AQL{X:Option ρ}{f:FuncId}{pre:Nat→List AVal}{er:ρ→AVal}{post:Nat→ρ→List AVal}{y:ρ}{Q:PQ}{i j:Nat} [c:CT E X f pre er post] (h:X=some y) (hj:Bv m j=some [.ptr i 0]) (hm:Bv m i=some (pre i)) (hne:i≠j) (k: ∀n',n≤n'→Gl (Q (er y) ⟨CP m i (post i y),n'⟩)):Gl (ACall E f [.ptr j 0] ⟨m,n⟩ Q):=⟨c.go h hj hm hne k⟩
theorem AGY{X:Option ρ}{f:FuncId}{args:Nat→List AVal}{x:AVal}{tl:List AVal}{pre:Nat→List AVal}{er:ρ→AVal}{post:Nat→ρ→List AVal}{y:ρ}{Q:PQ}{j:Nat} [i:CB E X f args pre er post] (h:X=some y) (ha:x:: .ptr j 0::tl=args j) (hm:Bv m j=some (pre j)) (k: ∀n',n≤n'→Gl (Q (er y) ⟨CP m j (post j y),n'⟩)):Gl (ACall E f (x:: .ptr j 0::tl) ⟨m,n⟩ Q):=⟨ha▸i.go h hm k⟩
theorem AE0{X:Option ρ}{f:FuncId}{args:Nat→List AVal}{x y:AVal}{pre:Nat→List AVal}{er:ρ→AVal}{post:Nat→ρ→List AVal}{yy:ρ}{Q:PQ}{j:Nat} [i:CB E X f args pre er post] (h:X=some yy) (ha:[x,y,.ptr j 0]=args j) (hm:Bv m j=some (pre j)) (k: ∀n',n≤n'→Gl (Q (er yy) ⟨CP m j (post j yy),n'⟩)):Gl (ACall E f [x,y,.ptr j 0] ⟨m,n⟩ Q):=⟨ha▸i.go h hm k⟩
theorem AYv{id:Nat}{os:List Oper}{mv:List Tmp}{p:Plan} (hD:DD D) [i:MX E] (hm:UC D id=mv) (hp:ATo D id=p) (hok:F5 (List.toArray os) p false (Array.replicate (List.toArray os).size false) []=true) (h:Gl (FI E mv ⟨os⟩ p [] (nK Q) af st)):Gl (AWp E (.region id (List.toArray os) true) Q af st):=⟨Mx mv p i.ok hok h.go⟩
theorem AY8 (hD:DD D) (h:Gl (wpd E D x (GK (wpd E D y Q) Q) af st)):Gl (AWp E (.seq x y) Q af st):=⟨OB ((ET h.go).mono fun e af' st' _ q=>by cases e<;>first| exact ET q| exact q)⟩
theorem AU4{α:Type}{id:Nat×Nat}{V:α→List AVal}{Ms:α→List BX}{k0:α→Option β}{body:(α→Option β)→Option β} (h:T∧AA k0 body (.b id js cs V Ms)=some r) (hD:DD D) (hid:P7 x=id) (rest: ∀j n',n≤n'→T∧k0 j=some r→Gl (wpd E D y Q (setVals (Be js af) cs (V j)) ⟨reB (Ms j) m,n'⟩)) (first: ∀(k:α→Option β) (J:List AVal→St→Prop),JOK k r js cs V Ms af m n J→T∧body k=some r→Gl (wpd E D x (GK J Q) af ⟨m,n⟩)):Gl (AWp E (.seq x y) Q af ⟨m,n⟩):=by
 refine⟨OB ?_⟩;have key:=ET (first k0 (fun af' st'=>AWp E y Q af' ⟨st'.m,st'.next⟩) ⟨?_⟩ h).go;·exact key.mono fun e af' st' _ q=>by cases e<;>exact q
 ·intro j af' m0 m1 n' h1 h2 h3 h4 h5 h6;subst h3;refine NG (rgs js) ?_;have:=ET (rest j n' h6 ⟨h.1,h1⟩).go;rw[Cq,Cq]at h4;rw[Cq]at h5 this;rw[G6 cs _ _ h4];exact this.wk (WkL.setVals (WkL.refl _) h5) h2
theorem AXu{α:Type}{id:Nat×Nat}{V:α→List AVal}{k0:α→Option β}{body:(α→Option β)→Option β} (h:T∧AA k0 body (.a id js cs V)=some r) (hD:DD D) (hid:P7 x=id) (rest: ∀j n',n≤n'→T∧k0 j=some r→Gl (wpd E D y Q (setVals (Be js af) cs (V j)) ⟨m,n'⟩)) (first: ∀(k:α→Option β) (J:List AVal→St→Prop),JOK k r js cs V (fun _=>[]) af m n J→T∧body k=some r→Gl (wpd E D x (GK J Q) af ⟨m,n⟩)):Gl (AWp E (.seq x y) Q af ⟨m,n⟩):=by refine AU4 (Ms:=fun _=>[]) (k0:=k0) (body:=body) h hD hid (fun j n' hn h=>?_) first;rw[show reB [] m=m from AYE];exact rest j n' hn h
theorem AYN{α:Type}{id:Nat×Nat}{p:Tmp}{V:α→Nat→List AVal}{Ms:α→Nat→List BX}{C:α→Nat→List AVal}{k0:α→Option β}{body:(α→Option β)→Option β} (h:T∧AA k0 body (.n id js cs p V Ms C)=some r) (hD:DD D) (hid:P7 x=id) (rest: ∀j n' g,n≤g∧g<n'→T∧k0 j=some r→Gl (wpd E D y Q (setVals (Be js af) cs (V j g)) ⟨(g,C j g)::reB (Ms j g) m,n'⟩)) (first: ∀(k:α→Option β) (J:List AVal→St→Prop),JNK k r js cs p V Ms C af m n J→True→T∧body k=some r→Gl (wpd E D x (GK J Q) af ⟨m,n⟩)):Gl (AWp E (.seq x y) Q af ⟨m,n⟩):=by
 refine⟨OB ?_⟩;have key:=ET (first k0 (fun af' st'=>AWp E y Q af' ⟨st'.m,st'.next⟩) ⟨?_⟩ trivial h).go;·exact key.mono fun e af' st' _ q=>by cases e<;>exact q
 ·intro j g af' m0 m1 n' h1 h2 h3 h4 h5 h6;subst h3;refine NG (rgs js) ?_;have:=ET (rest j n' g h6 ⟨h.1,h1⟩).go;rw[Cq,Cq]at h4;rw[Cq]at h5 this;rw[G6 cs _ _ h4];exact this.wk (WkL.setVals (WkL.refl _) h5) h2
theorem AZI{α:Type}{p:Tmp}{V:α→Nat→List AVal}{Ms:α→Nat→List BX}{C:α→Nat→List AVal}{k:α→Option β}{v:α} (hj:JNK k r js cs p V Ms C af0 m n J) (h:T∧k v=some r) (h2:SubW ((AGc (af.getD p .any),C v (AGc (af.getD p .any)))::reB (Ms v (AGc (af.getD p .any))) m) m1) (h4:AX cs (Be js af)=AX cs (Be js af0)) (h5:WkL (Bd (Be js af) cs) (V v (AGc (af.getD p .any)))) (h6:n≤AGc (af.getD p .any)∧AGc (af.getD p .any)<n'):Gl (J af ⟨m1,n'⟩):=⟨hj.go v _ af _ m1 n' h.2 h2 rfl h4 h5 h6⟩
theorem AZF{α:Type}{V:α→List AVal}{Ms:α→List BX}{k:α→Option β}{v:α} (hj:JOK k r js cs V Ms af0 m n J) (h:T∧k v=some r) (h2:SubW (reB (Ms v) m) m1) (h4:AX cs (Be js af)=AX cs (Be js af0)) (h5:WkL (Bd (Be js af) cs) (V v)) (h6:n≤n'):Gl (J af ⟨m1,n'⟩):=⟨hj.go v af _ m1 n' h.2 h2 rfl h4 h5 h6⟩
theorem AYB{σ:Type}{V:σ→List AVal}{Ms:σ→List BX}{X:Option β}{G B:Nat→σ→Option β}{k:Nat}{s:σ} [i:LF X G B k s js cs V Ms] (h:T∧X=some r) (hj:LOK G r k js cs V Ms af0 m n J) (h2:SubW (reB (Ms s) m) m1) (h4:AX cs (Be js af)=AX cs (Be js af0)) (h5:WkL (Bd (Be js af) cs) (V s)) (h6:n≤n'):Gl (J af ⟨m1,n'⟩):=⟨hj.go s af _ m1 n' (i.eq▸h.2) h2 rfl h4 h5 h6⟩
theorem AXZ{α σ:Type}{V:Int→σ→List AVal}{Ms:Int→σ→List BX}{X:Option β}{G:List α→Int→σ→Option β}{Bn:Int→σ→Option β}{Bc:α→List α→Int→σ→Option β}{L:List α}{i:Int}{s:σ} [ii:LR X G Bn Bc L i s js cs V Ms] (h:T∧X=some r) (hj:ROK G r L i js cs V Ms af0 m n J) (h2:SubW (reB (Ms i s) m) m1) (h4:AX cs (Be js af)=AX cs (Be js af0)) (h5:WkL (Bd (Be js af) cs) (V i s)) (h6:n≤n'):Gl (J af ⟨m1,n'⟩):=⟨hj.go s af _ m1 n' (ii.eq▸h.2) h2 rfl h4 h5 h6⟩
theorem AYm{R:APost}{rs:List ResultVar}{b:Bool}{r':AVal}{xs:List AVal} (hR:RH E rs R b m n r') (h1:MW E rs af st=some (xs,⟨m1,n'⟩)) (h2:m.Sublist m1) (h4:n≤n') (h5:stp b (Og xs)=r'):Gl (R .ret af st):=⟨(hR.go af st xs m m1 n' h1 h2 rfl h4 h5).1⟩
theorem AZB{R:APost}{rs:List ResultVar}{b:Bool}{r':AVal}{xs:List AVal} (hR:RH E rs R b m n r') (h1:MW E rs af st=some (xs,⟨m1,n'⟩)) (h2:m.Sublist m1) (h4:n≤n') (h5:stp b (Og xs)=r'):Gl (R .normal af st):=⟨(hR.go af st xs m m1 n' h1 h2 rfl h4 h5).2⟩
theorem AWb{v:β} (h:T∧some v=some r):T∧v=r:=⟨h.1,aQ h.2⟩
theorem AXo{σ:Type}{V:σ→List AVal}{Ms:σ→List BX}{X:Option β}{G B:Nat→σ→Option β}{k:Nat}{s:σ} [i:LF X G B k s js cs V Ms] (h:T∧X=some r) (hD:DD D) (hm:SubW (reB (Ms s) m) m) (hv:WkL (Bd (Be js af) cs) (V s)) (round: ∀k s n',n≤n'→T∧B k s=some r→∀J,LOK G r k js cs V Ms af m n' J→Gl (wpd E D c (GK J Q) (setVals (Be js af) cs (V s)) ⟨reB (Ms s) m,n'⟩)):Gl (AWp E (.loop c) Q af ⟨m,n⟩):=by
 rw[Cq]at hv;refine⟨O8 (rgs js) cs (fun k vs st'=>∃s,vs=V s∧st'.m=reB (Ms s) m∧n≤st'.next∧G k s=some r) k hv hm ⟨s,rfl,rfl,ao _,i.eq▸h.2⟩ ?_⟩;rintro k vs ⟨m',n'⟩ ⟨s,rfl,hm',hn,hG⟩ J hJ;simp only at hm' hn;subst hm';cases k with
 |zero=>rw[i.z]at hG;cases hG
 | succ k=>
  have key:=fun hJ'=>ET (round k s n' hn ⟨h.1,i.u k s▸hG⟩ J hJ').go;rw[Cq]at key;refine(key ⟨fun s' af' m0 m1 n'' h1 h2 h3 h4 h5 h6=>?_⟩).mono fun e af' st' _ q=>by cases e<;>first| exact JM q| exact .oth eU q
  subst h3;rw[Cq,Cq]at h4;rw[Cq]at h5;exact hJ k af' ⟨m1,n''⟩ _ _ (ef _) h2 h4 h5 ⟨s',rfl,rfl,bB hn h6,h1⟩
theorem AQk{α σ:Type}{V:Int→σ→List AVal}{Ms:Int→σ→List BX}{X:Option β}{G:List α→Int→σ→Option β}{Bn:Int→σ→Option β}{Bc:α→List α→Int→σ→Option β}{L:List α}{s:σ} [ii:LR X G Bn Bc L 0 s js cs V Ms] (h:T∧X=some r) (hD:DD D) (hL:AL L.length) (hm:SubW (reB (Ms 0 s) m) m) (hv:WkL (Bd (Be js af) cs) (V 0 s)) (rnil: ∀i s n',n≤n'→(decide (i<(L.length:Int))=false∧T)∧Bn i s=some r→Gl (wpd E D c (GK (fun _ _=>False) Q) (setVals (Be js af) cs (V i s)) ⟨reB (Ms i s) m,n'⟩)) (rcons: ∀x xs i s n',n≤n'→(decide (i<(L.length:Int))=true∧idx L i=some x∧wr .i64 (i+1)=i+1∧T)∧Bc x xs i s=some r→∀J,ROK G r xs (i+1) js cs V Ms af m n' J→Gl (wpd E D c (GK J Q) (setVals (Be js af) cs (V i s)) ⟨reB (Ms i s) m,n'⟩)):Gl (AWp E (.loop c) Q af ⟨m,n⟩):=by
 rw[Cq]at hv;refine⟨O8 (rgs js) cs (fun k vs st'=>∃pre suf s,L=pre++suf∧k=suf.length∧vs=V pre.length s∧st'.m=reB (Ms pre.length s) m∧n≤st'.next∧G suf pre.length s=some r) L.length hv hm ⟨[],L,s,rfl,rfl,rfl,rfl,ao _,ii.eq▸h.2⟩ ?_⟩;rintro k vs ⟨m',n'⟩ ⟨pre,suf,s,hp,rfl,rfl,hm',hn,hG⟩ J hJ;simp only at hm' hn;subst hm';cases suf with
 | nil=>have key:=ET (rnil _ s n' hn ⟨⟨by rw[hp];simp,h.1⟩,ii.un _ s▸hG⟩).go;rw[Cq]at key;exact key.mono fun e af' st' _ q=>by cases e<;>first| exact q.elim| exact .oth eU q
 | cons x xs=>
  obtain⟨f1,f2,f3⟩:=ALD hp hL;have key:=fun hJ'=>ET (rcons x xs _ s n' hn ⟨⟨f1,f2,f3,h.1⟩,ii.uc x xs _ s▸hG⟩ J hJ').go;rw[Cq]at key;refine(key ⟨fun s' af' m0 m1 n'' h1 h2 h3 h4 h5 h6=>?_⟩).mono fun e af' st' _ q=>by cases e<;>first| exact JM q| exact .oth eU q
  have e1:((pre.length:Int)+1)=((pre++[x]).length:Int):=eU;rw[e1]at h1 h3 h5;subst h3;rw[Cq,Cq]at h4;rw[Cq]at h5;exact hJ xs.length af' ⟨m1,n''⟩ _ _ eU h2 h4 h5 ⟨pre++[x],xs,s',by rw[hp];simp,rfl,rfl,rfl,bB hn h6,h1⟩
theorem AX5{α σ:Type}{V:Int→σ→List AVal}{Ms:Int→σ→List BX}{X:Option β}{G:List α→Int→σ→Option β}{Bn:Int→σ→Option β}{Bc:α→List α→Int→σ→Option β}{L:List α}{i:Int}{s:σ} [ii:LQ X G Bn Bc L s js cs V Ms] (h:T∧X=some r) (hj:ROK G r L i js cs V Ms af0 m n J) (h2:SubW (reB (Ms i s) m) m1) (h4:AX cs (Be js af)=AX cs (Be js af0)) (h5:WkL (Bd (Be js af) cs) (V i s)) (h6:n≤n'):Gl (J af ⟨m1,n'⟩):=⟨hj.go s af _ m1 n' (ii.eq i▸h.2) h2 rfl h4 h5 h6⟩
theorem AWk{α σ:Type}{V:Int→σ→List AVal}{Ms:Int→σ→List BX}{X:Option β}{G:List α→Int→σ→Option β}{Bn:Int→σ→Option β}{Bc:α→List α→Int→σ→Option β}{L:List α}{s:σ} [ii:LQ X G Bn Bc L s js cs V Ms] (h:T∧X=some r) (hD:DD D) (hL:AL L.length) (hm:SubW (reB (Ms 0 s) m) m) (hv:WkL (Bd (Be js af) cs) (V 0 s))
    (rnil: ∀i s n',n≤n'→(decide (i<(L.length:Int))=false∧T)∧Bn i s=some r→Gl (wpd E D c (GK (fun _ _=>False) Q) (setVals (Be js af) cs (V i s)) ⟨reB (Ms i s) m,n'⟩))
    (rcons: ∀x xs i s n',n≤n'→(decide (i<(L.length:Int))=true∧idx L i=some x∧wr .i64 (i+1)=i+1∧T)∧Bc x xs i s=some r→ ∀J,ROK G r xs (i+1) js cs V Ms af m n' J→Gl (wpd E D c (GK J Q) (setVals (Be js af) cs (V i s)) ⟨reB (Ms i s) m,n'⟩)):Gl (AWp E (.loop c) Q af ⟨m,n⟩):=
  haveI:LR X G Bn Bc L 0 s js cs V Ms:=⟨ii.eq 0,ii.un,ii.uc⟩
  AQk h hD hL hm hv rnil rcons
theorem AXp{σ:Type}{V:Int→σ→List AVal}{Ms:Int→σ→List BX}{X:Option β}{G:Nat→Int→σ→Option β}{Bn:Int→σ→Option β}{Bc:Nat→Int→σ→Option β}{k:Nat}{i:Int}{s:σ} [ii:LC X G Bn Bc k i s js cs V Ms] (h:T∧X=some r) (hj:COK G r k i js cs V Ms af0 m n J) (h2:SubW (reB (Ms i s) m) m1) (h4:AX cs (Be js af)=AX cs (Be js af0)) (h5:WkL (Bd (Be js af) cs) (V i s)) (h6:n≤n'):Gl (J af ⟨m1,n'⟩):=⟨hj.go s af _ m1 n' (ii.eq▸h.2) h2 rfl h4 h5 h6⟩
theorem AYM{σ:Type}{V:Int→σ→List AVal}{Ms:Int→σ→List BX}{X:Option β}{G:Nat→Int→σ→Option β}{Bn:Int→σ→Option β}{Bc:Nat→Int→σ→Option β}{k:Nat}{i:Int}{s:σ} [ii:LU X G Bn Bc k s js cs V Ms] (h:T∧X=some r) (hj:COK G r k i js cs V Ms af0 m n J) (h2:SubW (reB (Ms i s) m) m1) (h4:AX cs (Be js af)=AX cs (Be js af0)) (h5:WkL (Bd (Be js af) cs) (V i s)) (h6:n≤n'):Gl (J af ⟨m1,n'⟩):=⟨hj.go s af _ m1 n' (ii.eq i▸h.2) h2 rfl h4 h5 h6⟩
theorem ANB{σ:Type}{V:Int→σ→List AVal}{Ms:Int→σ→List BX}{X:Option β}{G:Nat→Int→σ→Option β}{Bn:Int→σ→Option β}{Bc:Nat→Int→σ→Option β}{i0 b:Int}{s:σ} [ii:LC X G Bn Bc (b-i0).toNat i0 s js cs V Ms] (h:T∧X=some r) (hD:DD D) (hL: -4611686018427387904≤i0∧b≤4611686018427387904) (hm:SubW (reB (Ms i0 s) m) m) (hv:WkL (Bd (Be js af) cs) (V i0 s)) (rnil: ∀i s n',n≤n'→(decide (i<b)=false∧T)∧Bn i s=some r→Gl (wpd E D c (GK (fun _ _=>False) Q) (setVals (Be js af) cs (V i s)) ⟨reB (Ms i s) m,n'⟩)) (rcons: ∀k i s n',n≤n'→(decide (i<b)=true∧wr .i64 (i+1)=i+1∧T)∧Bc k i s=some r→∀J,COK G r k (i+1) js cs V Ms af m n' J→Gl (wpd E D c (GK J Q) (setVals (Be js af) cs (V i s)) ⟨reB (Ms i s) m,n'⟩)):Gl (AWp E (.loop c) Q af ⟨m,n⟩):=by
 rw[Cq]at hv;refine⟨O8 (rgs js) cs (fun k vs st'=>∃i s,i0≤i∧k=(b-i).toNat∧vs=V i s∧st'.m=reB (Ms i s) m∧n≤st'.next∧G k i s=some r) (b-i0).toNat hv hm ⟨i0,s,be _,rfl,rfl,rfl,ao _,ii.eq▸h.2⟩ ?_⟩;rintro k vs ⟨m',n'⟩ ⟨i,s,hi,hk',rfl,hm',hn,hG⟩ J hJ;simp only at hm' hn;subst hm';cases k with
 | zero=>have key:=ET (rnil _ s n' hn ⟨⟨by simp only[bP];omega,h.1⟩,ii.un _ s▸hG⟩).go;rw[Cq]at key;exact key.mono fun e af' st' _ q=>by cases e<;>first| exact q.elim| exact .oth eU q
 | succ k=>
  have hw:wr .i64 (i+1)=i+1:=by simp[wr,IntKind.wrap,IntKind.bits,IntKind.signed];omega
  have key:=fun hJ'=>ET (rcons k i s n' hn ⟨⟨by simp only[al];omega,hw,h.1⟩,ii.uc k i s▸hG⟩ J hJ').go;rw[Cq]at key;refine(key ⟨fun s' af' m0 m1 n'' h1 h2 h3 h4 h5 h6=>?_⟩).mono fun e af' st' _ q=>by cases e<;>first| exact JM q| exact .oth eU q
  subst h3;rw[Cq,Cq]at h4;rw[Cq]at h5;exact hJ k af' ⟨m1,n''⟩ _ _ eU h2 h4 h5 ⟨i+1,s',eT,eT,rfl,rfl,bB hn h6,h1⟩
theorem AWy{σ:Type}{V:Int→σ→List AVal}{Ms:Int→σ→List BX}{X:Option β}{G:Nat→Int→σ→Option β}{Bn:Int→σ→Option β}{Bc:Nat→Int→σ→Option β}{i0 b:Int}{s:σ} [ii:LU X G Bn Bc (b-i0).toNat s js cs V Ms] (h:T∧X=some r) (hD:DD D) (hL: -4611686018427387904≤i0∧b≤4611686018427387904) (hm:SubW (reB (Ms i0 s) m) m) (hv:WkL (Bd (Be js af) cs) (V i0 s))
    (rnil: ∀i s n',n≤n'→(decide (i<b)=false∧T)∧Bn i s=some r→Gl (wpd E D c (GK (fun _ _=>False) Q) (setVals (Be js af) cs (V i s)) ⟨reB (Ms i s) m,n'⟩))
    (rcons: ∀k i s n',n≤n'→(decide (i<b)=true∧wr .i64 (i+1)=i+1∧T)∧Bc k i s=some r→ ∀J,COK G r k (i+1) js cs V Ms af m n' J→Gl (wpd E D c (GK J Q) (setVals (Be js af) cs (V i s)) ⟨reB (Ms i s) m,n'⟩)):Gl (AWp E (.loop c) Q af ⟨m,n⟩):=
  haveI:LC X G Bn Bc (b-i0).toNat i0 s js cs V Ms:=⟨ii.eq i0,ii.un,ii.uc⟩
  ANB h hD hL hm hv rnil rcons
theorem AXn{G:Prop} (h:T∧(none:Option β)=some r):G:=by cases h.2
theorem AY5{α:Type}{u:α}{f:α→Option β} (h:T∧letL u f=some r): ∃y,u=y∧T∧f y=some r:=⟨u,rfl,h⟩
theorem AYF{α:Type}{l:List α}{i:Int}{f:α→Option β} (h:T∧Option.bind (idx l i) f=some r): ∃y,(idx l i=some y∧T)∧f y=some r:=D7 h
theorem AYS{α:Type}{l:List α}{i j:Int}{f:List α→Option β} (h:T∧Option.bind (sub l i j) f=some r): ∃y,(sub l i j=some y∧T)∧f y=some r:=D7 h
theorem isW (x:Gl (wpd E D c K af st)):Gl (wpd E D c K af st):=x
theorem isC{f:FuncId}{args:List AVal}{Q:PQ} (x:Gl (ACall E f args st Q)):Gl (ACall E f args st Q):=x
theorem isA (x:Gl (AWp E c K af st)):Gl (AWp E c K af st):=x
end rules
end Go.VM
namespace Go.VM
theorem tD{G:Prop} (x:G:=by first|(simp(disch:=omega) only[vm,seval,h.1];done)|rfl):G:=x
theorem tR{G:Prop} (x:G:=by
 obtain⟨H,h⟩:=h;cases h;simp(disch:= omega) only[vm,seval,H];refine⟨(hR _ _ _ _ _ _ (by simp(disch:= omega) only[vm,seval,H];rfl) ?_ rfl eT ?_).1⟩;·first| ((repeat (first| exact bG _| apply ci));done)| (simp(disch:= omega) only[vm,seval,H];(repeat (first| exact bG _| apply ci));done)
 ·first| (simp(disch:= omega) only[vm,seval,H];done)| rfl):G:=x
theorem tJ{A G:Prop} (a:A) (x:A→G:=by
  intro hz
  simp(disch:=omega) only[vm,seval,h.1]
  refine⟨hz _ _ _ _ h.2 ?_ rfl ?_ ?_ eT⟩
  · first|((repeat (first|exact bG _|apply ci));done)|(simp(disch:=omega) only[vm,seval,h.1];(repeat (first|exact bG _|apply ci));done)
  all_goals first|(simp(disch:=omega) only[vm,seval,h.1];done)|rfl):G:=x a
end Go.VM
