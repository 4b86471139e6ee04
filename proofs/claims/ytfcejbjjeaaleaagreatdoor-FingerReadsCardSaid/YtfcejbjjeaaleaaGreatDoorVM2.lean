import Derived.Laws.RangeString
import Derived.Laws.RangeAny
import Derived.Lib.OthersKept
import Derived.Lib.MakeNoZero
import Derived.Test.YtfcejbjjeaaleaaGreatDoorVM4
import Derived.Scope
set_option linter.defProp false
set_option linter.unusedSimpArgs false
set_option linter.unusedVariables false
namespace Go.VM
def Q8 (mv:List Tmp) (dst:Option Tmp):Bool:=match dst with|some d=>mv.contains d|none=>false
def Dx (s:B8) (pos:Nat):Nat×Nat:=Utf8.decode ⟨s.toArray⟩ pos
def AFg (s:B8) (pos:Nat) (t:Tmp) (d:Option Tmp) (af:List AVal):List AVal:=if decide (pos<s.length)=true then BN (af.set t (.iter s (pos+(Dx s pos).2))) d (.tuple [.bool true,.int .i64 pos,.int .i32 (Dx s pos).1]) else BN af d (.tuple [.bool false])
def Fv (E:Env) (mv:List Tmp) (o:Oper) (af:List AVal) (st:St):Option (List AVal×St):=match o.op with
 |.move x=>if Q8 mv o.dst=true then some (BN (stripAt af x) o.dst (rd E af o.type x),st)else some (BN af o.dst (rd E af o.type x).strip,st)
 |.assign x=>some (BN (stripAt af x) o.dst (rd E af o.type x),st)
 |.alloc t=>(if Q8 mv o.dst=true then WU E.P t st.next else Eh E.P t st.next).map λcs=>(BN af o.dst (.ptr st.next 0),{m:=(st.next,cs)::st.m,next:=st.next+1})
 |.box t x=>if Ei (rd E af t x)=true then some (BN (stripAt af x) o.dst (.ptr st.next 0),{m:=(st.next,Ai (rd E af t x))::st.m,next:=st.next+1})else none
 |.build t ⟨ps⟩=>(Ue E t (Bf E (Ab E.P t) af ps).2).map λr=>(BN (Bf E (Ab E.P t) af ps).1 o.dst r,st)
 | .buildSlice t len ⟨ps⟩=>if Q8 mv o.dst=true then(Jb E t len (Bf E (λ_=>Ab E.P t 0) af ps).2).map λp=>(BN (Bf E (λ_=>Ab E.P t 0) af ps).1 o.dst (.gsl p.1 st.next len),{m:=(st.next,p.2)::st.m,next:=st.next+1}) else(Iz E t len (Bf E (λ_=>Ab E.P t 0) af ps).2).map λr=>(BN af o.dst r,st)
 | .load t x=>if Q8 mv o.dst=true then(R6 E t (rd E af 0 x) st).map λp=>(BN af o.dst p.1,p.2) else(SQ E t (rd E af 0 x) st).map λr=>(BN af o.dst r.strip,st)
 |.store t x y=>if o.dst.isNone=true then(Pm E t (rd E af 0 x) (rd E af t y) st).map λst'=>(stripAt af y,st')else none
 | .extract (.tmp t) n=>match af.getD t .any with |.tuple vs=>(vs[n]?).map λr=>(BN (af.set t (.tuple (vs.set n r.strip))) o.dst r,st)|_=>none
 | .range t x=>match rd E af t x with |.str s=>if EW E.P t=true then some (BN af o.dst (.iter s 0),st)else none|_=>none
 | .next (.tmp t) true=>match af.getD t .any with |.iter s pos=>some (AFg s pos t o.dst af,st)|_=>none
 | .slice t x lo hi mx=>match rdo E af lo,rdo E af hi,rdo E af mx with |some l,some h,some m=>(G7 E t (rd E af t x) l h m).map λr=>(BN af o.dst r,st)|_,_,_=>none
 | .call {callee:=.builtin .append,args:=⟨[x,y]⟩,argTypes:=⟨t0::t1::_⟩}=>if Q8 mv o.dst=true then(QH E t0 t1 (rd E af t0 x) (rd E af t1 y)).map λr=>(BN (stripAt af x) o.dst (.sh st.next),{m:=(st.next,[r])::st.m,next:=st.next+1}) else(Jq E t0 t1 (rd E af t0 x) (rd E af t1 y)).map λr=>(BN (stripAt af x) o.dst r,st)
 |.makeMap t none=>some (BN af o.dst (.sh st.next),{m:=(st.next,[.map [] []])::st.m,next:=st.next+1})
 |.lookup t m k ok=>(Qw E t (rd E af t m) (rd E af 0 k) ok st).map λr=>(BN af o.dst r,st)
 |.mapUpdate t m k x=>if o.dst.isNone=true then(Vp E t (rd E af t m) (rd E af 0 k) (rd E af 0 x) st).map λst'=>(af,st')else none
 |.insert t m k x=>if o.dst.isNone=true then(Vp E t (rd E af t m) (rd E af 0 k) (rd E af 0 x) st).map λst'=>(af,st')else none
 | .indexAddr t x i=>match Ea E o af with |some r=>some (BN af o.dst r.strip,st)|none=>(Kl E t (rd E af t x) (rd E af 0 i) st).map λr=>(BN af o.dst r,st)
 |.makeSlice t x y=>(if Q8 mv o.dst=true then Xx E t (rd E af 0 x) (rd E af 0 y) st else Yr E t (rd E af 0 x) (rd E af 0 y) st).map λp=>(BN af o.dst p.1,p.2)
 | .convert s d x=>match Ea E o af with |some r=>some (BN af o.dst r.strip,st)| none=>match UN E s d (rd E af s x) st with |some r=>some (BN af o.dst r,st)|none=>(SG E s d (rd E af s x) st).map λp=>(BN af o.dst p.1,p.2)
 |.call {callee:=.builtin .unsafeSliceData,args:=⟨[x]⟩,argTypes:=⟨t0::_⟩}=>(Uj (rd E af t0 x)).map λr=>(BN (stripAt af x) o.dst r,st)
 |.call {callee:=.builtin .unsafeString,args:=⟨[x,y]⟩,argTypes:=⟨[t0,t1]⟩}=>(Yc E t0 (rd E af t0 x) (rd E af t1 y)).map λr=>(BN (stripAt af x) o.dst r,st)
 |_=>(Ea E o af).map λr=>(BN af o.dst r.strip,st)
section
variable{E:Env}{F:Nat->Nat}{Γ:Ghost}{st:St}{w:World}{af:List AVal}{a:Act}
theorem Acd (vs:List Value) (t:Nat) (d:Value):vs.set t (vs.getD t d)=vs:=by apply cE;grind
def Sim.newIter (hs:Sim E F Γ st w af a.tmps.toList) (sb:ByteArray) (p:Nat):Sim E F Γ st (w.iter sb p) af a.tmps.toList/\Ext F Γ w Γ (w.iter sb p):=by
 have hold: ∀n,n<w.heap.size->(w.iter sb p).heap[n]?=w.heap[n]?:=λn hn=>alloc_old (.stringIter sb p) hn;have hsz:(w.iter sb p).heap.size=w.heap.size+1:=by simp[World.iter]
 refine⟨hs.elsewhere (b:=w.heap.size) (λn hn _=>hold n hn) fG (hs.com_none (aw _)) (λi hi h=>?_) ?_ ?_,⟨Γ.le_refl,λn hn=>⟨hold n (hs.F_of hn),rfl⟩,fG,rfl,rfl,rfl⟩⟩;·have:=hs.bx_lt _ _ h;omega
 ·rcases aV 0 (AP w.heap.size af a.tmps.toList)with h|h;·have:=(Ca _ _ hs.own h).1;omega
  omega
 ·rcases aV 0 (A7 Γ w w.heap.size st.m)with h|h;·have:=ABP hs h;omega
  omega
def Sim.iterTo (hs:Sim E F Γ st w af a.tmps.toList){t:Tmp}{s:B8}{pos:Nat} (hx:af.getD t .any=.iter s pos){b:Nat}{sb:ByteArray} (hv:a.tmps.toList.getD t undef=.pointer (some ⟨b,0,none⟩)) (hsb:sb.data.toList=s) (hh:w.heap[b]?=some (.stringIter sb pos)) (pos':Nat):Sim E F Γ st (w.iterAt b sb pos') (af.set t (.iter s pos')) a.tmps.toList/\Ext F Γ w Γ (w.iterAt b sb pos'):=by
 have e:=O6 b af a.tmps.toList t undef hs.rep.length;rw[hx,hv]at e;have e1:cnt b (.iter s pos) (.pointer (some ⟨b,0,none⟩))=1:=by simp[cnt,Rk]
 rw[e1]at e;have e2:(AVal.iter s pos).strip=.any:=by simp[AVal.strip]
 rw[e2]at e;have tk:=hs.tok b;have hlt:b<w.heap.size:=(bb.1 hh).1;have hold: ∀n,n≠b->(w.iterAt b sb pos').heap[n]?=w.heap[n]?:=λn hn=>by grind[World.iterAt]
 have hsz:(w.iterAt b sb pos').heap.size=w.heap.size:=by simp[World.iterAt]
 have hnew:(w.iterAt b sb pos').heap[b]?=some (.stringIter sb pos'):=by grind[World.iterAt]
 have hs0:Sim E F Γ st w (af.set t .any) a.tmps.toList:=by have:=hs.stripAt (.tmp t);grind[VM.stripAt]
 have hcom:Γ.com b=none:=by cases hc:Γ.com b with |none=>rfl|some cs=>obtain⟨ar,e',fz,q2,_⟩:=hs.com_ok b cs hc;grind
 have s1:Sim E F Γ st (w.iterAt b sb pos') (af.set t .any) a.tmps.toList:=hs0.elsewhere (b:=b) (λn _ hn=>hold n hn) fG hcom (λi hi h=>by
  obtain⟨p,hp,rfl⟩:=bz.1 hi;rcases hs.box_ok p hp with⟨k,ar,e',hb⟩|⟨v,hv⟩;rotate_left;·have:=hv.bx;grind
  obtain⟨lo,hh2,q3,_⟩:=hb.heap;have:=hb.bx;grind) fG fG;refine⟨?_,⟨Γ.le_refl,λn hn=>⟨hold n (λe=>by grind),rfl⟩,fG,rfl,rfl,rfl⟩⟩;have hset:a.tmps.toList=a.tmps.toList.set t (.pointer (some ⟨b,0,none⟩)):=by grind[Acd]
 have hss:af.set t (.iter s pos')=(af.set t .any).set t (.iter s pos'):=fH;rw[hss];have h5: ∀n,AP n ((af.set t .any).set t (.iter s pos')) a.tmps.toList<=AP n (af.set t .any) a.tmps.toList+cnt n (.iter s pos') (.pointer (some ⟨b,0,none⟩)):=λn=>by grind[Jj]
 refine {s1 with rep:=?_,own:=?_,tok:=?_};·have:=s1.rep.set t (x:=.iter s pos') (v:=.pointer (some ⟨b,0,none⟩)) (.iter _ _ _);grind
 ·have:=s1.own.set t (x:=.iter s pos') (v:=.pointer (some ⟨b,0,none⟩)) (by simp only[VM.own];exact⟨b,sb,rfl,hsb,hnew⟩);grind
 ·intro n;have q1:=h5 n;have q2:=s1.tok n;by_cases hn:n=b
  ·subst hn;have q3:A7 Γ (w.iterAt n sb pos') n st.m=0:=by
    rw[Gu (w:=w) λp hp=>⟨rfl,λk hk=>hold k (λe=>by
     subst e;rcases hs.box_ok p hp with⟨k2,ar,e',hb⟩|⟨v,hv⟩;rotate_left;·have:=hv.bx;grind
     obtain⟨lo,hh2,q3,_⟩:=hb.heap;have:=hb.bx;grind)⟩];omega
   grind[cnt,Rk]
  grind[cnt,Rk]
def ABA{b:ByteArray}{s:B8} (h:b.data.toList=s):b=⟨s.toArray⟩:=by subst h;simp
theorem AUI (hs:Sim E F Γ st w af a.tmps.toList){o:Oper}{t:TypeId}{x:Operand}{s:B8} (hop:o.op=.range t x) (hx:rd E af t x=.str s) (ht:EW E.P t=true):∃nx w' a' Γ',Stepped E F Γ st w a o (BN af o.dst (.iter s 0)) st nx w' a' Γ':=by
 have hr:=hs.rd t x;rw[hx]at hr;generalize hv:a.eval x=v at hr;cases hr;rename_i sb hn;have hrun:=run_range_string (P:=E.P) w t sb (DU ht);refine⟨.value (.pointer (some ⟨w.heap.size,0,none⟩)),w.iter sb 0,a.put o.dst (.pointer (some ⟨w.heap.size,0,none⟩)),Γ,?_,λK Q hk=>hk,put_defers _ _ _,?_,aw _,?_⟩;·simp_all[execOp]
 ·exact(hs.newIter sb 0).2
 ·refine(hs.newIter sb 0).1.put o.dst (.iter _ _ _) ?_ ?_;·simp only[VM.own];exact⟨_,sb,rfl,rfl,World.iter_heap w sb 0⟩
  ·intro b;have h1:=hs.tok b;have h2:=(hs.newIter sb 0).1.tok b;simp only[cnt,Rk];split
   ·rename_i e;have h3:F b=0:=hs.F_lt b fG;have h4:AP b af a.tmps.toList=0:=by
     rcases aV 0 (AP b af a.tmps.toList)with h|h;·have:=(Ca _ _ hs.own h).1;omega
     omega
    have h5:A7 Γ (w.iter sb 0) b st.m=0:=by
     rw[Gu (Γ:=Γ) (w:=w) (w':=w.iter sb 0) λp hp=>⟨rfl,λk hk=>alloc_old (.stringIter sb 0) (hs.bx_lt _ _ hk)⟩];rcases aV 0 (A7 Γ w b st.m)with h|h;·have:=ABP hs h;omega
     omega
    omega
   omega
theorem Aar (hs:Sim E F Γ st w af a.tmps.toList){o:Oper}{t:Tmp}{s:B8}{pos:Nat} (hop:o.op=.next (.tmp t) true) (hx:af.getD t .any=.iter s pos):∃nx w' a' Γ',Stepped E F Γ st w a o (AFg s pos t o.dst af) st nx w' a' Γ':=by
 have ho:=hs.own.get hs.rep.length t undef;rw[hx]at ho;simp only[VM.own]at ho;obtain⟨b,sb,hv,hsb,hh⟩:=ho;have hev:a.eval (.tmp t)=.pointer (some ⟨b,0,none⟩):=by grind[Act.eval,Array.getD_toList']
 have hlen:sb.size=s.length:=by rw[<-hsb,aJ];rfl
 unfold AFg;split
 ·rename_i hlt;have hlt:pos<sb.size:=by grind
  have hrun:=Go.Lib.run_next_any_at (P:=E.P) w b sb pos o.type hh hlt;have hde:Utf8.decode sb pos=Dx s pos:=by rw[ABA hsb];rfl
  rw[hde]at hrun;obtain⟨s1,x1⟩:=hs.iterTo (t:=t) hx hv hsb hh (pos+(Dx s pos).2);refine⟨.value (.tuple #[.bool true,.int .i64 pos,.int .i32 (Dx s pos).1]),w.iterAt b sb (pos+(Dx s pos).2),a.put o.dst (.tuple #[.bool true,.int .i64 pos,.int .i32 (Dx s pos).1]),Γ,?_,λK Q hk=>hk,put_defers _ _ _,x1,aw _,?_⟩;·simp_all[execOp]
  ·refine s1.put o.dst (r:=.tuple [.bool true,.int .i64 pos,.int .i32 (Dx s pos).1]) (.tuple (.cons (.bool _) (.cons (.int _ _) (.cons (.int _ _) .nil)))) (by simp[VM.own,ownL]) λn=>?_;have:=s1.tok n;grind[cnt,AP]
 ·rename_i hlt;have hlt: ¬pos<sb.size:=by grind
  have hrun:=Go.Lib.run_next_end_at (P:=E.P) w b sb pos o.type hh hlt;refine⟨.value (.tuple #[.bool false]),w,a.put o.dst (.tuple #[.bool false]),Γ,?_,λK Q hk=>hk,put_defers _ _ _,Ext.refl _ _ _,aw _,?_⟩;·simp_all[execOp]
  ·refine hs.put o.dst (r:=.tuple [.bool false]) (.tuple (.cons (.bool _) .nil)) (by simp[VM.own,ownL]) λn=>?_;have:=hs.tok n;grind[cnt,AP]
def Sy (hs:Sim E F Γ st w af a.tmps.toList){mv:List Tmp}{o:Oper}{af':List AVal}{st':St} (h:Fv E mv o af st=some (af',st')):∃nx w' a' Γ',Stepped E F Γ st w a o af' st' nx w' a' Γ':=by
 unfold Fv at h;split at h
 ·rename_i x hop;split at h;·simp only[al,aD]at h;obtain⟨rfl,rfl⟩:=h;grind[AGK]
  ·simp only[al,aD]at h;obtain⟨rfl,rfl⟩:=h;exact⟨.value (a.eval x),w,a.put o.dst (a.eval x),Γ,by simp[execOp,hop],λK Q hk=>hk,put_defers _ _ _,Ext.refl _ _ _,aw _,hs.putStrip o.dst (hs.rd o.type x)⟩
 ·rename_i x hop;simp only[al,aD]at h;obtain⟨rfl,rfl⟩:=h;exact AGK hs (.inr hop)
 ·rename_i t hop;split at h;·cases hz:WU E.P t st.next with |none=>grind| some z=>simp only[hz,aR,al,aD]at h;obtain⟨rfl,rfl⟩:=h;grind[APx]
  ·cases hz:Eh E.P t st.next with |none=>grind| some z=>simp only[hz,aR,al,aD]at h;obtain⟨rfl,rfl⟩:=h;grind[ATc]
 ·rename_i t x hop;split at h;·rename_i hx;simp only[al,aD]at h;obtain⟨rfl,rfl⟩:=h;grind[ATk]
  grind
 ·rename_i t ps hop;cases hz:Ue E t (Bf E (Ab E.P t) af ps).2 with |none=>grind| some z=>simp only[hz,aR,al,aD]at h;obtain⟨rfl,rfl⟩:=h;grind[AVZ]
 ·rename_i t len ps hop;split at h;·cases hz:Jb E t len (Bf E (λ_=>Ab E.P t 0) af ps).2 with |none=>grind| some z=>obtain⟨z,cs⟩:=z;simp only[hz,aR,al,aD]at h;obtain⟨rfl,rfl⟩:=h;grind[Zh]
  cases hz:Iz E t len (Bf E (λ_=>Ab E.P t 0) af ps).2 with |none=>grind| some z=>simp only[hz,aR,al,aD]at h;obtain⟨rfl,rfl⟩:=h;grind[AAy]
 ·rename_i t x hop;split at h;·cases hz:R6 E t (rd E af 0 x) st with |none=>grind| some z=>obtain⟨r,s⟩:=z;simp only[hz,aR,al,aD]at h;obtain⟨rfl,rfl⟩:=h;grind[AQl]
  ·cases hz:SQ E t (rd E af 0 x) st with |none=>grind| some z=>simp only[hz,aR,al,aD]at h;obtain⟨rfl,rfl⟩:=h;grind[Aat]
 ·rename_i t x y hop;split at h;·rename_i hd;cases hz:Pm E t (rd E af 0 x) (rd E af t y) st with |none=>grind| some z=>simp only[hz,aR,al,aD]at h;obtain⟨rfl,rfl⟩:=h;exact ATl hs hop (by simp_all) hz
  grind
 ·rename_i t n hop;split at h;·rename_i vs hv;cases hz:vs[n]? with |none=>grind| some z=>simp only[hz,aR,al,aD]at h;obtain⟨rfl,rfl⟩:=h;exact AJt hs hop hv hz
  grind
 ·rename_i t x hop;split at h
  ·rename_i s hx;split at h;·rename_i ht;simp only[al,aD]at h;obtain⟨rfl,rfl⟩:=h;grind[AUI]
   grind
  grind
 ·rename_i t hop;split at h;·rename_i s pos hx;simp only[al,aD]at h;obtain⟨rfl,rfl⟩:=h;grind[Aar]
  grind
 ·rename_i t x lo hi mx hop;split at h;·rename_i l hh m h1 h2 h3;cases hz:G7 E t (rd E af t x) l hh m with |none=>grind| some z=>simp only[hz,aR,al,aD]at h;obtain⟨rfl,rfl⟩:=h;grind[ATv]
  grind
 ·rename_i x y t0 t1 ts hop;split at h;·cases hz:QH E t0 t1 (rd E af t0 x) (rd E af t1 y)with |none=>grind| some z=>simp only[hz,aR,al,aD]at h;obtain⟨rfl,rfl⟩:=h;grind[AIX]
  cases hz:Jq E t0 t1 (rd E af t0 x) (rd E af t1 y)with |none=>grind| some z=>simp only[hz,aR,al,aD]at h;obtain⟨rfl,rfl⟩:=h;grind[APe]
 ·rename_i t hop;simp only[al,aD]at h;obtain⟨rfl,rfl⟩:=h;grind[AHQ]
 ·rename_i t m k ok hop;cases hz:Qw E t (rd E af t m) (rd E af 0 k) ok st with |none=>grind| some z=>simp only[hz,aR,al,aD]at h;obtain⟨rfl,rfl⟩:=h;grind[APy]
 ·rename_i t m k x hop;split at h;·rename_i hd;cases hz:Vp E t (rd E af t m) (rd E af 0 k) (rd E af 0 x) st with |none=>grind| some z=>simp only[hz,aR,al,aD]at h;obtain⟨rfl,rfl⟩:=h;exact AAm hs (.inl hop) (by simp_all) hz
  grind
 ·rename_i t m k x hop;split at h;·rename_i hd;cases hz:Vp E t (rd E af t m) (rd E af 0 k) (rd E af 0 x) st with |none=>grind| some z=>simp only[hz,aR,al,aD]at h;obtain⟨rfl,rfl⟩:=h;exact AAm hs (.inr hop) (by simp_all) hz
  grind
 ·rename_i t x i hop;split at h;·rename_i r hz;simp only[al,aD]at h;obtain⟨rfl,rfl⟩:=h;grind[ZH]
  ·cases hz:Kl E t (rd E af t x) (rd E af 0 i) st with |none=>grind| some z=>simp only[hz,aR,al,aD]at h;obtain⟨rfl,rfl⟩:=h;grind[AA1]
 ·rename_i t x y hop;split at h;·cases hz:Xx E t (rd E af 0 x) (rd E af 0 y) st with |none=>grind| some z=>simp only[hz,aR,al,aD]at h;obtain⟨rfl,rfl⟩:=h;grind[AWY]
  ·cases hz:Yr E t (rd E af 0 x) (rd E af 0 y) st with |none=>grind| some z=>simp only[hz,aR,al,aD]at h;obtain⟨rfl,rfl⟩:=h;grind[AY2]
 ·rename_i s d x hop;split at h;·rename_i r hz;simp only[al,aD]at h;obtain⟨rfl,rfl⟩:=h;grind[ZH]
  ·split at h;·rename_i r hz;simp only[al,aD]at h;obtain⟨rfl,rfl⟩:=h;grind[AVY]
   ·cases hz:SG E s d (rd E af s x) st with |none=>grind| some z=>simp only[hz,aR,al,aD]at h;obtain⟨rfl,rfl⟩:=h;grind[AWf]
 ·rename_i x t0 ts hop;cases hz:Uj (rd E af t0 x)with |none=>grind| some z=>simp only[hz,aR,al,aD]at h;obtain⟨rfl,rfl⟩:=h;grind[ATh]
 ·rename_i x y t0 t1 hop;cases hz:Yc E t0 (rd E af t0 x) (rd E af t1 y)with |none=>grind| some z=>simp only[hz,aR,al,aD]at h;obtain⟨rfl,rfl⟩:=h;grind[AZK]
 ·cases hz:Ea E o af with |none=>grind| some z=>simp only[hz,aR,al,aD]at h;obtain⟨rfl,rfl⟩:=h;grind[ZH]
end
def rdL (E:Env) (af:List AVal):List Operand->List TypeId->List AVal |[],_=>[]|x::xs,[]=>rd E af 0 x::rdL E af xs []|x::xs,t::ts=>rd E af t x::rdL E af xs ts
def callable (P:Program) (g:FuncId):Bool:=match P.funcs[g]? with | some fn=>fn.name != "runtime.NumGoroutine" && fn.body.isSome|none=>false
def ArL (E:Env) (g:FuncId) (args:List AVal) (st:St) (Q:AVal->St->Prop):Prop:=∃ fn e r,E.P.funcs[g]? = some fn/\(fn.name == "runtime.NumGoroutine") = false/\fn.body.isNone = true/\Extern.findNext fn = none/\Extern.find fn = some e/\(∀Γ vs w,RepL Γ args vs->∃v,(e vs.toArray).run E.P w=.ok v w/\Rep Γ r v)/\Q r.strip st
def AqF (E:Env) (g:FuncId) (args:List AVal) (st:St) (Q:AVal->St->Prop):Prop:=∃ fn ps t el,∃ n : Nat,E.P.funcs[g]? = some fn/\(fn.name == "runtime.NumGoroutine") = false/\fn.body.isNone = true/\Extern.findNext fn = none/\Extern.find fn = some (Extern.BytealgMakeNoZero.makeNoZero ps #[t])/\E.P.underlying t=some (.slice el)/\1<=n/\n<=140737488355328/\args=[.int .i64 n]/\Q (.trow el st.next n) {m:=(st.next,[.any])::st.m,next:=st.next+1}
def AAe (E:Env) (g:FuncId) (args:List AVal) (st:St) (Q:AVal->St->Prop):Prop:=ArL E g args st Q\/AqF E g args st Q
def ACQ: ∀(n t:Nat) (acc:Array Value),(∀v,v∈acc.toList->v.oneCell'=true)->∀v,v∈(Extern.BytealgMakeNoZero.digits n t acc).toList->v.oneCell'=true
 |0,_,_,h=>h
 | n+1,t,acc,h=>by
  rw[Extern.BytealgMakeNoZero.digits];refine ACQ n _ _ λv hv=>?_;rw[Array.toList_push,aY]at hv;rcases hv with hv|hv;·grind
  ·rw[bm]at hv;subst hv;rfl
def Ald{P:Program} (w:World) (ps:Array TypeId) (t e:TypeId) (ht:P.underlying t=some (.slice e)) (n:Nat) (hn:n<=281474976710656):
    ∃cs:Array Value,(Extern.BytealgMakeNoZero.makeNoZero ps #[t] #[.int .i64 n]).run P w=.ok (.slice (some ⟨w.heap.size,0,none⟩) n cs.size) (w.drew.drew.alloc (.cells cs e))/\n<=cs.size/\ ∀v,v∈cs.toList->v.oneCell'=true:=by
  have h1: ¬(n:Int)<0:=fG
  have h2: ¬(281474976710656:Int)<(n:Int):=fG
  refine ⟨Extern.BytealgMakeNoZero.digits (grownCap w n 0 e) ((Question.extern "internal/bytealg.MakeNoZero.bytes" 0).cut (w.tape (w.drawn + 1) (.extern "internal/bytealg.MakeNoZero.bytes" 0))) #[], ?_, ?_, ACQ _ _ _ fH⟩
  . show Sem.run P (do
        let TypeDesc.slice el<-underlying t|stuck _
        if(n:Int)<0||(n:Int)>2^48 then runtimePanic _
        let c<-choose (.appendCap (n:Int).toNat 0 el)
        askRoom c
        let bs<-choose (.extern _ 0)
        let a<-newRow el (Extern.BytealgMakeNoZero.digits c bs #[])
        pure (Value.slice (some a) (n:Int).toNat c):Sem Value) w=_
    simp[aH ht,h1,h2,Question.forced,newRow,Go.Lib.size_digits,grownCap]
  grind[Go.Lib.size_digits,grownCap_ge]
def CallX (E:Env) (g:FuncId) (args:List AVal) (st:St) (Q:AVal->St->Prop):Prop:=if callable E.P g=true then ACall E g args st Q else AAe E g args st Q
def CallX.mono{E:Env}{st:St}{g:FuncId}{args:List AVal}{Q Q':AVal->St->Prop} (h:CallX E g args st Q) (k: ∀r st',st.next<=st'.next->Q r st'->Q' r st'):CallX E g args st Q':=by
 unfold CallX at *;split;·rename_i hc;rw[ah hc]at h;exact h.mono k
 ·rename_i hc;rw[ae hc]at h;rcases h with h|h;·obtain⟨fn,e,r,h1,h2,h3,h4,h5,h6,h7⟩:=h;exact .inl ⟨fn,e,r,h1,h2,h3,h4,h5,h6,k _ _ (aw _) h7⟩
  ·obtain⟨fn,ps,t,el,n,h1,h2,h3,h4,h5,h6,h7,h8,h9,h10⟩:=h;exact .inr ⟨fn,ps,t,el,n,h1,h2,h3,h4,h5,h6,h7,h8,h9,k _ _ (Nat.le_succ _) h10⟩
def WF:AVal->Bool |.gsl _ _ _=>true|_=>false
def ANR (x y:AVal):Bool:=WF y||WF x
def Vk:BinOp->Operand->Bool |.eql,.const (.slice none 0 0)=>true|_,_=>false
def Aim (b:Bool) (v:AVal) (K:AVal->Prop):Prop:=match b,v with |true,.slice _ xs _=>∀c:Bool,(c=true->xs=[])->K (.bool c)|_,_=>False
def EJ (E:Env) (mv:List Tmp) (o:Oper) (af:List AVal) (st:St) (K:List AVal->St->Prop):Prop:=match o.op with
 | .call {callee:=.value f,args,argTypes}=>match rd E af 0 f with |.fn (.func g) p q=>CallX E g (stripL (p++rdL E af args.toList argTypes.toList++q)) st λr st'=>K (BN af o.dst r) st'|_=>False
 | .call {callee:=.builtin .append,args:=⟨[x,y]⟩,argTypes:=⟨t0::t1::_⟩}=>if ANR (rd E af t0 x) (rd E af t1 y)=true then match appG E t0 t1 (rd E af t0 x) (rd E af t1 y) st with |some (wd,l,cs,rest,jo)=>∀i,i=st.next\/jo=some i->K (BN af o.dst (.gsl wd i l)) {m:=(i,cs)::rest,next:=st.next+1}|none=>False else match Fv E mv o af st with |some (af',st')=>K af' st'|none=>False
 | .binOp op t x y _=>if Vk op y=true then Aim (Cz E.P t) (rd E af t x) λv=>K (BN af o.dst v) st else match Fv E mv o af st with |some (af',st')=>K af' st'|none=>False
 | _=>match Fv E mv o af st with |some (af',st')=>K af' st'|none=>False
def At5 (E:Env) (o:Oper) (af:List AVal) (st:St) (K:List AVal->St->Prop):Prop:=∀(F:Nat->Nat) (Γ:Ghost) (w:World) (a:Act),a.defers=[]->Sim E F Γ st w af a.tmps.toList->∀(K':Act->World->Prop) (Qx:Exit->Act->World->Prop),(∀Γ' af' st' a' w',Ext F Γ w Γ' w'->st.next<=st'.next->a'.defers=[]->Sim E F Γ' st' w' af' a'.tmps.toList->K af' st'->K' a' w')->o.wp E.P a w K' Qx
section
variable{E:Env}{F:Nat->Nat}{Γ:Ghost}{st:St}{w:World}{af:List AVal}{a:Act}
def RepL.append{xs ys:List AVal}{us vs:List Value} (h:RepL Γ xs us) (k:RepL Γ ys vs):RepL Γ (xs++ys) (us++vs):=by induction xs generalizing us with |nil=>cases h;exact k|cons x xs ih=>cases h with|cons h t=>exact .cons h (ih t)
def AIo (hs:Sim E F Γ st w af a.tmps.toList): ∀(xs:List Operand) (ts:List TypeId),RepL Γ (rdL E af xs ts) (xs.map a.eval) |[],_=>.nil|x::xs,[]=>.cons (hs.rd _ x) (AIo hs xs [])|x::xs,t::ts=>.cons (hs.rd _ x) (AIo hs xs ts)
def Sim.aside (hs:Sim E F Γ st w af a.tmps.toList){xs:List AVal}{vs:List Value} (hr:RepL Γ xs vs):Sim E (λb=>F b+AP b af a.tmps.toList) Γ st w (stripL xs) vs:=by
 refine {hs with bx_F:=?_,F_lt:=?_,rep:=hr.strip,own:=Kn _ _ _ _,tok:=?_}
 ·intro p b hp hb;have h1:=hs.bx_F p b hp hb;have h2:AP b af a.tmps.toList=0:=by
   rcases aV 0 (AP b af a.tmps.toList)with h|h
   ·rcases hs.box_ok p hp with⟨b',arr,e,hk⟩|⟨v,hv⟩;rotate_left;·have:=hv.bx;grind
    have:=hk.bx;rw[hb]at this;cases this;rcases (Ca _ _ hs.own h).2 with⟨c,hc⟩|⟨s0,p0,hc⟩|⟨s0,p0,hc⟩;·rw[hk.com]at hc;grind
    ·obtain⟨lo,hi,hh,_⟩:=hk.heap;grind
    ·obtain⟨lo,hi,hh,_⟩:=hk.heap;grind
   omega
  omega
 ·intro b hb;have h1:=hs.F_lt b hb;have h2:AP b af a.tmps.toList=0:=by
   rcases aV 0 (AP b af a.tmps.toList)with h|h;·have:=(Ca _ _ hs.own h).1;omega
   omega
  omega
 ·intro b;have:=hs.tok b;grind[JE]
def Sim.back (hs:Sim E F Γ st w af a.tmps.toList){Γ':Ghost}{st':St}{w':World}{r:AVal}{v:Value} (hx:Ext (λb=>F b+AP b af a.tmps.toList) Γ w Γ' w') (h:Sim E (λb=>F b+AP b af a.tmps.toList) Γ' st' w' [r] [v]) (dst:Option Tmp):Sim E F Γ' st' w' (BN af dst r) (a.put dst v).tmps.toList:=by
 have hown:ownL Γ' w' af a.tmps.toList:=CV hx.le _ _ hs.own λb hb=>hx.keep b fG;have hmid:Sim E F Γ' st' w' af a.tmps.toList:=by
  refine {h with bx_F:=?_,F_lt:=?_,rep:=hs.rep.mono hx.le,own:=hown,tok:=?_};·intro p b hp hb;have:=h.bx_F p b hp hb;omega
  ·intro b hb;have:=h.F_lt b hb;omega
  ·intro b;have:=h.tok b;omega
 have hr:Rep Γ' r v:=by have:=h.rep;cases this;omega
 have ho:VM.own Γ' w' r v:=by have:=h.own;grind[ownL]
 refine hmid.put dst hr ho λb=>?_;have:=h.tok b;grind[AP,cnt]
def AEY{P:Program}{w:World}{t e:TypeId} (h:P.underlying t=some (.slice e)) (p:Option Addr) (n k:Nat):(binOp .eql t (.slice p n k) (.slice none 0 0)).run P w=.ok (.bool p.isNone) w:=by
 have key: ∀d:Nat,(Op.equalIn (d+1) t (.slice p n k) (.slice none 0 0)).run P w=.ok p.isNone w:=λd=>by cases p<;>simp[Op.equalIn,aH h]
 simp_all[binOp,Op.equal,Op.maxDepth]
def AXG{op:BinOp}{y:Operand} (h:Vk op y=true):op=.eql/\y=.const (.slice none 0 0):=by
 unfold Vk at h;split at h;·exact⟨rfl,rfl⟩
 ·cases h
theorem Wo {mv:List Tmp}{o:Oper}{K:List AVal->St->Prop} (h:EJ E mv o af st K):At5 E o af st K:=by
 intro F Γ w a hd hs K' Qx hK;unfold EJ at h;split at h
 ·rename_i f args ts hop;have hf:=hs.rd 0 f;split at h
  ·rename_i g p q e;rw[e]at hf;generalize hfv:a.eval f=fv at hf;cases hf with
   | fn hp hq=>
    rename_i vp vq;have hargs:=AIo hs args.toList ts.toList;have hall:=hp.append (hargs.append hq);rw[<-aF]at hall;unfold CallX at h;split at h;rotate_left
    ·rcases h with h|h
     ·obtain⟨fn,e2,r,h1,h2,h3,h4,h5,h6,h7⟩:=h;obtain⟨v,hv,hr⟩:=h6 Γ (vp.toList++args.toList.map a.eval++vq.toList) w (by have:=hall.strip;grind);have harr:(vp.toList++args.toList.map a.eval++vq.toList).toArray=vp++args.map a.eval++vq:=by simp
      rw[harr]at hv;have hrun:(execOp a.eval o).run E.P w=.ok (.value v) w:=by grind[run_callFunc_extern,execOp,resolve,Deferred.ofValue,Sem.run_bind,Sem.run_pure,Result.andThen_ok,invoke]
      unfold Oper.wp;rw[hrun];exact hK Γ _ st (a.put o.dst v) w (Ext.refl _ _ _) (aw _) (by grind[put_defers]) (hs.putStrip o.dst hr) h7
     ·obtain⟨fn,ps,t,el,n,h1,h2,h3,h4,h5,h6,h7,h8,h9,h10⟩:=h;have hst:=hall.strip;have harr:(vp.toList++args.toList.map a.eval++vq.toList).toArray=vp++args.map a.eval++vq:=by simp
      obtain⟨v0,hv0,hrv⟩: ∃v0,vp.toList++args.toList.map a.eval++vq.toList=[v0]/\Rep Γ (.int .i64 n) v0:=by
       have hst':RepL Γ [.int .i64 n] (vp.toList++args.toList.map a.eval++vq.toList):=by grind
       generalize vp.toList++args.toList.map a.eval++vq.toList=vs at hst';cases hst' with |cons q t=>cases t;grind
      cases hrv;rw[hv0]at harr;obtain⟨cs,r1,r2,r3⟩:=Ald (P:=E.P) w ps t el h6 n fG;have hrun:(execOp a.eval o).run E.P w=.ok (.value (.slice (some ⟨w.drew.drew.heap.size,0,none⟩) n cs.size)) (w.drew.drew.alloc (.cells cs el (0,0))):=by have hcf:=run_callFunc_extern (P:=E.P) h1 h2 h3 h4 h5 (vp++args.map a.eval++vq) w;rw[<-harr]at hcf;rw[r1]at hcf;simp only[execOp,hop,resolve,hfv,Deferred.ofValue,aM,bC,aC,invoke];rw[<-harr,hcf];rfl
      have hx:Ext F Γ w Γ w.drew.drew:=⟨Γ.le_refl,λ_ _=>⟨rfl,rfl⟩,aw _,rfl,rfl,rfl⟩;obtain⟨nx,w',a',Γ',hp⟩:=AAB (o:=o) (r:=.trow el st.next n) (w1:=w.drew.drew) (cells:=cs) (e:=el) (cs:=[.any]) (fz:=(0,0)) (cap:=cs.size) (len:=n) hs hs.drew.drew hx fH (by
       have hl:1<=cs.toList.length:=by grind
       match hc:cs.toList,hl with |v::vs,_=>exact .cons (.any v) .nil) (λv hv=>r3 v (cU hv)) (λx hx=>by grind[VM.own,cnt]) (λΓ' q1 q2=>.trow q1 q2 ⟨r2,by grind[Dp]⟩ rfl) (λ_ _ _=>by simp[VM.own]) (λ_ _=>by simp[cnt]) hrun;unfold Oper.wp;rw[hp.run];exact hp.upon _ _ (hK Γ' _ _ a' w' hp.ext hp.next (by rw[hp.defers];omega) hp.sim h10)
    rename_i hcall;have hac:=h;have hrun:(execOp a.eval o).run E.P w=.ok (.enter g (vp++args.map a.eval++vq)) w:=by
     unfold callable at hcall;split at hcall
     ·rename_i fn hfn;simp only[az,dQ,dY]at hcall;have hb:fn.body.isNone=false:=by have:=hcall.2;cases hfb:fn.body<;>simp_all
      simp only[execOp,hop,resolve,hfv,Deferred.ofValue,aM,bC,aC,invoke,callFunc,run_program,hfn];have hname : (fn.name == "runtime.NumGoroutine") = false:=by grind
      simp only[hname,hb,aj,aq];rfl
     grind
    have key:=hac.go (λb=>F b+AP b af a.tmps.toList) Γ w (vp++args.map a.eval++vq) (by have e2:(vp++args.map a.eval++vq).toList=vp.toList++(args.toList.map a.eval++vq.toList):=fH;rw[e2,<-aF];refine hs.aside ?_;grind);unfold Oper.wp;rw[hrun,Oper.upon_enter];refine key.mono ?_;rintro e' w' ⟨v,rfl,Γ',r,st',x1,n1,s1,q1⟩;exact hK Γ' _ st' (a.put o.dst v) w' (x1.less λb=>by omega) n1 (by grind[put_defers]) (hs.back x1 s1 o.dst) q1
  grind
 ·rename_i x y t0 t1 ts hop;split at h
  ·split at h;·rename_i wd l cs rest jo hab;obtain⟨i,hi,nx,w',a',Γ',hp⟩:=AbP hs hop hab;unfold Oper.wp;rw[hp.run];exact hp.upon _ _ (hK Γ' _ _ a' w' hp.ext hp.next (by rw[hp.defers];omega) hp.sim (h i hi))
   grind
  ·split at h;·rename_i af' st' hst;obtain⟨nx,w',a',Γ',hp⟩:=Sy hs hst;unfold Oper.wp;rw[hp.run];exact hp.upon _ _ (hK Γ' af' st' a' w' hp.ext hp.next (by rw[hp.defers];omega) hp.sim h)
   grind
 ·rename_i op t x y _ hop;split at h
  ·rename_i hn;obtain⟨rfl,rfl⟩:=AXG hn;have hx:=hs.rd t x;unfold Aim at h;split at h
   ·rename_i xs ow ht hr;rw[hr]at hx;obtain⟨e,hu⟩: ∃e,E.P.underlying t=some (.slice e):=by grind[Cz]
    have main: ∀(p:Option Addr) (n k:Nat),a.eval x=.slice p n k->(p.isNone=true->xs=[])->o.wp E.P a w K' Qx:=by
     intro p n k hv hc;have hrun:(execOp a.eval o).run E.P w=.ok (.value (.bool p.isNone)) w:=by simp only[execOp,hop];have hc:a.eval (.const (.slice none 0 0))=.slice none 0 0:=rfl;simp[hv,hc,eqGuard,AEY hu]
     unfold Oper.wp;rw[hrun];exact hK Γ _ st (a.put o.dst (.bool p.isNone)) w (Ext.refl _ _ _) (aw _) (by grind[put_defers]) (hs.putStrip o.dst (.bool _)) (h _ hc)
    generalize hv:a.eval x=v at hx;cases hx with |snil w o a=>simp_all|slice=>grind
   grind
  ·split at h;·rename_i af' st' hst;obtain⟨nx,w',a',Γ',hp⟩:=Sy hs hst;unfold Oper.wp;rw[hp.run];exact hp.upon _ _ (hK Γ' af' st' a' w' hp.ext hp.next (by rw[hp.defers];omega) hp.sim h)
   grind
 ·split at h;·rename_i af' st' hst;obtain⟨nx,w',a',Γ',hp⟩:=Sy hs hst;unfold Oper.wp;rw[hp.run];exact hp.upon _ _ (hK Γ' af' st' a' w' hp.ext hp.next (by rw[hp.defers];omega) hp.sim h)
  grind
def gd (x:AVal) (want:Bool):Option Bool:=match x with |.bool b=>some (b==want)|.tuple []=>some false|_=>none
def gdA (ops:Array Oper) (af:List AVal) (j:Nat) (want:Bool):Option Bool:=match(ops[j]?).bind (·.dst)with |some d=>gd (af.getD d .any) want|none=>none
def Mg (E:Env) (mv:List Tmp) (ops:Array Oper):List Oper->(List AVal->St->Prop)->List AVal->St->Prop |[],K,af,st=>K af st| o::rest,K,af,st=>match o.guard with |none=>EJ E mv o af st (Mg E mv ops rest K)| some (j,want)=>match gdA ops af j want with |some true=>EJ E mv o af st (Mg E mv ops rest K)|some false=>Mg E mv ops rest K (BN af o.dst (.tuple [])) st|none=>False
def VW (hs:Sim E F Γ st w af a.tmps.toList){ops:Array Oper}{j:Nat}{want t:Bool} (h:gdA ops af j want=some t):(yielded ops a.tmps j==some want)=t:=by
 unfold gdA at h;split at h
 ·rename_i d hd;have hr:=hs.rep.get d undef;unfold yielded;rw[hd];simp only[aa];unfold gd at h;have hlt:d<a.tmps.size:=by
   rcases aV d a.tmps.size with h'|h';·omega
   ·have:af.length=a.tmps.size:=by rw[hs.rep.length,aJ]
    grind
  have e:a.tmps.toList.getD d undef=a.tmps[d]:=by grind
  rw[e]at hr;rw[cN hlt];generalize a.tmps[d]=v at hr;split at h;·rename_i b hb;rw[hb]at hr;cases hr;grind[Option.some.injEq]
  ·rename_i hb;rw[hb]at hr;cases hr;grind
  grind
 grind
def P6{ops:Array Oper}{o:Oper}{tmps:Array Value}{j:Nat}{want:Bool} (hg:o.guard=some (j,want)):Region.wanted o (yielded ops tmps)=(yielded ops tmps j==some want):=by grind[Region.wanted]
def Sim.skipped (hs:Sim E F Γ st w af a.tmps.toList) (d:Option Tmp):Sim E F Γ st w (BN af d (.tuple [])) (a.put d undef).tmps.toList:=hs.put d (r:=.tuple []) (v:=undef) (.tuple .nil) (by simp[VM.own,undef,ownL]) λn=>by have:=hs.tok n;grind[cnt,undef,AP]
def AOO{mv:List Tmp}{ops:Array Oper}{Qc:Exit->Act->World->Prop}: ∀(rest:List Oper) (i:Nat),ops.toList.drop i=rest->∀ {K:List AVal->St->Prop}{F:Nat->Nat}{Γ:Ghost}{st:St}{w:World}{af:List AVal}{a:Act},a.defers=[]->Sim E F Γ st w af a.tmps.toList->Mg E mv ops rest K af st->(∀Γ' af' st' a' w',Ext F Γ w Γ' w'->st.next<=st'.next->a'.defers=[]->Sim E F Γ' st' w' af' a'.tmps.toList->K af' st'->Qc .normal a' w')->wpOps E.P ops Qc (List.range' i rest.length) a w:=by
 intro rest;induction rest with
 |nil=>intro i hi K F Γ st w af a hd hs h hK;exact hK Γ af st a w (Ext.refl _ _ _) (aw _) hd hs h
 | cons o rest ih=>
  intro i hi K F Γ st w af a hd hs h hK;have hoi:ops[i]?=some o:=by
   have:ops.toList[i]?=some o:=by have:=bg (·[0]?) hi;grind
   grind
  have hi':ops.toList.drop (i+1)=rest:=by grind[List.tail_drop]
  rw[ag,df];simp only[wpOps,hoi];have go:EJ E mv o af st (Mg E mv ops rest K)->o.wp E.P a w (wpOps E.P ops Qc (List.range' (i+1) rest.length)) Qc:=λh=>Wo h F Γ w a hd hs _ _ λΓ' af' st' a' w' x1 n1 d1 s1 k1=>ih (i+1) hi' d1 s1 k1 λΓ2 af2 st2 a2 w2 x2 n2 d2 s2 k2=>hK Γ2 af2 st2 a2 w2 (x1.trans x2) (bA n1 n2) d2 s2 k2;simp only[Mg]at h;split at h;·simp_all[Region.wanted]
  ·rename_i j want hg;split at h;·rename_i hgd;rw[ah (by rw[P6 hg,VW hs hgd])];grind
   ·rename_i hgd;rw[ae (by rw[P6 hg,VW hs hgd];simp)];exact ih (i+1) hi' (by grind[put_defers]) (hs.skipped o.dst) h λΓ2 af2 st2 a2 w2 x2 n2 d2 s2 k2=>hK Γ2 af2 st2 a2 w2 x2 n2 d2 s2 k2
   grind
def WS{Q:APost}{id:Nat}{ops:Array Oper} (mv:List Tmp) (h:Mg E mv ops ops.toList (λaf st=>Q .normal af st) af st):AWp E (.region id ops false) Q af st:=by constructor;intro F Γ w a hd hs;refine wp_region ?_;have key:=AOO (Qc:=lift E F Γ w st.next Q) ops.toList 0 rfl hd hs h λΓ' af' st' a' w' x1 n1 d1 s1 k1=>⟨trivial,d1,Γ',af',st',x1,n1,s1,k1⟩;grind[Array.length_toList,List.range_eq_range']
def ARi{Q:APost}{c:Operand}{x y:Code} (b:Bool) (hb:rd E af 0 c=.bool b) (h:if b=true then AWp E x Q af st else AWp E y Q af st):AWp E (.cond c x y) Q af st:=by
 constructor;intro F Γ w a hd hs;have hr:=hs.rd 0 c;rw[hb]at hr;generalize hv:a.eval c=v at hr;cases hr;refine wp_cond hv ?_;cases b;·exact h.go F Γ w a hd hs
 ·exact h.go F Γ w a hd hs
def AZv{Q:APost}{c:Code}{m:List (Nat×List AVal)} (hm:m.Sublist st.m) (h:AWp E c Q af {st with m:=m}):AWp E c Q af st:=⟨λF Γ w a hd hs=>h.go F Γ w a hd (hs.fewer hm)⟩
def X5 (E:Env) (t:TypeId) (addr:AVal) (st:St):Option (AVal×St):=
  match addr with
  | .ptr i 0=>
    match A9 st.m i with
    | some cs=>
      if BI E.P t=true then
        if CP E.P t=true then(if Cy E.P t=some cs.length then some (.agg cs,{st with m:=CU st.m i (stripL cs)})else none)
        else match cs with
          |[c]=>some (c,{st with m:=CU st.m i (stripL cs)})
          |_=>none
      else none
    |none=>none
  |_=>none
def RA (E:Env):List ResultVar->List AVal->St->Option (List AVal×St) |[],af,st=>some ([],st)|.tmp t::rs,af,st=>(RA E rs (stripAt af (.tmp t)) st).map λp=>(af.getD t .any::p.1,p.2)| .cell i t::rs,af,st=>match X5 E t (af.getD i .any) st with |some (r,st')=>(RA E rs af st').map λp=>(r::p.1,p.2)|none=>none
def Ko (E:Env) (fn:Func) (Q:AVal->St->Prop):APost:=λe af st=>
  match e with
  | .normal|.ret=>
    match RA E fn.results.toList af st with
    |some (rs,st')=> ∃m,m.Sublist st'.m/\Q (match rs with|[r]=>r|rs=>.tuple rs) {st' with m:=m}
    |none=>False
  |_=>False
end
end Go.VM
set_option linter.unusedVariables false
namespace Go.VM
section
variable{E:Env}{F:Nat->Nat}{Γ:Ghost}{st:St}{w:World}{af:List AVal}{a:Act}
def AEF (hs:Sim E F Γ st w af a.tmps.toList){t:TypeId}{x:AVal}{v:Value}{r:AVal}{st':St} (hx:Rep Γ x v) (h:X5 E t x st=some (r,st')):∃u,(do loadVar t (<-asAddr v):Sem Value).run E.P w=.ok u w/\Rep Γ r u/\VM.own Γ w r u/\Sim E F Γ st' w af a.tmps.toList/\st'.next=st.next/\∀b,cnt b r u+A7 Γ w b st'.m=A7 Γ w b st.m:=by
 unfold X5 at h;split at h
 ·rename_i i;cases hx with
  |ptr hbx=>
   rename_i b;split at h
   ·rename_i cs hg;split at h
    ·rename_i hk;obtain⟨b',arr,e,hb⟩:=hs.box hg hbx;have:b'=b:=by have:=hb.bx;grind
     subst this;obtain⟨lo,hi,hh,hf⟩:=hb.heap;obtain⟨L,hL⟩: ∃L,L=arr.toList.take cs.length:=⟨_,rfl⟩;have hrepL:RepL Γ cs L:=by rw[hL];exact hb.rep
     have hone: ∀v,v∈L->v.oneCell'=true:=by rw[hL];exact hb.one
     have hownL:VM.ownL Γ w cs L:=by rw[hL];exact(Nv Γ w cs arr.toList).2 hb.own
     have hcntL: ∀n,AP n cs L=AP n cs arr.toList:=λn=>by grind[Nc]
     obtain⟨s1,x1⟩:=hs.setBox (w':=w) (cs':=stripL cs) (arr':=arr) (lo:=lo) (hi:=hi) hg hb hh hf (λ_ _=>rfl) rfl rfl rfl rfl (by rw[M3];exact hb.rep.strip) (Kn _ _ _ _) (by grind[M3]) (λn=>by rw[JE];have:=hs.tok n;omega);have hcnt: ∀n,AP n cs arr.toList+A7 Γ w n (CU st.m i (stripL cs))=A7 Γ w n st.m:=by intro n;have e1:=LY (Γ:=Γ) (Γ':=Γ) (w:=w) (w':=w) (b:=n) (x:=stripL cs) hs.keys hg (λp hp hne=>rfl);grind[EU,AP,hcells,stripL,JE]
     have hcell: ∀j u,L[j]?=some u->w.cell? ⟨b',0+j,none⟩=some u:=by intro j u hj;rw[hL]at hj;have hj:=List.getElem?_take_some hj;simp_all[World.cell?]
     have ha:=QZ (w:=w) hk;split at h
     ·rename_i hag;rw[hag]at ha;split at h;·rename_i hz;simp only[al,aD]at h;obtain⟨rfl,rfl⟩:=h;have key:=dV (P:=E.P) w ⟨b',0,none⟩ L (λj v hj=>by grind[addr_add]);rw[<-hrepL.length]at key;refine⟨.agg L.toArray,?_,.agg fG fG,by grind[VM.own],s1,rfl,λn=>by grind[cnt]⟩;simp[asAddr,loadVar,ha,FJ hz,key]
      grind
     ·rename_i hag;rw[cw]at hag;rw[hag]at ha;split at h
      ·rename_i c;simp only[al,aD]at h;obtain⟨rfl,rfl⟩:=h;obtain⟨u,hu,hrep⟩:=hrepL.get? (i:=0) (x:=c) rfl;have h1:L=[u]:=by
        have:L.length=1:=by grind
        clear hL hcell;match L,this,hu with |[x],_,hu=>grind
       refine⟨u,?_,hrep,?_,s1,rfl,λn=>?_⟩;·simp_all[asAddr,loadVar]
       ·grind[VM.ownL]
       grind[AP]
      grind
    grind
   grind
 grind
def ASJ{m m':List (Nat×List AVal)} (h:m.Sublist m') (n:Nat):A7 Γ w n m<=A7 Γ w n m':=by induction h with |slnil=>omega|cons p _ ih=>grind[A7]|cons_cons p _ ih=>grind[A7]
def AH3 (tmps:Array Value) (r:ResultVar):Sem Value:=match r with |.tmp t=>pure (tmps.getD t undef)|.cell i t=>do loadVar t (<-asAddr (tmps.getD i undef))
def AUr (rs:List ResultVar): ∀ {af:List AVal}{st:St}{xs:List AVal}{st':St},Sim E F Γ st w af a.tmps.toList->RA E rs af st=some (xs,st')->∃vs,(rs.mapM (AH3 a.tmps)).run E.P w=.ok vs w/\RepL Γ xs vs/\ownL Γ w xs vs/\st'.next=st.next/\∃af',Sim E F Γ st' w af' a.tmps.toList/\∀b,AP b af' a.tmps.toList+AP b xs vs+A7 Γ w b st'.m=AP b af a.tmps.toList+A7 Γ w b st.m:=by
 induction rs with
 | nil=>intro af st xs st' hs h;simp only[RA,al,aD]at h;obtain⟨rfl,rfl⟩:=h;exact⟨[],fH,.nil,by simp[ownL],rfl,af,hs,λb=>by simp[AP]⟩
 | cons x rs ih=>
  intro af st xs st' hs h;cases x with
  | tmp t=>
   simp only[RA]at h;cases hr:RA E rs (stripAt af (.tmp t)) st with
   |none=>grind
   | some p=>
    simp only[hr,aR,al,aD]at h;obtain⟨rfl,rfl⟩:=h;obtain⟨vs,r1,r2,r3,r4,af',r5,r6⟩:=ih (hs.stripAt (.tmp t)) hr;refine⟨a.tmps.getD t undef::vs,?_,.cons (hs.rd 0 (.tmp t)) r2,?_,r4,af',r5,λb=>?_⟩;·rw[List.mapM_cons,aM];simp only[AH3,bC,aC];rw[aM,r1];rfl
    ·rw[ownL];exact⟨hs.rd_own 0 (.tmp t),r3⟩
    ·have:=r6 b;have:=hs.rd_cnt 0 (.tmp t) b;grind[rd,Act.eval,AP]
  | cell i t=>
   simp only[RA]at h;split at h
   ·rename_i r st1 hc;cases hr:RA E rs af st1 with
    |none=>grind
    | some p=>
     simp only[hr,aR,al,aD]at h;obtain⟨rfl,rfl⟩:=h;obtain⟨u,c1,c2,c3,c4,c5,c6⟩:=AEF hs (hs.rd 0 (.tmp i)) hc;obtain⟨vs,r1,r2,r3,r4,af',r5,r6⟩:=ih c4 hr;refine⟨u::vs,?_,.cons c2 r2,by grind[ownL],fG,af',r5,λb=>?_⟩;·rw[List.mapM_cons,aM];simp_all[Act.eval,AH3]
     grind[AP]
   grind
theorem Mq {f:FuncId}{fn:Func}{c:Code}{args:List AVal}{Q:AVal->St->Prop} (hf:E.P.funcs[f]?=some fn) (hb:fn.body=some c)
    (h:AWp E c (Ko E fn Q) (args++List.replicate (fn.ntmps-args.length) .any) st):ACall E f args st Q:=by
  constructor
  intro F Γ w cargs hs
  have hlen:args.length=cargs.size:=by rw[hs.rep.length,aJ]
  have hrepl: ∀n,RepL Γ (List.replicate n .any) (List.replicate n undef)/\ownL Γ w (List.replicate n .any) (List.replicate n undef)/\ ∀b,AP b (List.replicate n .any) (List.replicate n undef)=0:=by
    intro n
    induction n with
    |zero=>exact⟨.nil,by simp[ownL],λb=>by simp[AP]⟩
    |succ n ih=>exact⟨.cons (.any _) ih.1,by grind[ownL,VM.own],λb=>by grind[AP,cnt]⟩
  have happ: ∀(xs:List AVal) (vs:List Value),xs.length=vs.length->ownL Γ w xs vs-> ∀n,ownL Γ w (xs++List.replicate n .any) (vs++List.replicate n undef)/\ ∀b,AP b (xs++List.replicate n .any) (vs++List.replicate n undef)=AP b xs vs:=by
    intro xs
    induction xs with
    |nil=>grind[AP]
    | cons x xs ih=>intro vs hl ho n;cases vs with
      |nil=>grind
      | cons v vs=>
        grind[ownL,AP]
  have htm:(cargs++Array.replicate (fn.ntmps-cargs.size) undef).toList=cargs.toList++List.replicate (fn.ntmps-args.length) undef:=by
    grind[Array.toList_append,Array.toList_replicate]
  refine calls_of_wp hf hb (fj (h.go F Γ w {tmps:=cargs++Array.replicate (fn.ntmps-cargs.size) undef,defers:=[]} rfl ?_) ?_)
  . simp only
    rw[htm]
    obtain⟨o1,o2⟩:=happ args cargs.toList hs.rep.length hs.own (fn.ntmps-args.length)
    exact {hs with rep:=hs.rep.append (hrepl _).1,own:=o1,tok:=λb=>by rw[o2 b];exact hs.tok b}
  . intro e a' w' hq
    obtain⟨h0,hd,Γ',af',st',x1,n1,s1,q1⟩:=hq
    have fin:(match RA E fn.results.toList af' st' with
        |some (rs,st')=> ∃m,m.Sublist st'.m/\Q (match rs with|[r]=>r|rs=>.tuple rs) {st' with m:=m}
        |none=>False)-> ∃v,(results fn a'.tmps).run E.P w'=.ok v w'/\ ∃v1,Ending.returned v=.returned v1/\ ∃Γ' r st',Ext F Γ w Γ' w'/\st.next<=st'.next/\Sim E F Γ' st' w' [r] [v1]/\Q r st':=by
      intro q
      split at q
      . rename_i rs st2 hres
        obtain⟨m,hm,hQ⟩:=q
        obtain⟨vs,r1,r2,r3,r4,af2,r5,r6⟩:=AUr fn.results.toList s1 hres
        have hrun:(results fn a'.tmps).run E.P w'=.ok (if h:vs.toArray.size=1 then vs.toArray[0]else .tuple vs.toArray) w':=by
          have e:results fn a'.tmps=(do
            let vs<-fn.results.mapM (AH3 a'.tmps)
            pure (if h:vs.size=1 then vs[0]else .tuple vs)):=rfl
          rw[e,Array.mapM_eq_mapM_toList,aM,Sem.run_map,r1]
          rfl
        refine⟨_,hrun,_,rfl,Γ',_,{st2 with m:=m},x1,by grind,?_,hQ⟩
        have s2:=r5.fewer hm
        have hcm: ∀n,A7 Γ' w' n m<=A7 Γ' w' n st2.m:=λn=>ASJ hm n
        have htok: ∀b,F b+AP b rs vs+A7 Γ' w' b m<=1:=by
          intro b
          have:=r6 b
          have:=s1.tok b
          grind
        cases r2 with
        | nil=>
          simp only[d5,ap]
          exact {s2 with rep:=.cons (.tuple .nil) .nil,own:=by simp[ownL,VM.own],tok:=λb=>by grind[AP,cnt]}
        | cons hr t=>
          cases t with
          | nil=>
            simp only[d5,ag,ap,ci,dite_true]
            exact {s2 with rep:=.cons hr .nil,own:=r3,tok:=htok}
          | cons hy t=>
            rename_i x v y u xs us
            have hne: ¬((v::u::us:List Value).toArray.size=1):=fH
            rw[dif_neg hne]
            have hrp:RepL Γ' (x::y::xs) (v::u::us):=.cons hr (.cons hy t)
            exact {s2 with rep:=.cons (.tuple fG) .nil,own:=by grind[ownL,VM.own],tok:=λb=>by grind[AP,cnt]}
      grind
    cases e with
    |normal=>obtain⟨v,hr,hR⟩:=fin q1;exact⟨hd,v,hr,hR⟩
    |ret=>obtain⟨v,hr,hR⟩:=fin q1;exact⟨hd,v,hr,hR⟩
    |exit id=>exact q1.elim
    |goto l=>grind
    |panic c=>grind
    |outgrown=>grind
end
end Go.VM
set_option linter.unusedVariables false
namespace Go.VM
section
variable{E:Env}{st:St}{af:List AVal}{Q:APost}
inductive kPost (K:List AVal->St->Prop) (Q:APost):APost |nrm{af:List AVal}{st:St} (h:K af st):kPost K Q .normal af st |oth{e:Exit}{af:List AVal}{st:St} (hne:e≠ .normal) (h:Q e af st):kPost K Q e af st
def kPost.get{K:List AVal->St->Prop} (h:kPost K Q .normal af st):K af st:=by cases h with |nrm h=>exact h|oth hne h=>grind
def kPost.out{K:List AVal->St->Prop}{e:Exit} (h:kPost K Q e af st) (hne:e≠ .normal):Q e af st:=by cases h with |nrm h=>grind|oth hne h=>exact h
def OH{K:List AVal->St->Prop} (h:K af st):kPost K Q .normal af st:=.nrm h
end
end Go.VM
set_option linter.unusedVariables false
namespace Go.VM
def slots (o:Oper):List Tmp:=o.op.operands.toList.filterMap λ|.tmp t=>some t|_=>none
def RO{o:Oper}{d:Tmp} (h:d∉slots o){x:Operand} (hx:x∈o.op.operands):x≠ .tmp d:=by intro e;subst e;exact h (List.mem_filterMap.2 ⟨.tmp d,by grind,rfl⟩)
section
variable{E:Env}{af:List AVal}{st:St}{d:Tmp}{v:AVal}
theorem CO{t:TypeId}{x:Operand} (h:x≠ .tmp d):rd E (af.set d v) t x=rd E af t x:=by cases x with | tmp i=>grind[rd,List.getD]|_=>rfl
theorem Kj{x:Operand} (h:x≠ .tmp d):stripAt (af.set d v) x=(stripAt af x).set d v:=by cases x with | tmp i=>grind[stripAt,List.set_comm,List.getD,List.getElem?_set_ne]|_=>rfl
theorem Ck{dst:Option Tmp} (h:dst≠some d) (r:AVal):BN (af.set d v) dst r=(BN af dst r).set d v:=by cases dst with |none=>rfl| some e=>grind[BN,List.set_comm]
theorem ABd{x:Option Operand} (h: ∀y,x=some y->y≠ .tmp d):rdo E (af.set d v) x=rdo E af x:=by cases x with |none=>rfl|some y=>simp only[rdo,CO (h y rfl)]
theorem AIF: ∀(xs:List Operand) (ts:List TypeId),(∀x,x∈xs->x≠ .tmp d)->rdL E (af.set d v) xs ts=rdL E af xs ts |[],_,_=>rfl|x::xs,[],h=>by simp only[rdL,CO (h x fH),AIF xs [] (λy hy=>h y (aZ _ hy))]|x::xs,t::ts,h=>by simp only[rdL,CO (h x fH),AIF xs ts (λy hy=>h y (aZ _ hy))]
theorem Rn{ty:Nat->TypeId}: ∀(ps:List (Nat×Operand)){af:List AVal},(∀p,p∈ps->p.2≠ .tmp d)->(Bf E ty (af.set d v) ps).1=(Bf E ty af ps).1.set d v/\(Bf E ty (af.set d v) ps).2=(Bf E ty af ps).2 |[],_,_=>⟨rfl,rfl⟩| (i,x)::ps,af,h=>by have hx:=h (i,x) fH;obtain⟨h1,h2⟩:=Rn ps (af:=stripAt af x) (λp hp=>h p (aZ _ hp));simp only[Bf,Kj hx,CO hx];exact⟨h1,by rw[h2]⟩
def RY{o:Oper} (h:d∉slots o):Ea E o (af.set d v)=Ea E o af:=by
 have hx:=λx=>RO h (x:=x);unfold Ea;split;·grind[Op.operands,CO]
 ·grind[Op.operands,CO]
 ·grind[Op.operands,CO]
 ·grind[Op.operands,CO]
 ·grind[Op.operands,CO]
 ·grind[Op.operands,rd,List.map_congr_left,CO]
 ·grind[Op.operands,CO]
 ·grind[Op.operands,CO]
 ·grind[Op.operands,CO]
 ·grind[Op.operands,CO]
 ·grind[Op.operands,Call.operands,CO]
 ·rename_i x y ts hop;simp only[hop,Op.operands,Call.operands]at hx;grind[CO]
 ·rename_i x y ts hop;simp only[hop,Op.operands,Call.operands]at hx;grind[CO]
 ·grind[Op.operands,Call.operands,CO]
 ·rename_i x y t s hop;simp only[hop,Op.operands,Call.operands]at hx;grind[CO]
 ·rfl
theorem WX{mv:List Tmp}{o:Oper} (h:d∉slots o) (hd:o.dst≠some d):Fv E mv o (af.set d v) st=(Fv E mv o af st).map λp=>(p.1.set d v,p.2):=by
 have hx:=λx=>RO h (x:=x);unfold Fv;split;·rename_i x hop;simp only[hop,Op.operands]at hx;split<;>simp[CO (hx x fH),Kj (hx x fH),Ck hd]
 ·grind[Op.operands,CO,Kj,Ck]
 ·rename_i t hop;split;·cases WU E.P t st.next<;>simp[Ck hd]
  ·cases Eh E.P t st.next<;>simp[Ck hd]
 ·rename_i t x hop;simp only[hop,Op.operands]at hx;rw[CO (hx x fH),Kj (hx x fH)];split<;>simp[Ck hd]
 ·rename_i t ps hop;simp only[hop,Op.operands]at hx;obtain⟨h1,h2⟩:=Rn (E:=E) (v:=v) (ty:=Ab E.P t) ps (af:=af) (λp hp=>hx p.2 (by grind));rw[h1,h2];cases Ue E t (Bf E (Ab E.P t) af ps).2<;>simp[Ck hd]
 ·rename_i t len ps hop;simp only[hop,Op.operands]at hx;obtain⟨h1,h2⟩:=Rn (E:=E) (v:=v) (ty:=λ_=>Ab E.P t 0) ps (af:=af) (λp hp=>hx p.2 (by grind));rw[h2,h1];split;·cases Jb E t len (Bf E (λ_=>Ab E.P t 0) af ps).2<;>simp[Ck hd]
  ·cases Iz E t len (Bf E (λ_=>Ab E.P t 0) af ps).2<;>simp[Ck hd]
 ·rename_i t x hop;simp only[hop,Op.operands]at hx;rw[CO (hx x fH)];split;·cases R6 E t (rd E af 0 x) st<;>simp[Ck hd]
  ·cases SQ E t (rd E af 0 x) st<;>simp[Ck hd]
 ·rename_i t x y hop;simp only[hop,Op.operands]at hx;rw[CO (hx x fH),CO (hx y fH),Kj (hx y fH)];split;·cases Pm E t (rd E af 0 x) (rd E af t y) st<;>simp
  ·simp
 ·rename_i t n hop;simp only[hop,Op.operands]at hx;have ht:d≠t:=λe=>hx (.tmp t) fH (by rw[e]);have hg:(af.set d v).getD t .any=af.getD t .any:=by grind
  rw[hg];split;·rename_i vs hvs;cases vs[n]? with |none=>simp|some r=>grind[List.set_comm,Ck]
  ·simp
 ·rename_i t x hop;simp only[hop,Op.operands]at hx;rw[CO (hx x fH)];split<;>grind[Ck]
 ·grind[Op.operands,List.getD,List.getElem?_set_ne,AFg,List.set_comm,Ck]
 ·rename_i t x lo hi mx hop;simp only[hop,Op.operands]at hx;rw[CO (hx x fH),ABd (λy hy=>hx y (by grind)),ABd (λy hy=>hx y (by grind)),ABd (λy hy=>hx y (by grind))];split;·rename_i l hh m h1 h2 h3;cases G7 E t (rd E af t x) l hh m<;>simp[Ck hd]
  ·simp
 ·rename_i x y t0 t1 ts hop;simp only[hop,Op.operands,Call.operands]at hx;rw[CO (hx x fH),CO (hx y fH),Kj (hx x fH)];split;·cases QH E t0 t1 (rd E af t0 x) (rd E af t1 y)<;>simp[Ck hd]
  ·cases Jq E t0 t1 (rd E af t0 x) (rd E af t1 y)<;>simp[Ck hd]
 ·grind[Ck]
 ·rename_i t m k ok hop;simp only[hop,Op.operands]at hx;rw[CO (hx m fH),CO (hx k fH)];cases Qw E t (rd E af t m) (rd E af 0 k) ok st<;>simp[Ck hd]
 ·rename_i t m k x hop;simp only[hop,Op.operands]at hx;rw[CO (hx m fH),CO (hx k fH),CO (hx x fH)];split;·cases Vp E t (rd E af t m) (rd E af 0 k) (rd E af 0 x) st<;>simp
  ·simp
 ·rename_i t m k x hop;simp only[hop,Op.operands]at hx;rw[CO (hx m fH),CO (hx k fH),CO (hx x fH)];split;·cases Vp E t (rd E af t m) (rd E af 0 k) (rd E af 0 x) st<;>simp
  ·simp
 ·rename_i t x i hop;simp only[hop,Op.operands]at hx;rw[RY h];cases Ea E o af with |some r=>grind[Ck]| none=>rw[CO (hx x fH),CO (hx i fH)];cases Kl E t (rd E af t x) (rd E af 0 i) st<;>simp[Ck hd]
 ·rename_i t x y hop;simp only[hop,Op.operands]at hx;rw[CO (hx x fH),CO (hx y fH)];split;·cases Xx E t (rd E af 0 x) (rd E af 0 y) st<;>simp[Ck hd]
  ·cases Yr E t (rd E af 0 x) (rd E af 0 y) st<;>simp[Ck hd]
 ·rename_i s e x hop;simp only[hop,Op.operands]at hx;rw[RY h];cases Ea E o af with |some r=>grind[Ck]| none=>rw[CO (hx x fH)];cases UN E s e (rd E af s x) st with |some r=>grind[Ck]|none=>cases SG E s e (rd E af s x) st<;>simp[Ck hd]
 ·rename_i x t0 ts hop;simp only[hop,Op.operands,Call.operands]at hx;rw[CO (hx x fH),Kj (hx x fH)];cases Uj (rd E af t0 x)<;>simp[Ck hd]
 ·rename_i x y t0 t1 hop;simp only[hop,Op.operands,Call.operands]at hx;rw[CO (hx x fH),CO (hx y fH),Kj (hx x fH)];cases Yc E t0 (rd E af t0 x) (rd E af t1 y)<;>simp[Ck hd]
 ·rw[RY h];cases Ea E o af<;>simp[Ck hd]
def APJ{mv:List Tmp}{o:Oper}{K:List AVal->St->Prop} (h:d∉slots o) (hd:o.dst≠some d) (hw:EJ E mv o (af.set d v) st K):EJ E mv o af st λaf' st'=>K (af'.set d v) st':=by
 have hx:=λx=>RO h (x:=x);unfold EJ at *;split at hw;·grind[Op.operands,Call.operands,CO,AIF,Ck]
 ·rename_i x y t0 t1 ts hop;simp only[hop,Op.operands,Call.operands]at hx;rw[CO (hx x fH),CO (hx y fH),WX h hd]at hw;split at hw
  ·split at hw;·rename_i wd l cs rest jo hab;rw[ah fG];grind[Ck]
   grind
  ·rw[ae fG];grind
 ·rename_i op t x y _ hop;simp only[hop,Op.operands]at hx;rw[WX h hd,CO (hx x fH)]at hw;split at hw;·rename_i hn;rw[ah hn];grind[Ck]
  ·rename_i hn;rw[ae hn];grind
 grind[WX,Fv]
end
def FM (E:Env) (o:Oper) (af:List AVal) (st:St):Option AVal:=match o.op with
 |.move x=>some (rd E af o.type x).strip
 |.load t x=>(SQ E t (rd E af 0 x) st).map AVal.strip
 | .slice t x lo hi mx=>match rdo E af lo,rdo E af hi,rdo E af mx with |some l,some h,some m=>G7 E t (rd E af t x) l h m|_,_,_=>none
 |.buildSlice t len ⟨ps⟩=>Iz E t len (Bf E (λ_=>Ab E.P t 0) af ps).2
 |.assign _=>none
 |.alloc _=>none
 |.box _ _=>none
 |.build _ _=>none
 |.store _ _ _=>none
 |.extract _ _=>none
 |.range _ _=>none
 |.next _ _=>none
 |.call {callee:=.builtin .append,args:=_,argTypes:=_}=>none
 |_=>(Ea E o af).map AVal.strip
def ASv{E:Env}{o:Oper}{af:List AVal}{st:St}{r:AVal} (h:FM E o af st=some r):Fv E [] o af st=some (BN af o.dst r,st):=by
 have hm: ∀dst,Q8 [] dst=false:=λdst=>by cases dst<;>rfl
 unfold FM at h;unfold Fv;split at h;·grind
 ·rename_i t x hop;simp only[hop,hm,aj,aq];cases hl:SQ E t (rd E af 0 x) st with |none=>grind|some z=>grind
 ·grind
 ·grind
 all_goals (try (cases h;done))
 rename_i h1 h2 h3 h4 h5 h6 h7 h8 h9 h10 h12 h13 h11;split;·grind
 ·grind
 ·grind
 ·grind
 ·grind
 ·grind
 ·grind
 ·grind
 ·grind
 ·grind
 ·grind
 ·grind
 ·grind
 ·grind[Ea]
 ·grind[Ea]
 ·grind[Ea]
 ·grind[Ea]
 ·grind
 ·grind[Ea]
 ·grind
 ·grind[Ea]
 ·grind[Ea]
 ·cases hp:Ea E o af with |none=>grind|some z=>grind
theorem AUz{E:Env}{o:Oper}{af:List AVal}{st:St}{d:Tmp}{v:AVal} (h:d∉slots o):FM E o (af.set d v) st=FM E o af st:=by
 have hx:=λx=>RO h (x:=x);unfold FM;split;·grind[Op.operands,CO]
 ·grind[Op.operands,CO]
 ·grind[Op.operands,CO,ABd]
 ·grind[Op.operands,Rn,Ab]
 all_goals (first| rfl| rw[RY h])
def OC (E:Env) (ops:Array Oper) (o:Oper) (af:List AVal) (st:St):Option AVal:=match o.guard with |none=>FM E o af st| some (j,want)=>match gdA ops af j want with |some true=>FM E o af st|some false=>some (.tuple [])|none=>none
def gWp (E:Env) (mv:List Tmp) (ops:Array Oper) (o:Oper) (af:List AVal) (st:St) (K:List AVal->St->Prop):Prop:=match o.guard with |none=>EJ E mv o af st K| some (j,want)=>match gdA ops af j want with |some true=>EJ E mv o af st K|some false=>K (BN af o.dst (.tuple [])) st|none=>False
theorem Ua{ops:Array Oper}{o:Oper}{d:Tmp} (h:d∉o.looksAt ops):d∉slots o:=λhm=>h (cX _ hm)
theorem guard_looks{ops:Array Oper}{o:Oper}{d g j:Nat}{want:Bool} (h:d∉o.looksAt ops) (hg:o.guard=some (j,want)) (hd:(ops[j]?).bind (·.dst)=some g):d≠g:=λe=>by subst e;exact h (cM _ (by grind))
theorem AXy{ops:Array Oper}{o:Oper}{af:List AVal}{d j:Nat}{want:Bool}{v:AVal} (h:d∉o.looksAt ops) (hg:o.guard=some (j,want)):gdA ops (af.set d v) j want=gdA ops af j want:=by grind[gdA,guard_looks,List.getD,List.getElem?_set_ne]
def ZN{E:Env}{ops:Array Oper}{o:Oper}{af:List AVal}{st:St}{d:Tmp}{v:AVal} (h:d∉o.looksAt ops):OC E ops o (af.set d v) st=OC E ops o af st:=by grind[OC,AUz,Ua,AXy]
def AmD{E:Env}{mv:List Tmp}{ops:Array Oper}{o:Oper}{af:List AVal}{st:St}{d:Tmp}{v:AVal}{K:List AVal->St->Prop} (h:d∉o.looksAt ops) (hd:o.dst≠some d) (hw:gWp E mv ops o (af.set d v) st K):gWp E mv ops o af st λaf' st'=>K (af'.set d v) st':=by
 unfold gWp at *;split at hw;·exact APJ (Ua h) hd hw
 ·rename_i j want hg;rw[AXy h hg]at hw;split at hw;·exact APJ (Ua h) hd hw
  ·grind[Ck]
  omega
section
variable{E:Env}{F:Nat->Nat}{Γ:Ghost}{st:St}{w:World}{af:List AVal}{a:Act}
def AFY{mv:List Tmp}{ops:Array Oper}{i:Nat}{o:Oper} (ho:ops[i]?=some o){K:List AVal->St->Prop}{K':Act->World->Prop}{Qc:Exit->Act->World->Prop} (hd:a.defers=[]) (hs:Sim E F Γ st w af a.tmps.toList) (h:gWp E mv ops o af st K) (hK: ∀Γ' af' st' a' w',Ext F Γ w Γ' w'->st.next<=st'.next->a'.defers=[]->Sim E F Γ' st' w' af' a'.tmps.toList->K af' st'->K' a' w'):wpOp E.P ops Qc i K' a w:=by
 unfold wpOp;simp only[ho];unfold gWp at h;split at h;·rename_i hg;rw[ah (by grind[Region.wanted])];exact .inl (Wo h F Γ w a hd hs K' Qc hK)
 ·rename_i j want hg;split at h;·rename_i hgd;rw[ah (by rw[P6 hg,VW hs hgd])];exact .inl (Wo h F Γ w a hd hs K' Qc hK)
  ·rename_i hgd;rw[ae (by rw[P6 hg,VW hs hgd];simp)];exact hK Γ _ st _ w (Ext.refl _ _ _) (aw _) (by grind[put_defers]) (hs.skipped o.dst) h
  grind
theorem Agy{E:Env}{t:TypeId}{w:Nat}{x:AVal}:GH E .eql t x (.slice w [] true)=none:=by cases x<;>simp[GH,Rt,AFn]
def AZq{mv:List Tmp}{ops:Array Oper}{o:Oper}{r:AVal} (h:OC E ops o af st=some r):gWp E [] ops o af st λaf' st'=>af'=BN af o.dst r/\st'=st:=by
 have key: ∀r,FM E o af st=some r->EJ E [] o af st λaf' st'=>af'=BN af o.dst r/\st'=st:=by
  intro r hr;have hst:=ASv hr;unfold EJ;split;·grind[FM,Ea]
  ·grind[FM]
  ·rename_i op t x y _ hop;split;·rename_i hn;obtain⟨rfl,rfl⟩:=AXG hn;grind[FM,Ea,rd,Kk,Agy]
   simp_all
  simp_all
 unfold OC at h;unfold gWp;split at h;·grind
 ·split at h;·exact key r h
  ·simp only[al]at h;subst h;exact⟨rfl,rfl⟩
  ·cases h
end
end Go.VM
set_option linter.unusedVariables false
namespace Go.VM
inductive Plan where |done |take (i:Nat) (p:Plan) |alt (i:Nat) (chk:List Nat) (p rest:Plan) |stop
def Plan.alts:Plan->List Nat |.alt i _ _ rest=>i::rest.alts|_=>[]
def Plan.sub (j:Nat):Plan->Option (List Nat×Plan) |.alt i chk p rest=>if i=j then some (chk,p)else rest.sub j|_=>none
def Aq3 (o:Oper) (k:Nat):Bool:=o.after.any λe=>Region.binds .any e&&e.on==k
def AVq (ops:Array Oper) (listed:Array Bool) (taken:List Nat) (i:Nat):Bool:=
  match ops[i]? with
  | some o=>
    match o.dst with
    |some d=>Region.free .any ops listed i&&!(o.looksAt ops).contains d&&taken.all λj=>match ops[j]? with|some oj=>!(oj.looksAt ops).contains d&&oj.dst !=some d|none=>false
    |none=>false
  |none=>false
def AYC (ops:Array Oper) (taken:List Nat) (i:Nat) (chk:List Nat):Bool:=match ops[i]? with |some o=>taken.all λk=>chk.contains k||Aq3 o k|none=>false
def KG (ops:Array Oper):Plan->Bool->Array Bool->List Nat->Bool |.done,mode,listed,_=>!mode&&(Region.ready .any ops listed).isEmpty|.take i p,mode,listed,taken=>!mode&&(Region.ready .any ops listed).contains i&&AVq ops listed taken i&&KG ops p false (listed.setIfInBounds i true) (i::taken)| .alt i chk p rest,mode,listed,taken=>(mode||(Region.ready .any ops listed).all λj=>(i::rest.alts).contains j)&&(Region.ready .any ops listed).contains i&&AYC ops taken i chk&&KG ops p false (listed.setIfInBounds i true) taken&&KG ops rest true listed taken|.stop,mode,_,_=>mode
def Xk:List (Nat×AVal)->Nat->Option AVal |[],_=>none|(j,r)::tv,k=>if k=j then some r else Xk tv k
def R4 (E:Env) (ops:Array Oper) (tv:List (Nat×AVal)) (af:List AVal) (st:St):List Nat->Prop |[]=>True|k::ks=>(match Xk tv k,ops[k]? with|some r,some o=>OC E ops o af st=some r|_,_=>False)/\R4 E ops tv af st ks
def Io (E:Env) (mv:List Tmp) (ops:Array Oper):Plan->List (Nat×AVal)->(List AVal->St->Prop)->List AVal->St->Prop
  |.done,_,K,af,st=>K af st
  | .take i p,tv,K,af,st=>
    match ops[i]? with
    | some o=>
      match OC E ops o af st with
      |some r=>Io E mv ops p ((i,r)::tv) K (BN af o.dst r) st
      |none=>False
    |none=>False
  | .alt i chk p rest,tv,K,af,st=>
    (match ops[i]? with
      |some o=>gWp E mv ops o af st λaf' st'=>R4 E ops tv af' st' chk/\Io E mv ops p tv K af' st'
      |none=>False)/\Io E mv ops rest tv K af st
  |.stop,_,_,_,_=>True
def Lj (ops:Array Oper) (i:Nat):Option Tmp:=(ops[i]?).bind (·.dst)
def JU (ops:Array Oper) (af:List AVal):List (Nat×AVal)->List AVal |[]=>af|(i,r)::pend=>JU ops (BN af (Lj ops i) r) pend
theorem Ug (ops:Array Oper) (pend:List (Nat×AVal)) (i:Nat) (r:AVal): ∀af,JU ops af (pend++[(i,r)])=BN (JU ops af pend) (Lj ops i) r:=by induction pend with |nil=>intro af;rfl|cons p pend ih=>intro af;exact ih _
def AIm{E:Env}{ops:Array Oper}{o:Oper}{st:St} (pend:List (Nat×AVal)): ∀af,(∀p,p∈pend->∀d,Lj ops p.1=some d->d∉o.looksAt ops)->OC E ops o (JU ops af pend) st=OC E ops o af st:=by induction pend with |nil=>intro af _;rfl| cons p pend ih=>intro af h;obtain⟨i,r⟩:=p;simp only[JU];rw[ih _ (λq hq=>h q (aZ _ hq))];cases hd:Lj ops i with |none=>rfl|some d=>exact ZN (h (i,r) fH d hd)
def AUT{E:Env}{mv:List Tmp}{ops:Array Oper}{o:Oper}{st:St} (pend:List (Nat×AVal)): ∀ {af:List AVal}{K:List AVal->St->Prop},(∀p,p∈pend->∀d,Lj ops p.1=some d->d∉o.looksAt ops/\o.dst≠some d)->gWp E mv ops o (JU ops af pend) st K->gWp E mv ops o af st λaf' st'=>K (JU ops af' pend) st':=by induction pend with |nil=>intro af K _ h;exact h| cons p pend ih=>intro af K h hw;obtain⟨i,r⟩:=p;simp only[JU]at hw⊢;have h1:=ih (λq hq=>h q (aZ _ hq)) hw;cases hd:Lj ops i with |none=>rw[hd]at h1;exact h1| some d=>rw[hd]at h1;obtain⟨a1,a2⟩:=h (i,r) fH d hd;exact AmD (K:=λaf' st'=>K (JU ops af' pend) st') a1 a2 h1
def AaT{af:List AVal}{d e:Option Tmp}{x y:AVal} (h: ∀t,d=some t->e≠some t):BN (BN af d x) e y=BN (BN af e y) d x:=by cases d with |none=>rfl| some d=>cases e with |none=>rfl| some e=>have:d≠e:=λhe=>h d rfl (by rw[he]);grind[BN,List.set_comm]
def Xy{ops:Array Oper}{i:Nat}{r:AVal} (pend:List (Nat×AVal)): ∀af,(i,r)∈pend->(pend.map (·.1)).Nodup->(∀p q,p∈pend->q∈pend->p.1≠q.1->∀t,Lj ops p.1=some t->Lj ops q.1≠some t)->JU ops af pend=JU ops (BN af (Lj ops i) r) (pend.filter λp=>p.1 !=i):=by
 induction pend with
 |nil=>simp
 | cons p pend ih=>
  intro af h hn hd;obtain⟨j,s⟩:=p;simp only[aE,ch]at hn;by_cases hij:j=i
  ·subst hij;have hsr:s=r:=by
    rcases aI.1 h with e|e;·grind
    ·exact absurd (bz.2 ⟨(j,r),e,rfl⟩) hn.1
   subst hsr;have hf:pend.filter (λp=>p.1 !=j)=pend:=List.filter_eq_self.2 λq hq=>by simp only[dQ,dY];grind
   grind[JU]
  ·have hm:(i,r)∈pend:=by
    rcases aI.1 h with e|e;·cases e;omega
    omega
   have hne:(j !=i)=true:=by grind
   rw[de,ah hne];simp only[JU];rw[ih _ hm hn.2 (λp q hp hq=>hd p q (aZ _ hp) (aZ _ hq))];rw[AaT (λt ht=>hd (j,s) (i,r) fH h fG t ht)]
def OrdP (ops:Array Oper):(Nat->Prop)->List (Nat×AVal)->Prop |_,[]=>True|P,(i,_)::rest=>(∀o,ops[i]?=some o->∀e,e∈o.after->Region.binds .any e=true->P e.on)/\OrdP ops (λk=>P k\/k=i) rest
def OrdP.mono{ops:Array Oper}: ∀ {pend:List (Nat×AVal)}{P P':Nat->Prop},(∀k,P k->P' k)->OrdP ops P pend->OrdP ops P' pend |[],_,_,_,_=>trivial|(i,_)::rest,_,_,h,⟨h1,h2⟩=>⟨λo ho e he hb=>h _ (h1 o ho e he hb),OrdP.mono (λk hk=>hk.imp (h k) id) h2⟩
def OrdP.snoc{ops:Array Oper}{i:Nat}{r:AVal}: ∀ {pend:List (Nat×AVal)}{P:Nat->Prop},OrdP ops P pend->(∀o,ops[i]?=some o->∀e,e∈o.after->Region.binds .any e=true->P e.on\/e.on∈pend.map (·.1))->OrdP ops P (pend++[(i,r)]) |[],P,_,h=>⟨λo ho e he hb=>(h o ho e he hb).resolve_right fH,trivial⟩|(j,_)::rest,P,⟨h1,h2⟩,h=>⟨h1,OrdP.snoc h2 λo ho e he hb=>by grind⟩
def OrdP.erase{ops:Array Oper}{k:Nat}: ∀ {pend:List (Nat×AVal)}{P:Nat->Prop},OrdP ops P pend->OrdP ops (λj=>P j\/j=k) (pend.filter λp=>p.1 !=k)
 |[],_,_=>trivial
 | (i,s)::rest,P,⟨h1,h2⟩=>by
  have ih:=OrdP.erase (k:=k) h2;by_cases hik:i=k;·grind
  ·have hne:(i !=k)=true:=by grind
   rw[de,ah hne];exact⟨λo ho e he hb=>.inl (h1 o ho e he hb),ih.mono λj hj=>by grind⟩
def Pb (n:Nat) (listed:Array Bool):Nat:=(List.range n).countP λk=>!listed.getD k true
def ADT{i:Nat}{f g:Nat->Bool} (hf:f i=false) (hg:g i=true) (h: ∀k,k≠i->f k=g k): ∀l:List Nat,l.countP f+l.count i=l.countP g |[]=>rfl| k::l=>by have ih:=ADT hf hg h l;grind
def Xh{n i:Nat}{listed:Array Bool} (hi:listed.getD i true=false) (hn:i<n):Pb n (listed.setIfInBounds i true)+1<=Pb n listed:=by
 have hlt:i<listed.size:=by grind
 have hset:(listed.setIfInBounds i true).getD i true=true:=fH;have hother: ∀k,k≠i->(listed.setIfInBounds i true).getD k true=listed.getD k true:=λk hk=>fA true (eH hk);unfold Pb;have key:=λl=>ADT (i:=i) (f:=λk=>!(listed.setIfInBounds i true).getD k true) (g:=λk=>!listed.getD k true) fH (by grind) (λk hk=>by grind) l;grind
def WR{n:Nat}{listed:Array Bool} (h:Pb n listed=0){k:Nat} (hk:k<n):listed.getD k true=true:=by have:=List.countP_eq_zero.1 h k (cy.2 hk);grind
structure Inv (E:Env) (ops:Array Oper) (act asap:Array Bool) (taken:List Nat) (pend tv:List (Nat×AVal)) (af:List AVal) (st:St):Prop where
  sz1:act.size=ops.size
  sz2:asap.size=ops.size
  list: ∀k,k<ops.size->(asap.getD k true=true<->act.getD k true=true\/k∈pend.map (·.1))
  notin: ∀p,p∈pend->act.getD p.1 true=false/\p.1<ops.size/\p.1∈taken
  nodup:(pend.map (·.1)).Nodup
  tvl: ∀p,p∈pend->Xk tv p.1=some p.2
  val: ∀p,p∈pend-> ∀o,ops[p.1]?=some o->OC E ops o (JU ops af pend) st=some p.2
  free: ∀p,p∈pend-> ∀d,Lj ops p.1=some d-> ∀j oj,ops[j]?=some oj->asap.getD j true=false->(∀e,e∈oj.after->Region.binds .any e=true->e.on≠p.1)->d∉oj.looksAt ops/\oj.dst≠some d
  self: ∀p,p∈pend-> ∀d o,Lj ops p.1=some d->ops[p.1]?=some o->d∉o.looksAt ops
  pair: ∀p q,p∈pend->q∈pend->p.1≠q.1-> ∀d,Lj ops p.1=some d->Lj ops q.1≠some d/\ ∀oq,ops[q.1]?=some oq->(∀e,e∈oq.after->Region.binds .any e=true->e.on≠p.1)->d∉oq.looksAt ops
  ord:OrdP ops (λk=>act.getD k false=true) pend
def TB{l:Array Bool}{k:Nat} (h:k<l.size):l.getD k false=l.getD k true:=by grind
section
variable{E:Env}{ops:Array Oper}
def Inv.ready_sub{act asap:Array Bool}{taken:List Nat}{pend tv:List (Nat×AVal)}{af:List AVal}{st:St} (I:Inv E ops act asap taken pend tv af st){j:Nat} (hj:j∈Region.ready .any ops act) (hp:j∉pend.map (·.1)):j∈Region.ready .any ops asap:=by
 obtain⟨h0,o,ho,h1⟩:=dg.1 hj;have hlt:j<ops.size:=(bb.1 ho).1;refine dg.2 ⟨?_,o,ho,λe he hb=>?_⟩;·cases h:asap.getD j true with |false=>rfl| true=>rcases (I.list j hlt).1 h with h|h<;>grind[absurd]
 ·have:=h1 e he hb;have hlt':e.on<act.size:=by grind
  rw[TB hlt']at this;rw[TB (by rw[I.sz2,<-I.sz1];omega)];exact(I.list e.on (by rw[<-I.sz1];omega)).2 (.inl this)
def Inv.some_ready{act asap:Array Bool}{taken:List Nat}{pend tv:List (Nat×AVal)}{af:List AVal}{st:St} (I:Inv E ops act asap taken pend tv af st) (h:Region.ready .any ops act=[]):pend=[]:=by
 cases hp:pend with
 |nil=>rfl
 | cons p rest=>
  exfalso;obtain⟨i,r⟩:=p;have hm:(i,r)∈pend:=by grind
  obtain⟨h0,hlt,_⟩:=I.notin _ hm;have hord:=I.ord;rw[hp]at hord;obtain⟨o,ho⟩: ∃o,ops[i]?=some o:=⟨ops[i],cN hlt⟩;have:i∈Region.ready .any ops act:=dg.2 ⟨h0,o,ho,λe he hb=>hord.1 o ho e he hb⟩;grind
def Inv.asap_ready{act asap:Array Bool}{taken:List Nat}{tv:List (Nat×AVal)}{af:List AVal}{st:St} (I:Inv E ops act asap taken [] tv af st){j:Nat} (hj:j∈Region.ready .any ops asap):j∈Region.ready .any ops act:=by
 obtain⟨h0,o,ho,h1⟩:=dg.1 hj;have hlt:j<ops.size:=(bb.1 ho).1;refine dg.2 ⟨?_,o,ho,λe he hb=>?_⟩;·cases h:act.getD j true with |false=>rfl|true=>have:=(I.list j hlt).2 (.inl h);grind
 ·have:=h1 e he hb;have hlt':e.on<asap.size:=by grind
  rw[TB hlt']at this;rw[TB (by rw[I.sz1,<-I.sz2];omega)];rcases (I.list e.on (by rw[<-I.sz2];exact hlt')).1 this with h|h<;>grind
def ADt{tv:List (Nat×AVal)}{af:List AVal}{st:St}: ∀ {chk:List Nat},R4 E ops tv af st chk->∀ {k:Nat},k∈chk->∃r o,Xk tv k=some r/\ops[k]?=some o/\OC E ops o af st=some r
 |[],_,_,h=>by cases h
 | x::xs,⟨h1,h2⟩,k,h=>by
  rcases aI.1 h with rfl|h;·grind
  ·exact ADt h2 h
def ARh{mv:List Tmp}{listed:Array Bool}{taken:List Nat}{tv:List (Nat×AVal)}{K:List AVal->St->Prop}{af:List AVal}{st:St}: ∀ {p:Plan},KG ops p true listed taken=true->Io E mv ops p tv K af st->∀ {j:Nat},j∈p.alts->∃chk q o,ops[j]?=some o/\AYC ops taken j chk=true/\KG ops q false (listed.setIfInBounds j true) taken=true/\gWp E mv ops o af st λaf' st'=>R4 E ops tv af' st' chk/\Io E mv ops q tv K af' st'
 | .alt i chk p rest,hok,hw,j,hj=>by
  simp only[KG,az]at hok;simp only[Io]at hw;rcases aI.1 hj with rfl|hj;·grind
  ·exact ARh hok.2 hw.2 hj
 |.done,_,_,_,h=>by cases h
 |.take _ _,_,_,_,h=>by cases h
 |.stop,_,_,_,h=>by cases h
def Inv.take{act asap:Array Bool}{taken:List Nat}{pend tv:List (Nat×AVal)}{af:List AVal}{st:St} (I:Inv E ops act asap taken pend tv af st){i:Nat}{o:Oper}{r:AVal} (hr:i∈Region.ready .any ops asap) (hok:AVq ops asap taken i=true) (ho:ops[i]?=some o) (hv:OC E ops o (JU ops af pend) st=some r):Inv E ops act (asap.setIfInBounds i true) (i::taken) (pend++[(i,r)]) ((i,r)::tv) af st:=by
 obtain⟨h0,o',ho',hw⟩:=dg.1 hr;rw[ho]at ho';cases ho';have hlt:i<ops.size:=(bb.1 ho).1;have hact:act.getD i true=false:=by cases h:act.getD i true with |false=>rfl|true=>have:=(I.list i hlt).2 (.inl h);grind
 have hnp:i∉pend.map (·.1):=λh=>by have:=(I.list i hlt).2 (.inr h);grind
 unfold AVq at hok;rw[ho]at hok;simp only at hok;split at hok
 ·rename_i d hd;simp only[az,cD,aS]at hok;obtain⟨⟨hfree,hself⟩,htk⟩:=hok;have hself':d∉o.looksAt ops:=by grind
  have hdst:Lj ops i=some d:=by grind[Lj]
  have hfr:=λj oj hj hne hun hno=>Oper.apart_spec (Region.free_spec ho hfree j oj hj hne hun hno);have htk': ∀j,j∈taken->∀oj,ops[j]?=some oj->d∉oj.looksAt ops/\oj.dst≠some d:=by intro j hj oj hoj;have:=htk j hj;simp_all
  have hset: ∀k,k≠i->(asap.setIfInBounds i true).getD k true=asap.getD k true:=λk hk=>fA true (eH hk);have hseti:(asap.setIfInBounds i true).getD i true=true:=fH;have hpne: ∀p,p∈pend->p.1≠i:=λp hp e=>hnp (bz.2 ⟨p,hp,e⟩);refine {sz1:=I.sz1,sz2:=by simp[I.sz2],list:=?_,notin:=?_,nodup:=?_,tvl:=?_,val:=?_,free:=?_,self:=?_,pair:=?_,ord:=?_}
  ·intro k hk;rw[cf,aY];by_cases hki:k=i;·grind
   ·rw[hset k hki,I.list k hk];grind
  ·intro p hp;rcases aY.1 hp with hp|hp;·obtain⟨a,b,c⟩:=I.notin p hp;grind
   grind
  ·rw[cf,List.nodup_append];refine⟨I.nodup,fH,?_⟩;grind
  ·intro p hp;rcases aY.1 hp with hp|hp;·simp only[Xk];rw[ae (hpne p hp)];exact I.tvl p hp
   grind[Xk]
  ·intro p hp op hop;rw[Ug,hdst];rcases aY.1 hp with hp|hp;·rw[show BN (JU ops af pend) (some d) r=(JU ops af pend).set d r from rfl,ZN (htk' p.1 (I.notin p hp).2.2 op hop).1];exact I.val p hp op hop
   ·simp only[bm]at hp;subst hp;rw[ho]at hop;cases hop;rw[show BN (JU ops af pend) (some d) r=(JU ops af pend).set d r from rfl,ZN hself'];omega
  ·intro p hp dd hdd j oj hoj hun hno;have hji:j≠i:=λe=>by grind
   rw[hset j hji]at hun;rcases aY.1 hp with hp|hp;·exact I.free p hp dd hdd j oj hoj hun hno
   grind
  ·intro p hp dd op hdd hop;rcases aY.1 hp with hp|hp;·exact I.self p hp dd op hdd hop
   grind
  ·intro p q hp hq hne dd hdd;rcases aY.1 hp with hp|hp<;>rcases aY.1 hq with hq|hq;·exact I.pair p q hp hq hne dd hdd
   ·simp only[bm]at hq;subst hq;simp only at hne⊢;refine⟨?_,λoq hoq hno=>?_⟩
    ·rw[hdst];intro e;simp only[al]at e;have hpo: ∃op,ops[p.1]?=some op:=⟨_,cN (I.notin p hp).2.1⟩;obtain⟨op,hop⟩:=hpo;have:=(htk' p.1 (I.notin p hp).2.2 op hop).2;have hdd':op.dst=some dd:=by grind[Lj]
     rw[hdd',e]at this;grind
    ·rw[ho]at hoq;cases hoq;exact(I.free p hp dd hdd i o ho h0 hno).1
   ·simp only[bm]at hp;subst hp;simp only at hne hdd⊢;rw[hdst]at hdd;cases hdd;obtain⟨oq,hoq⟩: ∃oq,ops[q.1]?=some oq:=⟨_,cN (I.notin q hq).2.1⟩;have hh:=htk' q.1 (I.notin q hq).2.2;grind[Lj]
   ·simp only[bm]at hp hq;subst hp;subst hq;omega
  ·refine I.ord.snoc λo'' ho'' e he hb=>?_;rw[ho]at ho'';cases ho'';have:=hw e he hb;have hlt':e.on<asap.size:=by grind
   rw[TB hlt']at this;rcases (I.list e.on (by rw[<-I.sz2];omega)).1 this with h|h;·exact .inl (by rw[TB (by rw[I.sz1,<-I.sz2];omega)];exact h)
   grind
 grind
def Inv.come{act asap:Array Bool}{taken:List Nat}{pend tv:List (Nat×AVal)}{af:List AVal}{st:St} (I:Inv E ops act asap taken pend tv af st){i:Nat}{r:AVal} (hm:(i,r)∈pend):Inv E ops (act.setIfInBounds i true) asap taken (pend.filter λp=>p.1 !=i) tv (BN af (Lj ops i) r) st:=by
 obtain⟨h0,hlt,htk⟩:=I.notin _ hm;have hmem: ∀p,p∈pend.filter (λp=>p.1 !=i)->p∈pend/\p.1≠i:=λp hp=>by grind
 have hset: ∀k,k≠i->(act.setIfInBounds i true).getD k true=act.getD k true:=λk hk=>fA true (eH hk);have hseti:(act.setIfInBounds i true).getD i true=true:=fH;have herase:=Xy pend af hm I.nodup (λp q hp hq hne t ht=>(I.pair p q hp hq hne t ht).1);refine {sz1:=by simp[I.sz1],sz2:=I.sz2,list:=?_,notin:=?_,nodup:=?_,tvl:=λp hp=>I.tvl p (hmem p hp).1,val:=?_,free:=λp hp=>I.free p (hmem p hp).1,self:=λp hp=>I.self p (hmem p hp).1,pair:=λp q hp hq=>I.pair p q (hmem p hp).1 (hmem q hq).1,ord:=?_}
 ·intro k hk;by_cases hki:k=i;·subst hki;rw[hseti];simp only[true_or,iff_true];exact(I.list k hk).2 (.inr (bz.2 ⟨_,hm,rfl⟩))
  ·rw[hset k hki,I.list k hk];simp_all
 ·intro p hp;obtain⟨a,b⟩:=hmem p hp;obtain⟨c,d,e⟩:=I.notin p a;grind
 ·exact(List.filter_sublist.map _).nodup I.nodup
 ·intro p hp o ho;rw[<-herase];exact I.val p (hmem p hp).1 o ho
 ·refine(I.ord.erase (k:=i)).mono λk hk=>?_;grind
def Inv.step{act asap:Array Bool}{taken:List Nat}{pend tv:List (Nat×AVal)}{af af':List AVal}{st st':St} (I:Inv E ops act asap taken pend tv af st){i:Nat}{chk:List Nat}{o:Oper} (hr:i∈Region.ready .any ops act) (hp:i∉pend.map (·.1)) (ho:ops[i]?=some o) (hchk:AYC ops taken i chk=true) (hall:R4 E ops tv (JU ops af' pend) st' chk):Inv E ops (act.setIfInBounds i true) (asap.setIfInBounds i true) taken pend tv af' st':=by
 obtain⟨h0,o',ho',hw⟩:=dg.1 hr;rw[ho]at ho';cases ho';have hlt:i<ops.size:=(bb.1 ho).1;have hset: ∀(l:Array Bool) k,k≠i->(l.setIfInBounds i true).getD k true=l.getD k true:=λl k hk=>fA true (eH hk);have hseti: ∀(l:Array Bool),l.size=ops.size->(l.setIfInBounds i true).getD i true=true:=λl hl=>by simp
 have hpne: ∀p,p∈pend->p.1≠i:=λp hpm e=>hp (bz.2 ⟨p,hpm,e⟩);refine {sz1:=by simp[I.sz1],sz2:=by simp[I.sz2],list:=?_,notin:=?_,nodup:=I.nodup,tvl:=I.tvl,val:=?_,free:=?_,self:=I.self,pair:=I.pair,ord:=?_}
 ·intro k hk;by_cases hki:k=i;·simp_all
  ·rw[hset act k hki,hset asap k hki];exact I.list k hk
 ·intro p hpm;obtain⟨a,b,c⟩:=I.notin p hpm;grind
 ·intro p hpm op hop;unfold AYC at hchk;rw[ho]at hchk;simp only[aS,bM]at hchk;obtain⟨a,b,c⟩:=I.notin p hpm;rcases hchk p.1 c with h|h;·obtain⟨r,o2,e1,e2,e3⟩:=ADt hall (by simpa using h);rw[I.tvl p hpm]at e1;grind
  ·exfalso;obtain⟨e,he,hb⟩:=Array.any_eq_true'.1 h;simp only[az,bE]at hb;have:=hw e he hb.1;rw[hb.2,TB (by grind),a]at this;grind
 ·intro p hpm d hd j oj hoj hun hno;have hji:j≠i:=λe=>by simp_all
  rw[hset asap j hji]at hun;exact I.free p hpm d hd j oj hoj hun hno
 ·exact I.ord.mono λk hk=>getD_set_true hk
def AUw{mv:List Tmp}{K:List AVal->St->Prop}{Qc:Exit->Act->World->Prop}{F:Nat->Nat} (fuel:Nat): ∀(plan:Plan){act asap:Array Bool}{taken:List Nat}{pend tv:List (Nat×AVal)}{af:List AVal}{st:St}{a:Act}{w:World}{Γ:Ghost},KG ops plan false asap taken=true->Pb ops.size act<=fuel->Inv E ops act asap taken pend tv af st->a.defers=[]->Sim E F Γ st w af a.tmps.toList->Io E mv ops plan tv K (JU ops af pend) st->(∀Γ' af' st' a' w',Ext F Γ w Γ' w'->st.next<=st'.next->a'.defers=[]->Sim E F Γ' st' w' af' a'.tmps.toList->K af' st'->Qc .normal a' w')->wpAny E.P .any ops Qc fuel act a w:=by
 induction fuel with
 | zero=>
  intro plan;induction plan with
  | done=>
   intro act asap taken pend tv af st a w Γ hok hn I hd hs hw hK;have hrd:Region.ready .any ops act=[]:=List.eq_nil_iff_forall_not_mem.2 λj hj=>by obtain⟨h0,o,ho,_⟩:=dg.1 hj;rw[WR (Nat.le_zero.1 hn) (bb.1 ho).1]at h0;grind
   have:=I.some_ready hrd;subst this;exact⟨hrd,hK Γ af st a w (Ext.refl _ _ _) (aw _) hd hs hw⟩
  | take i p ih=>
   intro act asap taken pend tv af st a w Γ hok hn I hd hs hw hK;simp only[KG,az]at hok;simp only[Io]at hw;split at hw
   ·rename_i o ho;split at hw;·rename_i r hr;have I2:=I.take (by grind) hok.1.2 ho hr;grind[Ug,Lj]
    grind
   grind
  | alt i chk p rest _ _=>
   intro act asap taken pend tv af st a w Γ hok hn I hd hs hw hK;exfalso;simp only[KG,az]at hok;have hi:i∈Region.ready .any ops asap:=by grind
   obtain⟨h0,o,ho,_⟩:=dg.1 hi;have hlt:=(bb.1 ho).1;have:=(I.list i hlt).2 (.inl (WR (Nat.le_zero.1 hn) hlt));grind
  |stop=>grind[KG]
 | succ fuel ihf=>
  have come: ∀(plan:Plan){act asap:Array Bool}{taken:List Nat}{pend tv:List (Nat×AVal)}{af:List AVal}{st:St}{a:Act}{w:World}{Γ:Ghost},KG ops plan false asap taken=true->Pb ops.size act<=fuel+1->Inv E ops act asap taken pend tv af st->a.defers=[]->Sim E F Γ st w af a.tmps.toList->Io E mv ops plan tv K (JU ops af pend) st->(∀Γ' af' st' a' w',Ext F Γ w Γ' w'->st.next<=st'.next->a'.defers=[]->Sim E F Γ' st' w' af' a'.tmps.toList->K af' st'->Qc .normal a' w')->∀j,j∈Region.ready .any ops act->j∈pend.map (·.1)->wpOp E.P ops Qc j (wpAny E.P .any ops Qc fuel (act.setIfInBounds j true)) a w:=by
   intro plan act asap taken pend tv af st a w Γ hok hn I hd hs hw hK j hj hjp;obtain⟨p,hp,rfl⟩:=bz.1 hjp;obtain⟨h0,o,ho,hwt⟩:=dg.1 hj;have hlt:=(bb.1 ho).1;have hlooks: ∀q,q∈pend->∀d,Lj ops q.1=some d->d∉o.looksAt ops:=by
    intro q hq d hdd;by_cases hqp:q.1=p.1;·exact I.self q hq d o hdd (by grind)
    ·refine(I.pair q p hq hp hqp d hdd).2 o ho λe he hb heq=>?_;have:=hwt e he hb;obtain⟨a1,b1,_⟩:=I.notin q hq;grind
   have hval:=I.val p hp o ho;rw[AIm pend af hlooks]at hval;refine AFY ho hd hs (AZq (mv:=mv) hval) λΓ' af' st' a' w' x1 n1 d1 s1 k1=>?_;obtain⟨rfl,rfl⟩:=k1;have hdst:Lj ops p.1=o.dst:=by grind[Lj]
   have hpm:(p.1,p.2)∈pend:=hp;have I2:=I.come hpm;rw[hdst]at I2;refine ihf plan hok (by have:=Xh h0 hlt;omega) I2 d1 s1 ?_ λΓ2 af2 st2 a2 w2 x2 n2 d2 s2 k2=>hK Γ2 af2 st2 a2 w2 (x1.trans x2) (bA n1 n2) d2 s2 k2;rw[Xy pend af hpm I.nodup (λp q hp hq hne t ht=>(I.pair p q hp hq hne t ht).1),hdst]at hw;omega
  intro plan;induction plan with
  | done=>
   intro act asap taken pend tv af st a w Γ hok hn I hd hs hw hK;refine⟨λhrd=>?_,λj hj=>?_⟩;·have:=I.some_ready hrd;subst this;exact hK Γ af st a w (Ext.refl _ _ _) (aw _) hd hs hw
   ·by_cases hjp:j∈pend.map (·.1);·grind
    ·exfalso;have:=I.ready_sub hj hjp;simp only[KG,aL,bJ,List.isEmpty_iff]at hok;grind
  | take i p ih=>
   intro act asap taken pend tv af st a w Γ hok hn I hd hs hw hK;simp only[KG,az]at hok;simp only[Io]at hw;split at hw
   ·rename_i o ho;split at hw;·rename_i r hr;have I2:=I.take (by grind) hok.1.2 ho hr;grind[Ug,Lj]
    grind
   grind
  | alt i chk p rest _ _=>
   intro act asap taken pend tv af st a w Γ hok hn I hd hs hw hK;have hok0:=hok;simp only[KG,az]at hok;have hi:i∈Region.ready .any ops asap:=by grind
   refine⟨λhrd=>?_,λj hj=>?_⟩;·exfalso;have:=I.some_ready hrd;subst this;have:=I.asap_ready hi;grind
   ·by_cases hjp:j∈pend.map (·.1);·grind
    ·have hja:=I.ready_sub hj hjp;have hall:=hok.1.1.1.1;simp only[be,aS]at hall;have hjm:j∈(Plan.alt i chk p rest).alts:=by grind[Plan.alts]
     have hok':KG ops (.alt i chk p rest) true asap taken=true:=by simp only[KG,cV,bJ,az];grind
     obtain⟨chk',q,o,ho,hc,hq,hg⟩:=ARh hok' hw hjm;obtain⟨h0,o',ho',hwt⟩:=dg.1 hj;rw[ho]at ho';cases ho';have hlt:=(bb.1 ho).1;have hun:asap.getD j true=false:=(dg.1 hja).1;have hlooks: ∀p,p∈pend->∀d,Lj ops p.1=some d->d∉o.looksAt ops/\o.dst≠some d:=by intro p hp d hdd;refine I.free p hp d hdd j o ho hun λe he hb heq=>?_;have:=hwt e he hb;obtain⟨a1,b1,_⟩:=I.notin p hp;grind
     refine AFY ho hd hs (AUT pend hlooks hg) λΓ' af' st' a' w' x1 n1 d1 s1 k1=>?_;have I2:=I.step hj hjp ho hc k1.1;exact ihf q hq (by have:=Xh h0 hlt;omega) I2 d1 s1 k1.2 λΓ2 af2 st2 a2 w2 x2 n2 d2 s2 k2=>hK Γ2 af2 st2 a2 w2 (x1.trans x2) (bA n1 n2) d2 s2 k2
  |stop=>grind[KG]
end
def Td{E:Env}{Q:APost}{af:List AVal}{st:St}{id:Nat}{ops:Array Oper} (mv:List Tmp) (plan:Plan) (hm:E.P.follows .mixedOrders=true) (hok:KG ops plan false (Array.replicate ops.size false) []=true) (h:Io E mv ops plan [] (λaf st=>Q .normal af st) af st):AWp E (.region id ops true) Q af st:=by
 constructor;intro F Γ w a hd hs;refine wp_region_any hm ?_;have I:Inv E ops (Array.replicate ops.size false) (Array.replicate ops.size false) [] [] [] af st:=by
  have hno: ∀p:Nat×AVal,p∈([]:List (Nat×AVal))->False:=λp hp=>by grind
  exact {sz1:=fH,sz2:=fH,list:=(λk hk=>by simp),notin:=(λp hp=>(hno p hp).elim),nodup:=fH,tvl:=(λp hp=>(hno p hp).elim),val:=(λp hp=>(hno p hp).elim),free:=(λp hp=>(hno p hp).elim),self:=(λp hp=>(hno p hp).elim),pair:=(λp q hp=>(hno p hp).elim),ord:=trivial}
 have hun:Pb ops.size (Array.replicate ops.size false)<=ops.size:=by grind[Pb,List.countP_le_length,Array.replicate,List.range]
 exact AUw ops.size plan hok hun I hd hs.drew h λΓ' af' st' a' w' x1 n1 d1 s1 k1=>⟨trivial,d1,Γ',af',st',⟨x1.le,x1.keep,x1.size,x1.os,x1.output,x1.tape⟩,n1,s1,k1⟩
end Go.VM
set_option linter.unusedVariables false
namespace Go.VM
def Al:List Tmp->List AVal->List AVal |[],af=>af|j::js,af=>Al js (af.set j .any)
def setVals:List AVal->List Tmp->List AVal->List AVal |af,c::cs,v::vs=>setVals (af.set c v) cs vs|af,_,_=>af
def DN (af:List AVal) (cs:List Tmp):List AVal:=cs.map λc=>af.getD c .any
section
variable{E:Env}{F:Nat->Nat}{Γ:Ghost}{st:St}{w:World}{af:List AVal}{a:Act}{Q:APost}
def Sim.setAny (hs:Sim E F Γ st w af a.tmps.toList) (j:Tmp):Sim E F Γ st w (af.set j .any) a.tmps.toList:=by
 have key: ∀ {xs:List AVal}{vs:List Value} (j:Nat),RepL Γ xs vs->RepL Γ (xs.set j .any) vs:=by intro xs;induction xs with |nil=>simp| cons x xs ih=>intro vs j h;cases h with | cons h t=>cases j with |zero=>exact .cons (.any _) t|succ j=>exact .cons h (ih j t)
 have keyo: ∀ {xs:List AVal}{vs:List Value} (j:Nat),ownL Γ w xs vs->ownL Γ w (xs.set j .any) vs:=by intro xs;induction xs with |nil=>simp| cons x xs ih=>intro vs j h;cases vs with |nil=>cases j<;>simp[ownL]| cons v vs=>rw[ownL]at h;cases j with |zero=>grind[ownL,VM.own]|succ j=>grind[ownL]
 have keyc: ∀(xs:List AVal) (vs:List Value) (j b:Nat),AP b (xs.set j .any) vs<=AP b xs vs:=by intro xs;induction xs with |nil=>simp| cons x xs ih=>intro vs j b;cases vs with |nil=>cases j<;>simp[AP]| cons v vs=>cases j with |zero=>grind[AP,cnt]|succ j=>grind[AP]
 exact {hs with rep:=key j hs.rep,own:=keyo j hs.own,tok:=λb=>by have:=keyc af a.tmps.toList j b;have:=hs.tok b;omega}
def Sim.mask (js:List Tmp): ∀ {af:List AVal},Sim E F Γ st w af a.tmps.toList->Sim E F Γ st w (Al js af) a.tmps.toList:=by induction js with |nil=>intro af hs;exact hs|cons j js ih=>intro af hs;exact ih (hs.setAny j)
def U0{c:Code} (js:List Tmp) (h:AWp E c Q (Al js af) st):AWp E c Q af st:=⟨λF Γ w a hd hs=>h.go F Γ w a hd (hs.mask js)⟩
def UW (js:List Tmp): ∀(af:List AVal) (j:Tmp),Al js (af.set j .any)=(Al js af).set j .any:=by induction js<;>grind[Al,List.set_set,List.set_comm]
theorem MG: ∀(cs:List Tmp) (af af0:List AVal),Al cs af=Al cs af0->af=setVals af0 cs (DN af cs):=by
 intro cs;induction cs with
 |nil=>intro af af0 h;exact h
 | cons c cs ih=>
  intro af af0 h;simp only[Al]at h;simp only[DN,aE,setVals];have h2:Al cs af=Al cs (af0.set c (af.getD c .any)):=by
   have hl:af.length=af0.length:=by
    have hlen: ∀(l:List Tmp) (x:List AVal),(Al l x).length=x.length:=by intro l;induction l<;>grind[Al]
    have:=bg List.length h;grind
   rw[UW,UW]at h;apply cE;intro i;have hi:=bg (·[i]?) h;simp only[dy]at hi;have hmask: ∀(l:List Tmp) (x:List AVal) (k:Nat),(Al l x)[k]?=if k∈l then(if k<x.length then some .any else none)else x[k]?:=by
    intro l;induction l with
    |nil=>grind[Al]
    | cons j l ih=>
     intro x k;simp only[Al,ih,cp,aI];by_cases hkl:k∈l;·grind
     ·by_cases hkj:k=j;·subst hkj;simp only[hkl,aq,true_or,av,dy]
      ·simp only[hkl,aq,hkj,ek,dy];rw[ae (λe=>hkj e.symm)]
   rw[hmask,hmask];rw[hmask,hmask]at hi;by_cases hic:i∈cs;·grind
   ·simp only[hic,aq]at hi⊢;rw[dy];by_cases hci:c=i;·subst hci;simp only[av];by_cases hlt:c<af.length<;>simp_all[List.getD]
    simp_all
  exact ih af _ h2
def ACN{c:Code} (js cs:List Tmp) (I:Nat->List AVal->St->Prop) (n₀:Nat) (h₀:I n₀ (DN (Al js af) cs) st) (round: ∀n vs st',I n vs st'->∀J:List AVal->St->Prop,(∀n' af' st' m,n'<n->m.Sublist st'.m->Al cs (Al js af')=Al cs (Al js af)->I n' (DN (Al js af') cs) {st' with m:=m}->J af' st')->AWp E c (kPost J Q) (setVals (Al js af) cs vs) st'):AWp E (.loop c) Q af st:=by refine U0 js ?_;constructor;intro F Γ w a hd hs;refine wp_loop_ghost (λn a' w'=>a'.defers=[]/\∃Γ' vs st',Ext F Γ w Γ' w'/\st.next<=st'.next/\Sim E F Γ' st' w' (setVals (Al js af) cs vs) a'.tmps.toList/\I n vs st') n₀ ⟨hd,Γ,DN (Al js af) cs,st,Ext.refl _ _ _,aw _,by rw[<-MG cs _ _ rfl];omega,h₀⟩ ?_;intro n a₁ w₁ ⟨hd1,Γ₁,vs₁,st₁,h2,h3,h4,h5⟩;refine fj ((round n vs₁ st₁ h5 (λaf' st'=>∃n' m,n'<n/\m.Sublist st'.m/\Al cs (Al js af')=Al cs (Al js af)/\I n' (DN (Al js af') cs) {st' with m:=m}) (λn' af' st' m k1 k2 k3 k4=>⟨n',m,k1,k2,k3,k4⟩)).go F Γ₁ w₁ a₁ hd1 h4) ?_;intro e a' w' hq;have hq:=Wq h2 h3 hq;cases e with | normal=>obtain⟨_,k1,Γ',af',st',k2,k3,k4,kk⟩:=hq;obtain⟨n',m,k5,k6,k7,k8⟩:=kk.get;refine⟨n',k5,k1,Γ',DN (Al js af') cs,{st' with m:=m},k2,k3,?_,k8⟩;rw[<-MG cs _ _ k7];exact(k4.mask js).fewer k6| _=>obtain⟨k0,k1,Γ',af',st',k2,k3,k4,kk⟩:=hq;exact⟨k0,k1,Γ',af',st',k2,k3,k4,kk.out fH⟩
theorem ACall.strip{f:FuncId}{args:List AVal}{Q:AVal->St->Prop} (h:ACall E f args st λr st'=>Q r.strip st'):ACall E f args st Q:=⟨λF Γ w cargs hs=>(h.go F Γ w cargs hs).mono λe w' ⟨v,he,Γ',r,st',h1,h2,h3,h4⟩=>⟨v,he,Γ',r.strip,st',h1,h2,by
 have hr:Rep Γ' r v:=by have:=h3.rep;cases this;omega
 have ht: ∀b,F b+AP b [r.strip] [v]+A7 Γ' w' b st'.m<=1:=λb=>by have:=h3.tok b;grind[AP,KH]
 exact {h3 with rep:=.cons hr.strip .nil,own:=(by grind[ownL,Nk]),tok:=ht},h4⟩⟩
end
end Go.VM
set_option linter.unusedVariables false
namespace Go.VM
mutual def bnd:AVal->Prop |.agg cs=>bndL cs|.tuple cs=>bndL cs|.slice _ xs _=>xs.length<=Dp|.str s=>s.length<=Dp|.buf _ l _=>l.length<=Dp|_=>True def bndL:List AVal->Prop |[]=>True|x::xs=>bnd x/\bndL xs end
mutual theorem Rep.bnd{Γ:Ghost}: {x:AVal}->{v:Value}->Rep Γ x v->VM.bnd x |_,_,.any v=>by simp[VM.bnd]|_,_,.bool b=>by simp[VM.bnd]|_,_,.int k n=>by simp[VM.bnd]|_,_,.str b h=>by grind[VM.bnd]|_,_,.agg h o=>by simp only[VM.bnd];exact RepL.bndL h|_,_,.tuple h=>by simp only[VM.bnd];exact RepL.bndL h|_,_,.snil w o a=>by simp[VM.bnd]|_,_,.slice o hb hl hc h _=>by grind[VM.bnd]|_,_,.ptr h=>by simp[VM.bnd]|_,_,.nilp=>by simp[VM.bnd]|_,_,.cptr hb hd h _=>by simp[VM.bnd]|_,_,.fn h k=>by simp[VM.bnd]|_,_,.nilFn=>by simp[VM.bnd]|_,_,.iface h=>by simp[VM.bnd]|_,_,.nilIface=>by simp[VM.bnd]|_,_,.iter _ _ _=>by simp[VM.bnd]|_,_,.bsl _ _ _=>by simp[VM.bnd]|_,_,.nself _=>by simp[VM.bnd]| _,_,.buf _ h _=>by have:=Rep.bnd h;grind[VM.bnd,u8s]|_,_,.bnil _ _=>by simp[VM.bnd]|_,_,.bufp _ _ _ _ _=>by simp[VM.bnd]|_,_,.map _ _ _=>by simp[VM.bnd]|_,_,.slop _ _ _ _=>by simp[VM.bnd]|_,_,.sh _ _=>by simp[VM.bnd]|_,_,.sptr _=>by simp[VM.bnd]|_,_,.gsl _ _ _ _=>by simp[VM.bnd]|_,_,.nmap=>by simp[VM.bnd]|_,_,.num _ _=>by simp[VM.bnd]|_,_,.nbuf _=>by simp[VM.bnd]|_,_,.trow _ _ _ _=>by simp[VM.bnd] theorem RepL.bndL{Γ:Ghost}: {xs:List AVal}->{vs:List Value}->RepL Γ xs vs->VM.bndL xs |_,_,.nil=>by simp[VM.bndL]|_,_,.cons h t=>by simp only[VM.bndL];exact⟨Rep.bnd h,RepL.bndL t⟩ end
theorem RepS.bndL{Γ:Ghost}{w:Nat}{xs:List AVal}{cs:List Value} (h:RepS Γ w xs cs):VM.bndL xs:=by induction xs generalizing cs with |nil=>simp[VM.bndL]| cons x xs ih=>cases h with |cons h hw t=>simp only[VM.bndL];exact⟨h.bnd,ih t⟩
def keysLt (n:Nat) (m:List (Nat×List AVal)):Prop:= ∀i,n<=i->A9 m i=none
theorem Sim.keysLt{E:Env}{F:Nat->Nat}{Γ:Ghost}{st:St}{w:World}{af:List AVal}{tm:List Value} (hs:Sim E F Γ st w af tm):keysLt st.next st.m:=by intro i hi;cases hm:A9 st.m i with |none=>rfl| some c=>have:=hs.key_lt (M4 hm);omega
theorem AWp.known{E:Env}{c:Code}{Q:APost}{af:List AVal}{st:St} (h:bndL af->keysLt st.next st.m->AWp E c Q af st):AWp E c Q af st:=⟨λF Γ w a hd hs=>(h hs.rep.bndL hs.keysLt).go F Γ w a hd hs⟩
theorem ACall.known{E:Env}{f:FuncId}{args:List AVal}{st:St}{Q:AVal->St->Prop} (h:bndL args->keysLt st.next st.m->ACall E f args st Q):ACall E f args st Q:=⟨λF Γ w cargs hs=>(h hs.rep.bndL hs.keysLt).go F Γ w cargs hs⟩
inductive Deep:AVal->Prop |leaf{x:AVal} (h:bnd x) (hc:match x with|.agg _|.tuple _|.slice _ _ _=>False|_=>True):Deep x |agg{cs:List AVal} (h: ∀x,x∈cs->Deep x):Deep (.agg cs) |tuple{cs:List AVal} (h: ∀x,x∈cs->Deep x):Deep (.tuple cs) |slice{w:Nat}{xs:List AVal}{o:Bool} (hl:xs.length<=Dp) (h: ∀x,x∈xs->Deep x):Deep (.slice w xs o)
theorem Deep.bnd{x:AVal} (h:Deep x):VM.bnd x:=by induction h with |leaf h hc=>exact h| agg h ih=>rename_i cs;simp only[VM.bnd];clear h;induction cs<;>grind[VM.bndL]| tuple h ih=>rename_i cs;simp only[VM.bnd];clear h;induction cs<;>grind[VM.bndL]|slice hl h ih=>grind[VM.bnd]
theorem ARs{n:Nat} (h:n<=Dp):IntKind.i64.wrap (n:Int)=n:=by grind[Dp,IntKind.wrap,IntKind.bits,IntKind.signed]
theorem AFN{n:Nat} (h:n<=Dp):IntKind.i64.wrap ((n:Int)+1)=((n+1:Nat):Int):=by grind[Dp,IntKind.wrap,IntKind.bits,IntKind.signed]
end Go.VM
set_option linter.unusedVariables false
namespace Go.VM
section
variable{E:Env}{mv:List Tmp}{ops:Array Oper}{K:List AVal->St->Prop}{af:List AVal}{st:St}
def Q9 (x:Option AVal) (d:Option Tmp) (K:List AVal->St->Prop) (af:List AVal) (st:St):Prop:=match x with|some r=>K (BN af d r) st|none=>False
def Ml (x:Option AVal) (d:Option Tmp) (K:List AVal->St->Prop) (af:List AVal) (st:St):Prop:=match x with|some r=>K (BN af d r.strip) st|none=>False
def TV (x:Option (AVal×St)) (d:Option Tmp) (K:List AVal->St->Prop) (af:List AVal):Prop:=match x with|some p=>K (BN af d p.1) p.2|none=>False
def AY7 (b:Bool) (x:AVal) (d:Option Tmp) (K:List AVal->St->Prop) (af:List AVal) (st:St):Prop:=if b=true then K (BN af d (.ptr st.next 0)) {m:=(st.next,Ai x)::st.m,next:=st.next+1}else False
def ACo (x:Option (List AVal)) (d:Option Tmp) (K:List AVal->St->Prop) (af:List AVal) (st:St):Prop:=match x with|some cs=>K (BN af d (.ptr st.next 0)) {m:=(st.next,cs)::st.m,next:=st.next+1}|none=>False
def AVb (x u:Option AVal) (y:Option (AVal×St)) (st:St):Option (AVal×St):=match x with |some r=>some (r.strip,st)|none=>match u with|some r=>some (r,st)|none=>y
def TM (x:Option St) (K:List AVal->St->Prop) (af:List AVal):Prop:=match x with|some st=>K af st|none=>False
def AUJ (x:AVal) (n:Nat):Option AVal:=match x with|.tuple vs=>vs[n]?|_=>none
def AU4 (x:AVal) (n:Nat):AVal:=match x with|.tuple vs=>.tuple (vs.set n ((vs.getD n .any).strip))|x=>x
def ADx (E:Env) (t:TypeId) (x:AVal) (lo hi mx:Option (Option Int)) (d:Option Tmp) (K:List AVal->St->Prop) (af:List AVal) (st:St):Prop:=match lo,hi,mx with |some l,some h,some m=>Q9 (G7 E t x l h m) d K af st|_,_,_=>False
def Acn (d:Option Tmp) (K:List AVal->St->Prop) (af:List AVal):AVal->St->Prop:=λr st=>K (BN af d r) st
def AOg (E:Env) (f:AVal) (xs:List AVal) (d:Option Tmp) (K:List AVal->St->Prop) (af:List AVal) (st:St):Prop:=match f with |.fn (.func g) p q=>CallX E g (stripL (p++xs++q)) st (Acn d K af)|_=>False
theorem AY9{r:AVal}{d:Option Tmp}:Q9 (some r) d K af st=K (BN af d r) st:=rfl
theorem AVc{r:AVal}{d:Option Tmp}:Ml (some r) d K af st=K (BN af d r.strip) st:=rfl
theorem AUK{r:AVal}{s:St}{d:Option Tmp}:TV (some (r,s)) d K af=K (BN af d r) s:=rfl
def AZp{x:AVal}{d:Option Tmp}:AY7 true x d K af st=K (BN af d (.ptr st.next 0)) {m:=(st.next,Ai x)::st.m,next:=st.next+1}:=by simp[AY7]
theorem ARG{cs:List AVal}{d:Option Tmp}:ACo (some cs) d K af st=K (BN af d (.ptr st.next 0)) {m:=(st.next,cs)::st.m,next:=st.next+1}:=rfl
theorem Aqx{r:AVal}{u:Option AVal}{y:Option (AVal×St)}:AVb (some r) u y st=some (r.strip,st):=rfl
theorem ArR{r:AVal}{y:Option (AVal×St)}:AVb none (some r) y st=some (r,st):=rfl
theorem Aqr{y:Option (AVal×St)}:AVb none none y st=y:=rfl
theorem ARD:TM (some st) K af=K af st:=rfl
theorem AGq{n:Nat}{vs:List AVal}:AUJ (.tuple vs) n=vs[n]?:=rfl
theorem AKW{n:Nat}{vs:List AVal}:AU4 (.tuple vs) n=.tuple (vs.set n ((vs.getD n .any).strip)):=rfl
theorem AP7{t:TypeId}{x:AVal}{lo hi mx:Option Int}{d:Option Tmp}:ADx E t x (some lo) (some hi) (some mx) d K af st=Q9 (G7 E t x lo hi mx) d K af st:=rfl
theorem AhU{d:Option Tmp}{r:AVal}:Acn d K af r st=K (BN af d r) st:=rfl
theorem AeH{g:FuncId}{p q xs:List AVal}{d:Option Tmp}:AOg E (.fn (.func g) p q) xs d K af st=if callable E.P g=true then ACall E g (stripL (p++xs++q)) st (Acn d K af)else AAe E g (stripL (p++xs++q)) st (Acn d K af):=rfl
def AjS{d:Option Tmp}:Q8 [] d=false:=by cases d<;>rfl
section ops
variable{d:Option Tmp}{ty:TypeId}{pos:String}{aft:Array Edge}{g:Option (Nat×Bool)}
def mvK (b:Bool) (x:Operand) (ty:TypeId) (E:Env) (d:Option Tmp) (K:List AVal->St->Prop) (af:List AVal) (st:St):Prop:=if b=true then K (BN (stripAt af x) d (rd E af ty x)) st else K (BN af d (rd E af ty x).strip) st
def Ahw{x:Operand}:mvK true x ty E d K af st=K (BN (stripAt af x) d (rd E af ty x)) st:=by simp[mvK]
def Aa4{x:Operand}:mvK false x ty E d K af st=K (BN af d (rd E af ty x).strip) st:=by simp[mvK]
def ldK (b:Bool) (t:TypeId) (x:AVal) (E:Env) (d:Option Tmp) (K:List AVal->St->Prop) (af:List AVal) (st:St):Prop:=if b=true then TV (R6 E t x st) d K af else Ml (SQ E t x st) d K af st
def Ahe{t:TypeId}{x:AVal}:ldK true t x E d K af st=TV (R6 E t x st) d K af:=by simp[ldK]
def AZ6{t:TypeId}{x:AVal}:ldK false t x E d K af st=Ml (SQ E t x st) d K af st:=by simp[ldK]
def Am0{x:Operand}:EJ E mv ⟨d,.move x,ty,pos,aft,g⟩ af st K=mvK (Q8 mv d) x ty E d K af st:=by simp only[EJ,Fv,mvK];cases Q8 mv d<;>simp
theorem Acz{x:Operand}:EJ E mv ⟨d,.assign x,ty,pos,aft,g⟩ af st K=K (BN (stripAt af x) d (rd E af ty x)) st:=rfl
def alG{α:Type} (b:Bool) (x y:Option α):Option α:=if b=true then x else y
theorem Ar6{α:Type}{x y:Option α}:alG false x y=y:=rfl
theorem AtA{α:Type}{x y:Option α}:alG true x y=x:=rfl
def AgQ{t:TypeId}:EJ E mv ⟨d,.alloc t,ty,pos,aft,g⟩ af st K=ACo (alG (Q8 mv d) (WU E.P t st.next) (Eh E.P t st.next)) d K af st:=by
 simp only[EJ,Fv,ACo,alG];cases Q8 mv d<;>simp only[av,aq,aj];·cases Eh E.P t st.next<;>rfl
 grind
def ApE{t:TypeId}{x:Operand}:EJ E mv ⟨d,.box t x,ty,pos,aft,g⟩ af st K=AY7 (Ei (rd E af t x)) (rd E af t x) d K (stripAt af x) st:=by simp only[EJ,Fv,AY7];cases Ei (rd E af t x)<;>simp
def AiW{t:TypeId}{ps:List (Nat×Operand)}:EJ E mv ⟨d,.build t ⟨ps⟩,ty,pos,aft,g⟩ af st K=Q9 (Ue E t (Bf E (Ab E.P t) af ps).2) d K (Bf E (Ab E.P t) af ps).1 st:=by simp only[EJ,Fv,Q9];cases Ue E t (Bf E (Ab E.P t) af ps).2<;>rfl
def bsK (b:Bool) (u:Option (Nat×List AVal)) (v:Option AVal) (n:Nat) (d:Option Tmp) (K:List AVal->St->Prop) (af1 af:List AVal) (st:St):Prop:=if b=true then(match u with|some p=>K (BN af1 d (.gsl p.1 st.next n)) {m:=(st.next,p.2)::st.m,next:=st.next+1}|none=>False)else Q9 v d K af st
def AZC{u:Option (Nat×List AVal)}{v:Option AVal}{n:Nat}{af1:List AVal}:bsK false u v n d K af1 af st=Q9 v d K af st:=by simp[bsK]
def ADX{v:Option AVal}{n w:Nat}{cs af1:List AVal}:bsK true (some (w,cs)) v n d K af1 af st=K (BN af1 d (.gsl w st.next n)) {m:=(st.next,cs)::st.m,next:=st.next+1}:=by simp[bsK]
def AES{t:TypeId}{n:Nat}{ps:List (Nat×Operand)}:EJ E mv ⟨d,.buildSlice t n ⟨ps⟩,ty,pos,aft,g⟩ af st K=bsK (Q8 mv d) (Jb E t n (Bf E (λ_=>Ab E.P t 0) af ps).2) (Iz E t n (Bf E (λ_=>Ab E.P t 0) af ps).2) n d K (Bf E (λ_=>Ab E.P t 0) af ps).1 af st:=by
 simp only[EJ,Fv,Q9,bsK];cases Q8 mv d;·simp only[aj,aq];cases Iz E t n (Bf E (λ_=>Ab E.P t 0) af ps).2<;>rfl
 ·simp only[av];cases Jb E t n (Bf E (λ_=>Ab E.P t 0) af ps).2<;>rfl
def Anc{t:TypeId}{x:Operand}:EJ E mv ⟨d,.load t x,ty,pos,aft,g⟩ af st K=ldK (Q8 mv d) t (rd E af 0 x) E d K af st:=by
 simp only[EJ,Fv,ldK,TV,Ml];cases Q8 mv d;·simp only[aj,aq];cases SQ E t (rd E af 0 x) st<;>rfl
 ·simp only[av];cases R6 E t (rd E af 0 x) st<;>rfl
def AeQ{t:TypeId}{x y:Operand}:EJ E mv ⟨none,.store t x y,ty,pos,aft,g⟩ af st K=TM (Pm E t (rd E af 0 x) (rd E af t y) st) K (stripAt af y):=by simp only[EJ,Fv,TM,dr,av];cases Pm E t (rd E af 0 x) (rd E af t y) st<;>rfl
def AT1{t n:Nat}:EJ E mv ⟨d,.extract (.tmp t) n,ty,pos,aft,g⟩ af st K=Q9 (AUJ (af.getD t .any) n) d K (af.set t (AU4 (af.getD t .any) n)) st:=by grind[EJ,Fv,AUJ,AU4,Q9,List.getD]
def Ah5{t:TypeId}{x:Operand}{lo hi mx:Option Operand}:EJ E mv ⟨d,.slice t x lo hi mx,ty,pos,aft,g⟩ af st K=ADx E t (rd E af t x) (rdo E af lo) (rdo E af hi) (rdo E af mx) d K af st:=by simp only[EJ,Fv,ADx];cases rdo E af lo<;>cases rdo E af hi<;>cases rdo E af mx<;>(try rfl);simp only[Q9];cases G7 E t (rd E af t x) _ _ _<;>rfl
def ADw (g:Bool) (x:AVal) (d:Option Tmp) (K:List AVal->St->Prop) (af:List AVal) (st:St):Prop:=match x with|.str s=>if g=true then K (BN af d (.iter s 0)) st else False|_=>False
def Aie{t:TypeId}{x:Operand}:EJ E mv ⟨d,.range t x,ty,pos,aft,g⟩ af st K=ADw (EW E.P t) (rd E af t x) d K af st:=by grind[EJ,Fv,ADw,rd,EW]
theorem AUi{s:B8}:ADw true (.str s) d K af st=K (BN af d (.iter s 0)) st:=rfl
def ADF (x:AVal) (t:Tmp) (d:Option Tmp) (K:List AVal->St->Prop) (af:List AVal) (st:St):Prop:=match x with|.iter s pos=>K (AFg s pos t d af) st|_=>False
def Akw{t:Tmp}:EJ E mv ⟨d,.next (.tmp t) true,ty,pos,aft,g⟩ af st K=ADF (af.getD t .any) t d K af st:=by simp only[EJ,Fv,ADF];cases af.getD t .any<;>rfl
def AV3{t:Tmp}{s:B8}{p:Nat}:ADF (.iter s p) t d K af st=if decide (p<s.length)=true then K (BN (af.set t (.iter s (p+(Dx s p).2))) d (.tuple [.bool true,.int .i64 p,.int .i32 (Dx s p).1])) st else K (BN af d (.tuple [.bool false])) st:=by simp only[ADF,AFg];split<;>rfl
theorem Ak6:Mo (.any)=false:=rfl
theorem Aid{b:Bool}:Mo (.bool b)=false:=rfl
theorem Ans{k:IntKind}{n:Int}:Mo (.int k n)=false:=rfl
theorem Alr{s:B8}:Mo (.str s)=false:=rfl
theorem AoA{c:List AVal}:Mo (.agg c)=false:=rfl
theorem AbH{c:List AVal}:Mo (.tuple c)=false:=rfl
theorem AcR{w:Nat}{c:List AVal}{o:Bool}:Mo (.slice w c o)=false:=rfl
theorem Anu{i f:Nat}:Mo (.ptr i f)=false:=rfl
theorem AiI:Mo (.nilp)=false:=rfl
theorem AeZ{c:List AVal}:Mo (.cptr c)=false:=rfl
theorem Aq2{f:Fn}{p q:List AVal}:Mo (.fn f p q)=false:=rfl
theorem AY5:Mo (.nilFn)=false:=rfl
theorem AZw{t:TypeId}{v:AVal}:Mo (.iface t v)=false:=rfl
theorem AME:Mo (.nilIface)=false:=rfl
theorem Aml{w i f n:Nat}:Mo (.bsl w i f n)=false:=rfl
theorem AcD{i:Nat}{T:TypeId}{n:Nat}:Mo (.nself i T n)=false:=rfl
theorem An9{e:TypeId}{l:B8}{o:Bool}:Mo (.buf e l o)=false:=rfl
theorem AfT{e:TypeId}{l:B8}{o:Bool}:Mo (.bufp e l o)=false:=rfl
def shS (b:Bool) (x y:Option St):Option St:=if b=true then x else y
def Ao5{x y:Option St}:shS false x y=y:=by simp[shS]
def Aob{x y:Option St}:shS true x y=x:=by simp[shS]
def WT (E:Env) (t:TypeId) (addr v:AVal) (st:St):Option St:=match v with
 | .sh i=>match A9 st.m i with |some [.slice w xs o]=>if Mo addr=false then Rx E t addr (.slice w xs o) {st with m:=CU st.m i [.slice w xs false]}else none|_=>Rx E t addr (.sh i) st
 |v=>Rx E t addr v st
def AGH{t:TypeId}{x v:AVal}:Pm E t x v st=shS (Mo v) (WT E t x v st) (Rx E t x v st):=by cases v<;>first| rfl| (simp only[shS,Mo,av];rfl)
def Aqg{t:TypeId}{i f:Nat}{v:AVal}:Pm E t (.ptr i f) v st=shS (Mo v) (WT E t (.ptr i f) v st) (ZM E t (.ptr i f) v st):=AGH
def AWv{t:TypeId}{i w n:Nat}{v:AVal}:Pm E t (.sptr i w n) v st=shS (Mo v) (WT E t (.sptr i w n) v st) (ACq E t (.sptr i w n) v st):=AGH
def agK (b:Bool) (u:Option (Nat×Nat×List AVal×List (Nat×List AVal)×Option Nat)) (X:Prop) (d:Option Tmp) (K:List AVal->St->Prop) (af:List AVal) (st:St):Prop:=if b=true then(match u with|some (wd,l,cs,rest,jo)=>∀i,i=st.next\/jo=some i->K (BN af d (.gsl wd i l)) {m:=(i,cs)::rest,next:=st.next+1}|none=>False)else X
def AbU{u:Option (Nat×Nat×List AVal×List (Nat×List AVal)×Option Nat)}{X:Prop}:agK false u X d K af st=X:=by simp[agK]
theorem AaN{w:Nat}{l:List AVal}{o:Bool}:WF (.slice w l o)=false:=rfl
theorem An6{l:B8}:WF (.str l)=false:=rfl
theorem Anp{w i n:Nat}:WF (.gsl w i n)=true:=rfl
def AeD{w:Nat}{l:List AVal}{o:Bool}{y:AVal}:ANR (.slice w l o) y=WF y:=by simp[ANR,WF]
def ArS{e:TypeId}{l:B8}{o:Bool}{y:AVal}:ANR (.buf e l o) y=WF y:=by simp[ANR,WF]
def ArP{w i n:Nat}{y:AVal}:ANR (.gsl w i n) y=true:=by simp[ANR,WF]
theorem ApG{t0 t1:TypeId}{x:AVal}{w i n:Nat}:appG E t0 t1 x (.gsl w i n) st=AQO E t0 t1 x (.gsl w i n) st:=rfl
def AmW{wd l:Nat}{cs:List AVal}{rest:List (Nat×List AVal)}{jo:Option Nat}{X:Prop}{d:Option Tmp}{K:List AVal->St->Prop}{af:List AVal}{st:St} (h: ∀i,i=st.next\/jo=some i->K (BN af d (.gsl wd i l)) {m:=(i,cs)::rest,next:=st.next+1}):agK true (some (wd,l,cs,rest,jo)) X d K af st:=by grind[agK]
theorem AqB{t0 t1:TypeId}{x:AVal}{l:B8}:appG E t0 t1 x (.str l) st=Aca E t0 t1 x (.str l) st:=rfl
def apK (b:Bool) (u v:Option AVal) (d:Option Tmp) (K:List AVal->St->Prop) (af:List AVal) (st:St):Prop:=if b=true then(match u with|some r=>K (BN af d (.sh st.next)) {m:=(st.next,[r])::st.m,next:=st.next+1}|none=>False)else Q9 v d K af st
def AZm{u v:Option AVal}:apK false u v d K af st=Q9 v d K af st:=by simp[apK]
def AgO{v:Option AVal}{r:AVal}:apK true (some r) v d K af st=K (BN af d (.sh st.next)) {m:=(st.next,[r])::st.m,next:=st.next+1}:=by simp[apK]
theorem AUM{t:TypeId}:EJ E mv ⟨d,.makeMap t none,ty,pos,aft,g⟩ af st K=K (BN af d (.sh st.next)) {m:=(st.next,[.map [] []])::st.m,next:=st.next+1}:=rfl
def Zl{t:TypeId}{m k:Operand}{ok:Bool}:EJ E mv ⟨d,.lookup t m k ok,ty,pos,aft,g⟩ af st K=Q9 (Qw E t (rd E af t m) (rd E af 0 k) ok st) d K af st:=by simp only[EJ,Fv,Q9];cases Qw E t (rd E af t m) (rd E af 0 k) ok st<;>rfl
def XX{t:TypeId}{m k x:Operand}:EJ E mv ⟨none,.mapUpdate t m k x,ty,pos,aft,g⟩ af st K=TM (Vp E t (rd E af t m) (rd E af 0 k) (rd E af 0 x) st) K af:=by simp only[EJ,Fv,TM,dr,av];cases Vp E t (rd E af t m) (rd E af 0 k) (rd E af 0 x) st<;>rfl
def AZk{t:TypeId}{m k x:Operand}:EJ E mv ⟨none,.insert t m k x,ty,pos,aft,g⟩ af st K=TM (Vp E t (rd E af t m) (rd E af 0 k) (rd E af 0 x) st) K af:=by simp only[EJ,Fv,TM,dr,av];cases Vp E t (rd E af t m) (rd E af 0 k) (rd E af 0 x) st<;>rfl
def AcZ{x y:Operand}{t0 t1:TypeId}{ts:List TypeId}:EJ E mv ⟨d,.call {callee:=.builtin .append,args:=⟨[x,y]⟩,argTypes:=⟨t0::t1::ts⟩},ty,pos,aft,g⟩ af st K=agK (ANR (rd E af t0 x) (rd E af t1 y)) (appG E t0 t1 (rd E af t0 x) (rd E af t1 y) st) (apK (Q8 mv d) (QH E t0 t1 (rd E af t0 x) (rd E af t1 y)) (Jq E t0 t1 (rd E af t0 x) (rd E af t1 y)) d K (stripAt af x) st) d K af st:=by
 simp only[EJ,Fv,Q9,apK,agK];cases ANR (rd E af t0 x) (rd E af t1 y);rotate_left;·first| rfl| (simp only[av];done)| (simp only[av];rfl)
 simp only[aj,aq];cases Q8 mv d;·simp only[aj,aq];cases Jq E t0 t1 (rd E af t0 x) (rd E af t1 y)<;>rfl
 ·simp only[av];cases QH E t0 t1 (rd E af t0 x) (rd E af t1 y)<;>rfl
def AlW{f:Operand}{xs:List Operand}{ts:List TypeId}:EJ E mv ⟨d,.call {callee:=.value f,args:=⟨xs⟩,argTypes:=⟨ts⟩},ty,pos,aft,g⟩ af st K=AOg E (rd E af 0 f) (rdL E af xs ts) d K af st:=by simp only[EJ,AOg];rfl
def NC{o:Oper} (h:EJ E mv o af st K=(match(Ea E o af).map λr=>(BN af o.dst r.strip,st)with|some (af',st')=>K af' st'|none=>False)):EJ E mv o af st K=Ml (Ea E o af) o.dst K af st:=by rw[h];simp only[Ml];cases Ea E o af<;>rfl
def AgE (c x y:AVal):Option AVal:=match c with|.bool t=>some (if t=true then x else y)|_=>none
theorem AVV{b:Bool}{x y:AVal}:AgE (.bool b) x y=some (if b=true then x else y):=rfl
def AlE{c x y:Operand}:EJ E mv ⟨d,.pick c x y,ty,pos,aft,g⟩ af st K=Ml (AgE (rd E af 0 c) (rd E af ty x) (rd E af ty y)) d K af st:=NC rfl
def AOS{x:Operand}:EJ E mv ⟨d,.nilCheck x,ty,pos,aft,g⟩ af st K=Ml (Nh (rd E af 0 x)) d K af st:=NC rfl
def bnK (c b:Bool) (v:AVal) (d:Option Tmp) (K:List AVal->St->Prop) (af:List AVal) (st:St) (X:Prop):Prop:=if c=true then Aim b v (λr=>K (BN af d r) st)else X
def AsL{b:Bool}{v:AVal}{X:Prop}:bnK false b v d K af st X=X:=by simp[bnK]
def Aso{w:Nat}{xs:List AVal}{o:Bool}{X:Prop}:bnK true true (.slice w xs o) d K af st X= ∀c:Bool,(c=true->xs=[])->K (BN af d (.bool c)) st:=by simp[bnK,Aim]
def AeX{op:BinOp}{k:Tmp}:Vk op (.tmp k)=false:=by cases op<;>rfl
def Aly{op:BinOp}{k:FuncId}:Vk op (.func k)=false:=by cases op<;>rfl
def ApK{op:BinOp}{k:Nat}:Vk op (.global k)=false:=by cases op<;>rfl
def Agd{op:BinOp}{k:IntKind}{n:Int}:Vk op (.const (.int k n))=false:=by cases op<;>rfl
def Afb{op:BinOp}{s:ByteArray}:Vk op (.const (.string s))=false:=by cases op<;>rfl
def AaJ{op:BinOp}{s:Bool}:Vk op (.const (.bool s))=false:=by cases op<;>rfl
def AeM{op:BinOp}{s:Option Addr}:Vk op (.const (.pointer s))=false:=by cases op<;>rfl
def AeC{op:BinOp}{s:Array Value}:Vk op (.const (.agg s))=false:=by cases op<;>rfl
def Alk{op:BinOp}:Vk op (.const .nilFunc)=false:=by cases op<;>rfl
def Akk{op:BinOp}:Vk op (.const .nilIface)=false:=by cases op<;>rfl
theorem AhJ:Vk .eql (.const (.slice none 0 0))=true:=rfl
theorem Agh{op:BinOp}{t u:TypeId}{x y:Operand}:EJ E mv ⟨d,.binOp op t x y u,ty,pos,aft,g⟩ af st K=bnK (Vk op y) (Cz E.P t) (rd E af t x) d K af st (Ml (GH E op t (rd E af t x) (rd E af t y)) d K af st):=by
 have e:EJ E mv ⟨d,.binOp op t x y u,ty,pos,aft,g⟩ af st K=if Vk op y=true then Aim (Cz E.P t) (rd E af t x) (λv=>K (BN af d v) st)else(match(GH E op t (rd E af t x) (rd E af t y)).map (λr=>(BN af d r.strip,st))with|some (af',st')=>K af' st'|none=>False):=rfl;rw[e];unfold bnK Ml;split;·rfl
 ·cases GH E op t (rd E af t x) (rd E af t y)<;>rfl
def AnR{op:UnOp}{t:TypeId}{x:Operand}:EJ E mv ⟨d,.unOp op t x,ty,pos,aft,g⟩ af st K=Ml (unA op (rd E af 0 x)) d K af st:=NC rfl
theorem AVI{s t:TypeId}{x:Operand}:EJ E mv ⟨d,.convert s t x,ty,pos,aft,g⟩ af st K=TV (AVb (Sb E s t (rd E af s x)) (UN E s t (rd E af s x) st) (SG E s t (rd E af s x) st) st) d K af:=by have h:Ea E ⟨d,.convert s t x,ty,pos,aft,g⟩ af=Sb E s t (rd E af s x):=rfl;simp only[EJ,Fv,TV,h];grind[Sb,rd,AVb,UN,SG]
def ALp{t:TypeId}{x y:Operand}:EJ E mv ⟨d,.makeSlice t x y,ty,pos,aft,g⟩ af st K=TV (alG (Q8 mv d) (Xx E t (rd E af 0 x) (rd E af 0 y) st) (Yr E t (rd E af 0 x) (rd E af 0 y) st)) d K af:=by
 simp only[EJ,Fv,TV,alG];cases Q8 mv d<;>simp only[av,aq,aj];·cases Yr E t (rd E af 0 x) (rd E af 0 y) st<;>rfl
 ·cases Xx E t (rd E af 0 x) (rd E af 0 y) st<;>rfl
def Ad0{x:Operand}{t0:TypeId}{ts:List TypeId}:EJ E mv ⟨d,.call {callee:=.builtin .unsafeSliceData,args:=⟨[x]⟩,argTypes:=⟨t0::ts⟩},ty,pos,aft,g⟩ af st K=Q9 (Uj (rd E af t0 x)) d K (stripAt af x) st:=by simp only[EJ,Fv,Q9];cases Uj (rd E af t0 x)<;>rfl
def Amq{x y:Operand}{t0 t1:TypeId}:EJ E mv ⟨d,.call {callee:=.builtin .unsafeString,args:=⟨[x,y]⟩,argTypes:=⟨[t0,t1]⟩},ty,pos,aft,g⟩ af st K=Q9 (Yc E t0 (rd E af t0 x) (rd E af t1 y)) d K (stripAt af x) st:=by simp only[EJ,Fv,Q9];cases Yc E t0 (rd E af t0 x) (rd E af t1 y)<;>rfl
def APr{f:Fn}{p q:List Operand}:EJ E mv ⟨d,.makeFunc f ⟨p⟩ ⟨q⟩,ty,pos,aft,g⟩ af st K=K (BN af d (AVal.fn f (p.map (rd E af 0)) (q.map (rd E af 0))).strip) st:=NC rfl
def AL2{s:TypeId}{x:Operand}{f:Nat}:EJ E mv ⟨d,.fieldAddr s x f,ty,pos,aft,g⟩ af st K=Ml (O0 E s (rd E af 0 x) f) d K af st:=NC rfl
def AiF{s:TypeId}{x:Operand}{f:Nat}:EJ E mv ⟨d,.field s x f,ty,pos,aft,g⟩ af st K=Ml (W9 E s (rd E af s x) f) d K af st:=NC rfl
theorem AIg{t:TypeId}{x i:Operand}:EJ E mv ⟨d,.indexAddr t x i,ty,pos,aft,g⟩ af st K=TV (AVb (D7 E t (rd E af t x) (rd E af 0 i)) (Kl E t (rd E af t x) (rd E af 0 i) st) none st) d K af:=by have h:Ea E ⟨d,.indexAddr t x i,ty,pos,aft,g⟩ af=D7 E t (rd E af t x) (rd E af 0 i):=rfl;simp only[EJ,Fv,TV,h];cases D7 E t (rd E af t x) (rd E af 0 i)with |some r=>rfl| none=>simp only[AVb];cases Kl E t (rd E af t x) (rd E af 0 i) st<;>rfl
def AgL{t:TypeId}{x i:Operand}:EJ E mv ⟨d,.index t x i,ty,pos,aft,g⟩ af st K=Ml (Ub E t (rd E af t x) (rd E af 0 i)) d K af st:=NC rfl
def AqX{x:Operand}{t:TypeId}{ts:List TypeId}:EJ E mv ⟨d,.call {callee:=.builtin .len,args:=⟨[x]⟩,argTypes:=⟨t::ts⟩},ty,pos,aft,g⟩ af st K=Ml (Tf E t (rd E af t x)) d K af st:=NC rfl
def AqS{x:Operand}{t:TypeId}{ts:List TypeId}:EJ E mv ⟨d,.call {callee:=.builtin .cap,args:=⟨[x]⟩,argTypes:=⟨t::ts⟩},ty,pos,aft,g⟩ af st K=Ml (Ajd E t (rd E af t x)) d K af st:=NC rfl
def Aln{x y:Operand}{t s:TypeId}:EJ E mv ⟨d,.call {callee:=.builtin .copy,args:=⟨[x,y]⟩,argTypes:=⟨[t,s]⟩},ty,pos,aft,g⟩ af st K=Ml (AW4 E t (rd E af t x) (rd E af s y)) d K af st:=NC rfl
def Ap5{x y:Operand}{ts:Array TypeId}:EJ E mv ⟨d,.call {callee:=.builtin .min,args:=⟨[x,y]⟩,argTypes:=ts},ty,pos,aft,g⟩ af st K=Ml (AbQ (rd E af 0 x) (rd E af 0 y)) d K af st:=NC rfl
def Aqh{x y:Operand}{ts:Array TypeId}:EJ E mv ⟨d,.call {callee:=.builtin .max,args:=⟨[x,y]⟩,argTypes:=ts},ty,pos,aft,g⟩ af st K=Ml (AZt (rd E af 0 x) (rd E af 0 y)) d K af st:=NC rfl
def gdD (d:Option Tmp) (af:List AVal) (want:Bool):Option Bool:=match d with|some i=>gd (af.getD i .any) want|none=>none
def Py:List Oper->Nat->Option Tmp |[],_=>none|o::_,0=>o.dst|_::os,n+1=>Py os n
def AjL (os:List Oper) (j:Nat):Py os j=((List.toArray os)[j]?).bind (·.dst):=by rw[dx];induction os generalizing j with |nil=>simp[Py]| cons o os ih=>cases j with |zero=>simp[Py]|succ j=>grind[Py]
theorem AT8 (os:List Oper) (j:Nat) (want:Bool):gdA ⟨os⟩ af j want=gdD (Py os j) af want:=by rw[AjL];rfl
theorem An8:Mg E mv ops [] K af st=K af st:=rfl
theorem AiL{op:Op}{os:List Oper}:Mg E mv ops (⟨d,op,ty,pos,aft,none⟩::os) K af st=EJ E mv ⟨d,op,ty,pos,aft,none⟩ af st (Mg E mv ops os K):=rfl
theorem Aba{op:Op}:OC E ops ⟨d,op,ty,pos,aft,none⟩ af st=FM E ⟨d,op,ty,pos,aft,none⟩ af st:=rfl
def Al8{op:Op}{os':List Oper}{j:Nat}{want:Bool}:OC E ⟨os'⟩ ⟨d,op,ty,pos,aft,some (j,want)⟩ af st=if gdD (Py os' j) af want=some true then FM E ⟨d,op,ty,pos,aft,some (j,want)⟩ af st else if gdD (Py os' j) af want=some false then some (.tuple [])else none:=by grind[OC,AT8,gdD,Py]
def NM (x:Option AVal):Option AVal:=x.map AVal.strip
theorem AOY{r:AVal}:NM (some r)=some r.strip:=rfl
theorem Amm{x:Operand}:FM E ⟨d,.move x,ty,pos,aft,g⟩ af st=some (rd E af ty x).strip:=rfl
theorem Ani{t:TypeId}{x:Operand}:FM E ⟨d,.load t x,ty,pos,aft,g⟩ af st=NM (SQ E t (rd E af 0 x) st):=rfl
def AVw (E:Env) (t:TypeId) (x:AVal) (lo hi mx:Option (Option Int)):Option AVal:=match lo,hi,mx with|some l,some h,some m=>G7 E t x l h m|_,_,_=>none
theorem APC{t:TypeId}{x:AVal}{lo hi mx:Option Int}:AVw E t x (some lo) (some hi) (some mx)=G7 E t x lo hi mx:=rfl
def Ae3{t:TypeId}{x:Operand}{lo hi mx:Option Operand}:FM E ⟨d,.slice t x lo hi mx,ty,pos,aft,g⟩ af st=AVw E t (rd E af t x) (rdo E af lo) (rdo E af hi) (rdo E af mx):=by grind[FM,AVw,rdo]
theorem AEy{t:TypeId}{n:Nat}{ps:List (Nat×Operand)}:FM E ⟨d,.buildSlice t n ⟨ps⟩,ty,pos,aft,g⟩ af st=Iz E t n (Bf E (λ_=>Ab E.P t 0) af ps).2:=rfl
theorem Alt{c x y:Operand}:FM E ⟨d,.pick c x y,ty,pos,aft,g⟩ af st=NM (AgE (rd E af 0 c) (rd E af ty x) (rd E af ty y)):=rfl
theorem ARN{x:Operand}:FM E ⟨d,.nilCheck x,ty,pos,aft,g⟩ af st=NM (Nh (rd E af 0 x)):=rfl
theorem AiO{op:BinOp}{t u:TypeId}{x y:Operand}:FM E ⟨d,.binOp op t x y u,ty,pos,aft,g⟩ af st=NM (GH E op t (rd E af t x) (rd E af t y)):=rfl
theorem Ana{op:UnOp}{t:TypeId}{x:Operand}:FM E ⟨d,.unOp op t x,ty,pos,aft,g⟩ af st=NM (unA op (rd E af 0 x)):=rfl
theorem AUv{s t:TypeId}{x:Operand}:FM E ⟨d,.convert s t x,ty,pos,aft,g⟩ af st=NM (Sb E s t (rd E af s x)):=rfl
theorem APd{f:Fn}{p q:List Operand}:FM E ⟨d,.makeFunc f ⟨p⟩ ⟨q⟩,ty,pos,aft,g⟩ af st=some (AVal.fn f (p.map (rd E af 0)) (q.map (rd E af 0))).strip:=rfl
theorem AGz{s:TypeId}{x:Operand}{f:Nat}:FM E ⟨d,.fieldAddr s x f,ty,pos,aft,g⟩ af st=NM (O0 E s (rd E af 0 x) f):=rfl
theorem AgZ{s:TypeId}{x:Operand}{f:Nat}:FM E ⟨d,.field s x f,ty,pos,aft,g⟩ af st=NM (W9 E s (rd E af s x) f):=rfl
theorem AJe{t:TypeId}{x i:Operand}:FM E ⟨d,.indexAddr t x i,ty,pos,aft,g⟩ af st=NM (D7 E t (rd E af t x) (rd E af 0 i)):=rfl
theorem Ad3{t:TypeId}{x i:Operand}:FM E ⟨d,.index t x i,ty,pos,aft,g⟩ af st=NM (Ub E t (rd E af t x) (rd E af 0 i)):=rfl
theorem Aqz{x:Operand}{t:TypeId}{ts:List TypeId}:FM E ⟨d,.call {callee:=.builtin .len,args:=⟨[x]⟩,argTypes:=⟨t::ts⟩},ty,pos,aft,g⟩ af st=NM (Tf E t (rd E af t x)):=rfl
theorem ApV{x:Operand}{t:TypeId}{ts:List TypeId}:FM E ⟨d,.call {callee:=.builtin .cap,args:=⟨[x]⟩,argTypes:=⟨t::ts⟩},ty,pos,aft,g⟩ af st=NM (Ajd E t (rd E af t x)):=rfl
theorem Apj{x y:Operand}{ts:Array TypeId}:FM E ⟨d,.call {callee:=.builtin .min,args:=⟨[x,y]⟩,argTypes:=ts},ty,pos,aft,g⟩ af st=NM (AbQ (rd E af 0 x) (rd E af 0 y)):=rfl
theorem Ap1{x y:Operand}{ts:Array TypeId}:FM E ⟨d,.call {callee:=.builtin .max,args:=⟨[x,y]⟩,argTypes:=ts},ty,pos,aft,g⟩ af st=NM (AZt (rd E af 0 x) (rd E af 0 y)):=rfl
theorem ArI{op:Op}:gWp E mv ops ⟨d,op,ty,pos,aft,none⟩ af st K=EJ E mv ⟨d,op,ty,pos,aft,none⟩ af st K:=rfl
theorem Asl:gd (.bool true) true=some true:=rfl
theorem AsG:gd (.bool true) false=some false:=rfl
theorem AsU:gd (.bool false) true=some false:=rfl
theorem As0:gd (.bool false) false=some true:=rfl
theorem AfP{want:Bool}:gd (.tuple []) want=some false:=rfl
theorem AhP{i:Nat}{want:Bool}:gdD (some i) af want=gd (af.getD i .any) want:=rfl
def opAt:List Oper->Nat->Option Oper |[],_=>none|o::_,0=>some o|_::os,n+1=>opAt os n
def AJl (os:List Oper) (j:Nat):opAt os j=(List.toArray os)[j]?:=by rw[dx];induction os generalizing j with |nil=>simp[opAt]| cons o os ih=>cases j with |zero=>simp[opAt]|succ j=>grind[opAt]
def tkR (E:Env) (mv:List Tmp) (os:List Oper) (x:Option AVal) (i:Nat) (d:Option Tmp) (p:Plan) (tv:List (Nat×AVal)) (K:List AVal->St->Prop) (af:List AVal) (st:St):Prop:=match x with|some r=>Io E mv ⟨os⟩ p ((i,r)::tv) K (BN af d r) st|none=>False
def tkO (E:Env) (mv:List Tmp) (os:List Oper) (x:Option Oper) (i:Nat) (p:Plan) (tv:List (Nat×AVal)) (K:List AVal->St->Prop) (af:List AVal) (st:St):Prop:=match x with|some o=>tkR E mv os (OC E ⟨os⟩ o af st) i o.dst p tv K af st|none=>False
def Ad2 (E:Env) (mv:List Tmp) (os:List Oper) (chk:List Nat) (p:Plan) (tv:List (Nat×AVal)) (K:List AVal->St->Prop) (af:List AVal) (st:St):Prop:=R4 E ⟨os⟩ tv af st chk/\Io E mv ⟨os⟩ p tv K af st
def AmT (E:Env) (mv:List Tmp) (os:List Oper) (x:Option Oper) (chk:List Nat) (p:Plan) (tv:List (Nat×AVal)) (K:List AVal->St->Prop) (af:List AVal) (st:St):Prop:=match x with|some o=>gWp E mv ⟨os⟩ o af st (Ad2 E mv os chk p tv K)|none=>False
def As7 (E:Env) (os:List Oper) (x:Option AVal) (o:Option Oper) (af:List AVal) (st:St):Prop:=match x,o with|some r,some o=>OC E ⟨os⟩ o af st=some r|_,_=>False
variable{os:List Oper}{tv:List (Nat×AVal)}{p rest:Plan}{chk:List Nat}{i:Nat}
theorem Aeh{op:Op}:tkO E mv os (some ⟨d,op,ty,pos,aft,g⟩) i p tv K af st=tkR E mv os (OC E ⟨os⟩ ⟨d,op,ty,pos,aft,g⟩ af st) i d p tv K af st:=rfl
theorem Af8{r:AVal}:tkR E mv os (some r) i d p tv K af st=Io E mv ⟨os⟩ p ((i,r)::tv) K (BN af d r) st:=rfl
theorem AYm{o:Oper}:AmT E mv os (some o) chk p tv K af st=gWp E mv ⟨os⟩ o af st (Ad2 E mv os chk p tv K):=rfl
theorem Aia:Ad2 E mv os chk p tv K af st=(R4 E ⟨os⟩ tv af st chk/\Io E mv ⟨os⟩ p tv K af st):=rfl
theorem AZa:Io E mv ⟨os⟩ .done tv K af st=K af st:=rfl
theorem AZX:Io E mv ⟨os⟩ .stop tv K af st=True:=rfl
def Aav:Io E mv ⟨os⟩ (.take i p) tv K af st=tkO E mv os (opAt os i) i p tv K af st:=by rw[AJl];rfl
def Af0:Io E mv ⟨os⟩ (.alt i chk p rest) tv K af st=(AmT E mv os (opAt os i) chk p tv K af st/\Io E mv ⟨os⟩ rest tv K af st):=by rw[AJl];rfl
theorem AlG:R4 E ⟨os⟩ tv af st []=True:=rfl
def Ahf{k:Nat}{ks:List Nat}:R4 E ⟨os⟩ tv af st (k::ks)=(As7 E os (Xk tv k) (opAt os k) af st/\R4 E ⟨os⟩ tv af st ks):=by rw[AJl];rfl
theorem AbS{r:AVal}{o:Oper}:As7 E os (some r) (some o) af st=(OC E ⟨os⟩ o af st=some r):=rfl
end ops
end
end Go.VM
set_option linter.unusedVariables false
namespace Go.VM
def grd{α:Type} (c:Prop) [Decidable c] (x:Option α):Option α:=if c then x else none
inductive PC where |k |w |v (x:AVal)
inductive BX where |k |d |s (c:List AVal) |t (c:Nat->List AVal) |p (ps:List PC)
inductive JD (α:Type) where |z |a (id:Nat×Nat) (js:List (Nat×Nat)) (cs:List Tmp) (V:α->List AVal) |b (id:Nat×Nat) (js:List (Nat×Nat)) (cs:List Tmp) (V:α->List AVal) (Ms:α->List BX) |n (id:Nat×Nat) (js:List (Nat×Nat)) (cs:List Tmp) (p:Tmp) (V:α->Nat->List AVal) (Ms:α->Nat->List BX) (C:α->Nat->List AVal)
def AB{α β:Type} (k:α->Option β) (body:(α->Option β)->Option β) (d:JD α:=.z):Option β:=body k
theorem ABs{α:Type}{c:Prop} [Decidable c]{x:Option α}{r:α} (h:grd c x=some r):c/\x=some r:=by grind[grd]
def bind_some{α β:Type}{x:Option α}{f:α->Option β}{r:β} (h:Option.bind x f=some r): ∃y,x=some y/\f y=some r:=by cases x with |none=>cases h|some y=>grind
def letL{α β:Type} (x:α) (f:α->Option β):Option β:=f x
def idx{α:Type} (l:List α) (i:Int):Option α:=if 0<=i then l[i.toNat]? else none
def sub{α:Type} (l:List α) (a b:Int):Option (List α):=if 0<=a/\a<=b/\b<=l.length then some ((l.drop a.toNat).take (b.toNat-a.toNat))else none
def Alq{α β:Type} (f:α->β) (l:List α) (i:Int):idx (l.map f) i=(idx l i).map f:=by unfold idx;split<;>simp
class EO (α:Type) (f:outParam (α->AVal)):Prop
theorem Aru{α:Type}{f:α->AVal} [EO α f]{a b:List α} (c:a=b):List.map f a=List.map f b:=bg _ c
def AmV{α β:Type} (f:α->β) (l:List α) (a b:Int):sub (l.map f) a b=(sub l a b).map (List.map f):=by unfold sub;simp only[co];split<;>simp[fC,List.map_drop]
def BR (n b:Nat):Prop:=n * b<=140737488355328/\n<=4611686018427387904
instance (n b:Nat):Decidable (BR n b):=by unfold BR;infer_instance
def AL (n:Nat):Prop:=n<=4611686018427387904
instance (n:Nat):Decidable (AL n):=by unfold AL;infer_instance
def wr (k:IntKind) (n:Int):Int:=k.wrap n
def Gw (k:IntKind) (a b:Int):Int:=k.wrap (BitVec.ofInt k.bits a&&&BitVec.ofInt k.bits b).toNat
def JQ (k:IntKind) (a b:Int):Int:=k.wrap (BitVec.ofInt k.bits a|||BitVec.ofInt k.bits b).toNat
def Aoa (k:IntKind) (a b:Int):Int:=k.wrap (BitVec.ofInt k.bits a^^^BitVec.ofInt k.bits b).toNat
def L8 (k:IntKind) (a b:Int):Int:=k.wrap (BitVec.ofInt k.bits a&&& ~~~ BitVec.ofInt k.bits b).toNat
def Vy (k:IntKind) (x y:Int):Int:=k.wrap (x * 2^min y.toNat k.bits)
def UC (k:IntKind) (x y:Int):Int:=x.fdiv (2^min y.toNat k.bits)
section
variable{E:Env}{st:St}{af:List AVal}
def Ard (e:Option Nat) (w:Nat) (y:Option AVal):Option AVal:=match y with |some y=>if e=some w/\(Ai y).length=w then some (.cptr (Ai y))else none|none=>none
def AgW{t:TypeId}{w:Nat}{xs:List AVal}{o:Bool}{k:IntKind}{n:Int}:D7 E t (.slice w xs o) (.int k n)=Ard (EB E.P t) w (idx xs n):=by simp only[D7,Ard,idx];by_cases h1:EB E.P t=some w<;>by_cases h2:0<=n<;>simp[h1,h2]<;>cases xs[n.toNat]?<;>simp
theorem Abk{e:Option Nat}{w:Nat}{y:AVal}:Ard e w (some y)=if e=some w/\(Ai y).length=w then some (.cptr (Ai y))else none:=rfl
def Apf (b:Bool) (x:Option UInt8):Option AVal:=match x with|some c=>if b=true then some (.int .u8 c.toNat)else none|none=>none
def ArT{t:TypeId}{s:B8}{k:IntKind}{n:Int}:Ub E t (.str s) (.int k n)=Apf (EW E.P t) (idx s n):=by simp only[Ub,Apf,idx];cases EW E.P t<;>by_cases h2:0<=n<;>simp[h2]<;>cases s[n.toNat]?<;>simp
theorem Ac9{c:UInt8}:Apf true (some c)=some (.int .u8 (AC c)):=rfl
def ApC (b:Bool) (x:Option B8):Option AVal:=match x with|some s=>if b=true then some (.str s)else none|none=>none
def Api{t:TypeId}{s:B8}{lo hi:Option Int}:G7 E t (.str s) lo hi none=ApC (EW E.P t) (sub s (lo.getD 0) (hi.getD s.length)):=by
 simp only[G7,ApC,sub];by_cases h:0<=lo.getD 0/\lo.getD 0<=hi.getD s.length/\hi.getD s.length<=s.length
 ·rw[ah h];cases EW E.P t;·rw[ae fH];rfl
  ·rw[ah ⟨rfl,trivial,h⟩];rfl
 ·rw[ae h,ae (λk=>h k.2.2)]
theorem AZH{s:B8}:ApC true (some s)=some (.str s):=rfl
def Ac2 (e:Option Nat) (w:Nat) (o:Bool) (x:Option (List AVal)):Option AVal:=match x with|some s=>if e=some w then some (.slice w s o)else none|none=>none
def Aiw{t:TypeId}{w:Nat}{xs:List AVal}{o:Bool}{lo hi:Option Int}:G7 E t (.slice w xs o) lo hi none=Ac2 (EB E.P t) w false (sub xs (lo.getD 0) (hi.getD xs.length)):=by grind[G7,Ac2,sub,EB]
def Abi{t:TypeId}{w:Nat}{xs:List AVal}{o:Bool}{lo:Option Int}{h:Int}:G7 E t (.slice w xs o) lo (some h) (some h)=Ac2 (EB E.P t) w true (sub xs (lo.getD 0) h):=by grind[G7,Ac2,sub,EB]
def AZx{w:Nat}{o:Bool}{s:List AVal}:Ac2 (some w) w o (some s)=some (.slice w s o):=by simp[Ac2]
def Akt (e:Option (Nat×Nat)) (i:Option IntKind) (b:Bool) (wd:Nat) (xs:List AVal) (ys:Option (List AVal)):Option AVal:=match e,ys with |some (z,by_),some ys=>if z=wd/\i=none/\b=true/\BR (xs.length+ys.length) by_ then some (.slice wd (xs++ys) true)else none|_,_=>none
set_option linter.unusedSimpArgs false in theorem Ad5{t0 t1:TypeId}{wd:Nat}{xs:List AVal}{y:AVal}:Jq E t0 t1 (.slice wd xs true) y=Akt (QC E.P t0) (Mt E.P t1) (BI E.P t1) wd xs (Uf wd y):=by simp only[Jq,OT,Akt];rcases QC E.P t0 with _|⟨z,b⟩<;>rcases Uf wd y with _|ys<;>try rfl
def Acp{wd by_:Nat}{xs ys:List AVal}:Akt (some (wd,by_)) none true wd xs (some ys)=if BR (xs.length+ys.length) by_ then some (.slice wd (xs++ys) true)else none:=by simp[Akt]
def ATW{wd:Nat}{ys:List AVal}{o:Bool}:Uf wd (.slice wd ys o)=some ys:=by simp[Uf]
def AiR{l:B8}:Uf 1 (.str l)=some ((l.map AC).map (.int .u8)):=by simp[Uf,AC]
def apB (i:Bool) (e:Option (Nat×Nat)) (n:Option IntKind) (b:Bool) (el:TypeId) (l m:B8):Option AVal:=match i,e,n,b with |true,some (1,by_),none,true=>if BR (l.length+m.length) by_ then some (.buf el (l++m) true)else none|_,_,_,_=>none
theorem Af4{by_:Nat}{el:TypeId}{l m:B8}:apB true (some (1,by_)) none true el l m=if BR (l.length+m.length) by_ then some (.buf el (l++m) true)else none:=rfl
def ArW{t0 t1 el:TypeId}{l m:B8}:Jq E t0 t1 (.buf el l true) (.str m)=apB (ACx E.P t0 el) (QC E.P t0) (Mt E.P t1) (BI E.P t1) el l m:=by
 have hl:(u8s l).length=l.length:=by simp[u8s]
 cases h1:ACx E.P t0 el;·grind[Jq,apB]
 rcases h2:QC E.P t0 with _|⟨z,by_⟩;·grind[Jq,OT,apB]
 cases h3:Mt E.P t1
 ·cases h4:BI E.P t1;·grind[Jq,OT,Uf,apB]
  ·by_cases hz:z=1
   ·subst hz;rw[Af4];by_cases hf:BR (l.length+m.length) by_;·have hf':=hf;unfold BR at hf';simp[Jq,OT,h1,h2,h3,h4,Uf,hl,hf,Dp];exact hf'
    ·have hf':=hf;unfold BR at hf';simp[Jq,OT,h1,h2,h3,h4,Uf,hl,hf,Dp];intro k1;have:=λk2=>hf' ⟨k1,k2⟩;omega
   ·have:apB true (some (z,by_)) none true el l m=none:=by
     unfold apB;split;·rename_i e1 e2 e3 e4;cases e2;exact absurd rfl hz
     ·rfl
    rw[this];simp[Jq,OT,h2,h3,h4,Uf,hz]
 grind[Jq,OT,Uf,apB]
def AnF{a b:B8}:ACi .add a b=if AL (a.length+b.length)then some (.str (a++b))else none:=by simp only[ACi,Dp];by_cases h:a.length+b.length<=4611686018427387904<;>simp[h,AL]
def AMa{i:Nat}{c:List AVal}{m:List (Nat×List AVal)}:A9 ((i,c)::m) i=some c:=by simp[A9]
def YI{i j:Nat}{c:List AVal}{m:List (Nat×List AVal)} (h:i≠j):A9 ((j,c)::m) i=A9 m i:=by grind[A9]
def AYB{i:Nat}{c x:List AVal}{m:List (Nat×List AVal)}:CU ((i,c)::m) i x=(i,x)::m:=by simp[CU]
def AXA{i j:Nat}{c x:List AVal}{m:List (Nat×List AVal)} (h:i≠j):CU ((j,c)::m) i x=(j,c)::CU m i x:=by grind[CU]
def ACall.of{f:FuncId}{args args':List AVal}{Q Q':AVal->St->Prop} (hc:ACall E f args' st Q') (ha:args=args') (hq: ∀r st',st.next<=st'.next->Q' r st'->Q r st'):ACall E f args st Q:=by subst ha;exact hc.mono hq
def TZ:List AVal->AVal |[r]=>r|rs=>.tuple rs
def LM{fn:Func}{Q:AVal->St->Prop}{xs:List AVal}{st':St}{m:List (Nat×List AVal)} (h:RA E fn.results.toList af st=some (xs,st')) (hm:m.Sublist st'.m) (hq:Q (TZ xs) {st' with m:=m}):Ko E fn Q .ret af st:=by unfold Ko;rw[h];exact⟨m,hm,hq⟩
def LH{fn:Func}{Q:AVal->St->Prop}{xs:List AVal}{st':St}{m:List (Nat×List AVal)} (h:RA E fn.results.toList af st=some (xs,st')) (hm:m.Sublist st'.m) (hq:Q (TZ xs) {st' with m:=m}):Ko E fn Q .normal af st:=by unfold Ko;rw[h];exact⟨m,hm,hq⟩
def AWp.congr{c:Code}{Q:APost}{af':List AVal} (h:af=af') (k:AWp E c Q af' st):AWp E c Q af st:=h▸k
def stripB:List Bool->List AVal->List AVal |true::bs,x::xs=>x.strip::stripB bs xs|false::bs,x::xs=>x::stripB bs xs|[],xs=>xs|_::_,[]=>[]
def Sw: ∀(bs:List Bool) (xs:List AVal),(stripB bs xs).length=xs.length |[],xs=>by rw[stripB]|_::_,[]=>by rw[stripB]|true::bs,x::xs=>by rw[stripB,ag,ag,Sw bs xs]|false::bs,x::xs=>by rw[stripB,ag,ag,Sw bs xs]
def Qq{Γ:Ghost}: ∀(bs:List Bool) (xs:List AVal) (vs:List Value),RepL Γ xs vs->RepL Γ (stripB bs xs) vs
 |[],xs,vs,h=>by grind[stripB]
 |_::_,[],vs,h=>by grind[stripB]
 | true::bs,x::xs,vs,h=>by cases h with |cons h t=>rw[stripB];exact .cons h.strip (Qq bs _ _ t)
 | false::bs,x::xs,vs,h=>by cases h with |cons h t=>rw[stripB];exact .cons h (Qq bs _ _ t)
def Q6{Γ:Ghost}{w:World}: ∀(bs:List Bool) (xs:List AVal) (vs:List Value),ownL Γ w xs vs->ownL Γ w (stripB bs xs) vs |[],xs,vs,h=>by grind[stripB]|_::_,[],vs,h=>by grind[stripB]|true::bs,x::xs,[],h=>by grind[stripB,ownL]|false::bs,x::xs,[],h=>by grind[stripB,ownL]|true::bs,x::xs,v::vs,h=>by rw[ownL]at h;rw[stripB,ownL];exact⟨Nk _ _ _ _,Q6 bs xs vs h.2⟩|false::bs,x::xs,v::vs,h=>by rw[ownL]at h;rw[stripB,ownL];exact⟨h.1,Q6 bs xs vs h.2⟩
def Qz (b:Nat): ∀(bs:List Bool) (xs:List AVal) (vs:List Value),AP b (stripB bs xs) vs<=AP b xs vs |[],xs,vs=>by simp_all[stripB]|_::_,[],vs=>by simp_all[stripB]|true::bs,x::xs,[]=>by grind[stripB,AP]|false::bs,x::xs,[]=>by grind[stripB,AP]| true::bs,x::xs,v::vs=>by have:=Qz b bs xs vs;grind[stripB,AP,KH]| false::bs,x::xs,v::vs=>by have:=Qz b bs xs vs;grind[stripB,AP]
def Sim.stripCells{F:Nat->Nat}{Γ:Ghost}{w:World}{a:Act}{i:Nat}{cs:List AVal} (bs:List Bool) (hs:Sim E F Γ st w af a.tmps.toList) (hg:A9 st.m i=some cs):Sim E F Γ {st with m:=CU st.m i (stripB bs cs)} w af a.tmps.toList:=by
 rcases hs.box_ok _ (M4 hg)with⟨b,arr,e,hb⟩|⟨v,hv⟩;rotate_left;·exact hs.setSh hg hv (Qq bs _ _ hv.rep) (Q6 bs _ _ hv.own) λn=>by have h1:=Qz n bs cs [v];have h2:=hs.tok n;omega
 obtain⟨lo,hi,hh,hf⟩:=hb.heap;exact(hs.setBox (w':=w) (cs':=stripB bs cs) (arr':=arr) (lo:=lo) (hi:=hi) hg hb hh hf (λ_ _=>rfl) rfl rfl rfl rfl (by rw[Sw];exact Qq bs _ _ hb.rep) (Q6 bs _ _ hb.own) (by rw[Sw];exact hb.one) (λn=>by have h1:=Qz n bs cs arr.toList;have h2:=hs.tok n;omega)).1
def AJq{c:Code}{Q:APost}{i j p:Nat}{cs:List AVal}{x:AVal} (hij:j≠i) (hg:A9 st.m j=some cs) (h2:2<=cs.length) (hc:cs[p]?=some (.sh i)) (hi:A9 st.m i=some [x]) (h:AWp E c Q af {st with m:=CU (CU st.m i [x.strip]) j (cs.set p x)}):AWp E c Q af st:=⟨λF Γ w a hd hs=>h.go F Γ w a hd (hs.unshCell hij hg h2 hc hi)⟩
def ADm{c:Code}{Q:APost}{m m':List (Nat×List AVal)}{n:Nat} (hp:m.Perm m') (h:AWp E c Q af ⟨m',n⟩):AWp E c Q af ⟨m,n⟩:=⟨λF Γ w a hd hs=>h.go F Γ w a hd (hs.perm hp)⟩
def ACall.perm{f:FuncId}{args:List AVal}{Q:AVal->St->Prop}{m m':List (Nat×List AVal)}{n:Nat} (hp:m.Perm m') (h:ACall E f args ⟨m',n⟩ Q):ACall E f args ⟨m,n⟩ Q:=⟨λF Γ w cargs hs=>h.go F Γ w cargs (hs.perm hp)⟩
theorem AWp.nodup{c:Code}{Q:APost} (h:(st.m.map (·.1)).Nodup->AWp E c Q af st):AWp E c Q af st:=⟨λF Γ w a hd hs=>(h hs.keys).go F Γ w a hd hs⟩
def Sc: ∀ {m:List (Nat×List AVal)}{i:Nat}{c x:List AVal},A9 m i=some c->((i,x)::Ed m i).Perm (CU m i x)
 |[],_,_,_,h=>by grind[A9]
 | (j,d)::m,i,c,x,h=>by
  simp only[A9]at h;simp only[Ed,CU];split at h;·simp_all
  ·rename_i e;rw[ae e,ae e];exact(cB _ _ _).trans ((Sc h).cons _)
theorem Y0: ∀ {m:List (Nat×List AVal)}{i j:Nat},i≠j->A9 (Ed m i) j=A9 m j
 |[],_,_,_=>rfl
 | (k,d)::m,i,j,h=>by
  simp only[Ed];split;·rename_i e;subst e;simp only[A9];rw[ae (λe=>h e.symm)]
  ·simp only[A9];rw[Y0 h]
def AE4: ∀ {m:List (Nat×List AVal)}{i j:Nat}{x:List AVal},i≠j->CU (Ed m i) j x=Ed (CU m j x) i
 |[],_,_,_,_=>rfl
 | (k,d)::m,i,j,x,h=>by
  by_cases e:i=k;·subst e;simp only[Ed,av,CU];rw[ae (λe=>h e.symm)];simp[Ed]
  ·by_cases e2:j=k;·grind[Ed,CU]
   ·simp only[Ed,CU,ae e,ae e2];rw[AE4 h]
def ACall.front{f:FuncId}{args:List AVal}{m:List (Nat×List AVal)}{n i:Nat}{c:List AVal}{Q:AVal->St->Prop} (hi:A9 m i=some c) (h:i<n->ACall E f args ⟨(i,c)::Ed m i,n⟩ λr st'=>∃c',st'.m=(i,c')::Ed m i/\Q r ⟨CU m i c',st'.next⟩):ACall E f args ⟨m,n⟩ Q:=by
 refine ACall.known λ_ hk=>?_;have hin:i<n:=by
  rcases aV i n with h'|h';·omega
  ·have:=hk i h';grind
 constructor;intro F Γ w cargs hs;refine((h hin).go F Γ w cargs (hs.perm (LK hi))).mono ?_;rintro e w' ⟨v,he,Γ',r,⟨m',n'⟩,h1,h2,h3,c',hm,hq⟩;simp only at hm;subst hm;exact⟨v,he,Γ',r,⟨CU m i c',n'⟩,h1,h2,h3.perm (Sc hi),hq⟩
end
end Go.VM
set_option linter.unusedVariables false
set_option linter.defProp false
set_option maxRecDepth 100000
namespace Go.VM
section
variable{E:Env}{t:TypeId}{k:IntKind}{a b:Int}
def Aqa:GH E .add t (.int k a) (.int k b)=some (.int k (wr k (a+b))):=by simp[GH,Ld,wr]
def Apb:GH E .sub t (.int k a) (.int k b)=some (.int k (wr k (a-b))):=by simp[GH,Ld,wr]
def Ao9:GH E .mul t (.int k a) (.int k b)=some (.int k (wr k (a * b))):=by simp[GH,Ld,wr]
def ArN:GH E .quo t (.int k a) (.int k b)=if b=0 then none else some (.int k (wr k (a.tdiv b))):=by simp[GH,Ld,wr]
def ArB:GH E .rem t (.int k a) (.int k b)=if b=0 then none else some (.int k (a.tmod b)):=by simp[GH,Ld]
def AqT:GH E .and t (.int k a) (.int k b)=some (.int k (Gw k a b)):=by simp[GH,Ld,Gw]
def Ar2:GH E .or t (.int k a) (.int k b)=some (.int k (JQ k a b)):=by simp[GH,Ld,JQ]
def AqC:GH E .xor t (.int k a) (.int k b)=some (.int k (Aoa k a b)):=by simp[GH,Ld,Aoa]
def AdF:GH E .andNot t (.int k a) (.int k b)=some (.int k (L8 k a b)):=by simp[GH,Ld,L8]
def Apo:GH E .eql t (.int k a) (.int k b)=some (.bool (a==b)):=by simp[GH,Ld]
def Apg:GH E .neq t (.int k a) (.int k b)=some (.bool (a !=b)):=by simp[GH,Ld]
def Ap2:GH E .lss t (.int k a) (.int k b)=some (.bool (decide (a<b))):=by simp[GH,Ld]
def ApY:GH E .leq t (.int k a) (.int k b)=some (.bool (decide (a<=b))):=by simp[GH,Ld]
def Aqn:GH E .gtr t (.int k a) (.int k b)=some (.bool (decide (a>b))):=by simp[GH,Ld]
def Arc:GH E .geq t (.int k a) (.int k b)=some (.bool (decide (a>=b))):=by simp[GH,Ld]
def Aqp{j:IntKind}:GH E .shl t (.int k a) (.int j b)=if b<0 then none else some (.int k (Vy k a b)):=by simp[GH,ADh,Vy]
def Aq9{j:IntKind}:GH E .shr t (.int k a) (.int j b)=if b<0 then none else some (.int k (UC k a b)):=by simp[GH,ADh,UC]
variable{x y:B8}{p q:Bool}
def Am7:GH E .add t (.str x) (.str y)=if AL (x.length+y.length)then some (.str (x++y))else none:=AnF
theorem Amo:GH E .eql t (.str x) (.str y)=some (.bool (x==y)):=rfl
theorem Alp:GH E .neq t (.str x) (.str y)=some (.bool (!(x==y))):=rfl
theorem Ak0:GH E .lss t (.str x) (.str y)=some (.bool (Op.bytesLess x y)):=rfl
theorem Alc:GH E .leq t (.str x) (.str y)=some (.bool (Op.bytesLess x y||x==y)):=rfl
theorem AlX:GH E .gtr t (.str x) (.str y)=some (.bool (!(Op.bytesLess x y||x==y))):=rfl
theorem AnK:GH E .geq t (.str x) (.str y)=some (.bool (!(Op.bytesLess x y))):=rfl
theorem AoB:GH E .eql t (.bool p) (.bool q)=if Xd E.P t=true then some (.bool (p==q))else none:=rfl
theorem Ale:GH E .neq t (.bool p) (.bool q)=if Xd E.P t=true then some (.bool (!(p==q)))else none:=rfl
def AhS (op:BinOp) (g:Bool) (e:Option Bool):Option AVal:=if g=true then none else match op,e with |.eql,some b=>some (.bool b)|.neq,some b=>some (.bool (!b))|_,_=>none
theorem Aqc{op:BinOp}{xs ys:List AVal}:GH E op t (.agg xs) (.agg ys)=AhS op (E.P.eqGuardType E.P.depth t) (eqA E.P 10000 t (.agg xs) (.agg ys)):=rfl
theorem AZJ:AhS .eql false (some p)=some (.bool p):=rfl
theorem AZn:AhS .neq false (some p)=some (.bool (!p)):=rfl
def cvI (g:Bool) (st:Bool) (k:Option IntKind) (n:Int):Option AVal:=if(g&&st)=true then some (.str (J7 n))else if g=true then(match k with|some k=>some (.int k (wr k n))|none=>none)else none
theorem ArM{s d:TypeId}{n:Int}:Sb E s d (.int k n)=cvI (BI E.P s) (EW E.P d) (Mt E.P d) n:=rfl
theorem AiM{n:Int}:cvI true false (some k) n=some (.int k (wr k n)):=rfl
theorem Amw{n:Int}{j:Option IntKind}:cvI true true j n=some (.str (J7 n)):=rfl
def cvS (g h:Bool) (l:B8):Option AVal:=if(g&&h)=true then some (.str l)else none
theorem ApZ{s d:TypeId}{l:B8}:Sb E s d (.str l)=cvS (BI E.P s) (EW E.P d) l:=rfl
theorem Agj{l:B8}:cvS true true l=some (.str l):=rfl
theorem Afs{s d:TypeId}{w:Nat}{xs:List AVal}{o:Bool}:Sb E s d (.slice w xs o)=strOf (u8T E.P s&&EW E.P d) (bytesOf xs):=rfl
theorem AV1{l:B8}:strOf true (some l)=some (.str l):=rfl
def bytesOf_map{l:List Int}:bytesOf (l.map (AVal.int .u8))=some (l.map Ha):=by induction l<;>grind[bytesOf]
theorem TH{n:Int}{xs:List AVal}:bytesOf (.int .u8 n::xs)=(bytesOf xs).map (Ha n:: ·):=rfl
theorem AOy:bytesOf []=some []:=rfl
def AO7{xs ys:List AVal}:bytesOf (xs++ys)=(bytesOf xs).bind λa=>(bytesOf ys).map (a++ ·):=by
 induction xs with
 |nil=>cases h:bytesOf ys<;>simp[bytesOf,h]
 | cons x xs ih=>
  rw[bf];cases x with
  | int k n=>
   cases k<;>try rfl
   rw[TH,TH,ih];cases bytesOf xs<;>cases bytesOf ys<;>simp
  |_=>rfl
theorem AqE{l:B8}:cvS true false l=none:=rfl
theorem ApL{s d:TypeId}{w i l:Nat}:Sb E s d (.gsl w i l)=none:=rfl
theorem Ao6{s d:TypeId}{w i o l:Nat}:Sb E s d (.bsl w i o l)=none:=rfl
theorem AqA{s d:TypeId}{i o:Nat}:Sb E s d (.ptr i o)=none:=rfl
section
variable{s d:TypeId}{st:St}
theorem ApW{l:B8}:UN E s d (.str l) st=none:=rfl
theorem ApX{w i l:Nat}:UN E s d (.gsl w i l) st=none:=rfl
theorem ArE{w i o l:Nat}:UN E s d (.bsl w i o l) st=none:=rfl
def cuB (b:Bool) (i:Nat):Option AVal:=if b=true then some (.ptr i 0)else none
theorem AiC{i:Nat}:cuB true i=some (.ptr i 0):=rfl
def cuR (E:Env) (s d:TypeId) (i:Nat) (x:Option (List AVal)):Option AVal:=match x with |some (.nself j T n::_)=>if j=i then cuB (XZ E.P s d T n) i else none|_=>none
def Aip{i n:Nat}{T:TypeId}{cs:List AVal}:cuR E s d i (some (.nself i T n::cs))=cuB (XZ E.P s d T n) i:=by simp[cuR]
def ApF{i:Nat}:UN E s d (.ptr i 0) st=cuR E s d i (A9 st.m i):=by
 simp only[UN];generalize A9 st.m i=x;unfold cuR;split;·rename_i j T n rest;simp only[cuB];by_cases h1:j=i<;>by_cases h2:XZ E.P s d T n=true<;>simp[h1,h2]
 simp
def Kh (i:Nat) (T:TypeId) (n:Nat) (b:Bool):AVal:=if b=true then .ptr i 0 else .nself i T n
theorem Am5{i n:Nat}{T:TypeId}:Kh i T n true=.ptr i 0:=rfl
theorem Anx{i n:Nat}{T:TypeId}:Kh i T n false=.nself i T n:=rfl
def Abt{i n:Nat}{T:TypeId}{b:Bool}:(Kh i T n b).strip=Kh i T n b:=by cases b<;>simp[Kh,AVal.strip]
def AbN{i n:Nat}{T:TypeId}{b:Bool}:Ai (Kh i T n b)=[Kh i T n b]:=by cases b<;>rfl
def AZc{i n:Nat}{T:TypeId}{b:Bool}:Mo (Kh i T n b)=false:=by cases b<;>rfl
def Aay{i n:Nat}{T:TypeId}{b:Bool}:Ei (Kh i T n b)=true:=by cases b<;>rfl
def cmS (a b:Bool) (l:B8) (st:St):Option (AVal×St):=if a=true/\b=true then some (.bsl 1 st.next 0 l.length,{m:=(st.next,List.map (AVal.int .u8) (List.map AC l))::st.m,next:=st.next+1})else none
def Aq8{l:B8}:SG E s d (.str l) st=cmS (u8T E.P d) (EW E.P s) l st:=by simp only[SG,cmS,fE];rfl
def AgH{l:B8}:cmS true true l st=some (.bsl 1 st.next 0 l.length,{m:=(st.next,List.map (AVal.int .u8) (List.map AC l))::st.m,next:=st.next+1}):=by simp[cmS]
def cmB (b:Bool) (off n:Nat) (st:St) (x:Option (List AVal)):Option (AVal×St):=match x with
 |some cs=>if b=true then(match bytesOf ((cs.drop off).take n)with|some l=>if l.length=n/\AL n then some (.str l,st)else none|none=>none)else none
 |none=>none
def ApI{i off n:Nat}:SG E s d (.bsl 1 i off n) st=cmB (u8T E.P s&&EW E.P d) off n st (A9 st.m i):=by simp only[SG,cmB,cS,Dp,AL];cases (u8T E.P s&&EW E.P d)<;>cases A9 st.m i<;>simp;grind
def Ahn{q:List Int}{off n:Nat}:cmB true off n st (some (List.map (AVal.int .u8) q))=if n<=q.length-off/\AL n then some (.str (List.map Ha (List.take n (List.drop off q))),st)else none:=by simp only[cmB,av,<-fC,<-List.map_drop,bytesOf_map,co,bL,aB];grind
def WM (n:Int) (b:Nat):Prop:=0<=n/\n<=4611686018427387904/\n * b<=140737488355328
instance (n:Int) (b:Nat):Decidable (WM n b):=by unfold WM;infer_instance
def mkR (e:Option (Nat×AVal)) (n:Int) (st:St):Option (AVal×St):=match e with |some (b,z)=>if 0<=n/\n<=Dp/\n * b<=140737488355328 then some (.bsl 1 st.next 0 n.toNat,{m:=(st.next,List.replicate n.toNat z)::st.m,next:=st.next+1})else none|none=>none
def Anb{b:Nat}{k:IntKind}{z n:Int}:mkR (some (b,.int k z)) n st=if WM n b then some (.bsl 1 st.next 0 n.toNat,{m:=(st.next,List.map (AVal.int k) (List.replicate n.toNat z))::st.m,next:=st.next+1})else none:=by grind[mkR,WM,Dp,List.map_replicate]
def An7{b:Nat}{n:Int}:mkR (some (b,.str [])) n st=if WM n b then some (.bsl 1 st.next 0 n.toNat,{m:=(st.next,List.map AVal.str (List.replicate n.toNat []))::st.m,next:=st.next+1})else none:=by grind[mkR,WM,Dp,List.map_replicate]
def AAG (n n':Int) (b:Nat):Prop:=0<=n/\n<=n'/\n'<=4611686018427387904/\n' * b<=140737488355328
instance (n n':Int) (b:Nat):Decidable (AAG n n' b):=by unfold AAG;infer_instance
def mkG (e:Option (Nat×AVal)) (n n':Int) (st:St):Option (AVal×St):=match e with |some (b,z)=>if 0<=n/\n<=n'/\n'<=Dp/\n' * b<=140737488355328 then some (.gsl 1 st.next n.toNat,{m:=(st.next,List.replicate n.toNat z)::st.m,next:=st.next+1})else none|none=>none
def Akz{b:Nat}{k:IntKind}{z n n':Int}:mkG (some (b,.int k z)) n n' st=if AAG n n' b then some (.gsl 1 st.next n.toNat,{m:=(st.next,List.map (AVal.int k) (List.replicate n.toNat z))::st.m,next:=st.next+1})else none:=by grind[mkG,AAG,Dp,List.map_replicate]
def Amg{b:Nat}{n n':Int}:mkG (some (b,.str [])) n n' st=if AAG n n' b then some (.gsl 1 st.next n.toNat,{m:=(st.next,List.map AVal.str (List.replicate n.toNat []))::st.m,next:=st.next+1})else none:=by grind[mkG,AAG,Dp,List.map_replicate]
def Atz{k k':IntKind}{n n':Int}:Xx E t (.int k n) (.int k' n') st=mkG (WK E.P t) n n' st:=by simp only[Xx,mkG];rcases WK E.P t with _|⟨b,z⟩<;>simp
def Aqu{i n:Nat}:SG E s d (.gsl 1 i n) st=cmB (u8T E.P s&&EW E.P d) 0 n st (A9 st.m i):=by simp only[SG,cmB,cS,Dp,AL,ba];cases (u8T E.P s&&EW E.P d)<;>cases A9 st.m i<;>simp;grind
def AuN{k k':IntKind}{n:Int}:Yr E t (.int k n) (.int k' n) st=mkR (WK E.P t) n st:=by simp only[Yr,mkR];rcases WK E.P t with _|⟨b,z⟩<;>simp
end
theorem Apy{e:TypeId}{l:B8}{o:Bool}:Uj (.buf e l o)=some (.bufp e l o):=rfl
def usB (b:Bool) (l:B8):Option AVal:=if b=true then some (.str l)else none
theorem AjW{l:B8}:usB true l=some (.str l):=rfl
def ApQ{t0 e:TypeId}{l:B8}:Yc E t0 (.bufp e l true) (.int .i64 (l.length:Int))=usB (ptrTo E.P t0 e) l:=by simp[Yc,usB]
theorem Aqt{op:BinOp}:GH E op t .nilp .nilp=Rt op (TE E.P t) (some true):=rfl
theorem Aqf{op:BinOp}{i n:Nat}{T:TypeId}:GH E op t (.nself i T n) .nilp=Rt op (TE E.P t) (some true):=rfl
theorem Arm{op:BinOp}{i o:Nat}:GH E op t (.ptr i o) .nilp=Rt op (TE E.P t) (some false):=rfl
def Aqo{op:BinOp}{i o:Nat}:GH E op t (.ptr i o) (.ptr i o)=Rt op (TE E.P t) (some true):=by simp[GH,AFn]
theorem Ari:Rt .eql true (some p)=some (.bool p):=rfl
theorem Aqd:Rt .neq true (some p)=some (.bool (!p)):=rfl
theorem Ai3{e:TypeId}:Tf E t (.nbuf e)=if Cz E.P t=true then some (.int .i64 0)else none:=rfl
theorem Ag7{e:TypeId}:Ajd E t (.nbuf e)=if Cz E.P t=true then some (.int .i64 0)else none:=rfl
theorem Akf{T:TypeId}{i:Nat}{e:TypeId}:AW4 E t (.trow T i 0) (.nbuf e)=if EB E.P t=some 1 then some (.int .i64 0)else none:=rfl
def Ako{T:TypeId}{i len:Nat}{h:Int}:G7 E t (.trow T i len) none (some h) none=if EB E.P t=some 1 then(if 0<=h/\h<=len then some (.trow T i h.toNat)else none)else none:=by simp only[G7];by_cases h1:EB E.P t=some 1<;>by_cases h2:0<=h<;>by_cases h3:h<=len<;>simp[h1,h2,h3]
theorem AeP{T:TypeId}{i l:Nat}:(AVal.trow T i l).strip=.trow T i l:=rfl
theorem Aig{T:TypeId}{i l:Nat}:Ai (.trow T i l)=[.trow T i l]:=rfl
theorem AfQ{T:TypeId}{i l:Nat}:Ei (.trow T i l)=true:=rfl
theorem Aib{T:TypeId}{i l:Nat}:Mo (.trow T i l)=false:=rfl
theorem Aii{e:TypeId}:(AVal.nbuf e).strip=.nbuf e:=rfl
theorem Ahp{e:TypeId}:Ai (.nbuf e)=[.nbuf e]:=rfl
theorem AfM{e:TypeId}:Ei (.nbuf e)=true:=rfl
theorem AeO{e:TypeId}:Mo (.nbuf e)=false:=rfl
theorem AnB{e:TypeId}{l:B8}{o:Bool}:Tf E t (.buf e l o)=if Cz E.P t=true then some (.int .i64 l.length)else none:=rfl
theorem AnY{w i o l:Nat}:Tf E t (.bsl w i o l)=if Cz E.P t=true then some (.int .i64 l)else none:=rfl
def CZ{w i len:Nat}{k:IntKind}{n:Int}:D7 E t (.gsl w i len) (.int k n)=if EB E.P t=some w then(if 0<=n/\n<len then some (.ptr i (n.toNat * w))else none)else none:=by simp only[D7];by_cases h1:EB E.P t=some w<;>by_cases h2:0<=n<;>by_cases h3:n<len<;>simp[h1,h2,h3]
def CL{w i len:Nat}{h:Int}:G7 E t (.gsl w i len) none (some h) none=if EB E.P t=some w then(if 0<=h/\h<=len then some (.gsl w i h.toNat)else none)else none:=by simp only[G7];by_cases h1:EB E.P t=some w<;>by_cases h2:0<=h<;>by_cases h3:h<=len<;>simp[h1,h2,h3]
def Ap9{w i len:Nat}{h:Int}:G7 E t (.bsl w i 0 len) none (some h) none=if EB E.P t=some w then(if 0<=h/\h<=len then some (.bsl w i 0 h.toNat)else none)else none:=by simp only[G7];by_cases h1:EB E.P t=some w<;>by_cases h2:0<=h<;>by_cases h3:h<=len<;>simp[h1,h2,h3]
def apT (e:Option (Nat×Nat)) (g:Bool) (x:Option (List AVal)) (m:List (Nat×List AVal)) (j len:Nat) (s:B8):Option (Nat×Nat×List AVal×List (Nat×List AVal)×Option Nat):=match x,e with |some cs,some (z,by_)=>if z=1/\len<=cs.length/\(len+s.length) * by_<=140737488355328/\len+s.length<=Dp/\g=true then some (1,len+s.length,cs.take len++u8s s,Ed m j,some j)else none|_,_=>none
def Ij{t0 t1:TypeId}{j len:Nat}{s:B8}{st:St}:Aca E t0 t1 (.gsl 1 j len) (.str s) st=apT (QC E.P t0) ((Mt E.P t1).isNone&&BI E.P t1) (A9 st.m j) st.m j len s:=by simp only[Aca,apT];rcases A9 st.m j with _|cs<;>rcases QC E.P t0 with _|⟨z,b⟩<;>simp
def Au{b j len:Nat}{q:List Int}{m:List (Nat×List AVal)}{s:B8}:apT (some (1,b)) true (some (List.map (AVal.int .u8) q)) m j len s=if len<=q.length/\BR (len+s.length) b then some (1,len+s.length,List.map (AVal.int .u8) (List.take len q++List.map AC s),Ed m j,some j)else none:=by
 have e:u8s s=List.map (AVal.int .u8) (List.map AC s):=by simp[u8s,AC]
 simp_all[apT,BR,Dp]
theorem Av{w i l:Nat}:(AVal.gsl w i l).strip=.gsl w i l:=rfl
def BU{i:Nat}{c:List AVal}{m:List (Nat×List AVal)}:Ed ((i,c)::m) i=m:=by simp[Ed]
def lkV:List B8->List AVal->B8->AVal->AVal |k::ks,v::vs,s,z=>if(s==k)=true then v.strip else lkV ks vs s z|_,_,_,z=>z.strip
theorem AeG{k s:B8}{ks:List B8}{v z:AVal}{vs:List AVal}:lkV (k::ks) (v::vs) s z=if(s==k)=true then v.strip else lkV ks vs s z:=rfl
theorem Ala{s:B8}{z:AVal}:lkV [] [] s z=z.strip:=rfl
def lkR (z:Option AVal) (x:Option (List AVal)) (s:B8):Option AVal:=match z,x with |some z,some [.map ks vs]=>some (lkV ks vs s z)|_,_=>none
theorem AVa{s:B8}{z:AVal}: ∀(ks:List B8) (vs:List AVal),(match Lx ks vs s with|some x=>x.strip|none=>z.strip)=lkV ks vs s z
 |[],_=>by simp[Lx,lkV]
 |_::_,[]=>by simp[Lx,lkV]
 | k::ks,v::vs=>by
  simp only[Lx,lkV,bE];split
  ·rename_i x hx;split at hx;·simp_all
   ·rename_i e;rw[ae e,<-AVa ks vs,hx]
  ·rename_i hx;split at hx;·grind
   ·rename_i e;rw[ae e,<-AVa ks vs,hx]
def Aon{i:Nat}{s:B8}{st:St}:Qw E t (.sh i) (.str s) false st=lkR ((Tg E.P t).bind (FQ E.P)) (A9 st.m i) s:=by
 unfold Qw WC lkR;cases Tg E.P t with
 |none=>simp
 | some e=>
  simp only[aa];cases hm:A9 st.m i with
  |none=>cases FQ E.P e<;>simp
  | some cs=>
   cases hz:FQ E.P e with
   | none=>match cs with |[]=>simp|[.map _ _]=>grind|x::y::_=>cases x<;>simp|[.any]|[.bool _]|[.int _ _]|[.str _]|[.agg _]|[.tuple _]|[.slice _ _ _]|[.ptr _ _]|[.nilp]|[.cptr _]|[.fn _ _ _]|[.nilFn]|[.iface _ _]|[.nilIface]|[.iter _ _]|[.bsl _ _ _ _]|[.nself _ _ _]|[.buf _ _ _]|[.bufp _ _ _]|[.slop _ _]|[.sh _]|[.sptr _ _ _]|[.gsl _ _ _]|[.nmap]|[.num _]|[.nbuf _]|[.trow _ _ _]=>simp
   | some z=>match cs with |[]=>simp|[.map ks vs]=>grind[AVa]|x::y::_=>cases x<;>simp|[.any]|[.bool _]|[.int _ _]|[.str _]|[.agg _]|[.tuple _]|[.slice _ _ _]|[.ptr _ _]|[.nilp]|[.cptr _]|[.fn _ _ _]|[.nilFn]|[.iface _ _]|[.nilIface]|[.iter _ _]|[.bsl _ _ _ _]|[.nself _ _ _]|[.buf _ _ _]|[.bufp _ _ _]|[.slop _ _]|[.sh _]|[.sptr _ _ _]|[.gsl _ _ _]|[.nmap]|[.num _]|[.nbuf _]|[.trow _ _ _]=>simp
theorem AgI{s:B8}{z:AVal}{ks:List B8}{vs:List AVal}:lkR (some z) (some [.map ks vs]) s=some (lkV ks vs s z):=rfl
def upR (b:Bool) (y:Option (List AVal)) (i:Nat) (s:B8) (x:AVal) (st:St):Option St:=match b,y with |true,some [.map ks vs]=>some {st with m:=CU st.m i [.map (IW ks s) (Kc ks vs s x)]}|_,_=>none
def Asu{i:Nat}{s:B8}{x:AVal}{st:St}:Vp E t (.sh i) (.str s) x st=upR (Tg E.P t).isSome (A9 st.m i) i s x st:=by simp only[Vp,WC,upR];grind[Tg,A9]
theorem AgV{i:Nat}{s:B8}{x:AVal}{st:St}{ks:List B8}{vs:List AVal}:upR true (some [.map ks vs]) i s x st=some {st with m:=CU st.m i [.map (IW ks s) (Kc ks vs s x)]}:=rfl
theorem AsC{op:BinOp}{f:Fn}{x y:List AVal}:GH E op t (.fn f x y) .nilFn=AAO op (ADS E.P t) false:=rfl
theorem As8{op:BinOp}:GH E op t .nilFn .nilFn=AAO op (ADS E.P t) true:=rfl
theorem ArH{b:Bool}:AAO .eql true b=some (.bool b):=rfl
theorem ArX{b:Bool}:AAO .neq true b=some (.bool (!b)):=rfl
def Ark{w i off len:Nat}{k:IntKind}{n:Int}:D7 E t (.bsl w i off len) (.int k n)=if EB E.P t=some w then(if 0<=n/\n<len then some (.ptr i (off+n.toNat * w))else none)else none:=by simp only[D7];by_cases h1:EB E.P t=some w<;>by_cases h2:0<=n<;>by_cases h3:n<len<;>simp[h1,h2,h3]
def iaP (e:Option (Nat×Nat×Bool)) (j o:Nat) (n:Int):Option AVal:=match e with |some (len,z,_)=>if 0<=n/\n<len then some (.ptr j (o+n.toNat * z))else none|none=>none
def AqZ{j o:Nat}{k:IntKind}{n:Int}:D7 E t (.ptr j o) (.int k n)=iaP (NS E.P t) j o n:=by simp only[D7,iaP];rcases NS E.P t with _|⟨len,z,g⟩<;>rfl
theorem Aeq{len z j o:Nat}{g:Bool}{n:Int}:iaP (some (len,z,g)) j o n=if 0<=n/\n<(len:Int)then some (.ptr j (o+n.toNat * z))else none:=rfl
def slP (e:Option (Nat×Nat×Bool)) (i o:Nat) (l:Int) (h:Option Int):Option AVal:=match e with |some (len,z,_)=>if 0<=l/\l<=h.getD len/\h.getD len<=len/\len<=Dp then some (.bsl z i (o+l.toNat * z) ((h.getD len).toNat-l.toNat))else none|none=>none
def Apa{i o:Nat}{lo hi:Option Int}:G7 E t (.ptr i o) lo hi none=slP (NS E.P t) i o (lo.getD 0) hi:=by simp only[G7,slP];rcases NS E.P t with _|⟨len,z,g⟩<;>simp
def Ae6{len z i o:Nat}{g:Bool}{l:Int}:slP (some (len,z,g)) i o l none=if 0<=l/\l<=(len:Int)/\len<=Dp then some (.bsl z i (o+l.toNat * z) (len-l.toNat))else none:=by simp[slP]
def AnI{α:Type}{l:List α}{n:Int} (h:0<=n):l[n.toNat]?=idx l n:=by grind[idx]
def An1{α β:Type}{f:α->β}{l:List α}{k:Nat}{v:α}:(List.map f l).set k (f v)=List.map f (l.set k v):=List.map_set.symm
theorem Ap7:unA .not (.bool p)=some (.bool (!p)):=rfl
theorem AqU:unA .neg (.int k a)=some (.int k (wr k (0-a))):=rfl
end
def AKq (n:Nat):List Bool:=List.replicate n false
def YG{n:Nat}:(AKq n).length=n:=by simp[AKq]
def AaC{l:List Bool}:stripL (List.map AVal.bool l)=List.map AVal.bool l:=by induction l<;>grind[stripL,AVal.strip]
def Abz{k:IntKind}{l:List Int}:stripL (List.map (AVal.int k) l)=List.map (AVal.int k) l:=by induction l<;>grind[stripL,AVal.strip]
def AdA{l:List Bool}{n:Nat} (h:l.length=n):List.take n (List.map AVal.bool l)=List.map AVal.bool l:=by grind[List.take_of_length_le]
def Ach{k:IntKind}{l:List Int}{n:Nat} (h:l.length=n):List.take n (List.map (AVal.int k) l)=List.map (AVal.int k) l:=by grind[List.take_of_length_le]
def S9: ∀(l q p:List AVal),q.length=l.length->putCells (p++q) p.length l=p++l |[],q,p,h=>by grind[putCells]| x::l,q,p,h=>by cases q with |nil=>grind| cons y q=>rw[putCells];have e:(p++y::q).set p.length x=(p++[x])++q:=fH;have e2:p.length+1=(p++[x]).length:=fH;rw[e,e2,S9 l q (p++[x]) (by grind)];simp
def AfH{l q:List Bool} (h:q.length=l.length):putCells (List.map AVal.bool q) 0 (List.map AVal.bool l)=List.map AVal.bool l:=by have:=S9 (List.map AVal.bool l) (List.map AVal.bool q) [] (by grind);grind
def Ai4{k:IntKind}{l q:List Int} (h:q.length=l.length):putCells (List.map (AVal.int k) q) 0 (List.map (AVal.int k) l)=List.map (AVal.int k) l:=by have:=S9 (List.map (AVal.int k) l) (List.map (AVal.int k) q) [] (by grind);grind
def Ame:AVal.strip (.any)=.any:=by simp[AVal.strip]
def Ajc{b:Bool}:AVal.strip (.bool b)=.bool b:=by simp[AVal.strip]
def Alz{k:IntKind}{n:Int}:AVal.strip (.int k n)=.int k n:=by simp[AVal.strip]
def AmO{l:B8}:AVal.strip (.str l)=.str l:=by simp[AVal.strip]
def Alg{w i o l:Nat}:AVal.strip (.bsl w i o l)=.bsl w i o l:=by simp[AVal.strip]
def AYV{i n:Nat}{T:TypeId}:AVal.strip (.nself i T n)=.nself i T n:=by simp[AVal.strip]
def Amr{e:TypeId}{l:B8}{o:Bool}:AVal.strip (.buf e l o)=.buf e l false:=by simp[AVal.strip]
def AhC{e:TypeId}{l:B8}{o:Bool}:AVal.strip (.bufp e l o)=.bufp e l false:=by simp[AVal.strip]
theorem Anw{w i o l:Nat}:Ai (.bsl w i o l)=[.bsl w i o l]:=rfl
theorem Abc{i n:Nat}{T:TypeId}:Ai (.nself i T n)=[.nself i T n]:=rfl
theorem AnT{e:TypeId}{l:B8}{o:Bool}:Ai (.buf e l o)=[.buf e l o]:=rfl
theorem AUE{i:Nat}:(AVal.sh i).strip=.sh i:=rfl
theorem Ahv{i w n:Nat}:(AVal.sptr i w n).strip=.sptr i w n:=rfl
theorem AfV{i:Nat}:Ai (.sh i)=[.sh i]:=rfl
theorem Ahb{i w n:Nat}:Ai (.sptr i w n)=[.sptr i w n]:=rfl
theorem Ahk{i:Nat}:Ei (.sh i)=true:=rfl
theorem AhQ{i w n:Nat}:Ei (.sptr i w n)=true:=rfl
theorem Anv{w i o l:Nat}:Ei (.bsl w i o l)=true:=rfl
theorem AZr{i n:Nat}{T:TypeId}:Ei (.nself i T n)=true:=rfl
theorem Anr{e:TypeId}{l:B8}{o:Bool}:Ei (.buf e l o)=true:=rfl
def Ak4{i o:Nat}:AVal.strip (.ptr i o)=.ptr i o:=by simp[AVal.strip]
def AiX:AVal.strip (.nilp)=.nilp:=by simp[AVal.strip]
def Ahl{l:List AVal}:AVal.strip (.cptr l)=.cptr l:=by simp[AVal.strip]
def Apk{f:Fn}{p q:List AVal}:AVal.strip (.fn f p q)=.fn f p q:=by simp[AVal.strip]
def AbZ:AVal.strip (.nilFn)=.nilFn:=by simp[AVal.strip]
def AZz{t:TypeId}{x:AVal}:AVal.strip (.iface t x)=.iface t x:=by simp[AVal.strip]
def AK5:AVal.strip (.nilIface)=.nilIface:=by simp[AVal.strip]
theorem AmY:Ai (.any)=[.any]:=rfl
theorem AiP{b:Bool}:Ai (.bool b)=[.bool b]:=rfl
theorem AnV{k:IntKind}{n:Int}:Ai (.int k n)=[.int k n]:=rfl
theorem Aku{l:B8}:Ai (.str l)=[.str l]:=rfl
theorem Akn{i o:Nat}:Ai (.ptr i o)=[.ptr i o]:=rfl
theorem Ail:Ai (.nilp)=[.nilp]:=rfl
theorem AhO{l:List AVal}:Ai (.cptr l)=[.cptr l]:=rfl
theorem ApT{f:Fn}{p q:List AVal}:Ai (.fn f p q)=[.fn f p q]:=rfl
theorem Aa1:Ai (.nilFn)=[.nilFn]:=rfl
theorem AcG{t:TypeId}{x:AVal}:Ai (.iface t x)=[.iface t x]:=rfl
theorem AIp:Ai (.nilIface)=[.nilIface]:=rfl
theorem AaH{l:List AVal}:Ai (.tuple l)=[.tuple l]:=rfl
theorem AYT{w:Nat}{l:List AVal}{o:Bool}:Ai (.slice w l o)=[.slice w l o]:=rfl
theorem Afp{b:Bool}:Ei (.bool b)=true:=rfl
theorem Ami{k:IntKind}{n:Int}:Ei (.int k n)=true:=rfl
theorem Al5{l:B8}:Ei (.str l)=true:=rfl
theorem Ak3{i o:Nat}:Ei (.ptr i o)=true:=rfl
theorem Afr:Ei (.nilp)=true:=rfl
theorem AhA{l:List AVal}:Ei (.cptr l)=true:=rfl
theorem ArG{f:Fn}{p q:List AVal}:Ei (.fn f p q)=true:=rfl
theorem Acf:Ei (.nilFn)=true:=rfl
theorem AZs{t:TypeId}{x:AVal}:Ei (.iface t x)=true:=rfl
theorem AG1:Ei (.nilIface)=true:=rfl
theorem AlI{l:List AVal}:Ei (.agg l)=true:=rfl
theorem Abj{w:Nat}{l:List AVal}{o:Bool}:Ei (.slice w l o)=true:=rfl
theorem AZT{af:List AVal}{v:Value}:stripAt af (.const v)=af:=rfl
theorem Aew{af:List AVal}{v:Nat}:stripAt af (.global v)=af:=rfl
theorem AeB{af:List AVal}{v:FuncId}:stripAt af (.func v)=af:=rfl
end Go.VM
set_option linter.unusedVariables false
namespace Go.VM
abbrev MS:=List (Nat×List AVal)
abbrev PQ:=AVal->St->Prop
structure Gl (P:Prop):Prop where go:P
inductive An where |z |q (a b:An) |c (a b:An) |r (mv:List Tmp)
def Ka (F:List AVal->St->Prop) (K:APost):APost:=λe af st=>match e with |.normal=>F af st|e=>K e af st
def AA6 (id:Nat) (K:APost):APost:=λe af st=>match e with |.exit id'=>if id'=id then K .normal af st else K (.exit id') af st|e=>K e af st
def nK (K:APost) (af:List AVal) (st:St):Prop:=K .normal af st
def UM (x:AVal) (X Y:List AVal->St->Prop) (af:List AVal) (st:St):Prop:=match x with |.bool b=>if b=true then X af st else Y af st|_=>False
theorem AFb{E:Env}{c:Code}{Q:APost}{af:List AVal}{st:St} (h:AWp E c Q af st):AWp E (.scope c) Q af st:=⟨λF Γ w a hd hs=>wp_scope_straight (fj (h.go F Γ w a hd hs) λe a' w' q=>by cases e<;>first| exact q| exact q.1.elim)⟩
def wpc (E:Env):Code->An->APost->List AVal->St->Prop |.skip,_,K=>λaf st=>K .normal af st|.ret,_,K=>λaf st=>K .ret af st|.exit id,_,K=>λaf st=>K (.exit id) af st|.seq x y,.q a b,K=>wpc E x a (Ka (wpc E y b K) K)|.cond c x y,.c a b,K=>λaf st=>UM (rd E af 0 c) (wpc E x a K) (wpc E y b K) af st|.block id c,a,K=>wpc E c a (AA6 id K)|.scope c,a,K=>wpc E c a K|.region _ os false,.r mv,K=>Mg E mv os os.toList (nK K)|c,_,K=>AWp E c K
section
variable{E:Env}{K:APost}{af:List AVal}{st:St}{x y:Code}{a b:An}{F:List AVal->St->Prop}
def AfF:wpc E .skip a K af st=K .normal af st:=by rw[wpc]
def Al2:wpc E .ret a K af st=K .ret af st:=by rw[wpc]
def AjA{id:Nat}:wpc E (.exit id) a K af st=K (.exit id) af st:=by rw[wpc]
def AlC:wpc E (.seq x y) (.q a b) K af st=wpc E x a (Ka (wpc E y b K) K) af st:=by rw[wpc]
def AfJ{c:Operand}:wpc E (.cond c x y) (.c a b) K af st=UM (rd E af 0 c) (wpc E x a K) (wpc E y b K) af st:=by rw[wpc]
def Abd{id:Nat}:wpc E (.block id x) a K af st=wpc E x a (AA6 id K) af st:=by rw[wpc]
def Ab6:wpc E (.scope x) a K af st=wpc E x a K af st:=by rw[wpc]
def ATy{id:Nat}{os:List Oper}{mv:List Tmp}:wpc E (.region id (List.toArray os) false) (.r mv) K af st=Mg E mv ⟨os⟩ os (nK K) af st:=by rw[wpc]
def AsK:wpc E (.seq x y) .z K af st=AWp E (.seq x y) K af st:=by rw[wpc]<;>simp
def AgG:wpc E (.loop x) a K af st=AWp E (.loop x) K af st:=by rw[wpc]<;>simp
def AfA{id:Nat}{os:Array Oper}:wpc E (.region id os true) a K af st=AWp E (.region id os true) K af st:=by rw[wpc]<;>simp
theorem AnL:Ka F K .normal af st=F af st:=rfl
theorem AoD:Ka F K .ret af st=K .ret af st:=rfl
theorem Ak7{id:Nat}:Ka F K (.exit id) af st=K (.exit id) af st:=rfl
theorem Ap6{id:Nat}:AA6 id K .normal af st=K .normal af st:=rfl
theorem Aq0{id:Nat}:AA6 id K .ret af st=K .ret af st:=rfl
def AqI{id:Nat}:AA6 id K (.exit id) af st=K .normal af st:=by simp[AA6]
def AqR{id id':Nat} (h:id'≠id):AA6 id K (.exit id') af st=K (.exit id') af st:=by grind[AA6]
theorem AqV:nK K af st=K .normal af st:=rfl
theorem AXv{X Y:List AVal->St->Prop}:UM (.bool true) X Y af st=X af st:=rfl
theorem AXU{X Y:List AVal->St->Prop}:UM (.bool false) X Y af st=Y af st:=rfl
def QJ: ∀ {c:Code} (a:An){K:APost}{af:List AVal}{st:St},wpc E c a K af st->AWp E c K af st:=by
 intro c;induction c with
 |skip=>intro a K af st h;rw[wpc]at h;exact AQs h
 |ret=>intro a K af st h;rw[wpc]at h;exact AXM h
 |exit id=>intro a K af st h;rw[wpc]at h;exact ASg h
 | seq x y ihx ihy=>
  intro a K af st h;cases a with
  | q a b=>rw[wpc]at h;refine VR ((ihx a h).mono λe af' st' _ q=>?_);cases e with |normal=>exact ihy b q|_=>exact q
  |_=>(rw[wpc]at h;exact h)<;>(intros;simp_all)
 | cond c x y ihx ihy=>
  intro a K af st h;cases a with
  | c a b=>
   rw[wpc]at h;unfold UM at h;split at h;·rename_i b' hb;refine ARi b' hb ?_;cases b' with |true=>simp only[av]at h⊢;grind|false=>simp only[aj,aq]at h⊢;grind
   grind
  |_=>(rw[wpc]at h;exact h)<;>(intros;simp_all)
 | block id c ih=>intro a K af st h;rw[wpc]at h;exact AF9 ((ih a h).mono λe af' st' _ q=>by cases e<;>exact q)
 | region id os d=>intro a K af st h;cases d with |true=>(rw[wpc]at h;exact h)<;>(intros;simp_all)| false=>cases a with |r mv=>rw[wpc]at h;exact WS mv h|_=>(rw[wpc]at h;exact h)<;>(intros;simp_all)
 |loop c ih=>intro a K af st h;(rw[wpc]at h;exact h)<;>(intros;simp_all)
 |rangeFunc f ps x y ihx ihy=>intro a K af st h;(rw[wpc]at h;exact h)<;>(intros;simp_all)
 |scope c ih=>intro a K af st h;rw[wpc]at h;grind[AFb]
 |label l=>intro a K af st h;(rw[wpc]at h;exact h)<;>(intros;simp_all)
 |goto l=>intro a K af st h;(rw[wpc]at h;exact h)<;>(intros;simp_all)
 |refuse w=>intro a K af st h;(rw[wpc]at h;exact h)<;>(intros;simp_all)
end
def gK (g:Option Bool) (X Y:Prop):Prop:=match g with|some true=>X|some false=>Y|none=>False
theorem Atf{X Y:Prop}:gK (some true) X Y=X:=rfl
theorem AuO{X Y:Prop}:gK (some false) X Y=Y:=rfl
def nxK (b:Bool) (X Y:Prop):Prop:=if b=true then X else Y
def As6{X Y:Prop}:nxK true X Y=X:=by simp[nxK]
def AsP{X Y:Prop}:nxK false X Y=Y:=by simp[nxK]
section
variable{E:Env}{mv:List Tmp}{ops:Array Oper}{K:List AVal->St->Prop}{af:List AVal}{st:St}{d:Option Tmp}{ty:TypeId}{pos:String}{aft:Array Edge}{g:Option (Nat×Bool)}
def Ao7{op:Op}{os' os:List Oper}{j:Nat}{want:Bool}:Mg E mv ⟨os'⟩ (⟨d,op,ty,pos,aft,some (j,want)⟩::os) K af st=gK (gdD (Py os' j) af want) (EJ E mv ⟨d,op,ty,pos,aft,some (j,want)⟩ af st (Mg E mv ⟨os'⟩ os K)) (Mg E mv ⟨os'⟩ os K (BN af d (.tuple [])) st):=by grind[Mg,AT8,gK,gdD,Py]
def AuR{op:Op}{os':List Oper}{j:Nat}{want:Bool}:gWp E mv ⟨os'⟩ ⟨d,op,ty,pos,aft,some (j,want)⟩ af st K=gK (gdD (Py os' j) af want) (EJ E mv ⟨d,op,ty,pos,aft,some (j,want)⟩ af st K) (K (BN af d (.tuple [])) st):=by grind[gWp,AT8,gK,gdD,Py]
def AmJ{t:Tmp}{s:B8}{p:Nat}:ADF (.iter s p) t d K af st=nxK (decide (p<s.length)) (K (BN (af.set t (.iter s (p+(Dx s p).2))) d (.tuple [.bool true,.int .i64 p,.int .i32 (Dx s p).1])) st) (K (BN af d (.tuple [.bool false])) st):=by rw[AV3];rfl
end
section cong
@[congr] theorem AsH {E : Env} {mv : List Tmp} {ops : Array Oper} {os : List Oper} {K : List AVal -> St -> Prop} {af : List AVal} {st : St} {af' : List AVal} {st' : St} (h0 : af = af') (h1 : st = st') : Mg E mv ops os K af st = Mg E mv ops os K af' st' := by grind
@[congr] theorem AtZ {E : Env} {mv : List Tmp} {o : Oper} {af : List AVal} {st : St} {K : List AVal -> St -> Prop} {af' : List AVal} {st' : St} (h0 : af = af') (h1 : st = st') : EJ E mv o af st K = EJ E mv o af' st' K := by grind
@[congr] theorem AtU {x : Option AVal} {d : Option Tmp} {K : List AVal -> St -> Prop} {af : List AVal} {st : St} {x' : Option AVal} {af' : List AVal} {st' : St} (h0 : x = x') (h1 : af = af') (h2 : st = st') : Q9 x d K af st = Q9 x' d K af' st' := by grind
@[congr] theorem AtN {x : Option AVal} {d : Option Tmp} {K : List AVal -> St -> Prop} {af : List AVal} {st : St} {x' : Option AVal} {af' : List AVal} {st' : St} (h0 : x = x') (h1 : af = af') (h2 : st = st') : Ml x d K af st = Ml x' d K af' st' := by grind
@[congr] theorem AsT {z : Option (AVal × St)} {d : Option Tmp} {K : List AVal -> St -> Prop} {af : List AVal} {z' : Option (AVal × St)} {af' : List AVal} (h0 : z = z') (h1 : af = af') : TV z d K af = TV z' d K af' := by grind
@[congr] theorem AtX {b : Bool} {v : AVal} {d : Option Tmp} {K : List AVal -> St -> Prop} {af : List AVal} {st : St} {b' : Bool} {v' : AVal} {af' : List AVal} {st' : St} (h0 : b = b') (h1 : v = v') (h2 : af = af') (h3 : st = st') : AY7 b v d K af st = AY7 b' v' d K af' st' := by grind
@[congr] theorem Arp {x : Option (List AVal)} {d : Option Tmp} {K : List AVal -> St -> Prop} {af : List AVal} {st : St} {x' : Option (List AVal)} {af' : List AVal} {st' : St} (h0 : x = x') (h1 : af = af') (h2 : st = st') : ACo x d K af st = ACo x' d K af' st' := by grind
@[congr] theorem Ars {s : Option St} {K : List AVal -> St -> Prop} {af : List AVal} {s' : Option St} {af' : List AVal} (h0 : s = s') (h1 : af = af') : TM s K af = TM s' K af' := by grind
@[congr] theorem Arq {E : Env} {t : TypeId} {v : AVal} {lo : Option (Option Int)} {hi : Option (Option Int)} {mx : Option (Option Int)} {d : Option Tmp} {K : List AVal -> St -> Prop} {af : List AVal} {st : St} {v' : AVal} {lo' : Option (Option Int)} {hi' : Option (Option Int)} {mx' : Option (Option Int)} {af' : List AVal} {st' : St} (h0 : v = v') (h1 : lo = lo') (h2 : hi = hi') (h3 : mx = mx') (h4 : af = af') (h5 : st = st') : ADx E t v lo hi mx d K af st = ADx E t v' lo' hi' mx' d K af' st' := by grind
@[congr] theorem Art {b : Bool} {v : AVal} {d : Option Tmp} {K : List AVal -> St -> Prop} {af : List AVal} {st : St} {b' : Bool} {v' : AVal} {af' : List AVal} {st' : St} (h0 : b = b') (h1 : v = v') (h2 : af = af') (h3 : st = st') : ADw b v d K af st = ADw b' v' d K af' st' := by grind
@[congr] theorem Asa {v : AVal} {tm : Tmp} {d : Option Tmp} {K : List AVal -> St -> Prop} {af : List AVal} {st : St} {v' : AVal} {af' : List AVal} {st' : St} (h0 : v = v') (h1 : af = af') (h2 : st = st') : ADF v tm d K af st = ADF v' tm d K af' st' := by grind
@[congr] theorem AsN {E : Env} {v : AVal} {l : List AVal} {d : Option Tmp} {K : List AVal -> St -> Prop} {af : List AVal} {st : St} {v' : AVal} {l' : List AVal} {af' : List AVal} {st' : St} (h0 : v = v') (h1 : l = l') (h2 : af = af') (h3 : st = st') : AOg E v l d K af st = AOg E v' l' d K af' st' := by grind
@[congr] theorem At1 {b : Bool} {u : Operand} {t : TypeId} {E : Env} {d : Option Tmp} {K : List AVal -> St -> Prop} {af : List AVal} {st : St} {b' : Bool} {af' : List AVal} {st' : St} (h0 : b = b') (h1 : af = af') (h2 : st = st') : mvK b u t E d K af st = mvK b' u t E d K af' st' := by grind
@[congr] theorem AuA {b : Bool} {t : TypeId} {v : AVal} {E : Env} {d : Option Tmp} {K : List AVal -> St -> Prop} {af : List AVal} {st : St} {b' : Bool} {v' : AVal} {af' : List AVal} {st' : St} (h0 : b = b') (h1 : v = v') (h2 : af = af') (h3 : st = st') : ldK b t v E d K af st = ldK b' t v' E d K af' st' := by grind
@[congr] theorem Asg {F : List AVal -> St -> Prop} {L : APost} {e : Exit} {af : List AVal} {st : St} {e' : Exit} {af' : List AVal} {st' : St} (h0 : e = e') (h1 : af = af') (h2 : st = st') : Ka F L e af st = Ka F L e' af' st' := by grind
@[congr] theorem AtP {id : Nat} {L : APost} {e : Exit} {af : List AVal} {st : St} {e' : Exit} {af' : List AVal} {st' : St} (h0 : e = e') (h1 : af = af') (h2 : st = st') : AA6 id L e af st = AA6 id L e' af' st' := by grind
@[congr] theorem Aub {L : APost} {af : List AVal} {st : St} {af' : List AVal} {st' : St} (h0 : af = af') (h1 : st = st') : nK L af st = nK L af' st' := by grind
@[congr] theorem Ar7 {v : AVal} {F : List AVal -> St -> Prop} {G : List AVal -> St -> Prop} {af : List AVal} {st : St} {v' : AVal} {af' : List AVal} {st' : St} (h0 : v = v') (h1 : af = af') (h2 : st = st') : UM v F G af st = UM v' F G af' st' := by grind
@[congr] theorem AuP {E : Env} {c : Code} {a : An} {L : APost} {af : List AVal} {st : St} {af' : List AVal} {st' : St} (h0 : af = af') (h1 : st = st') : wpc E c a L af st = wpc E c a L af' st' := by grind
@[congr] theorem AuV {E : Env} {c : Code} {L : APost} {af : List AVal} {st : St} {af' : List AVal} {st' : St} (h0 : af = af') (h1 : st = st') : AWp E c L af st = AWp E c L af' st' := by grind
@[congr] theorem AtB {E : Env} {f : FuncId} {l : List AVal} {st : St} {Q : AVal -> St -> Prop} {l' : List AVal} {st' : St} (h0 : l = l') (h1 : st = st') : ACall E f l st Q = ACall E f l' st' Q := by grind
@[congr] theorem Aro {E : Env} {mv : List Tmp} {ops : Array Oper} {p : Plan} {tv : List (Nat × AVal)} {K : List AVal -> St -> Prop} {af : List AVal} {st : St} {tv' : List (Nat × AVal)} {af' : List AVal} {st' : St} (h0 : tv = tv') (h1 : af = af') (h2 : st = st') : Io E mv ops p tv K af st = Io E mv ops p tv' K af' st' := by grind
@[congr] theorem AuB {E : Env} {mv : List Tmp} {os : List Oper} {x : Option AVal} {i : Nat} {d : Option Tmp} {p : Plan} {tv : List (Nat × AVal)} {K : List AVal -> St -> Prop} {af : List AVal} {st : St} {x' : Option AVal} {tv' : List (Nat × AVal)} {af' : List AVal} {st' : St} (h0 : x = x') (h1 : tv = tv') (h2 : af = af') (h3 : st = st') : tkR E mv os x i d p tv K af st = tkR E mv os x' i d p tv' K af' st' := by grind
@[congr] theorem AuG {E : Env} {mv : List Tmp} {os : List Oper} {w : Option Oper} {i : Nat} {p : Plan} {tv : List (Nat × AVal)} {K : List AVal -> St -> Prop} {af : List AVal} {st : St} {w' : Option Oper} {tv' : List (Nat × AVal)} {af' : List AVal} {st' : St} (h0 : w = w') (h1 : tv = tv') (h2 : af = af') (h3 : st = st') : tkO E mv os w i p tv K af st = tkO E mv os w' i p tv' K af' st' := by grind
@[congr] theorem AtY {E : Env} {mv : List Tmp} {os : List Oper} {chk : List Nat} {p : Plan} {tv : List (Nat × AVal)} {K : List AVal -> St -> Prop} {af : List AVal} {st : St} {tv' : List (Nat × AVal)} {af' : List AVal} {st' : St} (h0 : tv = tv') (h1 : af = af') (h2 : st = st') : Ad2 E mv os chk p tv K af st = Ad2 E mv os chk p tv' K af' st' := by grind
@[congr] theorem AtW {E : Env} {mv : List Tmp} {os : List Oper} {w : Option Oper} {chk : List Nat} {p : Plan} {tv : List (Nat × AVal)} {K : List AVal -> St -> Prop} {af : List AVal} {st : St} {w' : Option Oper} {tv' : List (Nat × AVal)} {af' : List AVal} {st' : St} (h0 : w = w') (h1 : tv = tv') (h2 : af = af') (h3 : st = st') : AmT E mv os w chk p tv K af st = AmT E mv os w' chk p tv' K af' st' := by grind
@[congr] theorem At8 {E : Env} {mv : List Tmp} {ops : Array Oper} {o : Oper} {af : List AVal} {st : St} {K : List AVal -> St -> Prop} {af' : List AVal} {st' : St} (h0 : af = af') (h1 : st = st') : gWp E mv ops o af st K = gWp E mv ops o af' st' K := by grind
@[congr] theorem Aua {g : Option Bool} {X : Prop} {Y : Prop} {g' : Option Bool} (h0 : g = g') : gK g X Y = gK g' X Y := by grind
@[congr] theorem AtT {d : Option Tmp} {K : List AVal -> St -> Prop} {af : List AVal} {r : AVal} {sx : St} {af' : List AVal} {r' : AVal} {sx' : St} (h0 : af = af') (h1 : r = r') (h2 : sx = sx') : Acn d K af r sx = Acn d K af' r' sx' := by grind
@[congr] theorem Atd {b : Bool} {X : Prop} {Y : Prop} {b' : Bool} (h0 : b = b') : nxK b X Y = nxK b' X Y := by grind
end cong
section rules
variable{E:Env}{K Q:APost}{af:List AVal}{st:St}{x y c:Code}
def ent{f:FuncId}{fn:Func}{nt:Nat}{rs:List ResultVar}{args:List AVal}{m m':MS}{n:Nat}{r':AVal}{Q:PQ} (hQ: ∀n',n<=n'->Gl (Q r' ⟨m',n'⟩)) (hf:E.P.funcs[f]?=some fn) (hb:fn.body=some c) (hn:fn.ntmps=nt) (hr:fn.results=rs.toArray) (a:An) (h: ∀R:APost,(∀af st xs m0 m1 n',RA E rs af st=some (xs,⟨m1,n'⟩)->m0.Sublist m1->m0=m'->n<=n'->TZ xs=r'->R .ret af st/\R .normal af st)->Gl (wpc E c a R (args++List.replicate (nt-args.length) .any) ⟨m,n⟩)):ACall E f args ⟨m,n⟩ Q:=by
 refine Mq hf hb ?_;have hw:=QJ a (h (Ko E fn Q) ?_).go;·grind
 ·intro af st xs m0 m1 n' h1 h2 h0 h3 h4;subst h0;have e:fn.results.toList=rs:=by rw[hr]
  subst h4;exact⟨LM (by rw[e];omega) h2 (hQ n' h3).go,LH (by rw[e];omega) h2 (hQ n' h3).go⟩
def AtM{f:FuncId}{fn:Func}{nt:Nat}{rs:List ResultVar}{args:List AVal}{m m':MS}{n:Nat}{r':AVal}{Q:PQ} (hQ: ∀n',n<=n'->Gl (Q r' ⟨m',n'⟩)) (hf:E.P.funcs[f]?=some fn) (hb:fn.body=some c) (hn:fn.ntmps=nt) (hr:fn.results=rs.toArray) (a:An) (h: ∀R:APost,(∀af st xs m0 m1 n',RA E rs af st=some (xs,⟨m1,n'⟩)->m0.Sublist m1->m0=m'->n<=n'->(TZ xs).strip=r'->R .ret af st/\R .normal af st)->Gl (wpc E c a R (args++List.replicate (nt-args.length) .any) ⟨m,n⟩)):ACall E f args ⟨m,n⟩ Q:=by
 refine ACall.strip (Mq hf hb ?_);have hw:=QJ a (h (Ko E fn λr st'=>Q r.strip st') ?_).go;·grind
 ·intro af st xs m0 m1 n' h1 h2 h0 h3 h4;subst h0;have e:fn.results.toList=rs:=by rw[hr]
  subst h4;exact⟨LM (by rw[e];omega) h2 (hQ n' h3).go,LH (by rw[e];omega) h2 (hQ n' h3).go⟩
def QD{id:Nat}{os:List Oper} (mv:List Tmp) (plan:Plan) (hm:E.P.follows .mixedOrders=true) (hok:KG (List.toArray os) plan false (Array.replicate (List.toArray os).size false) []=true) (h:Gl (Io E mv ⟨os⟩ plan [] (nK Q) af st)):AWp E (.region id (List.toArray os) true) Q af st:=Td mv plan hm hok h.go
def Ra{α β γ:Type}{k0:α->Option β}{body:(α->Option β)->Option β}{r:β}{m:MS}{n:Nat}{T:Prop}{d:JD α} (h:T/\AB k0 body d=some r) (js cs:List Tmp) (V:α->γ->List AVal) (M:α->γ->MS) (a:An) (rest: ∀j g n',n<=n'->keysLt n' (M j g)->((M j g).map (·.1)).Nodup->T/\k0 j=some r->AWp E y Q (setVals (Al js af) cs (V j g)) ⟨M j g,n'⟩) (first: ∀(k:α->Option β) (J:List AVal->St->Prop),(∀j g af' m0 m1 n',k j=some r->m0.Sublist m1->m0=M j g->Al cs (Al js af')=Al cs (Al js af)->DN (Al js af') cs=V j g->n<=n'->J af' ⟨m1,n'⟩)->T/\body k=some r->Gl (wpc E x a (Ka J Q) af ⟨m,n⟩)):AWp E (.seq x y) Q af ⟨m,n⟩:=by
 refine VR ?_;have key:=QJ a (first k0 (λaf' st'=>AWp E y Q af' ⟨st'.m,st'.next⟩) ?_ h).go;·exact key.mono λe af' st' _ q=>by cases e<;>exact q
 ·intro j g af' m0 m1 n' h1 h2 h3 h4 h5 h6;subst h3;refine U0 js (AZv (m:=M j g) h2 ?_);grind[AWp.known,AWp.nodup,MG]
def ARo{σ β γ:Type}{r:β}{m:MS}{n:Nat}{T:Prop} (G:Nat->σ->Option β) (V:σ->γ->List AVal) (M:σ->γ->MS) (js cs:List Tmp) (s0:σ) (g0:γ){k0:Nat} (h:T/\G k0 s0=some r) (hz: ∀s,G 0 s=none) (hm:m=M s0 g0) (hv:DN (Al js af) cs=V s0 g0) (round: ∀k s g n',n<=n'->keysLt n' (M s g)->T/\G (k+1) s=some r->∀J:List AVal->St->Prop,(∀s' g' af' m0 m1 n'',G k s'=some r->m0.Sublist m1->m0=M s' g'->Al cs (Al js af')=Al cs (Al js af)->DN (Al js af') cs=V s' g'->n'<=n''->J af' ⟨m1,n''⟩)->AWp E c (Ka J Q) (setVals (Al js af) cs (V s g)) ⟨M s g,n'⟩):AWp E (.loop c) Q af ⟨m,n⟩:=by
 refine ACN js cs (λk vs st'=>∃s g,vs=V s g/\st'.m=M s g/\n<=st'.next/\G k s=some r) k0 ⟨s0,g0,hv,hm,aw _,h.2⟩ ?_;rintro k vs ⟨m',n'⟩ ⟨s,g,rfl,hm',hn,hG⟩ J hJ;simp only at hm' hn;subst hm';cases k with
 |zero=>grind
 | succ k=>
  refine AWp.known λ_ hk=>?_;refine(round k s g n' hn hk ⟨h.1,hG⟩ J ?_).mono λe af' st' _ q=>by cases e<;>first| exact OH q| exact .oth fH q
  intro s' g' af' m0 m1 n'' h1 h2 h3 h4 h5 h6;exact hJ k af' ⟨m1,n''⟩ m0 (eZ _) h2 h4 ⟨s',g',h5,h3,bA hn h6,h1⟩
def Aas{α:Type}{L pre suf:List α}{x:α} (h:L=pre++x::suf) (hL:AL L.length):decide ((pre.length:Int)<(L.length:Int))=true/\idx L (pre.length:Int)=some x/\wr .i64 ((pre.length:Int)+1)=(pre.length:Int)+1:=by subst h;unfold AL at hL;simp only[an,ag]at hL;refine⟨by simp only[au,an,ag];omega,by simp[idx],?_⟩;grind[wr,IntKind.wrap,IntKind.bits,IntKind.signed]
def Ahq{σ β γ:Type}{r:β}{m:MS}{n:Nat}{T:Prop} (i0 b:Int) (hL: -4611686018427387904<=i0/\b<=4611686018427387904) (G:Nat->Int->σ->Option β) (V:Int->σ->γ->List AVal) (M:Int->σ->γ->MS) (js cs:List Tmp) (s0:σ) (g0:γ) (h:T/\G (b-i0).toNat i0 s0=some r) (hm:m=M i0 s0 g0) (hv:DN (Al js af) cs=V i0 s0 g0) (rnil: ∀i s g n',n<=n'->keysLt n' (M i s g)->(decide (i<b)=false/\T)/\G 0 i s=some r->AWp E c (Ka (λ_ _=>False) Q) (setVals (Al js af) cs (V i s g)) ⟨M i s g,n'⟩) (rcons: ∀k i s g n',n<=n'->keysLt n' (M i s g)->(decide (i<b)=true/\wr .i64 (i+1)=i+1/\T)/\G (k+1) i s=some r->∀J:List AVal->St->Prop,(∀s' g' af' m0 m1 n'',G k (i+1) s'=some r->m0.Sublist m1->m0=M (i+1) s' g'->Al cs (Al js af')=Al cs (Al js af)->DN (Al js af') cs=V (i+1) s' g'->n'<=n''->J af' ⟨m1,n''⟩)->AWp E c (Ka J Q) (setVals (Al js af) cs (V i s g)) ⟨M i s g,n'⟩):AWp E (.loop c) Q af ⟨m,n⟩:=by
 refine ACN js cs (λk vs st'=>∃i s g,i0<=i/\k=(b-i).toNat/\vs=V i s g/\st'.m=M i s g/\n<=st'.next/\G k i s=some r) (b-i0).toNat ⟨i0,s0,g0,bu _,rfl,hv,hm,aw _,h.2⟩ ?_;rintro k vs ⟨m',n'⟩ ⟨i,s,g,hi,hk',rfl,hm',hn,hG⟩ J hJ;simp only at hm' hn;subst hm';cases k with
 | zero=>refine AWp.known λ_ hk=>?_;refine(rnil _ s g n' hn hk ⟨⟨by grind,h.1⟩,hG⟩).mono λe af' st' _ q=>by cases e<;>first| exact q.elim| exact .oth fH q
 | succ k=>
  refine AWp.known λ_ hk=>?_;have hw:wr .i64 (i+1)=i+1:=by grind[wr,IntKind.wrap,IntKind.bits,IntKind.signed]
  refine(rcons k i s g n' hn hk ⟨⟨by simp only[au];omega,hw,h.1⟩,hG⟩ J ?_).mono λe af' st' _ q=>by cases e<;>first| exact OH q| exact .oth fH q
  intro s' g' af' m0 m1 n'' h1 h2 h3 h4 h5 h6;exact hJ k af' ⟨m1,n''⟩ m0 fH h2 h4 ⟨i+1,s',g',fG,fG,h5,h3,bA hn h6,h1⟩
def EZ (a:An) (h:Gl (wpc E c a K af st)):AWp E c K af st:=QJ a h.go
end rules
def AWU{A B:Prop} (a:Gl A) (b:Gl B):Gl (A/\B):=⟨a.go,b.go⟩
def KA{α:Type}{c:Bool}{x y:Option α}{r:α}{T:Prop} (h:T/\(if c=true then x else y)=some r):((c=true/\T)/\x=some r)\/((c=false/\T)/\y=some r):=by
 cases c;·exact .inr ⟨⟨rfl,h.1⟩,h.2⟩
 ·exact .inl ⟨⟨rfl,h.1⟩,h.2⟩
def Fx{α β:Type}{x:Option α}{f:α->Option β}{r:β}{T:Prop} (h:T/\Option.bind x f=some r): ∃y,(x=some y/\T)/\f y=some r:=by obtain⟨y,h1,h2⟩:=bind_some h.2;grind
def Ll{α:Type}{c:Prop} [Decidable c]{x:Option α}{r:α}{T:Prop} (h:T/\grd c x=some r):c/\T/\x=some r:=by grind[ABs]
def JK{A B C:Prop} (a:A) (h:B/\C):(A/\B)/\C:=⟨⟨a,h.1⟩,h.2⟩
end Go.VM
set_option linter.unusedVariables false
set_option linter.defProp false
set_option maxRecDepth 100000
namespace Go.VM
section
variable{E:Env}{af:List AVal}{t:TypeId}
theorem Am6{r:AVal}:TZ [r]=r:=rfl
theorem Al0:TZ []=.tuple []:=rfl
theorem Amd{a b:AVal}{l:List AVal}:TZ (a::b::l)=.tuple (a::b::l):=rfl
theorem AfR:Al [] af=af:=rfl
theorem AbV{j:Tmp}{js:List Tmp}:Al (j::js) af=Al js (af.set j .any):=rfl
def Ap0{vs:List AVal}:setVals af [] vs=af:=by cases vs<;>rfl
theorem Ama{c:Tmp}{cs:List Tmp}{v:AVal}{vs:List AVal}:setVals af (c::cs) (v::vs)=setVals (af.set c v) cs vs:=rfl
theorem Ap4:DN af []=[]:=rfl
theorem AmC{c:Tmp}{cs:List Tmp}:DN af (c::cs)=af.getD c .any::DN af cs:=rfl
theorem AjQ{r:AVal}:BN af none r=af:=rfl
theorem Aht{d:Tmp}{r:AVal}:BN af (some d) r=af.set d r:=rfl
theorem Anh{i:Tmp}:stripAt af (.tmp i)=af.set i (af.getD i .any).strip:=rfl
def Akp{l:List AVal}:AVal.strip (.agg l)=.agg (stripL l):=by rw[AVal.strip]
def AbW{l:List AVal}:AVal.strip (.tuple l)=.tuple (stripL l):=by rw[AVal.strip]
def AY0{w:Nat}{l:List AVal}{o:Bool}:AVal.strip (.slice w l o)=.slice w l false:=by rw[AVal.strip]
def Agv{s:B8}{p:Nat}:AVal.strip (.iter s p)=.any:=by rw[AVal.strip]
def AeF:stripL []=[]:=by rw[stripL]
def Apt{x:AVal}{bs:List Bool}{xs:List AVal}:stripB (true::bs) (x::xs)=x.strip::stripB bs xs:=by rw[stripB]
def ApP{x:AVal}{bs:List Bool}{xs:List AVal}:stripB (false::bs) (x::xs)=x::stripB bs xs:=by rw[stripB]
def Aqe{xs:List AVal}:stripB [] xs=xs:=by rw[stripB]
def AYP{x:AVal}{l:List AVal}:stripL (x::l)=x.strip::stripL l:=by rw[stripL]
theorem AqD{i:Tmp}:rd E af t (.tmp i)=af.getD i .any:=rfl
theorem Aih{v:Value}:rd E af t (.const v)=Kk (K3 E.P t) v:=rfl
theorem AnP{g:FuncId}:rd E af t (.func g)=.fn (.func g) [] []:=rfl
end
def vmC:=ac (ac (ac (ac (ac (ac (ac (ac (ac (@AY9) (@AVc)) (ac (@AUK) (@AZp))) (ac (ac (@ARG) (@ARD)) (ac (@AGq) (@AKW)))) (ac (ac (ac (@AP7) (@AhU)) (ac (@AeH) (@AjS))) (ac (ac (@Ahw) (@Aa4)) (ac (@Ahe) (ac (@AZ6) (@Am0)))))) (ac (ac (ac (ac (@Acz) (@AgQ)) (ac (@ApE) (@AiW))) (ac (ac (@AES) (@Anc)) (ac (@AeQ) (@AT1)))) (ac (ac (ac (@Ah5) (@AcZ)) (ac (@Aie) (@AUi))) (ac (ac (@Akw) (@AlW)) (ac (@AVV) (ac (@AlE) (@AOS))))))) (ac (ac (ac (ac (ac (@Agh) (@AnR)) (ac (@AVI) (@APr))) (ac (ac (@AL2) (@AiF)) (ac (@AIg) (@AgL)))) (ac (ac (ac (@AqX) (@Ap5)) (ac (@Aqh) (@An8))) (ac (ac (@AiL) (@Aba)) (ac (@Al8) (ac (@AOY) (@Amm)))))) (ac (ac (ac (ac (@Ani) (@APC)) (ac (@Ae3) (@AEy))) (ac (ac (@Alt) (@ARN)) (ac (@AiO) (@Ana)))) (ac (ac (ac (@AUv) (@APd)) (ac (@AGz) (@AgZ))) (ac (ac (@AJe) (@Ad3)) (ac (@Aqz) (ac (@Apj) (@Ap1)))))))) (ac (ac (ac (ac (ac (ac (@ArI) (@Aeh)) (ac (@Af8) (@AYm))) (ac (ac (@Aia) (@AZa)) (ac (@AZX) (@Aav)))) (ac (ac (ac (@Af0) (@AlG)) (ac (@Ahf) (@AbS))) (ac (ac (@Asl) (@AsG)) (ac (@AsU) (ac (@As0) (@AfP)))))) (ac (ac (ac (ac (@AhP) (@Alq)) (ac (@AmV) (@AgW))) (ac (ac (@Abk) (@ArT)) (ac (@Ac9) (@Api)))) (ac (ac (ac (@AZH) (@Aiw)) (ac (@Abi) (@AZx))) (ac (ac (@Ad5) (@Acp)) (ac (@ATW) (ac (@AiR) (@AMa))))))) (ac (ac (ac (ac (ac (@YI) (@AYB)) (ac (@AXA) (@Vf))) (ac (ac (@Aqa) (@Apb)) (ac (@Ao9) (@ArN)))) (ac (ac (ac (@ArB) (@AqT)) (ac (@Ar2) (@AqC))) (ac (ac (@AdF) (@Apo)) (ac (@Apg) (ac (@Ap2) (@ApY)))))) (ac (ac (ac (ac (@Aqn) (@Arc)) (ac (@Aqp) (@Aq9))) (ac (ac (@Am7) (@Amo)) (ac (@Alp) (@Ak0)))) (ac (ac (ac (@Alc) (@AlX)) (ac (@AnK) (@AoB))) (ac (ac (@Ale) (@Aqc)) (ac (@AZJ) (ac (@AZn) (@ArM))))))))) (ac (ac (ac (ac (ac (ac (ac (@AiM) (@Amw)) (ac (@ApZ) (@Agj))) (ac (ac (@Afs) (@AV1)) (ac (@bytesOf_map) (@TH)))) (ac (ac (ac (@AOy) (@AO7)) (ac (@Ap7) (@AqU))) (ac (ac (@List.append_eq.{0}) (@cf.{0,0})) (ac (@an.{0}) (ac (@bu) (@Int.natCast_nonneg)))))) (ac (ac (ac (ac (@fc.{0}) (@dA.{0})) (ac (@bV) (@eM))) (ac (ac (@bJ) (@aU)) (ac (@aL) (@co.{0,0})))) (ac (ac (ac (@Nat.left_eq_add) (@fk)) (ac (@Nat.one_ne_zero) (@Nat.succ_ne_self))) (ac (ac (@fd) (@dv)) (ac (@ag.{0}) (ac (@ap.{0}) (@eC.{0}))))))) (ac (ac (ac (ac (ac (@List.replicate_zero.{0}) (@bf.{0})) (ac (@aT.{0}) (@bQ.{0}))) (ac (ac (@dK.{0}) (@c9.{0})) (ac (@cq.{0}) (@cH.{0})))) (ac (ac (ac (@aR.{0,0}) (@bY.{0,0})) (ac (@aa.{0,0}) (@Option.bind_none.{0,0}))) (ac (ac (@dZ.{0}) (@bh.{0})) (ac (@List.elem_nil.{0}) (ac (@List.elem_cons.{0}) (@av.{1})))))) (ac (ac (ac (ac (@aq.{1}) (@aj)) (ac (@dR) (@ba.{0}))) (ac (ac (@dJ.{0}) (@bT.{0})) (ac (@bB) (@ci)))) (ac (ac (ac (@cu.{0}) (@fe.{0})) (ac (@d9.{0}) (@Bool.or_true))) (ac (ac (@cV) (@cx)) (ac (@be) (ac (@dr.{0}) (@Option.isNone_some.{0})))))))) (ac (ac (ac (ac (ac (ac (@dU.{0}) (@cI.{0})) (ac (@bl) (@aX))) (ac (ac (@eo) (@cS)) (ac (@da) (@aw)))) (ac (ac (ac (@dx.{0}) (@e8.{0})) (ac (@cG.{0}) (@ite_self.{1}))) (ac (ac (@aE.{0,0}) (@bU.{0,0})) (ac (@List.range_succ) (ac (@List.range_zero) (@aK.{0})))))) (ac (ac (ac (ac (@fi.{0}) (@ef)) (ac (@cY) (@al.{0}))) (ac (ac (@bc) (@true_or)) (ac (@or_true) (@false_or)))) (ac (ac (ac (@ek) (@cW)) (ac (@not_false_eq_true) (@dY.{1}))) (ac (ac (@rdL.eq_1) (@rdL.eq_2)) (ac (@rdL.eq_3) (ac (@rdo.eq_1) (@rdo.eq_2))))))) (ac (ac (ac (ac (ac (@Bf.eq_1) (@Bf.eq_2)) (ac (@Q8.eq_1) (@Q8.eq_2))) (ac (ac (@Py.eq_1) (@Py.eq_2)) (ac (@Py.eq_3) (@opAt.eq_1)))) (ac (ac (ac (@opAt.eq_2) (@opAt.eq_3)) (ac (@Xk.eq_1) (@Xk.eq_2))) (ac (ac (@Ai.eq_1) (@Ei.eq_1)) (ac (@Ei.eq_2) (ac (@Ei.eq_3) (@putCells.eq_1)))))) (ac (ac (ac (ac (@putCells.eq_2) (@AAs.eq_1)) (ac (@SQ.eq_1) (@R6.eq_1))) (ac (ac (@R6.eq_2) (@VU.eq_1)) (ac (@VU.eq_2) (ac (@VU.eq_3) (@O0.eq_1))))) (ac (ac (ac (@W9.eq_1) (@W9.eq_2)) (ac (@Nh.eq_1) (@Nh.eq_2))) (ac (ac (@Nh.eq_3) (@Nh.eq_4)) (ac (@Kk.eq_1) (ac (@Kk.eq_2) (@Kk.eq_3)))))))))) (ac (ac (ac (ac (ac (ac (ac (ac (@Kk.eq_4) (@Kk.eq_5)) (ac (@Kk.eq_6) (@Kk.eq_7))) (ac (ac (@Kk.eq_8) (@Ue.eq_1)) (ac (@AAp.eq_1) (@AAp.eq_2)))) (ac (ac (ac (@Iz.eq_1) (@Tf.eq_1)) (ac (@Tf.eq_2) (@AbQ.eq_1))) (ac (ac (@AbQ.eq_2) (@AZt.eq_1)) (ac (@AZt.eq_2) (ac (@Dp.eq_1) (@RA.eq_1)))))) (ac (ac (ac (ac (@RA.eq_2) (@RA.eq_3)) (ac (@X5.eq_1) (@X5.eq_2))) (ac (ac (@AmY) (@AiP)) (ac (@AnV) (@Aku)))) (ac (ac (ac (@Akn) (@Ail)) (ac (@AhO) (@ApT))) (ac (ac (@Aa1) (@AcG)) (ac (@AIp) (ac (@AaH) (@AYT))))))) (ac (ac (ac (ac (ac (@Afp) (@Ami)) (ac (@Al5) (@Ak3))) (ac (ac (@Afr) (@AhA)) (ac (@ArG) (@Acf)))) (ac (ac (ac (@AZs) (@AG1)) (ac (@AlI) (@Abj))) (ac (ac (@Ao7) (@AuR)) (ac (@AmJ) (ac (@Atf) (@AuO)))))) (ac (ac (ac (ac (@As6) (@AsP)) (ac (@AfF) (@Al2))) (ac (ac (@AjA) (@AlC)) (ac (@AfJ) (@Abd)))) (ac (ac (ac (@Ab6) (@ATy)) (ac (@AsK) (@AgG))) (ac (ac (@AfA) (@AnL)) (ac (@AoD) (ac (@Ak7) (@Ap6)))))))) (ac (ac (ac (ac (ac (ac (@Aq0) (@AqI)) (ac (@AqR) (@AqV))) (ac (ac (@AXv) (@AXU)) (ac (@Am6) (@Al0)))) (ac (ac (ac (@Amd) (@AfR)) (ac (@AbV) (@Ap0))) (ac (ac (@Ama) (@Ap4)) (ac (@AmC) (ac (@AjQ) (@Aht)))))) (ac (ac (ac (ac (@Anh) (@AZT)) (ac (@Aew) (@AeB))) (ac (ac (@Ame) (@Ajc)) (ac (@Alz) (@AmO)))) (ac (ac (ac (@Ak4) (@AiX)) (ac (@Ahl) (@Apk))) (ac (ac (@AbZ) (@AZz)) (ac (@AK5) (ac (@Akp) (@AbW))))))) (ac (ac (ac (ac (ac (@AY0) (@Agv)) (ac (@AeF) (@AYP))) (ac (ac (@Apt) (@ApP)) (ac (@Aqe) (@AqD)))) (ac (ac (ac (@Aih) (@AnP)) (ac (@Am5) (@Anx))) (ac (ac (@Abt) (@AbN)) (ac (@Aay) (ac (@ALp) (@Ad0)))))) (ac (ac (ac (ac (@Amq) (@Aqx)) (ac (@ArR) (@Aqr))) (ac (ac (@AqE) (@Ao6)) (ac (@AqA) (ac (@ApW) (@ArE))))) (ac (ac (ac (@ApF) (@Aip)) (ac (@AiC) (@Aq8))) (ac (ac (@AgH) (@ApI)) (ac (@Ahn) (ac (@Anb) (@AqZ))))))))) (ac (ac (ac (ac (ac (ac (ac (@Aeq) (@Apa)) (ac (@Ae6) (@AuN))) (ac (ac (@Apy) (@ApQ)) (ac (@AjW) (@Aqt)))) (ac (ac (ac (@Aqf) (@Arm)) (ac (@Aqo) (@Ari))) (ac (ac (@Aqd) (@AnB)) (ac (@AnY) (ac (@Ark) (@AnI)))))) (ac (ac (ac (ac (@An1) (@ArW)) (ac (@Af4) (@Alg))) (ac (ac (@AYV) (@Amr)) (ac (@AhC) (@Anw)))) (ac (ac (ac (@Abc) (@AnT)) (ac (@Anv) (@AZr))) (ac (ac (@Anr) (@YG)) (ac (@AaC) (ac (@Abz) (@AdA))))))) (ac (ac (ac (ac (ac (@Ach) (@AfH)) (ac (@Ai4) (@AZC))) (ac (ac (@ADX) (@AbU)) (ac (@AaN) (@An6)))) (ac (ac (ac (@Anp) (@AZm)) (ac (@AgO) (@AUM))) (ac (ac (@Zl) (@XX)) (ac (@AZk) (ac (@Ao5) (@Aob)))))) (ac (ac (ac (ac (@Aqg) (@AWv)) (ac (@ZM.eq_1) (@Ak6))) (ac (ac (@Aid) (@Ans)) (ac (@Alr) (@AoA)))) (ac (ac (ac (@AbH) (@AcR)) (ac (@Anu) (@AiI))) (ac (ac (@AeZ) (@Aq2)) (ac (@AY5) (ac (@AZw) (@AME)))))))) (ac (ac (ac (ac (ac (ac (@Aml) (@AcD)) (ac (@An9) (@AfT))) (ac (ac (@AZc) (@AUE)) (ac (@Ahv) (@AfV)))) (ac (ac (ac (@Ahb) (@Ahk)) (ac (@AhQ) (@AqS))) (ac (ac (@Aln) (@ApV)) (ac (@Ag7) (ac (@Ai3) (@Akf)))))) (ac (ac (ac (ac (@Ako) (@AeP)) (ac (@Aig) (@AfQ))) (ac (ac (@Aib) (@Aii)) (ac (@Ahp) (@AfM)))) (ac (ac (ac (@AeO) (@Aon)) (ac (@AgI) (@AeG))) (ac (ac (@Ala) (@Asu)) (ac (@AgV) (ac (@Ap9) (@AsC))))))) (ac (ac (ac (ac (ac (@As8) (@ArH)) (ac (@ArX) (@Ar6))) (ac (ac (@AtA) (@AeD)) (ac (@ArS) (@ArP)))) (ac (ac (ac (@ApG) (@AqB)) (ac (@ApL) (@ApX))) (ac (ac (@Aqu) (@An7)) (ac (@Atz) (ac (@Akz) (@Amg)))))) (ac (ac (ac (ac (@AsL) (@Aso)) (ac (@AeX) (@Aly))) (ac (ac (@ApK) (@Agd)) (ac (@Afb) (ac (@AaJ) (@AeM))))) (ac (ac (ac (@AeC) (@Alk)) (ac (@Akk) (@AhJ))) (ac (ac (@dm.{0}) (@List.getElem?_map.{0,0})) (ac (@cp.{0}) (ac (@fB) (@dw.{0}))))))))))
def liE:=ac (ac (ac (ac (ac (ac (@List.append_eq.{0}) (@cf.{0,0})) (ac (@an.{0}) (ac (@bu) (@Int.natCast_nonneg)))) (ac (ac (@fc.{0}) (@dA.{0})) (ac (@bV) (ac (@eM) (@bJ))))) (ac (ac (ac (@aU) (@aL)) (ac (@co.{0,0}) (ac (@Nat.left_eq_add) (@fk)))) (ac (ac (@Nat.one_ne_zero) (ac (@Nat.succ_ne_self) (@fd))) (ac (@dv) (ac (@ag.{0}) (@ap.{0})))))) (ac (ac (ac (ac (@eC.{0}) (@List.replicate_zero.{0})) (ac (@bf.{0}) (ac (@aT.{0}) (@bQ.{0})))) (ac (ac (@dK.{0}) (@c9.{0})) (ac (@cq.{0}) (ac (@cH.{0}) (@aR.{0,0}))))) (ac (ac (ac (@bY.{0,0}) (@aa.{0,0})) (ac (@Option.bind_none.{0,0}) (ac (@dZ.{0}) (@bh.{0})))) (ac (ac (@List.elem_nil.{0}) (ac (@List.elem_cons.{0}) (@av.{1}))) (ac (@aq.{1}) (ac (@aj) (@dR))))))) (ac (ac (ac (ac (ac (@ba.{0}) (@dJ.{0})) (ac (@bT.{0}) (ac (@bB) (@ci)))) (ac (ac (@cu.{0}) (@fe.{0})) (ac (@d9.{0}) (ac (@Bool.or_true) (@cV))))) (ac (ac (ac (@cx) (@be)) (ac (@dr.{0}) (ac (@Option.isNone_some.{0}) (@dU.{0})))) (ac (ac (@cI.{0}) (ac (@bl) (@aX))) (ac (@eo) (ac (@cS) (@da)))))) (ac (ac (ac (ac (@aw) (@dx.{0})) (ac (@e8.{0}) (ac (@cG.{0}) (@ite_self.{1})))) (ac (ac (@aE.{0,0}) (ac (@bU.{0,0}) (@List.range_succ))) (ac (@List.range_zero) (ac (@aK.{0}) (@fi.{0}))))) (ac (ac (ac (@ef) (@cY)) (ac (@al.{0}) (ac (@bc) (@true_or)))) (ac (ac (@or_true) (ac (@false_or) (@ek))) (ac (@cW) (ac (@not_false_eq_true) (@dY.{1})))))))
end Go.VM
set_option linter.unusedVariables false
set_option linter.unusedSimpArgs false
namespace Go.VM
abbrev DT:=List (Nat×List Tmp×Plan)
def ACd:DT->Nat->List Tmp |[],_=>[]|(i,m,_)::D,j=>if i=j then m else ACd D j
def AnD:DT->Nat->Plan |[],_=>.done|(i,_,p)::D,j=>if i=j then p else AnD D j
inductive DD (D:DT):Prop |mk
def AV9 (l:List Tmp) (F:List Tmp->Prop):Prop:=F l
def Ze:Plan->Bool |.stop=>true|_=>false
def AaB:DT->Nat->Bool |[],_=>false|(i,_,p)::D,j=>if i=j then Ze p else AaB D j
def ALW (b:Bool) (X Y:Prop):Prop:=if b=true then X else Y
def wpd (E:Env) (D:DT):Code->APost->List AVal->St->Prop |.skip,K=>λaf st=>K .normal af st|.label _,K=>λaf st=>K .normal af st|.ret,K=>λaf st=>K .ret af st|.exit id,K=>λaf st=>K (.exit id) af st|.seq (.region id os false) y,K=>λaf st=>ALW (AaB D id) (AWp E (.seq (.region id os false) y) K af st) (AV9 (ACd D id) λmv=>Mg E mv os os.toList (nK (Ka (wpd E D y K) K)) af st)|.cond c x y,K=>λaf st=>UM (rd E af 0 c) (wpd E D x K) (wpd E D y K) af st|.block id c,K=>wpd E D c (AA6 id K)|.scope c,K=>wpd E D c K|.region id os false,K=>λaf st=>AV9 (ACd D id) λmv=>Mg E mv os os.toList (nK K) af st|c,K=>AWp E c K
section
variable{E:Env}{D:DT}{K:APost}{af:List AVal}{st:St}{x y:Code}{F:List AVal->St->Prop}
def Aed:wpd E D .skip K af st=K .normal af st:=by rw[wpd]
def Aal{l:Nat}:wpd E D (.label l) K af st=K .normal af st:=by rw[wpd]
def AnG:wpd E D .ret K af st=K .ret af st:=by rw[wpd]
def Agl{id:Nat}:wpd E D (.exit id) K af st=K (.exit id) af st:=by rw[wpd]
def Agn{id:Nat}{os:List Oper}:wpd E D (.seq (.region id (List.toArray os) false) y) K af st=ALW (AaB D id) (AWp E (.seq (.region id (List.toArray os) false) y) K af st) (AV9 (ACd D id) λmv=>Mg E mv ⟨os⟩ os (nK (Ka (wpd E D y K) K)) af st):=by rw[wpd]
def Aqi{X Y:Prop}:ALW true X Y=X:=by simp[ALW]
def Apn{X Y:Prop}:ALW false X Y=Y:=by simp[ALW]
theorem AeU{j:Nat}:AaB [] j=false:=rfl
theorem Abf{i j:Nat}{m:List Tmp}{p:Plan}:AaB ((i,m,p)::D) j=if i=j then Ze p else AaB D j:=rfl
theorem Afk:Ze .stop=true:=rfl
theorem AeR:Ze .done=false:=rfl
theorem Afd{i:Nat}{p:Plan}:Ze (.take i p)=false:=rfl
theorem Anq{i:Nat}{c:List Nat}{p q:Plan}:Ze (.alt i c p q)=false:=rfl
@[congr] theorem AtS {b b' : Bool} {X Y : Prop} (h : b = b') : ALW b X Y = ALW b' X Y := by grind
def Agp{c:Operand}:wpd E D (.cond c x y) K af st=UM (rd E af 0 c) (wpd E D x K) (wpd E D y K) af st:=by rw[wpd]
def AZ1{id:Nat}:wpd E D (.block id x) K af st=wpd E D x (AA6 id K) af st:=by rw[wpd]
def Aa0:wpd E D (.scope x) K af st=wpd E D x K af st:=by rw[wpd]
def ATY{id:Nat}{os:List Oper}:wpd E D (.region id (List.toArray os) false) K af st=AV9 (ACd D id) λmv=>Mg E mv ⟨os⟩ os (nK K) af st:=by rw[wpd]
theorem Agw{l:List Tmp}{F:List Tmp->Prop}:AV9 l F=F l:=rfl
def AiG{id:Nat}{os:Array Oper}:wpd E D (.region id os true) K af st=AWp E (.region id os true) K af st:=by rw[wpd]<;>simp
def Afm:wpd E D (.loop x) K af st=AWp E (.loop x) K af st:=by rw[wpd]<;>simp
def AqO{a b:Code}:wpd E D (.seq (.seq a b) y) K af st=AWp E (.seq (.seq a b) y) K af st:=by rw[wpd]<;>simp
def Aqs{c:Operand}{a b:Code}:wpd E D (.seq (.cond c a b) y) K af st=AWp E (.seq (.cond c a b) y) K af st:=by rw[wpd]<;>simp
def AqY{id:Nat}{a:Code}:wpd E D (.seq (.block id a) y) K af st=AWp E (.seq (.block id a) y) K af st:=by rw[wpd]<;>simp
def Aph{l:Nat}:wpd E D (.seq (.label l) y) K af st=AWp E (.seq (.label l) y) K af st:=by rw[wpd]<;>simp
def Apd{a:Code}:wpd E D (.seq (.loop a) y) K af st=AWp E (.seq (.loop a) y) K af st:=by rw[wpd]<;>simp
def ApB{id:Nat}{os:Array Oper}:wpd E D (.seq (.region id os true) y) K af st=AWp E (.seq (.region id os true) y) K af st:=by rw[wpd]<;>simp
def Arf{a:Code}:wpd E D (.seq (.scope a) y) K af st=AWp E (.seq (.scope a) y) K af st:=by rw[wpd]<;>simp
def Aqw:wpd E D (.seq .skip y) K af st=AWp E (.seq .skip y) K af st:=by rw[wpd]<;>simp
theorem ASr{j:Nat}:ACd [] j=[]:=rfl
theorem AFC{i j:Nat}{m:List Tmp}{p:Plan}:ACd ((i,m,p)::D) j=if i=j then m else ACd D j:=rfl
theorem AYz{i j:Nat}{m:List Tmp}{p:Plan}:AnD ((i,m,p)::D) j=if i=j then p else AnD D j:=rfl
def F4: ∀ {c:Code}{K:APost}{af:List AVal}{st:St},wpd E D c K af st->AWp E c K af st:=by
 intro c;induction c with
 |skip=>intro K af st h;rw[wpd]at h;exact AQs h
 |ret=>intro K af st h;rw[wpd]at h;exact AXM h
 |exit id=>intro K af st h;rw[wpd]at h;exact ASg h
 | seq x y ihx ihy=>
  intro K af st h;cases x with
  | region id os d=>
   cases d with
   |true=>(rw[wpd]at h;exact h)<;>(intros;simp_all)
   | false=>
    rw[wpd]at h;unfold ALW at h;split at h;·exact h
    refine VR ((WS (ACd D id) h).mono λe af' st' _ q=>?_);cases e with |normal=>exact ihy q|_=>exact q
  |_=>(rw[wpd]at h;exact h)<;>(intros;simp_all)
 | cond c x y ihx ihy=>
  intro K af st h;rw[wpd]at h;unfold UM at h;split at h;·rename_i b hb;refine ARi b hb ?_;cases b with |true=>simp_all|false=>simp_all
  grind
 | block id c ih=>intro K af st h;rw[wpd]at h;exact AF9 ((ih h).mono λe af' st' _ q=>by cases e<;>exact q)
 | region id os d=>intro K af st h;cases d with |true=>(rw[wpd]at h;exact h)<;>(intros;simp_all)|false=>rw[wpd]at h;exact WS (ACd D id) h
 |loop c ih=>intro K af st h;(rw[wpd]at h;exact h)<;>(intros;simp_all)
 |rangeFunc f ps x y ihx ihy=>intro K af st h;(rw[wpd]at h;exact h)<;>(intros;simp_all)
 |scope c ih=>intro K af st h;rw[wpd]at h;grind[AFb]
 |label l=>intro K af st h;rw[wpd]at h;exact AcP h
 |goto l=>intro K af st h;(rw[wpd]at h;exact h)<;>(intros;simp_all)
 |refuse w=>intro K af st h;(rw[wpd]at h;exact h)<;>(intros;simp_all)
@[congr] theorem AuQ {c : Code} {L : APost} {af' : List AVal} {st' : St} (h0 : af = af') (h1 : st = st') : wpd E D c L af st = wpd E D c L af' st' := by grind
def rgs:List (Nat×Nat)->List Tmp |[]=>[]|(a,n)::l=>List.range' a n++rgs l
def AVd:Nat->List AVal->List AVal |n+1,_::l=>.any::AVd n l|_,l=>l
def maskN:Nat->Nat->List AVal->List AVal |0,n,l=>AVd n l|a+1,n,x::l=>x::maskN a n l|_+1,_,[]=>[]
def DJ:List (Nat×Nat)->List AVal->List AVal |[],af=>af|(a,n)::l,af=>DJ l (maskN a n af)
def AFh: ∀(js ks:List Tmp) (af:List AVal),Al (js++ks) af=Al ks (Al js af) |[],_,_=>rfl|j::js,ks,af=>by rw[bf,Al,Al,AFh js]
def XP: ∀(js:List Tmp) (x:AVal) (l:List AVal),Al (js.map (· +1)) (x::l)=x::Al js l |[],_,_=>rfl|j::js,x,l=>by rw[aE,Al,cH,XP js,Al]
def AAA: ∀js:List Tmp,Al js []=[] |[]=>rfl|j::js=>by rw[Al,List.set_nil,AAA js]
def ABu: ∀(a n:Nat),List.range' (a+1) n=(List.range' a n).map (· +1) |a,0=>rfl|a,n+1=>by rw[df,df,aE,ABu (a+1) n]
def ADj: ∀(a n:Nat) (l:List AVal),maskN a n l=Al (List.range' a n) l |0,0,l=>by rw[maskN];cases l<;>rfl|0,n+1,[]=>by rw[AAA];rfl| 0,n+1,x::l=>by rw[maskN,AVd,df,Al,cq,show List.range' (0+1) n=(List.range' 0 n).map (· +1)from ABu _ _,XP,<-ADj 0 n l,maskN]|a+1,n,[]=>by rw[AAA];rfl| a+1,n,x::l=>by rw[maskN,show List.range' (a+1) n=(List.range' a n).map (· +1)from ABu _ _,XP,ADj a n l]
def Eg: ∀(js:List (Nat×Nat)) (af:List AVal),DJ js af=Al (rgs js) af |[],_=>rfl|(a,n)::js,af=>by rw[DJ,ADj,Eg js,rgs,AFh]
theorem Aqb:DJ [] af=af:=rfl
theorem Als{a n:Nat}{l:List (Nat×Nat)}:DJ ((a,n)::l) af=DJ l (maskN a n af):=rfl
theorem Atb{a n:Nat}{v:AVal}{l:List AVal}:maskN (a+1) n (v::l)=v::maskN a n l:=rfl
def At7{n:Nat}{l:List AVal}:maskN 0 n l=AVd n l:=by cases l<;>rfl
theorem Atc{n:Nat}{v:AVal}{l:List AVal}:AVd (n+1) (v::l)=.any::AVd n l:=rfl
def AuF{l:List AVal}:AVd 0 l=l:=by cases l<;>rfl
def AAz:List PC->List AVal->List AVal |.k::l,x::xs=>x::AAz l xs|.w::l,x::xs=>x.strip::AAz l xs|.v y::l,_::xs=>y::AAz l xs|_,xs=>xs
def reB:List BX->MS->MS |.k::l,p::m=>p::reB l m|.d::l,_::m=>reB l m|.s c::l,p::m=>(p.1,c)::reB l m|.t c::l,p::m=>(p.1,c p.1)::reB l m|.p ps::l,p::m=>(p.1,AAz ps p.2)::reB l m|_,m=>m
def AuH{m:MS}:reB [] m=m:=by cases m<;>rfl
theorem At2{l:List BX}{p:Nat×List AVal}{m:MS}:reB (.k::l) (p::m)=p::reB l m:=rfl
theorem Ato{l:List BX}{p:Nat×List AVal}{m:MS}:reB (.d::l) (p::m)=reB l m:=rfl
theorem Ath{l:List BX}{c x:List AVal}{i:Nat}{m:MS}:reB (.s c::l) ((i,x)::m)=(i,c)::reB l m:=rfl
theorem Atu{l:List BX}{c:Nat->List AVal}{x:List AVal}{i:Nat}{m:MS}:reB (.t c::l) ((i,x)::m)=(i,c i)::reB l m:=rfl
theorem Atg{l:List BX}{ps:List PC}{x:List AVal}{i:Nat}{m:MS}:reB (.p ps::l) ((i,x)::m)=(i,AAz ps x)::reB l m:=rfl
def At4{xs:List AVal}:AAz [] xs=xs:=by cases xs<;>rfl
theorem Atw{l:List PC}{x:AVal}{xs:List AVal}:AAz (.k::l) (x::xs)=x::AAz l xs:=rfl
theorem At9{l:List PC}{x:AVal}{xs:List AVal}:AAz (.w::l) (x::xs)=x.strip::AAz l xs:=rfl
theorem Atx{l:List PC}{x y:AVal}{xs:List AVal}:AAz (.v y::l) (x::xs)=y::AAz l xs:=rfl
def Xu:Code->Nat×Nat |.seq x y=>((Xu x).1,(Xu x).2+(Xu y).2+1)|.cond _ x y=>((Xu x).1,(Xu x).2+(Xu y).2+1)|.block id x=>(id,(Xu x).2+1)|.loop x=>((Xu x).1,(Xu x).2+1)|.scope x=>((Xu x).1,(Xu x).2+1)|.region id _ _=>(id,1)|_=>(0,1)
end
inductive Wk:AVal->AVal->Prop |same (x:AVal):Wk x x |strip (x:AVal):Wk x x.strip
inductive WkL:List AVal->List AVal->Prop |nil:WkL [] [] |cons{x y:AVal}{xs ys:List AVal} (h:Wk x y) (t:WkL xs ys):WkL (x::xs) (y::ys)
inductive SubW:MS->MS->Prop |refl (m:MS):SubW m m |keep{m0 m1:MS}{i:Nat}{cs cs':List AVal} (h:WkL cs cs') (t:SubW m0 m1):SubW ((i,cs')::m0) ((i,cs)::m1) |drop{m0 m1:MS}{p:Nat×List AVal} (t:SubW m0 m1):SubW m0 (p::m1)
def WkL.refl: ∀xs:List AVal,WkL xs xs |[]=>.nil|x::xs=>.cons (.same x) (WkL.refl xs)
theorem WkL.stripB{xs ys:List AVal} (h:WkL xs ys): ∃bs,VM.stripB bs xs=ys:=by induction h with |nil=>exact⟨[],rfl⟩| cons h t ih=>obtain⟨bs,rfl⟩:=ih;cases h with |same=>exact⟨false::bs,by rw[VM.stripB]⟩|strip=>exact⟨true::bs,by rw[VM.stripB]⟩
def WkL.set{v u:AVal} (h:Wk u v): ∀ {xs ys:List AVal} (c:Nat),WkL xs ys->WkL (xs.set c u) (ys.set c v) |_,_,_,.nil=>by simpa using WkL.nil|_,_,0,.cons _ t=>.cons h t|_,_,c+1,.cons k t=>.cons k (WkL.set h c t)
theorem WkL.setVals: ∀ {cs:List Tmp}{us vs xs ys:List AVal},WkL xs ys->WkL us vs->WkL (VM.setVals xs cs us) (VM.setVals ys cs vs) |[],us,vs,xs,ys,h,k=>by cases k<;>(rw[VM.setVals,VM.setVals];exact h)<;>simp| c::cs,_,_,xs,ys,h,.nil=>by grind[VM.setVals]|c::cs,_,_,xs,ys,h,.cons h1 t=>by rw[VM.setVals,VM.setVals];exact WkL.setVals (WkL.set h1 c h) t
section
variable{E:Env}{F:Nat->Nat}{Γ:Ghost}{st:St}{w:World}{af af2:List AVal}{a:Act}{Q:APost}{c:Code}{n:Nat}
def Sim.wkF (hs:Sim E F Γ st w af a.tmps.toList) (h:WkL af af2):Sim E F Γ st w af2 a.tmps.toList:=by obtain⟨bs,rfl⟩:=h.stripB;exact {hs with rep:=Qq bs _ _ hs.rep,own:=Q6 bs _ _ hs.own,tok:=λb=>by have:=Qz b bs af a.tmps.toList;have:=hs.tok b;omega}
def AXQ: ∀ {pre m:MS}{i:Nat}{cs:List AVal},((pre++(i,cs)::m).map (·.1)).Nodup->A9 (pre++(i,cs)::m) i=some cs/\∀x,CU (pre++(i,cs)::m) i x=pre++(i,x)::m
 |[],m,i,cs,_=>⟨AMa,λx=>AYB⟩
 | (j,d)::pre,m,i,cs,h=>by
  rw[bf,aE,ch]at h;have hne:i≠j:=by rintro rfl;grind
  have:=AXQ (pre:=pre) h.2;rw[bf,YI hne];exact⟨this.1,λx=>by rw[AXA hne,this.2 x,bf]⟩
def Sim.wkM{m0 m1:MS} (h:SubW m0 m1): ∀ {pre:MS},Sim E F Γ ⟨pre++m1,n⟩ w af a.tmps.toList->Sim E F Γ ⟨pre++m0,n⟩ w af a.tmps.toList:=by
 induction h with
 |refl m=>simp
 | @drop m0 m1 p t ih=>intro pre hs;exact ih (hs.fewer (m:=pre++m1) (List.Sublist.append (cm _) (cF _ (cm _))))
 | @keep m0 m1 i cs cs' h t ih=>
  intro pre hs;obtain⟨bs,rfl⟩:=h.stripB;obtain⟨h1,h2⟩:=AXQ hs.keys;have:=hs.stripCells bs h1;rw[h2]at this;have e: ∀m:MS,pre++(i,VM.stripB bs cs)::m=(pre++[(i,VM.stripB bs cs)])++m:=λm=>by simp
  grind
def AWp.wk{m m2:MS} (h:AWp E c Q af2 ⟨m2,n⟩) (h1:WkL af af2) (h2:SubW m2 m):AWp E c Q af ⟨m,n⟩:=⟨λF Γ w a hd hs=>h.go F Γ w a hd ((Sim.wkM (pre:=[]) h2 hs).wkF h1)⟩
def XJ (js cs:List Tmp) (I:Nat->List AVal->St->Prop) (n₀:Nat){vs0:List AVal}{m m0:MS} (hv:WkL (DN (Al js af) cs) vs0) (hm:SubW m0 m) (h₀:I n₀ vs0 ⟨m0,n⟩) (round: ∀k vs st',I k vs st'->∀J:List AVal->St->Prop,(∀k' af' st' m vs',k'<k->SubW m st'.m->Al cs (Al js af')=Al cs (Al js af)->WkL (DN (Al js af') cs) vs'->I k' vs' {st' with m:=m}->J af' st')->AWp E c (kPost J Q) (setVals (Al js af) cs vs) st'):AWp E (.loop c) Q af ⟨m,n⟩:=by
 refine U0 js ?_;constructor;intro F Γ w a hd hs;have hs0:Sim E F Γ ⟨m0,n⟩ w (setVals (Al js af) cs vs0) a.tmps.toList:=by have h1:=Sim.wkM (pre:=[]) hm hs;rw[MG cs _ _ (rfl:Al cs (Al js af)=Al cs (Al js af))]at h1;exact h1.wkF (WkL.setVals (WkL.refl _) hv)
 refine wp_loop_ghost (λk a' w'=>a'.defers=[]/\∃Γ' vs st',Ext F Γ w Γ' w'/\n<=st'.next/\Sim E F Γ' st' w' (setVals (Al js af) cs vs) a'.tmps.toList/\I k vs st') n₀ ⟨hd,Γ,vs0,⟨m0,n⟩,Ext.refl _ _ _,aw _,hs0,h₀⟩ ?_;intro k a₁ w₁ ⟨hd1,Γ₁,vs₁,st₁,h2,h3,h4,h5⟩;refine fj ((round k vs₁ st₁ h5 (λaf' st'=>∃k' m vs',k'<k/\SubW m st'.m/\Al cs (Al js af')=Al cs (Al js af)/\WkL (DN (Al js af') cs) vs'/\I k' vs' {st' with m:=m}) (λk' af' st' m vs' k1 k2 k3 k4 k5=>⟨k',m,vs',k1,k2,k3,k4,k5⟩)).go F Γ₁ w₁ a₁ hd1 h4) ?_;intro e a' w' hq;have hq:=Wq h2 h3 hq;cases e with | normal=>obtain⟨_,k1,Γ',af',st',k2,k3,k4,kk⟩:=hq;obtain⟨k',m,vs',k5,k6,k7,k9,k8⟩:=kk.get;refine⟨k',k5,k1,Γ',vs',{st' with m:=m},k2,k3,?_,k8⟩;have h1:=Sim.wkM (pre:=[]) k6 (k4.mask js);rw[MG cs _ _ k7]at h1;exact h1.wkF (WkL.setVals (WkL.refl _) k9)| _=>obtain⟨k0,k1,Γ',af',st',k2,k3,k4,kk⟩:=hq;exact⟨k0,k1,Γ',af',st',k2,k3,k4,kk.out fH⟩
end
@[congr] theorem AtQ {l l' : List Tmp} {F : List Tmp -> Prop} (h : l = l') : AV9 l F = AV9 l' F := by grind
def stp (b:Bool) (v:AVal):AVal:=if b=true then v.strip else v
theorem AXB{v:AVal}:stp true v=v.strip:=rfl
theorem AW7{v:AVal}:stp false v=v:=rfl
structure RH (E:Env) (rs:List ResultVar) (R:APost) (b:Bool) (m':MS) (n:Nat) (r':AVal):Prop where go: ∀af st xs m0 m1 n',RA E rs af st=some (xs,⟨m1,n'⟩)->m0.Sublist m1->m0=m'->n<=n'->stp b (TZ xs)=r'->R .ret af st/\R .normal af st
structure JOK{α β:Type} (k:α->Option β) (r:β) (js:List (Nat×Nat)) (cs:List Tmp) (V:α->List AVal) (Ms:α->List BX) (af0:List AVal) (m:MS) (n:Nat) (J:List AVal->St->Prop):Prop where go: ∀j af' m0 m1 n',k j=some r->SubW m0 m1->m0=reB (Ms j) m->Al cs (DJ js af')=Al cs (DJ js af0)->WkL (DN (DJ js af') cs) (V j)->n<=n'->J af' ⟨m1,n'⟩
def AUd:AVal->Nat |.ptr i _=>i|_=>0
theorem AfG{i o:Nat}:AUd (.ptr i o)=i:=rfl
structure JNK{α β:Type} (k:α->Option β) (r:β) (js:List (Nat×Nat)) (cs:List Tmp) (p:Tmp) (V:α->Nat->List AVal) (Ms:α->Nat->List BX) (C:α->Nat->List AVal) (af0:List AVal) (m:MS) (n:Nat) (J:List AVal->St->Prop):Prop where go: ∀j g af' m0 m1 n',k j=some r->SubW m0 m1->m0=(g,C j g)::reB (Ms j g) m->Al cs (DJ js af')=Al cs (DJ js af0)->WkL (DN (DJ js af') cs) (V j g)->n<=g/\g<n'->J af' ⟨m1,n'⟩
structure LOK{σ β:Type} (G:Nat->σ->Option β) (r:β) (k:Nat) (js:List (Nat×Nat)) (cs:List Tmp) (V:σ->List AVal) (Ms:σ->List BX) (af0:List AVal) (m:MS) (n:Nat) (J:List AVal->St->Prop):Prop where go: ∀s af' m0 m1 n',G k s=some r->SubW m0 m1->m0=reB (Ms s) m->Al cs (DJ js af')=Al cs (DJ js af0)->WkL (DN (DJ js af') cs) (V s)->n<=n'->J af' ⟨m1,n'⟩
structure ROK{α σ β:Type} (G:List α->Int->σ->Option β) (r:β) (xs:List α) (i:Int) (js:List (Nat×Nat)) (cs:List Tmp) (V:Int->σ->List AVal) (Ms:Int->σ->List BX) (af0:List AVal) (m:MS) (n:Nat) (J:List AVal->St->Prop):Prop where go: ∀s af' m0 m1 n',G xs i s=some r->SubW m0 m1->m0=reB (Ms i s) m->Al cs (DJ js af')=Al cs (DJ js af0)->WkL (DN (DJ js af') cs) (V i s)->n<=n'->J af' ⟨m1,n'⟩
structure COK{σ β:Type} (G:Nat->Int->σ->Option β) (r:β) (k:Nat) (i:Int) (js:List (Nat×Nat)) (cs:List Tmp) (V:Int->σ->List AVal) (Ms:Int->σ->List BX) (af0:List AVal) (m:MS) (n:Nat) (J:List AVal->St->Prop):Prop where go: ∀s af' m0 m1 n',G k i s=some r->SubW m0 m1->m0=reB (Ms i s) m->Al cs (DJ js af')=Al cs (DJ js af0)->WkL (DN (DJ js af') cs) (V i s)->n<=n'->J af' ⟨m1,n'⟩
class CF (E:Env){ρ:Type} (X:Option ρ) (f:outParam FuncId) (args:outParam (List AVal)) (er:outParam (ρ->AVal)):Prop where go: ∀ {r:ρ}{n:Nat}{m:MS}{Q:PQ},X=some r->(∀n',n<=n'->Gl (Q (er r) ⟨m,n'⟩))->ACall E f args ⟨m,n⟩ Q
class CB (E:Env){ρ:Type} (X:Option ρ) (f:outParam FuncId) (args:outParam (Nat->List AVal)) (pre:outParam (Nat->List AVal)) (er:outParam (ρ->AVal)) (post:outParam (Nat->ρ->List AVal)):Prop where go: ∀ {r:ρ}{n i:Nat}{m:MS}{Q:PQ},X=some r->A9 m i=some (pre i)->(∀n',n<=n'->Gl (Q (er r) ⟨CU m i (post i r),n'⟩))->ACall E f (args i) ⟨m,n⟩ Q
class CT (E:Env){ρ:Type} (X:Option ρ) (f:outParam FuncId) (pre:outParam (Nat->List AVal)) (er:outParam (ρ->AVal)) (post:outParam (Nat->ρ->List AVal)):Prop where go: ∀ {r:ρ}{n i j:Nat}{m:MS}{Q:PQ},X=some r->A9 m j=some [.ptr i 0]->A9 m i=some (pre i)->i≠j->(∀n',n<=n'->Gl (Q (er r) ⟨CU m i (post i r),n'⟩))->ACall E f [.ptr j 0] ⟨m,n⟩ Q
class XC (E:Env) (f:FuncId) (args:List AVal) (r:outParam AVal):Prop where go: ∀ {st:St}{Q:PQ},Gl (Q r st)->AAe E f args st Q
class CN (E:Env){ρ:Type} (X:Option ρ) (f:outParam FuncId) (args:outParam (List AVal)) (rv:outParam (Nat->AVal)) (cells:outParam (ρ->Nat->List AVal)):Prop where go: ∀ {r:ρ}{n:Nat}{m:MS}{Q:PQ},X=some r->(∀i n',n<=i->i<n'->Gl (Q (rv i) ⟨(i,cells r i)::m,n'⟩))->ACall E f args ⟨m,n⟩ Q
class LF{β:Type} (X:Option β){σ:outParam Type} (G B:outParam (Nat->σ->Option β)) (k:outParam Nat) (s:outParam σ) (js:outParam (List (Nat×Nat))) (cs:outParam (List Tmp)) (V:outParam (σ->List AVal)) (Ms:outParam (σ->List BX)):Prop where
  eq:X=G k s
  z: ∀s,G 0 s=none
  u: ∀k s,G (k+1) s=B k s
class LR{β:Type} (X:Option β){α σ:outParam Type} (G:outParam (List α->Int->σ->Option β)) (Bn:outParam (Int->σ->Option β)) (Bc:outParam (α->List α->Int->σ->Option β)) (L:outParam (List α)) (i:outParam Int) (s:outParam σ) (js:outParam (List (Nat×Nat))) (cs:outParam (List Tmp)) (V:outParam (Int->σ->List AVal)) (Ms:outParam (Int->σ->List BX)):Prop where
  eq:X=G L i s
  un: ∀i s,G [] i s=Bn i s
  uc: ∀x xs i s,G (x::xs) i s=Bc x xs i s
class LQ{β:Type} (X:Option β){α σ:outParam Type} (G:outParam (List α->Int->σ->Option β)) (Bn:outParam (Int->σ->Option β)) (Bc:outParam (α->List α->Int->σ->Option β)) (L:outParam (List α)) (s:outParam σ) (js:outParam (List (Nat×Nat))) (cs:outParam (List Tmp)) (V:outParam (Int->σ->List AVal)) (Ms:outParam (Int->σ->List BX)):Prop where
  eq: ∀i,X=G L i s
  un: ∀i s,G [] i s=Bn i s
  uc: ∀x xs i s,G (x::xs) i s=Bc x xs i s
class LC{β:Type} (X:Option β){σ:outParam Type} (G:outParam (Nat->Int->σ->Option β)) (Bn:outParam (Int->σ->Option β)) (Bc:outParam (Nat->Int->σ->Option β)) (k:outParam Nat) (i:outParam Int) (s:outParam σ) (js:outParam (List (Nat×Nat))) (cs:outParam (List Tmp)) (V:outParam (Int->σ->List AVal)) (Ms:outParam (Int->σ->List BX)):Prop where
  eq:X=G k i s
  un: ∀i s,G 0 i s=Bn i s
  uc: ∀k i s,G (k+1) i s=Bc k i s
class LU{β:Type} (X:Option β){σ:outParam Type} (G:outParam (Nat->Int->σ->Option β)) (Bn:outParam (Int->σ->Option β)) (Bc:outParam (Nat->Int->σ->Option β)) (k:outParam Nat) (s:outParam σ) (js:outParam (List (Nat×Nat))) (cs:outParam (List Tmp)) (V:outParam (Int->σ->List AVal)) (Ms:outParam (Int->σ->List BX)):Prop where
  eq: ∀i,X=G k i s
  un: ∀i s,G 0 i s=Bn i s
  uc: ∀k i s,G (k+1) i s=Bc k i s
class MX (E:Env):Prop where ok:E.P.follows .mixedOrders=true
section rules
variable{E:Env}{D:DT}{β ρ:Type}{r:β}{T:Prop}{n n':Nat}{m m0 m1:MS}{af af0:List AVal}{st:St}{Q K:APost}{x y c:Code}{js:List (Nat×Nat)}{cs:List Tmp}{J:List AVal->St->Prop}
theorem mkF{X B:Option ρ}{f:FuncId}{fn:Func}{nt:Nat}{rs:List ResultVar}{args:List AVal}{er:ρ->AVal} (hx:X=B) (hf:E.P.funcs[f]?=some fn) (hb:fn.body=some c) (hn:fn.ntmps=nt) (hr:fn.results=rs.toArray) (D:DT) (b:Bool) (w: ∀(r:ρ) (n:Nat) (m:MS) (R:APost),RH E rs R b m n (er r)->True/\B=some r->DD D->Gl (wpd E D c R (args++List.replicate (nt-args.length) .any) ⟨m,n⟩)):CF E X f args er:=by
 constructor;intro r n m Q h hQ;subst hn;have e:fn.results.toList=rs:=by rw[hr]
 cases b with | false=>refine Mq hf hb (F4 (w r n m (Ko E fn Q) ⟨?_⟩ ⟨trivial,hx▸h⟩ ⟨⟩).go);intro af st xs m0 m1 n' h1 h2 h0 h3 h4;subst h0;rw[AW7]at h4;exact⟨LM (by rw[e];omega) h2 (h4▸(hQ n' h3).go),LH (by rw[e];omega) h2 (h4▸(hQ n' h3).go)⟩| true=>refine ACall.strip (Mq hf hb (F4 (w r n m (Ko E fn λr st'=>Q r.strip st') ⟨?_⟩ ⟨trivial,hx▸h⟩ ⟨⟩).go));intro af st xs m0 m1 n' h1 h2 h0 h3 h4;subst h0;rw[AXB]at h4;exact⟨LM (by rw[e];omega) h2 (by rw[h4];exact(hQ n' h3).go),LH (by rw[e];omega) h2 (by rw[h4];exact(hQ n' h3).go)⟩
theorem mkB{X B:Option ρ}{f:FuncId}{fn:Func}{nt:Nat}{rs:List ResultVar}{args:Nat->List AVal}{pre:Nat->List AVal}{er:ρ->AVal}{post:Nat->ρ->List AVal} (hx:X=B) (hf:E.P.funcs[f]?=some fn) (hb:fn.body=some c) (hn:fn.ntmps=nt) (hr:fn.results=rs.toArray) (D:DT) (b:Bool) (w: ∀(r:ρ) (n i:Nat) (m:MS) (R:APost),i<n->RH E rs R b ((i,post i r)::m) n (er r)->True/\B=some r->DD D->Gl (wpd E D c R (args i++List.replicate (nt-(args i).length) .any) ⟨(i,pre i)::m,n⟩)):CB E X f args pre er post:=by
 constructor;intro r n i m Q h hi hQ;subst hn;have e:fn.results.toList=rs:=by rw[hr]
 refine ACall.front hi λhin=>?_;cases b with | false=>refine Mq hf hb (F4 (w r n i _ (Ko E fn _) hin ⟨?_⟩ ⟨trivial,hx▸h⟩ ⟨⟩).go);intro af st xs m0 m1 n' h1 h2 h0 h3 h4;subst h0;rw[AW7]at h4;exact⟨LM (by rw[e];omega) h2 ⟨_,rfl,h4▸(hQ n' h3).go⟩,LH (by rw[e];omega) h2 ⟨_,rfl,h4▸(hQ n' h3).go⟩⟩| true=>refine ACall.strip (Mq hf hb (F4 (w r n i _ (Ko E fn λr st'=>_) hin ⟨?_⟩ ⟨trivial,hx▸h⟩ ⟨⟩).go));intro af st xs m0 m1 n' h1 h2 h0 h3 h4;subst h0;rw[AXB]at h4;exact⟨LM (by rw[e];omega) h2 ⟨_,rfl,by rw[h4];exact(hQ n' h3).go⟩,LH (by rw[e];omega) h2 ⟨_,rfl,by rw[h4];exact(hQ n' h3).go⟩⟩
def AsB{b:Bool}{u v:Option β}{A B:List AVal->St->Prop} (h:T/\(if b=true then u else v)=some r) (a:(b=true/\T)/\u=some r->Gl (A af st)) (a':(b=false/\T)/\v=some r->Gl (B af st)):Gl (UM (.bool b) A B af st):=by
 rcases KA h with h|h;·grind[AXv]
 grind[AXU]
theorem Xc{X:Option ρ}{f:FuncId}{args args':List AVal}{er:ρ->AVal}{y:ρ}{Q:PQ} [i:CF E X f args er] (h:X=some y) (ha:args'=args) (k: ∀n',n<=n'->Gl (Q (er y) ⟨m,n'⟩)):Gl (ACall E f args' ⟨m,n⟩ Q):=⟨ha▸i.go h k⟩
theorem AQh{X:Option ρ}{f:FuncId}{args:Nat->List AVal}{tl:List AVal}{pre:Nat->List AVal}{er:ρ->AVal}{post:Nat->ρ->List AVal}{y:ρ}{Q:PQ}{j:Nat} [i:CB E X f args pre er post] (h:X=some y) (ha: .ptr j 0::tl=args j) (hm:A9 m j=some (pre j)) (k: ∀n',n<=n'->Gl (Q (er y) ⟨CU m j (post j y),n'⟩)):Gl (ACall E f (.ptr j 0::tl) ⟨m,n⟩ Q):=⟨ha▸i.go h hm k⟩
theorem ATg{X:Option ρ}{f:FuncId}{args:Nat->List AVal}{x:AVal}{g:Fn}{pre:Nat->List AVal}{er:ρ->AVal}{post:Nat->ρ->List AVal}{y:ρ}{Q:PQ}{j:Nat} [i:CB E X f args pre er post] (h:X=some y) (ha:[x,.fn g [] [.ptr j 0]]=args j) (hm:A9 m j=some (pre j)) (k: ∀n',n<=n'->Gl (Q (er y) ⟨CU m j (post j y),n'⟩)):Gl (ACall E f [x,.fn g [] [.ptr j 0]] ⟨m,n⟩ Q):=⟨ha▸i.go h hm k⟩
theorem AVo{X:Option ρ}{f:FuncId}{args:Nat->List AVal}{x:AVal}{g:Fn}{pre:Nat->List AVal}{er:ρ->AVal}{post:Nat->ρ->List AVal}{y:ρ}{Q:PQ}{j:Nat} [i:CB E X f args pre er post] (h:X=some y) (ha:[x,.fn g [.ptr j 0] []]=args j) (hm:A9 m j=some (pre j)) (k: ∀n',n<=n'->Gl (Q (er y) ⟨CU m j (post j y),n'⟩)):Gl (ACall E f [x,.fn g [.ptr j 0] []] ⟨m,n⟩ Q):=⟨ha▸i.go h hm k⟩
theorem Asf{f:FuncId}{args:List AVal}{x:AVal}{Q:PQ} [i:XC E f args x] (h:Gl (Q x st)):Gl (AAe E f args st Q):=⟨i.go h⟩
theorem Ahu{X:Option ρ}{f:FuncId}{args args':List AVal}{rv:Nat->AVal}{cells:ρ->Nat->List AVal}{y:ρ}{Q:PQ} [i:CN E X f args rv cells] (h:X=some y) (ha:args'=args) (k: ∀i n',n<=i->i<n'->Gl (Q (rv i) ⟨(i,cells y i)::m,n'⟩)):Gl (ACall E f args' ⟨m,n⟩ Q):=⟨ha▸i.go h k⟩
theorem Aho{X:Option ρ}{f:FuncId}{pre:Nat->List AVal}{er:ρ->AVal}{post:Nat->ρ->List AVal}{y:ρ}{Q:PQ}{i j:Nat} [c:CT E X f pre er post] (h:X=some y) (hj:A9 m j=some [.ptr i 0]) (hm:A9 m i=some (pre i)) (hne:i≠j) (k: ∀n',n<=n'->Gl (Q (er y) ⟨CU m i (post i y),n'⟩)):Gl (ACall E f [.ptr j 0] ⟨m,n⟩ Q):=⟨c.go h hj hm hne k⟩
theorem AWW{X:Option ρ}{f:FuncId}{args:Nat->List AVal}{x:AVal}{tl:List AVal}{pre:Nat->List AVal}{er:ρ->AVal}{post:Nat->ρ->List AVal}{y:ρ}{Q:PQ}{j:Nat} [i:CB E X f args pre er post] (h:X=some y) (ha:x:: .ptr j 0::tl=args j) (hm:A9 m j=some (pre j)) (k: ∀n',n<=n'->Gl (Q (er y) ⟨CU m j (post j y),n'⟩)):Gl (ACall E f (x:: .ptr j 0::tl) ⟨m,n⟩ Q):=⟨ha▸i.go h hm k⟩
theorem AVA{X:Option ρ}{f:FuncId}{args:Nat->List AVal}{x y:AVal}{pre:Nat->List AVal}{er:ρ->AVal}{post:Nat->ρ->List AVal}{yy:ρ}{Q:PQ}{j:Nat} [i:CB E X f args pre er post] (h:X=some yy) (ha:[x,y,.ptr j 0]=args j) (hm:A9 m j=some (pre j)) (k: ∀n',n<=n'->Gl (Q (er yy) ⟨CU m j (post j yy),n'⟩)):Gl (ACall E f [x,y,.ptr j 0] ⟨m,n⟩ Q):=⟨ha▸i.go h hm k⟩
theorem AuY{id:Nat}{os:List Oper}{mv:List Tmp}{p:Plan} (hD:DD D) [i:MX E] (hm:ACd D id=mv) (hp:AnD D id=p) (hok:KG (List.toArray os) p false (Array.replicate (List.toArray os).size false) []=true) (h:Gl (Io E mv ⟨os⟩ p [] (nK Q) af st)):Gl (AWp E (.region id (List.toArray os) true) Q af st):=⟨Td mv p i.ok hok h.go⟩
def At3 (hD:DD D) (h:Gl (wpd E D x (Ka (wpd E D y Q) Q) af st)):Gl (AWp E (.seq x y) Q af st):=⟨VR ((F4 h.go).mono λe af' st' _ q=>by cases e<;>first| exact F4 q| exact q)⟩
def Aoc{α:Type}{id:Nat×Nat}{V:α->List AVal}{Ms:α->List BX}{k0:α->Option β}{body:(α->Option β)->Option β} (h:T/\AB k0 body (.b id js cs V Ms)=some r) (hD:DD D) (hid:Xu x=id) (rest: ∀j n',n<=n'->T/\k0 j=some r->Gl (wpd E D y Q (setVals (DJ js af) cs (V j)) ⟨reB (Ms j) m,n'⟩)) (first: ∀(k:α->Option β) (J:List AVal->St->Prop),JOK k r js cs V Ms af m n J->T/\body k=some r->Gl (wpd E D x (Ka J Q) af ⟨m,n⟩)):Gl (AWp E (.seq x y) Q af ⟨m,n⟩):=by
 refine⟨VR ?_⟩;have key:=F4 (first k0 (λaf' st'=>AWp E y Q af' ⟨st'.m,st'.next⟩) ⟨?_⟩ h).go;·exact key.mono λe af' st' _ q=>by cases e<;>exact q
 ·intro j af' m0 m1 n' h1 h2 h3 h4 h5 h6;subst h3;refine U0 (rgs js) ?_;have:=F4 (rest j n' h6 ⟨h.1,h1⟩).go;rw[Eg,Eg]at h4;rw[Eg]at h5 this;rw[MG cs _ _ h4];exact this.wk (WkL.setVals (WkL.refl _) h5) h2
def Asb{α:Type}{id:Nat×Nat}{V:α->List AVal}{k0:α->Option β}{body:(α->Option β)->Option β} (h:T/\AB k0 body (.a id js cs V)=some r) (hD:DD D) (hid:Xu x=id) (rest: ∀j n',n<=n'->T/\k0 j=some r->Gl (wpd E D y Q (setVals (DJ js af) cs (V j)) ⟨m,n'⟩)) (first: ∀(k:α->Option β) (J:List AVal->St->Prop),JOK k r js cs V (λ_=>[]) af m n J->T/\body k=some r->Gl (wpd E D x (Ka J Q) af ⟨m,n⟩)):Gl (AWp E (.seq x y) Q af ⟨m,n⟩):=by refine Aoc (Ms:=λ_=>[]) (k0:=k0) (body:=body) h hD hid (λj n' hn h=>?_) first;grind[reB]
def AtE{α:Type}{id:Nat×Nat}{p:Tmp}{V:α->Nat->List AVal}{Ms:α->Nat->List BX}{C:α->Nat->List AVal}{k0:α->Option β}{body:(α->Option β)->Option β} (h:T/\AB k0 body (.n id js cs p V Ms C)=some r) (hD:DD D) (hid:Xu x=id) (rest: ∀j n' g,n<=g/\g<n'->T/\k0 j=some r->Gl (wpd E D y Q (setVals (DJ js af) cs (V j g)) ⟨(g,C j g)::reB (Ms j g) m,n'⟩)) (first: ∀(k:α->Option β) (J:List AVal->St->Prop),JNK k r js cs p V Ms C af m n J->True->T/\body k=some r->Gl (wpd E D x (Ka J Q) af ⟨m,n⟩)):Gl (AWp E (.seq x y) Q af ⟨m,n⟩):=by
 refine⟨VR ?_⟩;have key:=F4 (first k0 (λaf' st'=>AWp E y Q af' ⟨st'.m,st'.next⟩) ⟨?_⟩ trivial h).go;·exact key.mono λe af' st' _ q=>by cases e<;>exact q
 ·intro j g af' m0 m1 n' h1 h2 h3 h4 h5 h6;subst h3;refine U0 (rgs js) ?_;have:=F4 (rest j n' g h6 ⟨h.1,h1⟩).go;rw[Eg,Eg]at h4;rw[Eg]at h5 this;rw[MG cs _ _ h4];exact this.wk (WkL.setVals (WkL.refl _) h5) h2
def AuS{α:Type}{p:Tmp}{V:α->Nat->List AVal}{Ms:α->Nat->List BX}{C:α->Nat->List AVal}{k:α->Option β}{v:α} (hj:JNK k r js cs p V Ms C af0 m n J) (h:T/\k v=some r) (h2:SubW ((AUd (af.getD p .any),C v (AUd (af.getD p .any)))::reB (Ms v (AUd (af.getD p .any))) m) m1) (h4:Al cs (DJ js af)=Al cs (DJ js af0)) (h5:WkL (DN (DJ js af) cs) (V v (AUd (af.getD p .any)))) (h6:n<=AUd (af.getD p .any)/\AUd (af.getD p .any)<n'):Gl (J af ⟨m1,n'⟩):=⟨hj.go v _ af _ m1 n' h.2 h2 rfl h4 h5 h6⟩
def AuL{α:Type}{V:α->List AVal}{Ms:α->List BX}{k:α->Option β}{v:α} (hj:JOK k r js cs V Ms af0 m n J) (h:T/\k v=some r) (h2:SubW (reB (Ms v) m) m1) (h4:Al cs (DJ js af)=Al cs (DJ js af0)) (h5:WkL (DN (DJ js af) cs) (V v)) (h6:n<=n'):Gl (J af ⟨m1,n'⟩):=⟨hj.go v af _ m1 n' h.2 h2 rfl h4 h5 h6⟩
theorem AtL{σ:Type}{V:σ->List AVal}{Ms:σ->List BX}{X:Option β}{G B:Nat->σ->Option β}{k:Nat}{s:σ} [i:LF X G B k s js cs V Ms] (h:T/\X=some r) (hj:LOK G r k js cs V Ms af0 m n J) (h2:SubW (reB (Ms s) m) m1) (h4:Al cs (DJ js af)=Al cs (DJ js af0)) (h5:WkL (DN (DJ js af) cs) (V s)) (h6:n<=n'):Gl (J af ⟨m1,n'⟩):=⟨hj.go s af _ m1 n' (i.eq▸h.2) h2 rfl h4 h5 h6⟩
theorem Ar4{α σ:Type}{V:Int->σ->List AVal}{Ms:Int->σ->List BX}{X:Option β}{G:List α->Int->σ->Option β}{Bn:Int->σ->Option β}{Bc:α->List α->Int->σ->Option β}{L:List α}{i:Int}{s:σ} [ii:LR X G Bn Bc L i s js cs V Ms] (h:T/\X=some r) (hj:ROK G r L i js cs V Ms af0 m n J) (h2:SubW (reB (Ms i s) m) m1) (h4:Al cs (DJ js af)=Al cs (DJ js af0)) (h5:WkL (DN (DJ js af) cs) (V i s)) (h6:n<=n'):Gl (J af ⟨m1,n'⟩):=⟨hj.go s af _ m1 n' (ii.eq▸h.2) h2 rfl h4 h5 h6⟩
def AuT{R:APost}{rs:List ResultVar}{b:Bool}{r':AVal}{xs:List AVal} (hR:RH E rs R b m n r') (h1:RA E rs af st=some (xs,⟨m1,n'⟩)) (h2:m.Sublist m1) (h4:n<=n') (h5:stp b (TZ xs)=r'):Gl (R .ret af st):=⟨(hR.go af st xs m m1 n' h1 h2 rfl h4 h5).1⟩
def Atk{R:APost}{rs:List ResultVar}{b:Bool}{r':AVal}{xs:List AVal} (hR:RH E rs R b m n r') (h1:RA E rs af st=some (xs,⟨m1,n'⟩)) (h2:m.Sublist m1) (h4:n<=n') (h5:stp b (TZ xs)=r'):Gl (R .normal af st):=⟨(hR.go af st xs m m1 n' h1 h2 rfl h4 h5).2⟩
def Aq5{v:β} (h:T/\some v=some r):T/\v=r:=⟨h.1,cQ h.2⟩
theorem AsD{σ:Type}{V:σ->List AVal}{Ms:σ->List BX}{X:Option β}{G B:Nat->σ->Option β}{k:Nat}{s:σ} [i:LF X G B k s js cs V Ms] (h:T/\X=some r) (hD:DD D) (hm:SubW (reB (Ms s) m) m) (hv:WkL (DN (DJ js af) cs) (V s)) (round: ∀k s n',n<=n'->T/\B k s=some r->∀J,LOK G r k js cs V Ms af m n' J->Gl (wpd E D c (Ka J Q) (setVals (DJ js af) cs (V s)) ⟨reB (Ms s) m,n'⟩)):Gl (AWp E (.loop c) Q af ⟨m,n⟩):=by
 rw[Eg]at hv;refine⟨XJ (rgs js) cs (λk vs st'=>∃s,vs=V s/\st'.m=reB (Ms s) m/\n<=st'.next/\G k s=some r) k hv hm ⟨s,rfl,rfl,aw _,i.eq▸h.2⟩ ?_⟩;rintro k vs ⟨m',n'⟩ ⟨s,rfl,hm',hn,hG⟩ J hJ;simp only at hm' hn;subst hm';cases k with
 |zero=>rw[i.z]at hG;grind
 | succ k=>
  have key:=λhJ'=>F4 (round k s n' hn ⟨h.1,i.u k s▸hG⟩ J hJ').go;rw[Eg]at key;refine(key ⟨λs' af' m0 m1 n'' h1 h2 h3 h4 h5 h6=>?_⟩).mono λe af' st' _ q=>by cases e<;>first| exact OH q| exact .oth fH q
  subst h3;rw[Eg,Eg]at h4;rw[Eg]at h5;exact hJ k af' ⟨m1,n''⟩ _ _ (eZ _) h2 h4 h5 ⟨s',rfl,rfl,bA hn h6,h1⟩
theorem Ai0{α σ:Type}{V:Int->σ->List AVal}{Ms:Int->σ->List BX}{X:Option β}{G:List α->Int->σ->Option β}{Bn:Int->σ->Option β}{Bc:α->List α->Int->σ->Option β}{L:List α}{s:σ} [ii:LR X G Bn Bc L 0 s js cs V Ms] (h:T/\X=some r) (hD:DD D) (hL:AL L.length) (hm:SubW (reB (Ms 0 s) m) m) (hv:WkL (DN (DJ js af) cs) (V 0 s)) (rnil: ∀i s n',n<=n'->(decide (i<(L.length:Int))=false/\T)/\Bn i s=some r->Gl (wpd E D c (Ka (λ_ _=>False) Q) (setVals (DJ js af) cs (V i s)) ⟨reB (Ms i s) m,n'⟩)) (rcons: ∀x xs i s n',n<=n'->(decide (i<(L.length:Int))=true/\idx L i=some x/\wr .i64 (i+1)=i+1/\T)/\Bc x xs i s=some r->∀J,ROK G r xs (i+1) js cs V Ms af m n' J->Gl (wpd E D c (Ka J Q) (setVals (DJ js af) cs (V i s)) ⟨reB (Ms i s) m,n'⟩)):Gl (AWp E (.loop c) Q af ⟨m,n⟩):=by
 rw[Eg]at hv;refine⟨XJ (rgs js) cs (λk vs st'=>∃pre suf s,L=pre++suf/\k=suf.length/\vs=V pre.length s/\st'.m=reB (Ms pre.length s) m/\n<=st'.next/\G suf pre.length s=some r) L.length hv hm ⟨[],L,s,rfl,rfl,rfl,rfl,aw _,ii.eq▸h.2⟩ ?_⟩;rintro k vs ⟨m',n'⟩ ⟨pre,suf,s,hp,rfl,rfl,hm',hn,hG⟩ J hJ;simp only at hm' hn;subst hm';cases suf with
 | nil=>have key:=F4 (rnil _ s n' hn ⟨⟨by grind,h.1⟩,ii.un _ s▸hG⟩).go;rw[Eg]at key;exact key.mono λe af' st' _ q=>by cases e<;>first| exact q.elim| exact .oth fH q
 | cons x xs=>
  obtain⟨f1,f2,f3⟩:=Aas hp hL;have key:=λhJ'=>F4 (rcons x xs _ s n' hn ⟨⟨f1,f2,f3,h.1⟩,ii.uc x xs _ s▸hG⟩ J hJ').go;rw[Eg]at key;refine(key ⟨λs' af' m0 m1 n'' h1 h2 h3 h4 h5 h6=>?_⟩).mono λe af' st' _ q=>by cases e<;>first| exact OH q| exact .oth fH q
  have e1:((pre.length:Int)+1)=((pre++[x]).length:Int):=fH;rw[e1]at h1 h3 h5;subst h3;rw[Eg,Eg]at h4;rw[Eg]at h5;exact hJ xs.length af' ⟨m1,n''⟩ _ _ fH h2 h4 h5 ⟨pre++[x],xs,s',by grind,rfl,rfl,rfl,bA hn h6,h1⟩
theorem As5{α σ:Type}{V:Int->σ->List AVal}{Ms:Int->σ->List BX}{X:Option β}{G:List α->Int->σ->Option β}{Bn:Int->σ->Option β}{Bc:α->List α->Int->σ->Option β}{L:List α}{i:Int}{s:σ} [ii:LQ X G Bn Bc L s js cs V Ms] (h:T/\X=some r) (hj:ROK G r L i js cs V Ms af0 m n J) (h2:SubW (reB (Ms i s) m) m1) (h4:Al cs (DJ js af)=Al cs (DJ js af0)) (h5:WkL (DN (DJ js af) cs) (V i s)) (h6:n<=n'):Gl (J af ⟨m1,n'⟩):=⟨hj.go s af _ m1 n' (ii.eq i▸h.2) h2 rfl h4 h5 h6⟩
theorem ApM{α σ:Type}{V:Int->σ->List AVal}{Ms:Int->σ->List BX}{X:Option β}{G:List α->Int->σ->Option β}{Bn:Int->σ->Option β}{Bc:α->List α->Int->σ->Option β}{L:List α}{s:σ} [ii:LQ X G Bn Bc L s js cs V Ms] (h:T/\X=some r) (hD:DD D) (hL:AL L.length) (hm:SubW (reB (Ms 0 s) m) m) (hv:WkL (DN (DJ js af) cs) (V 0 s))
    (rnil: ∀i s n',n<=n'->(decide (i<(L.length:Int))=false/\T)/\Bn i s=some r->Gl (wpd E D c (Ka (λ_ _=>False) Q) (setVals (DJ js af) cs (V i s)) ⟨reB (Ms i s) m,n'⟩))
    (rcons: ∀x xs i s n',n<=n'->(decide (i<(L.length:Int))=true/\idx L i=some x/\wr .i64 (i+1)=i+1/\T)/\Bc x xs i s=some r-> ∀J,ROK G r xs (i+1) js cs V Ms af m n' J->Gl (wpd E D c (Ka J Q) (setVals (DJ js af) cs (V i s)) ⟨reB (Ms i s) m,n'⟩)):Gl (AWp E (.loop c) Q af ⟨m,n⟩):=
  haveI:LR X G Bn Bc L 0 s js cs V Ms:=⟨ii.eq 0,ii.un,ii.uc⟩
  Ai0 h hD hL hm hv rnil rcons
theorem AtJ{σ:Type}{V:Int->σ->List AVal}{Ms:Int->σ->List BX}{X:Option β}{G:Nat->Int->σ->Option β}{Bn:Int->σ->Option β}{Bc:Nat->Int->σ->Option β}{k:Nat}{i:Int}{s:σ} [ii:LC X G Bn Bc k i s js cs V Ms] (h:T/\X=some r) (hj:COK G r k i js cs V Ms af0 m n J) (h2:SubW (reB (Ms i s) m) m1) (h4:Al cs (DJ js af)=Al cs (DJ js af0)) (h5:WkL (DN (DJ js af) cs) (V i s)) (h6:n<=n'):Gl (J af ⟨m1,n'⟩):=⟨hj.go s af _ m1 n' (ii.eq▸h.2) h2 rfl h4 h5 h6⟩
theorem As4{σ:Type}{V:Int->σ->List AVal}{Ms:Int->σ->List BX}{X:Option β}{G:Nat->Int->σ->Option β}{Bn:Int->σ->Option β}{Bc:Nat->Int->σ->Option β}{k:Nat}{i:Int}{s:σ} [ii:LU X G Bn Bc k s js cs V Ms] (h:T/\X=some r) (hj:COK G r k i js cs V Ms af0 m n J) (h2:SubW (reB (Ms i s) m) m1) (h4:Al cs (DJ js af)=Al cs (DJ js af0)) (h5:WkL (DN (DJ js af) cs) (V i s)) (h6:n<=n'):Gl (J af ⟨m1,n'⟩):=⟨hj.go s af _ m1 n' (ii.eq i▸h.2) h2 rfl h4 h5 h6⟩
theorem Agb{σ:Type}{V:Int->σ->List AVal}{Ms:Int->σ->List BX}{X:Option β}{G:Nat->Int->σ->Option β}{Bn:Int->σ->Option β}{Bc:Nat->Int->σ->Option β}{i0 b:Int}{s:σ} [ii:LC X G Bn Bc (b-i0).toNat i0 s js cs V Ms] (h:T/\X=some r) (hD:DD D) (hL: -4611686018427387904<=i0/\b<=4611686018427387904) (hm:SubW (reB (Ms i0 s) m) m) (hv:WkL (DN (DJ js af) cs) (V i0 s)) (rnil: ∀i s n',n<=n'->(decide (i<b)=false/\T)/\Bn i s=some r->Gl (wpd E D c (Ka (λ_ _=>False) Q) (setVals (DJ js af) cs (V i s)) ⟨reB (Ms i s) m,n'⟩)) (rcons: ∀k i s n',n<=n'->(decide (i<b)=true/\wr .i64 (i+1)=i+1/\T)/\Bc k i s=some r->∀J,COK G r k (i+1) js cs V Ms af m n' J->Gl (wpd E D c (Ka J Q) (setVals (DJ js af) cs (V i s)) ⟨reB (Ms i s) m,n'⟩)):Gl (AWp E (.loop c) Q af ⟨m,n⟩):=by
 rw[Eg]at hv;refine⟨XJ (rgs js) cs (λk vs st'=>∃i s,i0<=i/\k=(b-i).toNat/\vs=V i s/\st'.m=reB (Ms i s) m/\n<=st'.next/\G k i s=some r) (b-i0).toNat hv hm ⟨i0,s,bu _,rfl,rfl,rfl,aw _,ii.eq▸h.2⟩ ?_⟩;rintro k vs ⟨m',n'⟩ ⟨i,s,hi,hk',rfl,hm',hn,hG⟩ J hJ;simp only at hm' hn;subst hm';cases k with
 | zero=>have key:=F4 (rnil _ s n' hn ⟨⟨by grind,h.1⟩,ii.un _ s▸hG⟩).go;rw[Eg]at key;exact key.mono λe af' st' _ q=>by cases e<;>first| exact q.elim| exact .oth fH q
 | succ k=>
  have hw:wr .i64 (i+1)=i+1:=by grind[wr,IntKind.wrap,IntKind.bits,IntKind.signed]
  have key:=λhJ'=>F4 (rcons k i s n' hn ⟨⟨by simp only[au];omega,hw,h.1⟩,ii.uc k i s▸hG⟩ J hJ').go;rw[Eg]at key;refine(key ⟨λs' af' m0 m1 n'' h1 h2 h3 h4 h5 h6=>?_⟩).mono λe af' st' _ q=>by cases e<;>first| exact OH q| exact .oth fH q
  subst h3;rw[Eg,Eg]at h4;rw[Eg]at h5;exact hJ k af' ⟨m1,n''⟩ _ _ fH h2 h4 h5 ⟨i+1,s',fG,fG,rfl,rfl,bA hn h6,h1⟩
theorem AqP{σ:Type}{V:Int->σ->List AVal}{Ms:Int->σ->List BX}{X:Option β}{G:Nat->Int->σ->Option β}{Bn:Int->σ->Option β}{Bc:Nat->Int->σ->Option β}{i0 b:Int}{s:σ} [ii:LU X G Bn Bc (b-i0).toNat s js cs V Ms] (h:T/\X=some r) (hD:DD D) (hL: -4611686018427387904<=i0/\b<=4611686018427387904) (hm:SubW (reB (Ms i0 s) m) m) (hv:WkL (DN (DJ js af) cs) (V i0 s))
    (rnil: ∀i s n',n<=n'->(decide (i<b)=false/\T)/\Bn i s=some r->Gl (wpd E D c (Ka (λ_ _=>False) Q) (setVals (DJ js af) cs (V i s)) ⟨reB (Ms i s) m,n'⟩))
    (rcons: ∀k i s n',n<=n'->(decide (i<b)=true/\wr .i64 (i+1)=i+1/\T)/\Bc k i s=some r-> ∀J,COK G r k (i+1) js cs V Ms af m n' J->Gl (wpd E D c (Ka J Q) (setVals (DJ js af) cs (V i s)) ⟨reB (Ms i s) m,n'⟩)):Gl (AWp E (.loop c) Q af ⟨m,n⟩):=
  haveI:LC X G Bn Bc (b-i0).toNat i0 s js cs V Ms:=⟨ii.eq i0,ii.un,ii.uc⟩
  Agb h hD hL hm hv rnil rcons
def Asr{G:Prop} (h:T/\(none:Option β)=some r):G:=by grind
def Att{α:Type}{u:α}{f:α->Option β} (h:T/\letL u f=some r): ∃y,u=y/\T/\f y=some r:=⟨u,rfl,h⟩
def Asm{α:Type}{l:List α}{i:Int}{f:α->Option β} (h:T/\Option.bind (idx l i) f=some r): ∃y,(idx l i=some y/\T)/\f y=some r:=Fx h
def AtI{α:Type}{l:List α}{i j:Int}{f:List α->Option β} (h:T/\Option.bind (sub l i j) f=some r): ∃y,(sub l i j=some y/\T)/\f y=some r:=Fx h
def isW (x:Gl (wpd E D c K af st)):Gl (wpd E D c K af st):=x
def isC{f:FuncId}{args:List AVal}{Q:PQ} (x:Gl (ACall E f args st Q)):Gl (ACall E f args st Q):=x
def isA (x:Gl (AWp E c K af st)):Gl (AWp E c K af st):=x
end rules
end Go.VM
namespace Go.VM
def tD{G:Prop} (x:G:=by first|(simp(disch:=omega) only[vm,seval,h.1];done)|rfl):G:=x
def tR{G:Prop} (x:G:=by
 obtain⟨H,h⟩:=h;cases h;simp(disch:= omega) only[vm,seval,H];refine⟨(hR _ _ _ _ _ _ (by simp(disch:= omega) only[vm,seval,H];rfl) ?_ rfl fG ?_).1⟩;·first| ((repeat (first| exact cm _| apply cF));done)| (simp(disch:= omega) only[vm,seval,H];(repeat (first| exact cm _| apply cF));done)
 ·first| (simp(disch:= omega) only[vm,seval,H];done)| rfl):G:=x
def tJ{A G:Prop} (a:A) (x:A->G:=by
  intro hz
  simp(disch:=omega) only[vm,seval,h.1]
  refine⟨hz _ _ _ _ h.2 ?_ rfl ?_ ?_ fG⟩
  . first|((repeat (first|exact cm _|apply cF));done)|(simp(disch:=omega) only[vm,seval,h.1];(repeat (first|exact cm _|apply cF));done)
  all_goals first|(simp(disch:=omega) only[vm,seval,h.1];done)|rfl):G:=x a
end Go.VM
