import Derived.Laws.RangeString
import Derived.Laws.RangeAny
import Derived.Lib.OthersKept
import Derived.Lib.MakeNoZero
import Derived.Test.YtjmejdocgdbklaaGreatDoorVM1
import Derived.Test.YtjmejdocgdbklaaGreatDoorVM4
import Derived.Scope
set_option linter.defProp false
set_option linter.unusedSimpArgs false
set_option linter.unusedVariables false
namespace Go.VM
def QQ (mv:List Tmp) (dst:Option Tmp):Bool:=match dst with|some d=>mv.contains d|none=>false
def Dv (s:B8) (pos:Nat):Nat×Nat:=Utf8.decode ⟨s.toArray⟩ pos
def AEo (s:B8) (pos:Nat) (t:Tmp) (d:Option Tmp) (af:List AVal):List AVal:=if decide (pos<s.length)=true then BL (af.set t (.iter s (pos+(Dv s pos).2))) d (.tuple [.bool true,.int .i64 pos,.int .i32 (Dv s pos).1]) else BL af d (.tuple [.bool false])
def Fj (E:Env) (mv:List Tmp) (o:Oper) (af:List AVal) (st:St):Option (List AVal×St):=match o.op with
 |.move x=>if QQ mv o.dst=true then some (BL (stripAt af x) o.dst (rd E af o.type x),st)else some (BL af o.dst (rd E af o.type x).strip,st)
 |.assign x=>some (BL (stripAt af x) o.dst (rd E af o.type x),st)
 |.alloc t=>(if QQ mv o.dst=true then Vo E.P t st.next else Ee E.P t st.next).map λcs=>(BL af o.dst (.ptr st.next 0),{m:=(st.next,cs)::st.m,next:=st.next+1})
 |.box t x=>if EY (rd E af t x)=true then some (BL (stripAt af x) o.dst (.ptr st.next 0),{m:=(st.next,Ag (rd E af t x))::st.m,next:=st.next+1})else none
 |.build t ⟨ps⟩=>(Tp E t (Bb E (Ab E.P t) af ps).2).map λr=>(BL (Bb E (Ab E.P t) af ps).1 o.dst r,st)
 | .buildSlice t len ⟨ps⟩=>if QQ mv o.dst=true then(Jb E t len (Bb E (λ_=>Ab E.P t 0) af ps).2).map λp=>(BL (Bb E (λ_=>Ab E.P t 0) af ps).1 o.dst (.gsl p.1 st.next len),{m:=(st.next,p.2)::st.m,next:=st.next+1}) else(Ib E t len (Bb E (λ_=>Ab E.P t 0) af ps).2).map λr=>(BL af o.dst r,st)
 | .load t x=>if QQ mv o.dst=true then(Q4 E t (rd E af 0 x) st).map λp=>(BL af o.dst p.1,p.2) else(RY E t (rd E af 0 x) st).map λr=>(BL af o.dst r.strip,st)
 |.store t x y=>if o.dst.isNone=true then(O5 E t (rd E af 0 x) (rd E af t y) st).map λst'=>(stripAt af y,st')else none
 | .extract (.tmp t) n=>match af.getD t .any with |.tuple vs=>(vs[n]?).map λr=>(BL (af.set t (.tuple (vs.set n r.strip))) o.dst r,st)|_=>none
 | .range t x=>match rd E af t x with |.str s=>if EN E.P t=true then some (BL af o.dst (.iter s 0),st)else none|_=>none
 | .next (.tmp t) true=>match af.getD t .any with |.iter s pos=>some (AEo s pos t o.dst af,st)|_=>none
 | .slice t x lo hi mx=>match rdo E af lo,rdo E af hi,rdo E af mx with |some l,some h,some m=>(Gn E t (rd E af t x) l h m).map λr=>(BL af o.dst r,st)|_,_,_=>none
 | .call {callee:=.builtin .append,args:=⟨[x,y]⟩,argTypes:=⟨t0::t1::_⟩}=>if QQ mv o.dst=true then(PO E t0 t1 (rd E af t0 x) (rd E af t1 y)).map λr=>(BL (stripAt af x) o.dst (.sh st.next),{m:=(st.next,[r])::st.m,next:=st.next+1}) else(JN E t0 t1 (rd E af t0 x) (rd E af t1 y)).map λr=>(BL (stripAt af x) o.dst r,st)
 |.makeMap t none=>some (BL af o.dst (.sh st.next),{m:=(st.next,[.map [] []])::st.m,next:=st.next+1})
 |.lookup t m k ok=>(P8 E t (rd E af t m) (rd E af 0 k) ok st).map λr=>(BL af o.dst r,st)
 |.mapUpdate t m k x=>if o.dst.isNone=true then(Sq E t (rd E af t m) (rd E af 0 k) (rd E af 0 x) st).map λst'=>(af,st')else none
 |.insert t m k x=>if o.dst.isNone=true then(Sq E t (rd E af t m) (rd E af 0 k) (rd E af 0 x) st).map λst'=>(af,st')else none
 | .indexAddr t x i=>match EO E o af with |some r=>some (BL af o.dst r.strip,st)|none=>(KO E t (rd E af t x) (rd E af 0 i) st).map λr=>(BL af o.dst r,st)
 |.makeSlice t x y=>(if QQ mv o.dst=true then Wj E t (rd E af 0 x) (rd E af 0 y) st else Xa E t (rd E af 0 x) (rd E af 0 y) st).map λp=>(BL af o.dst p.1,p.2)
 | .convert s d x=>match EO E o af with |some r=>some (BL af o.dst r.strip,st)| none=>match TE E s d (rd E af s x) st with |some r=>some (BL af o.dst r,st)|none=>(RZ E s d (rd E af s x) st).map λp=>(BL af o.dst p.1,p.2)
 |.call {callee:=.builtin .unsafeSliceData,args:=⟨[x]⟩,argTypes:=⟨t0::_⟩}=>(UD (rd E af t0 x)).map λr=>(BL (stripAt af x) o.dst r,st)
 |.call {callee:=.builtin .unsafeString,args:=⟨[x,y]⟩,argTypes:=⟨[t0,t1]⟩}=>(WU E t0 (rd E af t0 x) (rd E af t1 y)).map λr=>(BL (stripAt af x) o.dst r,st)
 |_=>(EO E o af).map λr=>(BL af o.dst r.strip,st)
section
variable{E:Env}{F:Nat->Nat}{Γ:Ghost}{st:St}{w:World}{af:List AVal}{a:Act}
theorem AZG (vs:List Value) (t:Nat) (d:Value):vs.set t (vs.getD t d)=vs:=by apply cx;grind
def Sim.newIter (hs:Sim E F Γ st w af a.tmps.toList) (sb:ByteArray) (p:Nat):Sim E F Γ st (w.iter sb p) af a.tmps.toList/\Ext F Γ w Γ (w.iter sb p):=by
 have hold: ∀n,n<w.heap.size->(w.iter sb p).heap[n]?=w.heap[n]?:=λn hn=>alloc_old (.stringIter sb p) hn;have hsz:(w.iter sb p).heap.size=w.heap.size+1:=by simp[World.iter]
 refine⟨hs.elsewhere (b:=w.heap.size) (λn hn _=>hold n hn) fy (hs.com_none (aw _)) (λi hi h=>?_) ?_ ?_,⟨Γ.le_refl,λn hn=>⟨hold n (hs.F_of hn),rfl⟩,fy,rfl,rfl,rfl⟩⟩;·have:=hs.bx_lt _ _ h;omega
 ·rcases aS 0 (AU w.heap.size af a.tmps.toList)with h|h;·have:=(CS _ _ hs.own h).1;omega
  omega
 ·rcases aS 0 (Ay Γ w w.heap.size st.m)with h|h;·have:=AAN hs h;omega
  omega
def Sim.iterTo (hs:Sim E F Γ st w af a.tmps.toList){t:Tmp}{s:B8}{pos:Nat} (hx:af.getD t .any=.iter s pos){b:Nat}{sb:ByteArray} (hv:a.tmps.toList.getD t undef=.pointer (some ⟨b,0,none⟩)) (hsb:sb.data.toList=s) (hh:w.heap[b]?=some (.stringIter sb pos)) (pos':Nat):Sim E F Γ st (w.iterAt b sb pos') (af.set t (.iter s pos')) a.tmps.toList/\Ext F Γ w Γ (w.iterAt b sb pos'):=by
 have e:=OQ b af a.tmps.toList t undef hs.rep.length;rw[hx,hv]at e;have e1:cnt b (.iter s pos) (.pointer (some ⟨b,0,none⟩))=1:=by simp[cnt,Qi]
 rw[e1]at e;have e2:(AVal.iter s pos).strip=.any:=by simp[AVal.strip]
 rw[e2]at e;have tk:=hs.tok b;have hlt:b<w.heap.size:=(aZ.1 hh).1;have hold: ∀n,n≠b->(w.iterAt b sb pos').heap[n]?=w.heap[n]?:=λn hn=>by grind[World.iterAt]
 have hsz:(w.iterAt b sb pos').heap.size=w.heap.size:=by simp[World.iterAt]
 have hnew:(w.iterAt b sb pos').heap[b]?=some (.stringIter sb pos'):=by grind[World.iterAt]
 have hs0:Sim E F Γ st w (af.set t .any) a.tmps.toList:=by have:=hs.stripAt (.tmp t);grind[VM.stripAt]
 have hcom:Γ.com b=none:=by cases hc:Γ.com b with |none=>rfl|some cs=>obtain⟨ar,e',fz,q2,_⟩:=hs.com_ok b cs hc;grind
 have s1:Sim E F Γ st (w.iterAt b sb pos') (af.set t .any) a.tmps.toList:=hs0.elsewhere (b:=b) (λn _ hn=>hold n hn) fy hcom (λi hi h=>by
  obtain⟨p,hp,rfl⟩:=bu.1 hi;rcases hs.box_ok p hp with⟨k,ar,e',hb⟩|⟨v,hv⟩;rotate_left;·have:=hv.bx;grind
  obtain⟨lo,hh2,q3,_⟩:=hb.heap;have:=hb.bx;grind) fy fy;refine⟨?_,⟨Γ.le_refl,λn hn=>⟨hold n (λe=>by grind),rfl⟩,fy,rfl,rfl,rfl⟩⟩;have hset:a.tmps.toList=a.tmps.toList.set t (.pointer (some ⟨b,0,none⟩)):=by grind[AZG]
 have hss:af.set t (.iter s pos')=(af.set t .any).set t (.iter s pos'):=fA;rw[hss];have h5: ∀n,AU n ((af.set t .any).set t (.iter s pos')) a.tmps.toList<=AU n (af.set t .any) a.tmps.toList+cnt n (.iter s pos') (.pointer (some ⟨b,0,none⟩)):=λn=>by grind[JQ]
 refine {s1 with rep:=?_,own:=?_,tok:=?_};·have:=s1.rep.set t (x:=.iter s pos') (v:=.pointer (some ⟨b,0,none⟩)) (.iter _ _ _);grind
 ·have:=s1.own.set t (x:=.iter s pos') (v:=.pointer (some ⟨b,0,none⟩)) (by simp only[VM.own];exact⟨b,sb,rfl,hsb,hnew⟩);grind
 ·intro n;have q1:=h5 n;have q2:=s1.tok n;by_cases hn:n=b
  ·subst hn;have q3:Ay Γ (w.iterAt n sb pos') n st.m=0:=by
    rw[Gh (w:=w) λp hp=>⟨rfl,λk hk=>hold k (λe=>by
     subst e;rcases hs.box_ok p hp with⟨k2,ar,e',hb⟩|⟨v,hv⟩;rotate_left;·have:=hv.bx;grind
     obtain⟨lo,hh2,q3,_⟩:=hb.heap;have:=hb.bx;grind)⟩];omega
   grind[cnt,Qi]
  grind[cnt,Qi]
def Zm{b:ByteArray}{s:B8} (h:b.data.toList=s):b=⟨s.toArray⟩:=by subst h;simp
theorem ASh (hs:Sim E F Γ st w af a.tmps.toList){o:Oper}{t:TypeId}{x:Operand}{s:B8} (hop:o.op=.range t x) (hx:rd E af t x=.str s) (ht:EN E.P t=true):∃nx w' a' Γ',Stepped E F Γ st w a o (BL af o.dst (.iter s 0)) st nx w' a' Γ':=by
 have hr:=hs.rd t x;rw[hx]at hr;generalize hv:a.eval x=v at hr;cases hr;rename_i sb hn;have hrun:=run_range_string (P:=E.P) w t sb (DF ht);refine⟨.value (.pointer (some ⟨w.heap.size,0,none⟩)),w.iter sb 0,a.put o.dst (.pointer (some ⟨w.heap.size,0,none⟩)),Γ,?_,λK Q hk=>hk,put_defers _ _ _,?_,aw _,?_⟩;·simp_all[execOp]
 ·exact(hs.newIter sb 0).2
 ·refine(hs.newIter sb 0).1.put o.dst (.iter _ _ _) ?_ ?_;·simp only[VM.own];exact⟨_,sb,rfl,rfl,World.iter_heap w sb 0⟩
  ·intro b;have h1:=hs.tok b;have h2:=(hs.newIter sb 0).1.tok b;simp only[cnt,Qi];split
   ·rename_i e;have h3:F b=0:=hs.F_lt b fy;have h4:AU b af a.tmps.toList=0:=by
     rcases aS 0 (AU b af a.tmps.toList)with h|h;·have:=(CS _ _ hs.own h).1;omega
     omega
    have h5:Ay Γ (w.iter sb 0) b st.m=0:=by
     rw[Gh (Γ:=Γ) (w:=w) (w':=w.iter sb 0) λp hp=>⟨rfl,λk hk=>alloc_old (.stringIter sb 0) (hs.bx_lt _ _ hk)⟩];rcases aS 0 (Ay Γ w b st.m)with h|h;·have:=AAN hs h;omega
     omega
    omega
   omega
theorem AZR (hs:Sim E F Γ st w af a.tmps.toList){o:Oper}{t:Tmp}{s:B8}{pos:Nat} (hop:o.op=.next (.tmp t) true) (hx:af.getD t .any=.iter s pos):∃nx w' a' Γ',Stepped E F Γ st w a o (AEo s pos t o.dst af) st nx w' a' Γ':=by
 have ho:=hs.own.get hs.rep.length t undef;rw[hx]at ho;simp only[VM.own]at ho;obtain⟨b,sb,hv,hsb,hh⟩:=ho;have hev:a.eval (.tmp t)=.pointer (some ⟨b,0,none⟩):=by grind[Act.eval,Array.getD_toList']
 have hlen:sb.size=s.length:=by rw[<-hsb,aH];rfl
 unfold AEo;split
 ·rename_i hlt;have hlt:pos<sb.size:=by grind
  have hrun:=Go.Lib.run_next_any_at (P:=E.P) w b sb pos o.type hh hlt;have hde:Utf8.decode sb pos=Dv s pos:=by rw[Zm hsb];rfl
  rw[hde]at hrun;obtain⟨s1,x1⟩:=hs.iterTo (t:=t) hx hv hsb hh (pos+(Dv s pos).2);refine⟨.value (.tuple #[.bool true,.int .i64 pos,.int .i32 (Dv s pos).1]),w.iterAt b sb (pos+(Dv s pos).2),a.put o.dst (.tuple #[.bool true,.int .i64 pos,.int .i32 (Dv s pos).1]),Γ,?_,λK Q hk=>hk,put_defers _ _ _,x1,aw _,?_⟩;·simp_all[execOp]
  ·refine s1.put o.dst (r:=.tuple [.bool true,.int .i64 pos,.int .i32 (Dv s pos).1]) (.tuple (.cons (.bool _) (.cons (.int _ _) (.cons (.int _ _) .nil)))) (by simp[VM.own,ownL]) λn=>?_;have:=s1.tok n;grind[cnt,AU]
 ·rename_i hlt;have hlt: ¬pos<sb.size:=by grind
  have hrun:=Go.Lib.run_next_end_at (P:=E.P) w b sb pos o.type hh hlt;refine⟨.value (.tuple #[.bool false]),w,a.put o.dst (.tuple #[.bool false]),Γ,?_,λK Q hk=>hk,put_defers _ _ _,Ext.refl _ _ _,aw _,?_⟩;·simp_all[execOp]
  ·refine hs.put o.dst (r:=.tuple [.bool false]) (.tuple (.cons (.bool _) .nil)) (by simp[VM.own,ownL]) λn=>?_;have:=hs.tok n;grind[cnt,AU]
def SC (hs:Sim E F Γ st w af a.tmps.toList){mv:List Tmp}{o:Oper}{af':List AVal}{st':St} (h:Fj E mv o af st=some (af',st')):∃nx w' a' Γ',Stepped E F Γ st w a o af' st' nx w' a' Γ':=by
 unfold Fj at h;split at h
 ·rename_i x hop;split at h;·simp only[aj,aD]at h;obtain⟨rfl,rfl⟩:=h;grind[AEm]
  ·simp only[aj,aD]at h;obtain⟨rfl,rfl⟩:=h;exact⟨.value (a.eval x),w,a.put o.dst (a.eval x),Γ,by simp[execOp,hop],λK Q hk=>hk,put_defers _ _ _,Ext.refl _ _ _,aw _,hs.putStrip o.dst (hs.rd o.type x)⟩
 ·rename_i x hop;simp only[aj,aD]at h;obtain⟨rfl,rfl⟩:=h;exact AEm hs (.inr hop)
 ·rename_i t hop;split at h;·cases hz:Vo E.P t st.next with |none=>grind| some z=>simp only[hz,aQ,aj,aD]at h;obtain⟨rfl,rfl⟩:=h;grind[APv]
  ·cases hz:Ee E.P t st.next with |none=>grind| some z=>simp only[hz,aQ,aj,aD]at h;obtain⟨rfl,rfl⟩:=h;grind[ATo]
 ·rename_i t x hop;split at h;·rename_i hx;simp only[aj,aD]at h;obtain⟨rfl,rfl⟩:=h;grind[ATh]
  grind
 ·rename_i t ps hop;cases hz:Tp E t (Bb E (Ab E.P t) af ps).2 with |none=>grind| some z=>simp only[hz,aQ,aj,aD]at h;obtain⟨rfl,rfl⟩:=h;grind[AUS]
 ·rename_i t len ps hop;split at h;·cases hz:Jb E t len (Bb E (λ_=>Ab E.P t 0) af ps).2 with |none=>grind| some z=>obtain⟨z,cs⟩:=z;simp only[hz,aQ,aj,aD]at h;obtain⟨rfl,rfl⟩:=h;grind[X9]
  cases hz:Ib E t len (Bb E (λ_=>Ab E.P t 0) af ps).2 with |none=>grind| some z=>simp only[hz,aQ,aj,aD]at h;obtain⟨rfl,rfl⟩:=h;grind[Z7]
 ·rename_i t x hop;split at h;·cases hz:Q4 E t (rd E af 0 x) st with |none=>grind| some z=>obtain⟨r,s⟩:=z;simp only[hz,aQ,aj,aD]at h;obtain⟨rfl,rfl⟩:=h;grind[AOU]
  ·cases hz:RY E t (rd E af 0 x) st with |none=>grind| some z=>simp only[hz,aQ,aj,aD]at h;obtain⟨rfl,rfl⟩:=h;grind[AXT]
 ·rename_i t x y hop;split at h;·rename_i hd;cases hz:O5 E t (rd E af 0 x) (rd E af t y) st with |none=>grind| some z=>simp only[hz,aQ,aj,aD]at h;obtain⟨rfl,rfl⟩:=h;exact ATS hs hop (by simp_all) hz
  grind
 ·rename_i t n hop;split at h;·rename_i vs hv;cases hz:vs[n]? with |none=>grind| some z=>simp only[hz,aQ,aj,aD]at h;obtain⟨rfl,rfl⟩:=h;exact AIE hs hop hv hz
  grind
 ·rename_i t x hop;split at h
  ·rename_i s hx;split at h;·rename_i ht;simp only[aj,aD]at h;obtain⟨rfl,rfl⟩:=h;grind[ASh]
   grind
  grind
 ·rename_i t hop;split at h;·rename_i s pos hx;simp only[aj,aD]at h;obtain⟨rfl,rfl⟩:=h;grind[AZR]
  grind
 ·rename_i t x lo hi mx hop;split at h;·rename_i l hh m h1 h2 h3;cases hz:Gn E t (rd E af t x) l hh m with |none=>grind| some z=>simp only[hz,aQ,aj,aD]at h;obtain⟨rfl,rfl⟩:=h;grind[AUA]
  grind
 ·rename_i x y t0 t1 ts hop;split at h;·cases hz:PO E t0 t1 (rd E af t0 x) (rd E af t1 y)with |none=>grind| some z=>simp only[hz,aQ,aj,aD]at h;obtain⟨rfl,rfl⟩:=h;grind[AKs]
  cases hz:JN E t0 t1 (rd E af t0 x) (rd E af t1 y)with |none=>grind| some z=>simp only[hz,aQ,aj,aD]at h;obtain⟨rfl,rfl⟩:=h;grind[AQm]
 ·rename_i t hop;simp only[aj,aD]at h;obtain⟨rfl,rfl⟩:=h;grind[AJ2]
 ·rename_i t m k ok hop;cases hz:P8 E t (rd E af t m) (rd E af 0 k) ok st with |none=>grind| some z=>simp only[hz,aQ,aj,aD]at h;obtain⟨rfl,rfl⟩:=h;grind[APF]
 ·rename_i t m k x hop;split at h;·rename_i hd;cases hz:Sq E t (rd E af t m) (rd E af 0 k) (rd E af 0 x) st with |none=>grind| some z=>simp only[hz,aQ,aj,aD]at h;obtain⟨rfl,rfl⟩:=h;exact Zf hs (.inl hop) (by simp_all) hz
  grind
 ·rename_i t m k x hop;split at h;·rename_i hd;cases hz:Sq E t (rd E af t m) (rd E af 0 k) (rd E af 0 x) st with |none=>grind| some z=>simp only[hz,aQ,aj,aD]at h;obtain⟨rfl,rfl⟩:=h;exact Zf hs (.inr hop) (by simp_all) hz
  grind
 ·rename_i t x i hop;split at h;·rename_i r hz;simp only[aj,aD]at h;obtain⟨rfl,rfl⟩:=h;grind[Yt]
  ·cases hz:KO E t (rd E af t x) (rd E af 0 i) st with |none=>grind| some z=>simp only[hz,aQ,aj,aD]at h;obtain⟨rfl,rfl⟩:=h;grind[Z0]
 ·rename_i t x y hop;split at h;·cases hz:Wj E t (rd E af 0 x) (rd E af 0 y) st with |none=>grind| some z=>simp only[hz,aQ,aj,aD]at h;obtain⟨rfl,rfl⟩:=h;grind[ASz]
  ·cases hz:Xa E t (rd E af 0 x) (rd E af 0 y) st with |none=>grind| some z=>simp only[hz,aQ,aj,aD]at h;obtain⟨rfl,rfl⟩:=h;grind[AWO]
 ·rename_i s d x hop;split at h;·rename_i r hz;simp only[aj,aD]at h;obtain⟨rfl,rfl⟩:=h;grind[Yt]
  ·split at h;·rename_i r hz;simp only[aj,aD]at h;obtain⟨rfl,rfl⟩:=h;grind[ARe]
   ·cases hz:RZ E s d (rd E af s x) st with |none=>grind| some z=>simp only[hz,aQ,aj,aD]at h;obtain⟨rfl,rfl⟩:=h;grind[ARb]
 ·rename_i x t0 ts hop;cases hz:UD (rd E af t0 x)with |none=>grind| some z=>simp only[hz,aQ,aj,aD]at h;obtain⟨rfl,rfl⟩:=h;grind[ARY]
 ·rename_i x y t0 t1 hop;cases hz:WU E t0 (rd E af t0 x) (rd E af t1 y)with |none=>grind| some z=>simp only[hz,aQ,aj,aD]at h;obtain⟨rfl,rfl⟩:=h;grind[AYo]
 ·cases hz:EO E o af with |none=>grind| some z=>simp only[hz,aQ,aj,aD]at h;obtain⟨rfl,rfl⟩:=h;grind[Yt]
end
def rdL (E:Env) (af:List AVal):List Operand->List TypeId->List AVal |[],_=>[]|x::xs,[]=>rd E af 0 x::rdL E af xs []|x::xs,t::ts=>rd E af t x::rdL E af xs ts
def callable (P:Program) (g:FuncId):Bool:=match P.funcs[g]? with | some fn=>fn.name != "runtime.NumGoroutine" && fn.body.isSome|none=>false
def Anz (E:Env) (g:FuncId) (args:List AVal) (st:St) (Q:AVal->St->Prop):Prop:=∃ fn e r,E.P.funcs[g]? = some fn/\(fn.name == "runtime.NumGoroutine") = false/\fn.body.isNone = true/\Extern.findNext fn = none/\Extern.find fn = some e/\(∀Γ vs w,RepL Γ args vs->∃v,(e vs.toArray).run E.P w=.ok v w/\Rep Γ r v)/\Q r.strip st
def AmU (E:Env) (g:FuncId) (args:List AVal) (st:St) (Q:AVal->St->Prop):Prop:=∃ fn ps t el,∃ n : Nat,E.P.funcs[g]? = some fn/\(fn.name == "runtime.NumGoroutine") = false/\fn.body.isNone = true/\Extern.findNext fn = none/\Extern.find fn = some (Extern.BytealgMakeNoZero.makeNoZero ps #[t])/\E.P.underlying t=some (.slice el)/\1<=n/\n<=140737488355328/\args=[.int .i64 n]/\Q (.trow el st.next n) {m:=(st.next,[.any])::st.m,next:=st.next+1}
def Zi (E:Env) (g:FuncId) (args:List AVal) (st:St) (Q:AVal->St->Prop):Prop:=Anz E g args st Q\/AmU E g args st Q
def ABy: ∀(n t:Nat) (acc:Array Value),(∀v,v∈acc.toList->v.oneCell'=true)->∀v,v∈(Extern.BytealgMakeNoZero.digits n t acc).toList->v.oneCell'=true
 |0,_,_,h=>h
 | n+1,t,acc,h=>by
  rw[Extern.BytealgMakeNoZero.digits];refine ABy n _ _ λv hv=>?_;rw[Array.toList_push,aX]at hv;rcases hv with hv|hv;·grind
  ·rw[bv]at hv;subst hv;rfl
def Ai6{P:Program} (w:World) (ps:Array TypeId) (t e:TypeId) (ht:P.underlying t=some (.slice e)) (n:Nat) (hn:n<=281474976710656):
    ∃cs:Array Value,(Extern.BytealgMakeNoZero.makeNoZero ps #[t] #[.int .i64 n]).run P w=.ok (.slice (some ⟨w.heap.size,0,none⟩) n cs.size) (w.drew.drew.alloc (.cells cs e))/\n<=cs.size/\ ∀v,v∈cs.toList->v.oneCell'=true:=by
  have h1: ¬(n:Int)<0:=fy
  have h2: ¬(281474976710656:Int)<(n:Int):=fy
  refine ⟨Extern.BytealgMakeNoZero.digits (grownCap w n 0 e) ((Question.extern "internal/bytealg.MakeNoZero.bytes" 0).cut (w.tape (w.drawn + 1) (.extern "internal/bytealg.MakeNoZero.bytes" 0))) #[], ?_, ?_, ABy _ _ _ fA⟩
  . show Sem.run P (do
        let TypeDesc.slice el<-underlying t|stuck _
        if(n:Int)<0||(n:Int)>2^48 then runtimePanic _
        let c<-choose (.appendCap (n:Int).toNat 0 el)
        askRoom c
        let bs<-choose (.extern _ 0)
        let a<-newRow el (Extern.BytealgMakeNoZero.digits c bs #[])
        pure (Value.slice (some a) (n:Int).toNat c):Sem Value) w=_
    simp[aG ht,h1,h2,Question.forced,newRow,Go.Lib.size_digits,grownCap]
  grind[Go.Lib.size_digits,Go.grownCap_ge]
def CallX (E:Env) (g:FuncId) (args:List AVal) (st:St) (Q:AVal->St->Prop):Prop:=if callable E.P g=true then ACall E g args st Q else Zi E g args st Q
def CallX.mono{E:Env}{st:St}{g:FuncId}{args:List AVal}{Q Q':AVal->St->Prop} (h:CallX E g args st Q) (k: ∀r st',st.next<=st'.next->Q r st'->Q' r st'):CallX E g args st Q':=by
 unfold CallX at *;split;·rename_i hc;rw[ah hc]at h;exact h.mono k
 ·rename_i hc;rw[ae hc]at h;rcases h with h|h;·obtain⟨fn,e,r,h1,h2,h3,h4,h5,h6,h7⟩:=h;exact .inl ⟨fn,e,r,h1,h2,h3,h4,h5,h6,k _ _ (aw _) h7⟩
  ·obtain⟨fn,ps,t,el,n,h1,h2,h3,h4,h5,h6,h7,h8,h9,h10⟩:=h;exact .inr ⟨fn,ps,t,el,n,h1,h2,h3,h4,h5,h6,h7,h8,h9,k _ _ (Nat.le_succ _) h10⟩
def VI:AVal->Bool |.gsl _ _ _=>true|_=>false
def AFu (x y:AVal):Bool:=VI y||VI x
def U0:BinOp->Operand->Bool |.eql,.const (.slice none 0 0)=>true|_,_=>false
def AdO (b:Bool) (v:AVal) (K:AVal->Prop):Prop:=match b,v with |true,.slice _ xs _=>∀c:Bool,(c=true->xs=[])->K (.bool c)|_,_=>False
def EA (E:Env) (mv:List Tmp) (o:Oper) (af:List AVal) (st:St) (K:List AVal->St->Prop):Prop:=match o.op with
 | .call {callee:=.value f,args,argTypes}=>match rd E af 0 f with |.fn (.func g) p q=>CallX E g (stripL (p++rdL E af args.toList argTypes.toList++q)) st λr st'=>K (BL af o.dst r) st'|_=>False
 | .call {callee:=.builtin .append,args:=⟨[x,y]⟩,argTypes:=⟨t0::t1::_⟩}=>if AFu (rd E af t0 x) (rd E af t1 y)=true then match appG E t0 t1 (rd E af t0 x) (rd E af t1 y) st with |some (wd,l,cs,rest,jo)=>∀i,i=st.next\/jo=some i->K (BL af o.dst (.gsl wd i l)) {m:=(i,cs)::rest,next:=st.next+1}|none=>False else match Fj E mv o af st with |some (af',st')=>K af' st'|none=>False
 | .binOp op t x y _=>if U0 op y=true then AdO (Dk E.P t) (rd E af t x) λv=>K (BL af o.dst v) st else match Fj E mv o af st with |some (af',st')=>K af' st'|none=>False
 | _=>match Fj E mv o af st with |some (af',st')=>K af' st'|none=>False
def Aqz (E:Env) (o:Oper) (af:List AVal) (st:St) (K:List AVal->St->Prop):Prop:=∀(F:Nat->Nat) (Γ:Ghost) (w:World) (a:Act),a.defers=[]->Sim E F Γ st w af a.tmps.toList->∀(K':Act->World->Prop) (Qx:Exit->Act->World->Prop),(∀Γ' af' st' a' w',Ext F Γ w Γ' w'->st.next<=st'.next->a'.defers=[]->Sim E F Γ' st' w' af' a'.tmps.toList->K af' st'->K' a' w')->o.wp E.P a w K' Qx
section
variable{E:Env}{F:Nat->Nat}{Γ:Ghost}{st:St}{w:World}{af:List AVal}{a:Act}
def RepL.append{xs ys:List AVal}{us vs:List Value} (h:RepL Γ xs us) (k:RepL Γ ys vs):RepL Γ (xs++ys) (us++vs):=by induction xs generalizing us with |nil=>cases h;exact k|cons x xs ih=>cases h with|cons h t=>exact .cons h (ih t)
def AJL (hs:Sim E F Γ st w af a.tmps.toList): ∀(xs:List Operand) (ts:List TypeId),RepL Γ (rdL E af xs ts) (xs.map a.eval) |[],_=>.nil|x::xs,[]=>.cons (hs.rd _ x) (AJL hs xs [])|x::xs,t::ts=>.cons (hs.rd _ x) (AJL hs xs ts)
def Sim.aside (hs:Sim E F Γ st w af a.tmps.toList){xs:List AVal}{vs:List Value} (hr:RepL Γ xs vs):Sim E (λb=>F b+AU b af a.tmps.toList) Γ st w (stripL xs) vs:=by
 refine {hs with bx_F:=?_,F_lt:=?_,rep:=hr.strip,own:=KR _ _ _ _,tok:=?_}
 ·intro p b hp hb;have h1:=hs.bx_F p b hp hb;have h2:AU b af a.tmps.toList=0:=by
   rcases aS 0 (AU b af a.tmps.toList)with h|h
   ·rcases hs.box_ok p hp with⟨b',arr,e,hk⟩|⟨v,hv⟩;rotate_left;·have:=hv.bx;grind
    have:=hk.bx;rw[hb]at this;cases this;rcases (CS _ _ hs.own h).2 with⟨c,hc⟩|⟨s0,p0,hc⟩|⟨s0,p0,hc⟩;·rw[hk.com]at hc;grind
    ·obtain⟨lo,hi,hh,_⟩:=hk.heap;grind
    ·obtain⟨lo,hi,hh,_⟩:=hk.heap;grind
   omega
  omega
 ·intro b hb;have h1:=hs.F_lt b hb;have h2:AU b af a.tmps.toList=0:=by
   rcases aS 0 (AU b af a.tmps.toList)with h|h;·have:=(CS _ _ hs.own h).1;omega
   omega
  omega
 ·intro b;have:=hs.tok b;grind[Ir]
def Sim.back (hs:Sim E F Γ st w af a.tmps.toList){Γ':Ghost}{st':St}{w':World}{r:AVal}{v:Value} (hx:Ext (λb=>F b+AU b af a.tmps.toList) Γ w Γ' w') (h:Sim E (λb=>F b+AU b af a.tmps.toList) Γ' st' w' [r] [v]) (dst:Option Tmp):Sim E F Γ' st' w' (BL af dst r) (a.put dst v).tmps.toList:=by
 have hown:ownL Γ' w' af a.tmps.toList:=CG hx.le _ _ hs.own λb hb=>hx.keep b fy;have hmid:Sim E F Γ' st' w' af a.tmps.toList:=by
  refine {h with bx_F:=?_,F_lt:=?_,rep:=hs.rep.mono hx.le,own:=hown,tok:=?_};·intro p b hp hb;have:=h.bx_F p b hp hb;omega
  ·intro b hb;have:=h.F_lt b hb;omega
  ·intro b;have:=h.tok b;omega
 have hr:Rep Γ' r v:=by have:=h.rep;cases this;omega
 have ho:VM.own Γ' w' r v:=by have:=h.own;grind[ownL]
 refine hmid.put dst hr ho λb=>?_;have:=h.tok b;grind[AU,cnt]
def ADT{P:Program}{w:World}{t e:TypeId} (h:P.underlying t=some (.slice e)) (p:Option Addr) (n k:Nat):(binOp .eql t (.slice p n k) (.slice none 0 0)).run P w=.ok (.bool p.isNone) w:=by
 have key: ∀d:Nat,(Op.equalIn (d+1) t (.slice p n k) (.slice none 0 0)).run P w=.ok p.isNone w:=λd=>by cases p<;>simp[Op.equalIn,aG h]
 simp_all[binOp,Op.equal,Op.maxDepth]
def AVF{op:BinOp}{y:Operand} (h:U0 op y=true):op=.eql/\y=.const (.slice none 0 0):=by
 unfold U0 at h;split at h;·exact⟨rfl,rfl⟩
 ·cases h
theorem Vg {mv:List Tmp}{o:Oper}{K:List AVal->St->Prop} (h:EA E mv o af st K):Aqz E o af st K:=by
 intro F Γ w a hd hs K' Qx hK;unfold EA at h;split at h
 ·rename_i f args ts hop;have hf:=hs.rd 0 f;split at h
  ·rename_i g p q e;rw[e]at hf;generalize hfv:a.eval f=fv at hf;cases hf with
   | fn hp hq=>
    rename_i vp vq;have hargs:=AJL hs args.toList ts.toList;have hall:=hp.append (hargs.append hq);rw[<-aP]at hall;unfold CallX at h;split at h;rotate_left
    ·rcases h with h|h
     ·obtain⟨fn,e2,r,h1,h2,h3,h4,h5,h6,h7⟩:=h;obtain⟨v,hv,hr⟩:=h6 Γ (vp.toList++args.toList.map a.eval++vq.toList) w (by have:=hall.strip;grind);have harr:(vp.toList++args.toList.map a.eval++vq.toList).toArray=vp++args.map a.eval++vq:=by simp
      rw[harr]at hv;have hrun:(execOp a.eval o).run E.P w=.ok (.value v) w:=by grind[run_callFunc_extern,execOp,resolve,Deferred.ofValue,Go.Sem.run_bind,Go.Sem.run_pure,Go.Result.andThen_ok,invoke]
      unfold Oper.wp;rw[hrun];exact hK Γ _ st (a.put o.dst v) w (Ext.refl _ _ _) (aw _) (by grind[put_defers]) (hs.putStrip o.dst hr) h7
     ·obtain⟨fn,ps,t,el,n,h1,h2,h3,h4,h5,h6,h7,h8,h9,h10⟩:=h;have hst:=hall.strip;have harr:(vp.toList++args.toList.map a.eval++vq.toList).toArray=vp++args.map a.eval++vq:=by simp
      obtain⟨v0,hv0,hrv⟩: ∃v0,vp.toList++args.toList.map a.eval++vq.toList=[v0]/\Rep Γ (.int .i64 n) v0:=by
       have hst':RepL Γ [.int .i64 n] (vp.toList++args.toList.map a.eval++vq.toList):=by grind
       generalize vp.toList++args.toList.map a.eval++vq.toList=vs at hst';cases hst' with |cons q t=>cases t;grind
      cases hrv;rw[hv0]at harr;obtain⟨cs,r1,r2,r3⟩:=Ai6 (P:=E.P) w ps t el h6 n fy;have hrun:(execOp a.eval o).run E.P w=.ok (.value (.slice (some ⟨w.drew.drew.heap.size,0,none⟩) n cs.size)) (w.drew.drew.alloc (.cells cs el (0,0))):=by have hcf:=run_callFunc_extern (P:=E.P) h1 h2 h3 h4 h5 (vp++args.map a.eval++vq) w;rw[<-harr]at hcf;rw[r1]at hcf;simp only[execOp,hop,resolve,hfv,Deferred.ofValue,aK,bw,aC,invoke];rw[<-harr,hcf];rfl
      have hx:Ext F Γ w Γ w.drew.drew:=⟨Γ.le_refl,λ_ _=>⟨rfl,rfl⟩,aw _,rfl,rfl,rfl⟩;obtain⟨nx,w',a',Γ',hp⟩:=Zh (o:=o) (r:=.trow el st.next n) (w1:=w.drew.drew) (cells:=cs) (e:=el) (cs:=[.any]) (fz:=(0,0)) (cap:=cs.size) (len:=n) hs hs.drew.drew hx fA (by
       have hl:1<=cs.toList.length:=by grind
       match hc:cs.toList,hl with |v::vs,_=>exact .cons (.any v) .nil) (λv hv=>r3 v (dt hv)) (λx hx=>by grind[VM.own,cnt]) (λΓ' q1 q2=>.trow q1 q2 ⟨r2,by grind[Dl]⟩ rfl) (λ_ _ _=>by simp[VM.own]) (λ_ _=>by simp[cnt]) hrun;unfold Oper.wp;rw[hp.run];exact hp.upon _ _ (hK Γ' _ _ a' w' hp.ext hp.next (by rw[hp.defers];omega) hp.sim h10)
    rename_i hcall;have hac:=h;have hrun:(execOp a.eval o).run E.P w=.ok (.enter g (vp++args.map a.eval++vq)) w:=by
     unfold callable at hcall;split at hcall
     ·rename_i fn hfn;simp only[az,dL,dU]at hcall;have hb:fn.body.isNone=false:=by have:=hcall.2;cases hfb:fn.body<;>simp_all
      simp only[execOp,hop,resolve,hfv,Deferred.ofValue,aK,bw,aC,invoke,callFunc,run_program,hfn];have hname : (fn.name == "runtime.NumGoroutine") = false:=by grind
      simp only[hname,hb,al,au];rfl
     grind
    have key:=hac.go (λb=>F b+AU b af a.tmps.toList) Γ w (vp++args.map a.eval++vq) (by have e2:(vp++args.map a.eval++vq).toList=vp.toList++(args.toList.map a.eval++vq.toList):=fA;rw[e2,<-aP];refine hs.aside ?_;grind);unfold Oper.wp;rw[hrun,Oper.upon_enter];refine key.mono ?_;rintro e' w' ⟨v,rfl,Γ',r,st',x1,n1,s1,q1⟩;exact hK Γ' _ st' (a.put o.dst v) w' (x1.less λb=>by omega) n1 (by grind[put_defers]) (hs.back x1 s1 o.dst) q1
  grind
 ·rename_i x y t0 t1 ts hop;split at h
  ·split at h;·rename_i wd l cs rest jo hab;obtain⟨i,hi,nx,w',a',Γ',hp⟩:=AYW hs hop hab;unfold Oper.wp;rw[hp.run];exact hp.upon _ _ (hK Γ' _ _ a' w' hp.ext hp.next (by rw[hp.defers];omega) hp.sim (h i hi))
   grind
  ·split at h;·rename_i af' st' hst;obtain⟨nx,w',a',Γ',hp⟩:=SC hs hst;unfold Oper.wp;rw[hp.run];exact hp.upon _ _ (hK Γ' af' st' a' w' hp.ext hp.next (by rw[hp.defers];omega) hp.sim h)
   grind
 ·rename_i op t x y _ hop;split at h
  ·rename_i hn;obtain⟨rfl,rfl⟩:=AVF hn;have hx:=hs.rd t x;unfold AdO at h;split at h
   ·rename_i xs ow ht hr;rw[hr]at hx;obtain⟨e,hu⟩: ∃e,E.P.underlying t=some (.slice e):=by grind[Dk]
    have main: ∀(p:Option Addr) (n k:Nat),a.eval x=.slice p n k->(p.isNone=true->xs=[])->o.wp E.P a w K' Qx:=by
     intro p n k hv hc;have hrun:(execOp a.eval o).run E.P w=.ok (.value (.bool p.isNone)) w:=by simp only[execOp,hop];have hc:a.eval (.const (.slice none 0 0))=.slice none 0 0:=rfl;simp[hv,hc,eqGuard,ADT hu]
     unfold Oper.wp;rw[hrun];exact hK Γ _ st (a.put o.dst (.bool p.isNone)) w (Ext.refl _ _ _) (aw _) (by grind[put_defers]) (hs.putStrip o.dst (.bool _)) (h _ hc)
    generalize hv:a.eval x=v at hx;cases hx with |snil w o a=>simp_all|slice=>grind
   grind
  ·split at h;·rename_i af' st' hst;obtain⟨nx,w',a',Γ',hp⟩:=SC hs hst;unfold Oper.wp;rw[hp.run];exact hp.upon _ _ (hK Γ' af' st' a' w' hp.ext hp.next (by rw[hp.defers];omega) hp.sim h)
   grind
 ·split at h;·rename_i af' st' hst;obtain⟨nx,w',a',Γ',hp⟩:=SC hs hst;unfold Oper.wp;rw[hp.run];exact hp.upon _ _ (hK Γ' af' st' a' w' hp.ext hp.next (by rw[hp.defers];omega) hp.sim h)
  grind
def gd (x:AVal) (want:Bool):Option Bool:=match x with |.bool b=>some (b==want)|.tuple []=>some false|_=>none
def gdA (ops:Array Oper) (af:List AVal) (j:Nat) (want:Bool):Option Bool:=match(ops[j]?).bind (·.dst)with |some d=>gd (af.getD d .any) want|none=>none
def Ls (E:Env) (mv:List Tmp) (ops:Array Oper):List Oper->(List AVal->St->Prop)->List AVal->St->Prop |[],K,af,st=>K af st| o::rest,K,af,st=>match o.guard with |none=>EA E mv o af st (Ls E mv ops rest K)| some (j,want)=>match gdA ops af j want with |some true=>EA E mv o af st (Ls E mv ops rest K)|some false=>Ls E mv ops rest K (BL af o.dst (.tuple [])) st|none=>False
def UK (hs:Sim E F Γ st w af a.tmps.toList){ops:Array Oper}{j:Nat}{want t:Bool} (h:gdA ops af j want=some t):(yielded ops a.tmps j==some want)=t:=by
 unfold gdA at h;split at h
 ·rename_i d hd;have hr:=hs.rep.get d undef;unfold yielded;rw[hd];simp only[aa];unfold gd at h;have hlt:d<a.tmps.size:=by
   rcases aS d a.tmps.size with h'|h';·omega
   ·have:af.length=a.tmps.size:=by rw[hs.rep.length,aH]
    grind
  have e:a.tmps.toList.getD d undef=a.tmps[d]:=by grind
  rw[e]at hr;rw[cH hlt];generalize a.tmps[d]=v at hr;split at h;·rename_i b hb;rw[hb]at hr;cases hr;grind[Option.some.injEq]
  ·rename_i hb;rw[hb]at hr;cases hr;grind
  grind
 grind
def PM{ops:Array Oper}{o:Oper}{tmps:Array Value}{j:Nat}{want:Bool} (hg:o.guard=some (j,want)):Region.wanted o (yielded ops tmps)=(yielded ops tmps j==some want):=by grind[Region.wanted]
def Sim.skipped (hs:Sim E F Γ st w af a.tmps.toList) (d:Option Tmp):Sim E F Γ st w (BL af d (.tuple [])) (a.put d undef).tmps.toList:=hs.put d (r:=.tuple []) (v:=undef) (.tuple .nil) (by simp[VM.own,undef,ownL]) λn=>by have:=hs.tok n;grind[cnt,undef,AU]
def ANp{mv:List Tmp}{ops:Array Oper}{Qc:Exit->Act->World->Prop}: ∀(rest:List Oper) (i:Nat),ops.toList.drop i=rest->∀ {K:List AVal->St->Prop}{F:Nat->Nat}{Γ:Ghost}{st:St}{w:World}{af:List AVal}{a:Act},a.defers=[]->Sim E F Γ st w af a.tmps.toList->Ls E mv ops rest K af st->(∀Γ' af' st' a' w',Ext F Γ w Γ' w'->st.next<=st'.next->a'.defers=[]->Sim E F Γ' st' w' af' a'.tmps.toList->K af' st'->Qc .normal a' w')->wpOps E.P ops Qc (List.range' i rest.length) a w:=by
 intro rest;induction rest with
 |nil=>intro i hi K F Γ st w af a hd hs h hK;exact hK Γ af st a w (Ext.refl _ _ _) (aw _) hd hs h
 | cons o rest ih=>
  intro i hi K F Γ st w af a hd hs h hK;have hoi:ops[i]?=some o:=by
   have:ops.toList[i]?=some o:=by have:=a8 (·[0]?) hi;grind
   grind
  have hi':ops.toList.drop (i+1)=rest:=by grind[List.tail_drop]
  rw[ag,cU];simp only[wpOps,hoi];have go:EA E mv o af st (Ls E mv ops rest K)->o.wp E.P a w (wpOps E.P ops Qc (List.range' (i+1) rest.length)) Qc:=λh=>Vg h F Γ w a hd hs _ _ λΓ' af' st' a' w' x1 n1 d1 s1 k1=>ih (i+1) hi' d1 s1 k1 λΓ2 af2 st2 a2 w2 x2 n2 d2 s2 k2=>hK Γ2 af2 st2 a2 w2 (x1.trans x2) (bI n1 n2) d2 s2 k2;simp only[Ls]at h;split at h;·simp_all[Region.wanted]
  ·rename_i j want hg;split at h;·rename_i hgd;rw[ah (by rw[PM hg,UK hs hgd])];grind
   ·rename_i hgd;rw[ae (by rw[PM hg,UK hs hgd];simp)];exact ih (i+1) hi' (by grind[put_defers]) (hs.skipped o.dst) h λΓ2 af2 st2 a2 w2 x2 n2 d2 s2 k2=>hK Γ2 af2 st2 a2 w2 x2 n2 d2 s2 k2
   grind
def Ve{Q:APost}{id:Nat}{ops:Array Oper} (mv:List Tmp) (h:Ls E mv ops ops.toList (λaf st=>Q .normal af st) af st):AWp E (.region id ops false) Q af st:=by constructor;intro F Γ w a hd hs;refine wp_region ?_;have key:=ANp (Qc:=lift E F Γ w st.next Q) ops.toList 0 rfl hd hs h λΓ' af' st' a' w' x1 n1 d1 s1 k1=>⟨trivial,d1,Γ',af',st',x1,n1,s1,k1⟩;grind[Array.length_toList,List.range_eq_range']
def AN7{Q:APost}{c:Operand}{x y:Code} (b:Bool) (hb:rd E af 0 c=.bool b) (h:if b=true then AWp E x Q af st else AWp E y Q af st):AWp E (.cond c x y) Q af st:=by
 constructor;intro F Γ w a hd hs;have hr:=hs.rd 0 c;rw[hb]at hr;generalize hv:a.eval c=v at hr;cases hr;refine wp_cond hv ?_;cases b;·exact h.go F Γ w a hd hs
 ·exact h.go F Γ w a hd hs
def AXi{Q:APost}{c:Code}{m:List (Nat×List AVal)} (hm:m.Sublist st.m) (h:AWp E c Q af {st with m:=m}):AWp E c Q af st:=⟨λF Γ w a hd hs=>h.go F Γ w a hd (hs.fewer hm)⟩
def XY (E:Env) (t:TypeId) (addr:AVal) (st:St):Option (AVal×St):=
  match addr with
  | .ptr i 0=>
    match A9 st.m i with
    | some cs=>
      if BO E.P t=true then
        if Ci E.P t=true then(if DV E.P t=some cs.length then some (.agg cs,{st with m:=Bz st.m i (stripL cs)})else none)
        else match cs with
          |[c]=>some (c,{st with m:=Bz st.m i (stripL cs)})
          |_=>none
      else none
    |none=>none
  |_=>none
def QT (E:Env):List ResultVar->List AVal->St->Option (List AVal×St) |[],af,st=>some ([],st)|.tmp t::rs,af,st=>(QT E rs (stripAt af (.tmp t)) st).map λp=>(af.getD t .any::p.1,p.2)| .cell i t::rs,af,st=>match XY E t (af.getD i .any) st with |some (r,st')=>(QT E rs af st').map λp=>(r::p.1,p.2)|none=>none
def KP (E:Env) (fn:Func) (Q:AVal->St->Prop):APost:=λe af st=>
  match e with
  | .normal|.ret=>
    match QT E fn.results.toList af st with
    |some (rs,st')=> ∃m,m.Sublist st'.m/\Q (match rs with|[r]=>r|rs=>.tuple rs) {st' with m:=m}
    |none=>False
  |_=>False
end
end Go.VM
set_option linter.unusedVariables false
namespace Go.VM
section
variable{E:Env}{F:Nat->Nat}{Γ:Ghost}{st:St}{w:World}{af:List AVal}{a:Act}
def AC9 (hs:Sim E F Γ st w af a.tmps.toList){t:TypeId}{x:AVal}{v:Value}{r:AVal}{st':St} (hx:Rep Γ x v) (h:XY E t x st=some (r,st')):∃u,(do loadVar t (<-asAddr v):Sem Value).run E.P w=.ok u w/\Rep Γ r u/\VM.own Γ w r u/\Sim E F Γ st' w af a.tmps.toList/\st'.next=st.next/\∀b,cnt b r u+Ay Γ w b st'.m=Ay Γ w b st.m:=by
 unfold XY at h;split at h
 ·rename_i i;cases hx with
  |ptr hbx=>
   rename_i b;split at h
   ·rename_i cs hg;split at h
    ·rename_i hk;obtain⟨b',arr,e,hb⟩:=hs.box hg hbx;have:b'=b:=by have:=hb.bx;grind
     subst this;obtain⟨lo,hi,hh,hf⟩:=hb.heap;obtain⟨L,hL⟩: ∃L,L=arr.toList.take cs.length:=⟨_,rfl⟩;have hrepL:RepL Γ cs L:=by rw[hL];exact hb.rep
     have hone: ∀v,v∈L->v.oneCell'=true:=by rw[hL];exact hb.one
     have hownL:VM.ownL Γ w cs L:=by rw[hL];exact(NR Γ w cs arr.toList).2 hb.own
     have hcntL: ∀n,AU n cs L=AU n cs arr.toList:=λn=>by grind[M3]
     obtain⟨s1,x1⟩:=hs.setBox (w':=w) (cs':=stripL cs) (arr':=arr) (lo:=lo) (hi:=hi) hg hb hh hf (λ_ _=>rfl) rfl rfl rfl rfl (by rw[MK];exact hb.rep.strip) (KR _ _ _ _) (by grind[MK]) (λn=>by rw[Ir];have:=hs.tok n;omega);have hcnt: ∀n,AU n cs arr.toList+Ay Γ w n (Bz st.m i (stripL cs))=Ay Γ w n st.m:=by intro n;have e1:=Kk (Γ:=Γ) (Γ':=Γ) (w:=w) (w':=w) (b:=n) (x:=stripL cs) hs.keys hg (λp hp hne=>rfl);grind[EH,AU,hcells,stripL,Ir]
     have hcell: ∀j u,L[j]?=some u->w.cell? ⟨b',0+j,none⟩=some u:=by intro j u hj;rw[hL]at hj;have hj:=List.getElem?_take_some hj;simp_all[World.cell?]
     have ha:=Pp (w:=w) hk;split at h
     ·rename_i hag;rw[hag]at ha;split at h;·rename_i hz;simp only[aj,aD]at h;obtain⟨rfl,rfl⟩:=h;have key:=dR (P:=E.P) w ⟨b',0,none⟩ L (λj v hj=>by grind[addr_add]);rw[<-hrepL.length]at key;refine⟨.agg L.toArray,?_,.agg fy fy,by grind[VM.own],s1,rfl,λn=>by grind[cnt]⟩;simp[asAddr,loadVar,ha,FH hz,key]
      grind
     ·rename_i hag;rw[cp]at hag;rw[hag]at ha;split at h
      ·rename_i c;simp only[aj,aD]at h;obtain⟨rfl,rfl⟩:=h;obtain⟨u,hu,hrep⟩:=hrepL.get? (i:=0) (x:=c) rfl;have h1:L=[u]:=by
        have:L.length=1:=by grind
        clear hL hcell;match L,this,hu with |[x],_,hu=>grind
       refine⟨u,?_,hrep,?_,s1,rfl,λn=>?_⟩;·simp_all[asAddr,loadVar]
       ·grind[VM.ownL]
       grind[AU]
      grind
    grind
   grind
 grind
def ANG{m m':List (Nat×List AVal)} (h:m.Sublist m') (n:Nat):Ay Γ w n m<=Ay Γ w n m':=by induction h with |slnil=>omega|cons p _ ih=>grind[Ay]|cons_cons p _ ih=>grind[Ay]
def AFn (tmps:Array Value) (r:ResultVar):Sem Value:=match r with |.tmp t=>pure (tmps.getD t undef)|.cell i t=>do loadVar t (<-asAddr (tmps.getD i undef))
def AR3 (rs:List ResultVar): ∀ {af:List AVal}{st:St}{xs:List AVal}{st':St},Sim E F Γ st w af a.tmps.toList->QT E rs af st=some (xs,st')->∃vs,(rs.mapM (AFn a.tmps)).run E.P w=.ok vs w/\RepL Γ xs vs/\ownL Γ w xs vs/\st'.next=st.next/\∃af',Sim E F Γ st' w af' a.tmps.toList/\∀b,AU b af' a.tmps.toList+AU b xs vs+Ay Γ w b st'.m=AU b af a.tmps.toList+Ay Γ w b st.m:=by
 induction rs with
 | nil=>intro af st xs st' hs h;simp only[QT,aj,aD]at h;obtain⟨rfl,rfl⟩:=h;exact⟨[],fA,.nil,by simp[ownL],rfl,af,hs,λb=>by simp[AU]⟩
 | cons x rs ih=>
  intro af st xs st' hs h;cases x with
  | tmp t=>
   simp only[QT]at h;cases hr:QT E rs (stripAt af (.tmp t)) st with
   |none=>grind
   | some p=>
    simp only[hr,aQ,aj,aD]at h;obtain⟨rfl,rfl⟩:=h;obtain⟨vs,r1,r2,r3,r4,af',r5,r6⟩:=ih (hs.stripAt (.tmp t)) hr;refine⟨a.tmps.getD t undef::vs,?_,.cons (hs.rd 0 (.tmp t)) r2,?_,r4,af',r5,λb=>?_⟩;·rw[List.mapM_cons,aK];simp only[AFn,bw,aC];rw[aK,r1];rfl
    ·rw[ownL];exact⟨hs.rd_own 0 (.tmp t),r3⟩
    ·have:=r6 b;have:=hs.rd_cnt 0 (.tmp t) b;grind[rd,Act.eval,AU]
  | cell i t=>
   simp only[QT]at h;split at h
   ·rename_i r st1 hc;cases hr:QT E rs af st1 with
    |none=>grind
    | some p=>
     simp only[hr,aQ,aj,aD]at h;obtain⟨rfl,rfl⟩:=h;obtain⟨u,c1,c2,c3,c4,c5,c6⟩:=AC9 hs (hs.rd 0 (.tmp i)) hc;obtain⟨vs,r1,r2,r3,r4,af',r5,r6⟩:=ih c4 hr;refine⟨u::vs,?_,.cons c2 r2,by grind[ownL],fy,af',r5,λb=>?_⟩;·rw[List.mapM_cons,aK];simp_all[Act.eval,AFn]
     grind[AU]
   grind
theorem MM {f:FuncId}{fn:Func}{c:Code}{args:List AVal}{Q:AVal->St->Prop} (hf:E.P.funcs[f]?=some fn) (hb:fn.body=some c)
    (h:AWp E c (KP E fn Q) (args++List.replicate (fn.ntmps-args.length) .any) st):ACall E f args st Q:=by
  constructor
  intro F Γ w cargs hs
  have hlen:args.length=cargs.size:=by rw[hs.rep.length,aH]
  have hrepl: ∀n,RepL Γ (List.replicate n .any) (List.replicate n undef)/\ownL Γ w (List.replicate n .any) (List.replicate n undef)/\ ∀b,AU b (List.replicate n .any) (List.replicate n undef)=0:=by
    intro n
    induction n with
    |zero=>exact⟨.nil,by simp[ownL],λb=>by simp[AU]⟩
    |succ n ih=>exact⟨.cons (.any _) ih.1,by grind[ownL,VM.own],λb=>by grind[AU,cnt]⟩
  have happ: ∀(xs:List AVal) (vs:List Value),xs.length=vs.length->ownL Γ w xs vs-> ∀n,ownL Γ w (xs++List.replicate n .any) (vs++List.replicate n undef)/\ ∀b,AU b (xs++List.replicate n .any) (vs++List.replicate n undef)=AU b xs vs:=by
    intro xs
    induction xs with
    |nil=>grind[AU]
    | cons x xs ih=>intro vs hl ho n;cases vs with
      |nil=>grind
      | cons v vs=>
        grind[ownL,AU]
  have htm:(cargs++Array.replicate (fn.ntmps-cargs.size) undef).toList=cargs.toList++List.replicate (fn.ntmps-args.length) undef:=by
    grind[Array.toList_append,Array.toList_replicate]
  refine calls_of_wp hf hb (fd (h.go F Γ w {tmps:=cargs++Array.replicate (fn.ntmps-cargs.size) undef,defers:=[]} rfl ?_) ?_)
  . simp only
    rw[htm]
    obtain⟨o1,o2⟩:=happ args cargs.toList hs.rep.length hs.own (fn.ntmps-args.length)
    exact {hs with rep:=hs.rep.append (hrepl _).1,own:=o1,tok:=λb=>by rw[o2 b];exact hs.tok b}
  . intro e a' w' hq
    obtain⟨h0,hd,Γ',af',st',x1,n1,s1,q1⟩:=hq
    have fin:(match QT E fn.results.toList af' st' with
        |some (rs,st')=> ∃m,m.Sublist st'.m/\Q (match rs with|[r]=>r|rs=>.tuple rs) {st' with m:=m}
        |none=>False)-> ∃v,(results fn a'.tmps).run E.P w'=.ok v w'/\ ∃v1,Ending.returned v=.returned v1/\ ∃Γ' r st',Ext F Γ w Γ' w'/\st.next<=st'.next/\Sim E F Γ' st' w' [r] [v1]/\Q r st':=by
      intro q
      split at q
      . rename_i rs st2 hres
        obtain⟨m,hm,hQ⟩:=q
        obtain⟨vs,r1,r2,r3,r4,af2,r5,r6⟩:=AR3 fn.results.toList s1 hres
        have hrun:(results fn a'.tmps).run E.P w'=.ok (if h:vs.toArray.size=1 then vs.toArray[0]else .tuple vs.toArray) w':=by
          have e:results fn a'.tmps=(do
            let vs<-fn.results.mapM (AFn a'.tmps)
            pure (if h:vs.size=1 then vs[0]else .tuple vs)):=rfl
          rw[e,Array.mapM_eq_mapM_toList,aK,Sem.run_map,r1]
          rfl
        refine⟨_,hrun,_,rfl,Γ',_,{st2 with m:=m},x1,by grind,?_,hQ⟩
        have s2:=r5.fewer hm
        have hcm: ∀n,Ay Γ' w' n m<=Ay Γ' w' n st2.m:=λn=>ANG hm n
        have htok: ∀b,F b+AU b rs vs+Ay Γ' w' b m<=1:=by
          intro b
          have:=r6 b
          have:=s1.tok b
          grind
        cases r2 with
        | nil=>
          simp only[dX,ap]
          exact {s2 with rep:=.cons (.tuple .nil) .nil,own:=by simp[ownL,VM.own],tok:=λb=>by grind[AU,cnt]}
        | cons hr t=>
          cases t with
          | nil=>
            simp only[dX,ag,ap,b9,dite_true]
            exact {s2 with rep:=.cons hr .nil,own:=r3,tok:=htok}
          | cons hy t=>
            rename_i x v y u xs us
            have hne: ¬((v::u::us:List Value).toArray.size=1):=fA
            rw[dif_neg hne]
            have hrp:RepL Γ' (x::y::xs) (v::u::us):=.cons hr (.cons hy t)
            exact {s2 with rep:=.cons (.tuple fy) .nil,own:=by grind[ownL,VM.own],tok:=λb=>by grind[AU,cnt]}
      grind
    cases e with
    |normal=>obtain⟨v,hr,hR⟩:=fin q1;exact⟨hd,v,hr,hR⟩
    |ret=>obtain⟨v,hr,hR⟩:=fin q1;exact⟨hd,v,hr,hR⟩
    |exit id=>exact q1.elim
    |goto l=>grind
    |panic c=>grind
    |outgrown=>grind
end
end Go.VM
set_option linter.unusedVariables false
namespace Go.VM
section
variable{E:Env}{st:St}{af:List AVal}{Q:APost}
inductive kPost (K:List AVal->St->Prop) (Q:APost):APost |nrm{af:List AVal}{st:St} (h:K af st):kPost K Q .normal af st |oth{e:Exit}{af:List AVal}{st:St} (hne:e≠ .normal) (h:Q e af st):kPost K Q e af st
def kPost.get{K:List AVal->St->Prop} (h:kPost K Q .normal af st):K af st:=by cases h with |nrm h=>exact h|oth hne h=>grind
def kPost.out{K:List AVal->St->Prop}{e:Exit} (h:kPost K Q e af st) (hne:e≠ .normal):Q e af st:=by cases h with |nrm h=>grind|oth hne h=>exact h
def Nc{K:List AVal->St->Prop} (h:K af st):kPost K Q .normal af st:=.nrm h
end
end Go.VM
set_option linter.unusedVariables false
namespace Go.VM
def slots (o:Oper):List Tmp:=o.op.operands.toList.filterMap λ|.tmp t=>some t|_=>none
def Qh{o:Oper}{d:Tmp} (h:d∉slots o){x:Operand} (hx:x∈o.op.operands):x≠ .tmp d:=by intro e;subst e;exact h (List.mem_filterMap.2 ⟨.tmp d,by grind,rfl⟩)
section
variable{E:Env}{af:List AVal}{st:St}{d:Tmp}{v:AVal}
theorem Bw{t:TypeId}{x:Operand} (h:x≠ .tmp d):rd E (af.set d v) t x=rd E af t x:=by cases x with | tmp i=>grind[rd,List.getD]|_=>rfl
theorem KF{x:Operand} (h:x≠ .tmp d):stripAt (af.set d v) x=(stripAt af x).set d v:=by cases x with | tmp i=>grind[stripAt,List.set_comm,List.getD,List.getElem?_set_ne]|_=>rfl
theorem CY{dst:Option Tmp} (h:dst≠some d) (r:AVal):BL (af.set d v) dst r=(BL af dst r).set d v:=by cases dst with |none=>rfl| some e=>grind[BL,List.set_comm]
theorem AAP{x:Option Operand} (h: ∀y,x=some y->y≠ .tmp d):rdo E (af.set d v) x=rdo E af x:=by cases x with |none=>rfl|some y=>simp only[rdo,Bw (h y rfl)]
theorem AHP: ∀(xs:List Operand) (ts:List TypeId),(∀x,x∈xs->x≠ .tmp d)->rdL E (af.set d v) xs ts=rdL E af xs ts |[],_,_=>rfl|x::xs,[],h=>by simp only[rdL,Bw (h x fA),AHP xs [] (λy hy=>h y (aV _ hy))]|x::xs,t::ts,h=>by simp only[rdL,Bw (h x fA),AHP xs ts (λy hy=>h y (aV _ hy))]
theorem Qg{ty:Nat->TypeId}: ∀(ps:List (Nat×Operand)){af:List AVal},(∀p,p∈ps->p.2≠ .tmp d)->(Bb E ty (af.set d v) ps).1=(Bb E ty af ps).1.set d v/\(Bb E ty (af.set d v) ps).2=(Bb E ty af ps).2 |[],_,_=>⟨rfl,rfl⟩| (i,x)::ps,af,h=>by have hx:=h (i,x) fA;obtain⟨h1,h2⟩:=Qg ps (af:=stripAt af x) (λp hp=>h p (aV _ hp));simp only[Bb,KF hx,Bw hx];exact⟨h1,by rw[h2]⟩
def QU{o:Oper} (h:d∉slots o):EO E o (af.set d v)=EO E o af:=by
 have hx:=λx=>Qh h (x:=x);unfold EO;split;·grind[Op.operands,Bw]
 ·grind[Op.operands,Bw]
 ·grind[Op.operands,Bw]
 ·grind[Op.operands,Bw]
 ·grind[Op.operands,Bw]
 ·grind[Op.operands,rd,List.map_congr_left,Bw]
 ·grind[Op.operands,Bw]
 ·grind[Op.operands,Bw]
 ·grind[Op.operands,Bw]
 ·grind[Op.operands,Bw]
 ·grind[Op.operands,Call.operands,Bw]
 ·rename_i x y ts hop;simp only[hop,Op.operands,Call.operands]at hx;grind[Bw]
 ·rename_i x y ts hop;simp only[hop,Op.operands,Call.operands]at hx;grind[Bw]
 ·grind[Op.operands,Call.operands,Bw]
 ·rename_i x y t s hop;simp only[hop,Op.operands,Call.operands]at hx;grind[Bw]
 ·rfl
theorem Vp{mv:List Tmp}{o:Oper} (h:d∉slots o) (hd:o.dst≠some d):Fj E mv o (af.set d v) st=(Fj E mv o af st).map λp=>(p.1.set d v,p.2):=by
 have hx:=λx=>Qh h (x:=x);unfold Fj;split;·rename_i x hop;simp only[hop,Op.operands]at hx;split<;>simp[Bw (hx x fA),KF (hx x fA),CY hd]
 ·grind[Op.operands,Bw,KF,CY]
 ·rename_i t hop;split;·cases Vo E.P t st.next<;>simp[CY hd]
  ·cases Ee E.P t st.next<;>simp[CY hd]
 ·rename_i t x hop;simp only[hop,Op.operands]at hx;rw[Bw (hx x fA),KF (hx x fA)];split<;>simp[CY hd]
 ·rename_i t ps hop;simp only[hop,Op.operands]at hx;obtain⟨h1,h2⟩:=Qg (E:=E) (v:=v) (ty:=Ab E.P t) ps (af:=af) (λp hp=>hx p.2 (by grind));rw[h1,h2];cases Tp E t (Bb E (Ab E.P t) af ps).2<;>simp[CY hd]
 ·rename_i t len ps hop;simp only[hop,Op.operands]at hx;obtain⟨h1,h2⟩:=Qg (E:=E) (v:=v) (ty:=λ_=>Ab E.P t 0) ps (af:=af) (λp hp=>hx p.2 (by grind));rw[h2,h1];split;·cases Jb E t len (Bb E (λ_=>Ab E.P t 0) af ps).2<;>simp[CY hd]
  ·cases Ib E t len (Bb E (λ_=>Ab E.P t 0) af ps).2<;>simp[CY hd]
 ·rename_i t x hop;simp only[hop,Op.operands]at hx;rw[Bw (hx x fA)];split;·cases Q4 E t (rd E af 0 x) st<;>simp[CY hd]
  ·cases RY E t (rd E af 0 x) st<;>simp[CY hd]
 ·rename_i t x y hop;simp only[hop,Op.operands]at hx;rw[Bw (hx x fA),Bw (hx y fA),KF (hx y fA)];split;·cases O5 E t (rd E af 0 x) (rd E af t y) st<;>simp
  ·simp
 ·rename_i t n hop;simp only[hop,Op.operands]at hx;have ht:d≠t:=λe=>hx (.tmp t) fA (by rw[e]);have hg:(af.set d v).getD t .any=af.getD t .any:=by grind
  rw[hg];split;·rename_i vs hvs;cases vs[n]? with |none=>simp|some r=>grind[List.set_comm,CY]
  ·simp
 ·rename_i t x hop;simp only[hop,Op.operands]at hx;rw[Bw (hx x fA)];split<;>grind[CY]
 ·grind[Op.operands,List.getD,List.getElem?_set_ne,AEo,List.set_comm,CY]
 ·rename_i t x lo hi mx hop;simp only[hop,Op.operands]at hx;rw[Bw (hx x fA),AAP (λy hy=>hx y (by grind)),AAP (λy hy=>hx y (by grind)),AAP (λy hy=>hx y (by grind))];split;·rename_i l hh m h1 h2 h3;cases Gn E t (rd E af t x) l hh m<;>simp[CY hd]
  ·simp
 ·rename_i x y t0 t1 ts hop;simp only[hop,Op.operands,Call.operands]at hx;rw[Bw (hx x fA),Bw (hx y fA),KF (hx x fA)];split;·cases PO E t0 t1 (rd E af t0 x) (rd E af t1 y)<;>simp[CY hd]
  ·cases JN E t0 t1 (rd E af t0 x) (rd E af t1 y)<;>simp[CY hd]
 ·grind[CY]
 ·rename_i t m k ok hop;simp only[hop,Op.operands]at hx;rw[Bw (hx m fA),Bw (hx k fA)];cases P8 E t (rd E af t m) (rd E af 0 k) ok st<;>simp[CY hd]
 ·rename_i t m k x hop;simp only[hop,Op.operands]at hx;rw[Bw (hx m fA),Bw (hx k fA),Bw (hx x fA)];split;·cases Sq E t (rd E af t m) (rd E af 0 k) (rd E af 0 x) st<;>simp
  ·simp
 ·rename_i t m k x hop;simp only[hop,Op.operands]at hx;rw[Bw (hx m fA),Bw (hx k fA),Bw (hx x fA)];split;·cases Sq E t (rd E af t m) (rd E af 0 k) (rd E af 0 x) st<;>simp
  ·simp
 ·rename_i t x i hop;simp only[hop,Op.operands]at hx;rw[QU h];cases EO E o af with |some r=>grind[CY]| none=>rw[Bw (hx x fA),Bw (hx i fA)];cases KO E t (rd E af t x) (rd E af 0 i) st<;>simp[CY hd]
 ·rename_i t x y hop;simp only[hop,Op.operands]at hx;rw[Bw (hx x fA),Bw (hx y fA)];split;·cases Wj E t (rd E af 0 x) (rd E af 0 y) st<;>simp[CY hd]
  ·cases Xa E t (rd E af 0 x) (rd E af 0 y) st<;>simp[CY hd]
 ·rename_i s e x hop;simp only[hop,Op.operands]at hx;rw[QU h];cases EO E o af with |some r=>grind[CY]| none=>rw[Bw (hx x fA)];cases TE E s e (rd E af s x) st with |some r=>grind[CY]|none=>cases RZ E s e (rd E af s x) st<;>simp[CY hd]
 ·rename_i x t0 ts hop;simp only[hop,Op.operands,Call.operands]at hx;rw[Bw (hx x fA),KF (hx x fA)];cases UD (rd E af t0 x)<;>simp[CY hd]
 ·rename_i x y t0 t1 hop;simp only[hop,Op.operands,Call.operands]at hx;rw[Bw (hx x fA),Bw (hx y fA),KF (hx x fA)];cases WU E t0 (rd E af t0 x) (rd E af t1 y)<;>simp[CY hd]
 ·rw[QU h];cases EO E o af<;>simp[CY hd]
def AMk{mv:List Tmp}{o:Oper}{K:List AVal->St->Prop} (h:d∉slots o) (hd:o.dst≠some d) (hw:EA E mv o (af.set d v) st K):EA E mv o af st λaf' st'=>K (af'.set d v) st':=by
 have hx:=λx=>Qh h (x:=x);unfold EA at *;split at hw;·grind[Op.operands,Call.operands,Bw,AHP,CY]
 ·rename_i x y t0 t1 ts hop;simp only[hop,Op.operands,Call.operands]at hx;rw[Bw (hx x fA),Bw (hx y fA),Vp h hd]at hw;split at hw
  ·split at hw;·rename_i wd l cs rest jo hab;rw[ah fy];grind[CY]
   grind
  ·rw[ae fy];grind
 ·rename_i op t x y _ hop;simp only[hop,Op.operands]at hx;rw[Vp h hd,Bw (hx x fA)]at hw;split at hw;·rename_i hn;rw[ah hn];grind[CY]
  ·rename_i hn;rw[ae hn];grind
 grind[Vp,Fj]
end
def FO (E:Env) (o:Oper) (af:List AVal) (st:St):Option AVal:=match o.op with
 |.move x=>some (rd E af o.type x).strip
 |.load t x=>(RY E t (rd E af 0 x) st).map AVal.strip
 | .slice t x lo hi mx=>match rdo E af lo,rdo E af hi,rdo E af mx with |some l,some h,some m=>Gn E t (rd E af t x) l h m|_,_,_=>none
 |.buildSlice t len ⟨ps⟩=>Ib E t len (Bb E (λ_=>Ab E.P t 0) af ps).2
 |.assign _=>none
 |.alloc _=>none
 |.box _ _=>none
 |.build _ _=>none
 |.store _ _ _=>none
 |.extract _ _=>none
 |.range _ _=>none
 |.next _ _=>none
 |.call {callee:=.builtin .append,args:=_,argTypes:=_}=>none
 |_=>(EO E o af).map AVal.strip
def AM3{E:Env}{o:Oper}{af:List AVal}{st:St}{r:AVal} (h:FO E o af st=some r):Fj E [] o af st=some (BL af o.dst r,st):=by
 have hm: ∀dst,QQ [] dst=false:=λdst=>by cases dst<;>rfl
 unfold FO at h;unfold Fj;split at h;·grind
 ·rename_i t x hop;simp only[hop,hm,al,au];cases hl:RY E t (rd E af 0 x) st with |none=>grind|some z=>grind
 ·grind
 ·grind
 all_goals (try (cases h;done))
 rename_i h1 h2 h3 h4 h5 h6 h7 h8 h9 h10 h12 h13 h11;split;·grind
 ·grind
 ·grind
 ·grind
 ·grind
 ·grind
 ·grind
 ·grind
 ·grind
 ·grind
 ·grind
 ·grind
 ·grind
 ·grind[EO]
 ·grind[EO]
 ·grind[EO]
 ·grind[EO]
 ·grind
 ·grind[EO]
 ·grind
 ·grind[EO]
 ·grind[EO]
 ·cases hp:EO E o af with |none=>grind|some z=>grind
theorem ASZ{E:Env}{o:Oper}{af:List AVal}{st:St}{d:Tmp}{v:AVal} (h:d∉slots o):FO E o (af.set d v) st=FO E o af st:=by
 have hx:=λx=>Qh h (x:=x);unfold FO;split;·grind[Op.operands,Bw]
 ·grind[Op.operands,Bw]
 ·grind[Op.operands,Bw,AAP]
 ·grind[Op.operands,Qg,Ab]
 all_goals (first| rfl| rw[QU h])
def Nr (E:Env) (ops:Array Oper) (o:Oper) (af:List AVal) (st:St):Option AVal:=match o.guard with |none=>FO E o af st| some (j,want)=>match gdA ops af j want with |some true=>FO E o af st|some false=>some (.tuple [])|none=>none
def gWp (E:Env) (mv:List Tmp) (ops:Array Oper) (o:Oper) (af:List AVal) (st:St) (K:List AVal->St->Prop):Prop:=match o.guard with |none=>EA E mv o af st K| some (j,want)=>match gdA ops af j want with |some true=>EA E mv o af st K|some false=>K (BL af o.dst (.tuple [])) st|none=>False
theorem TN{ops:Array Oper}{o:Oper}{d:Tmp} (h:d∉o.looksAt ops):d∉slots o:=λhm=>h (cP _ hm)
theorem guard_looks{ops:Array Oper}{o:Oper}{d g j:Nat}{want:Bool} (h:d∉o.looksAt ops) (hg:o.guard=some (j,want)) (hd:(ops[j]?).bind (·.dst)=some g):d≠g:=λe=>by subst e;exact h (cG _ (by grind))
theorem AVE{ops:Array Oper}{o:Oper}{af:List AVal}{d j:Nat}{want:Bool}{v:AVal} (h:d∉o.looksAt ops) (hg:o.guard=some (j,want)):gdA ops (af.set d v) j want=gdA ops af j want:=by grind[gdA,guard_looks,List.getD,List.getElem?_set_ne]
def Y1{E:Env}{ops:Array Oper}{o:Oper}{af:List AVal}{st:St}{d:Tmp}{v:AVal} (h:d∉o.looksAt ops):Nr E ops o (af.set d v) st=Nr E ops o af st:=by grind[Nr,ASZ,TN,AVE]
def Akl{E:Env}{mv:List Tmp}{ops:Array Oper}{o:Oper}{af:List AVal}{st:St}{d:Tmp}{v:AVal}{K:List AVal->St->Prop} (h:d∉o.looksAt ops) (hd:o.dst≠some d) (hw:gWp E mv ops o (af.set d v) st K):gWp E mv ops o af st λaf' st'=>K (af'.set d v) st':=by
 unfold gWp at *;split at hw;·exact AMk (TN h) hd hw
 ·rename_i j want hg;rw[AVE h hg]at hw;split at hw;·exact AMk (TN h) hd hw
  ·grind[CY]
  omega
section
variable{E:Env}{F:Nat->Nat}{Γ:Ghost}{st:St}{w:World}{af:List AVal}{a:Act}
def AD6{mv:List Tmp}{ops:Array Oper}{i:Nat}{o:Oper} (ho:ops[i]?=some o){K:List AVal->St->Prop}{K':Act->World->Prop}{Qc:Exit->Act->World->Prop} (hd:a.defers=[]) (hs:Sim E F Γ st w af a.tmps.toList) (h:gWp E mv ops o af st K) (hK: ∀Γ' af' st' a' w',Ext F Γ w Γ' w'->st.next<=st'.next->a'.defers=[]->Sim E F Γ' st' w' af' a'.tmps.toList->K af' st'->K' a' w'):wpOp E.P ops Qc i K' a w:=by
 unfold wpOp;simp only[ho];unfold gWp at h;split at h;·rename_i hg;rw[ah (by grind[Region.wanted])];exact .inl (Vg h F Γ w a hd hs K' Qc hK)
 ·rename_i j want hg;split at h;·rename_i hgd;rw[ah (by rw[PM hg,UK hs hgd])];exact .inl (Vg h F Γ w a hd hs K' Qc hK)
  ·rename_i hgd;rw[ae (by rw[PM hg,UK hs hgd];simp)];exact hK Γ _ st _ w (Ext.refl _ _ _) (aw _) (by grind[put_defers]) (hs.skipped o.dst) h
  grind
theorem AfL{E:Env}{t:TypeId}{w:Nat}{x:AVal}:F6 E .eql t x (.slice w [] true)=none:=by cases x<;>simp[F6,Qu,AFA]
def AWi{mv:List Tmp}{ops:Array Oper}{o:Oper}{r:AVal} (h:Nr E ops o af st=some r):gWp E [] ops o af st λaf' st'=>af'=BL af o.dst r/\st'=st:=by
 have key: ∀r,FO E o af st=some r->EA E [] o af st λaf' st'=>af'=BL af o.dst r/\st'=st:=by
  intro r hr;have hst:=AM3 hr;unfold EA;split;·grind[FO,EO]
  ·grind[FO]
  ·rename_i op t x y _ hop;split;·rename_i hn;obtain⟨rfl,rfl⟩:=AVF hn;grind[FO,EO,rd,KT,AfL]
   simp_all
  simp_all
 unfold Nr at h;unfold gWp;split at h;·grind
 ·split at h;·exact key r h
  ·simp only[aj]at h;subst h;exact⟨rfl,rfl⟩
  ·cases h
end
end Go.VM
set_option linter.unusedVariables false
namespace Go.VM
inductive Plan where |done |take (i:Nat) (p:Plan) |alt (i:Nat) (chk:List Nat) (p rest:Plan) |stop
def Plan.alts:Plan->List Nat |.alt i _ _ rest=>i::rest.alts|_=>[]
def Plan.sub (j:Nat):Plan->Option (List Nat×Plan) |.alt i chk p rest=>if i=j then some (chk,p)else rest.sub j|_=>none
def An0 (o:Oper) (k:Nat):Bool:=o.after.any λe=>Region.binds .any e&&e.on==k
def ASj (ops:Array Oper) (listed:Array Bool) (taken:List Nat) (i:Nat):Bool:=
  match ops[i]? with
  | some o=>
    match o.dst with
    |some d=>Region.free .any ops listed i&&!(o.looksAt ops).contains d&&taken.all λj=>match ops[j]? with|some oj=>!(oj.looksAt ops).contains d&&oj.dst !=some d|none=>false
    |none=>false
  |none=>false
def AVU (ops:Array Oper) (taken:List Nat) (i:Nat) (chk:List Nat):Bool:=match ops[i]? with |some o=>taken.all λk=>chk.contains k||An0 o k|none=>false
def J2 (ops:Array Oper):Plan->Bool->Array Bool->List Nat->Bool |.done,mode,listed,_=>!mode&&(Region.ready .any ops listed).isEmpty|.take i p,mode,listed,taken=>!mode&&(Region.ready .any ops listed).contains i&&ASj ops listed taken i&&J2 ops p false (listed.setIfInBounds i true) (i::taken)| .alt i chk p rest,mode,listed,taken=>(mode||(Region.ready .any ops listed).all λj=>(i::rest.alts).contains j)&&(Region.ready .any ops listed).contains i&&AVU ops taken i chk&&J2 ops p false (listed.setIfInBounds i true) taken&&J2 ops rest true listed taken|.stop,mode,_,_=>mode
def Xo:List (Nat×AVal)->Nat->Option AVal |[],_=>none|(j,r)::tv,k=>if k=j then some r else Xo tv k
def Qt (E:Env) (ops:Array Oper) (tv:List (Nat×AVal)) (af:List AVal) (st:St):List Nat->Prop |[]=>True|k::ks=>(match Xo tv k,ops[k]? with|some r,some o=>Nr E ops o af st=some r|_,_=>False)/\Qt E ops tv af st ks
def IR (E:Env) (mv:List Tmp) (ops:Array Oper):Plan->List (Nat×AVal)->(List AVal->St->Prop)->List AVal->St->Prop
  |.done,_,K,af,st=>K af st
  | .take i p,tv,K,af,st=>
    match ops[i]? with
    | some o=>
      match Nr E ops o af st with
      |some r=>IR E mv ops p ((i,r)::tv) K (BL af o.dst r) st
      |none=>False
    |none=>False
  | .alt i chk p rest,tv,K,af,st=>
    (match ops[i]? with
      |some o=>gWp E mv ops o af st λaf' st'=>Qt E ops tv af' st' chk/\IR E mv ops p tv K af' st'
      |none=>False)/\IR E mv ops rest tv K af st
  |.stop,_,_,_,_=>True
def K4 (ops:Array Oper) (i:Nat):Option Tmp:=(ops[i]?).bind (·.dst)
def JA (ops:Array Oper) (af:List AVal):List (Nat×AVal)->List AVal |[]=>af|(i,r)::pend=>JA ops (BL af (K4 ops i) r) pend
theorem Tm (ops:Array Oper) (pend:List (Nat×AVal)) (i:Nat) (r:AVal): ∀af,JA ops af (pend++[(i,r)])=BL (JA ops af pend) (K4 ops i) r:=by induction pend with |nil=>intro af;rfl|cons p pend ih=>intro af;exact ih _
def AJn{E:Env}{ops:Array Oper}{o:Oper}{st:St} (pend:List (Nat×AVal)): ∀af,(∀p,p∈pend->∀d,K4 ops p.1=some d->d∉o.looksAt ops)->Nr E ops o (JA ops af pend) st=Nr E ops o af st:=by induction pend with |nil=>intro af _;rfl| cons p pend ih=>intro af h;obtain⟨i,r⟩:=p;simp only[JA];rw[ih _ (λq hq=>h q (aV _ hq))];cases hd:K4 ops i with |none=>rfl|some d=>exact Y1 (h (i,r) fA d hd)
def ATx{E:Env}{mv:List Tmp}{ops:Array Oper}{o:Oper}{st:St} (pend:List (Nat×AVal)): ∀ {af:List AVal}{K:List AVal->St->Prop},(∀p,p∈pend->∀d,K4 ops p.1=some d->d∉o.looksAt ops/\o.dst≠some d)->gWp E mv ops o (JA ops af pend) st K->gWp E mv ops o af st λaf' st'=>K (JA ops af' pend) st':=by induction pend with |nil=>intro af K _ h;exact h| cons p pend ih=>intro af K h hw;obtain⟨i,r⟩:=p;simp only[JA]at hw⊢;have h1:=ih (λq hq=>h q (aV _ hq)) hw;cases hd:K4 ops i with |none=>rw[hd]at h1;exact h1| some d=>rw[hd]at h1;obtain⟨a1,a2⟩:=h (i,r) fA d hd;exact Akl (K:=λaf' st'=>K (JA ops af' pend) st') a1 a2 h1
def AaV{af:List AVal}{d e:Option Tmp}{x y:AVal} (h: ∀t,d=some t->e≠some t):BL (BL af d x) e y=BL (BL af e y) d x:=by cases d with |none=>rfl| some d=>cases e with |none=>rfl| some e=>have:d≠e:=λhe=>h d rfl (by rw[he]);grind[BL,List.set_comm]
def WP{ops:Array Oper}{i:Nat}{r:AVal} (pend:List (Nat×AVal)): ∀af,(i,r)∈pend->(pend.map (·.1)).Nodup->(∀p q,p∈pend->q∈pend->p.1≠q.1->∀t,K4 ops p.1=some t->K4 ops q.1≠some t)->JA ops af pend=JA ops (BL af (K4 ops i) r) (pend.filter λp=>p.1 !=i):=by
 induction pend with
 |nil=>simp
 | cons p pend ih=>
  intro af h hn hd;obtain⟨j,s⟩:=p;simp only[aE,b8]at hn;by_cases hij:j=i
  ·subst hij;have hsr:s=r:=by
    rcases aL.1 h with e|e;·grind
    ·exact absurd (bu.2 ⟨(j,r),e,rfl⟩) hn.1
   subst hsr;have hf:pend.filter (λp=>p.1 !=j)=pend:=List.filter_eq_self.2 λq hq=>by simp only[dL,dU];grind
   grind[JA]
  ·have hm:(i,r)∈pend:=by
    rcases aL.1 h with e|e;·cases e;omega
    omega
   have hne:(j !=i)=true:=by grind
   rw[d5,ah hne];simp only[JA];rw[ih _ hm hn.2 (λp q hp hq=>hd p q (aV _ hp) (aV _ hq))];rw[AaV (λt ht=>hd (j,s) (i,r) fA h fy t ht)]
def OrdP (ops:Array Oper):(Nat->Prop)->List (Nat×AVal)->Prop |_,[]=>True|P,(i,_)::rest=>(∀o,ops[i]?=some o->∀e,e∈o.after->Region.binds .any e=true->P e.on)/\OrdP ops (λk=>P k\/k=i) rest
def OrdP.mono{ops:Array Oper}: ∀ {pend:List (Nat×AVal)}{P P':Nat->Prop},(∀k,P k->P' k)->OrdP ops P pend->OrdP ops P' pend |[],_,_,_,_=>trivial|(i,_)::rest,_,_,h,⟨h1,h2⟩=>⟨λo ho e he hb=>h _ (h1 o ho e he hb),OrdP.mono (λk hk=>hk.imp (h k) id) h2⟩
def OrdP.snoc{ops:Array Oper}{i:Nat}{r:AVal}: ∀ {pend:List (Nat×AVal)}{P:Nat->Prop},OrdP ops P pend->(∀o,ops[i]?=some o->∀e,e∈o.after->Region.binds .any e=true->P e.on\/e.on∈pend.map (·.1))->OrdP ops P (pend++[(i,r)]) |[],P,_,h=>⟨λo ho e he hb=>(h o ho e he hb).resolve_right fA,trivial⟩|(j,_)::rest,P,⟨h1,h2⟩,h=>⟨h1,OrdP.snoc h2 λo ho e he hb=>by grind⟩
def OrdP.erase{ops:Array Oper}{k:Nat}: ∀ {pend:List (Nat×AVal)}{P:Nat->Prop},OrdP ops P pend->OrdP ops (λj=>P j\/j=k) (pend.filter λp=>p.1 !=k)
 |[],_,_=>trivial
 | (i,s)::rest,P,⟨h1,h2⟩=>by
  have ih:=OrdP.erase (k:=k) h2;by_cases hik:i=k;·grind
  ·have hne:(i !=k)=true:=by grind
   rw[d5,ah hne];exact⟨λo ho e he hb=>.inl (h1 o ho e he hb),ih.mono λj hj=>by grind⟩
def Oz (n:Nat) (listed:Array Bool):Nat:=(List.range n).countP λk=>!listed.getD k true
def ABb{i:Nat}{f g:Nat->Bool} (hf:f i=false) (hg:g i=true) (h: ∀k,k≠i->f k=g k): ∀l:List Nat,l.countP f+l.count i=l.countP g |[]=>rfl| k::l=>by have ih:=ABb hf hg h l;grind
def XZ{n i:Nat}{listed:Array Bool} (hi:listed.getD i true=false) (hn:i<n):Oz n (listed.setIfInBounds i true)+1<=Oz n listed:=by
 have hlt:i<listed.size:=by grind
 have hset:(listed.setIfInBounds i true).getD i true=true:=fA;have hother: ∀k,k≠i->(listed.setIfInBounds i true).getD k true=listed.getD k true:=λk hk=>fp true (ez hk);unfold Oz;have key:=λl=>ABb (i:=i) (f:=λk=>!(listed.setIfInBounds i true).getD k true) (g:=λk=>!listed.getD k true) fA (by grind) (λk hk=>by grind) l;grind
def VZ{n:Nat}{listed:Array Bool} (h:Oz n listed=0){k:Nat} (hk:k<n):listed.getD k true=true:=by have:=List.countP_eq_zero.1 h k (cq.2 hk);grind
structure Inv (E:Env) (ops:Array Oper) (act asap:Array Bool) (taken:List Nat) (pend tv:List (Nat×AVal)) (af:List AVal) (st:St):Prop where
  sz1:act.size=ops.size
  sz2:asap.size=ops.size
  list: ∀k,k<ops.size->(asap.getD k true=true<->act.getD k true=true\/k∈pend.map (·.1))
  notin: ∀p,p∈pend->act.getD p.1 true=false/\p.1<ops.size/\p.1∈taken
  nodup:(pend.map (·.1)).Nodup
  tvl: ∀p,p∈pend->Xo tv p.1=some p.2
  val: ∀p,p∈pend-> ∀o,ops[p.1]?=some o->Nr E ops o (JA ops af pend) st=some p.2
  free: ∀p,p∈pend-> ∀d,K4 ops p.1=some d-> ∀j oj,ops[j]?=some oj->asap.getD j true=false->(∀e,e∈oj.after->Region.binds .any e=true->e.on≠p.1)->d∉oj.looksAt ops/\oj.dst≠some d
  self: ∀p,p∈pend-> ∀d o,K4 ops p.1=some d->ops[p.1]?=some o->d∉o.looksAt ops
  pair: ∀p q,p∈pend->q∈pend->p.1≠q.1-> ∀d,K4 ops p.1=some d->K4 ops q.1≠some d/\ ∀oq,ops[q.1]?=some oq->(∀e,e∈oq.after->Region.binds .any e=true->e.on≠p.1)->d∉oq.looksAt ops
  ord:OrdP ops (λk=>act.getD k false=true) pend
def SE{l:Array Bool}{k:Nat} (h:k<l.size):l.getD k false=l.getD k true:=by grind
section
variable{E:Env}{ops:Array Oper}
def Inv.ready_sub{act asap:Array Bool}{taken:List Nat}{pend tv:List (Nat×AVal)}{af:List AVal}{st:St} (I:Inv E ops act asap taken pend tv af st){j:Nat} (hj:j∈Region.ready .any ops act) (hp:j∉pend.map (·.1)):j∈Region.ready .any ops asap:=by
 obtain⟨h0,o,ho,h1⟩:=cV.1 hj;have hlt:j<ops.size:=(aZ.1 ho).1;refine cV.2 ⟨?_,o,ho,λe he hb=>?_⟩;·cases h:asap.getD j true with |false=>rfl| true=>rcases (I.list j hlt).1 h with h|h<;>grind[absurd]
 ·have:=h1 e he hb;have hlt':e.on<act.size:=by grind
  rw[SE hlt']at this;rw[SE (by rw[I.sz2,<-I.sz1];omega)];exact(I.list e.on (by rw[<-I.sz1];omega)).2 (.inl this)
def Inv.some_ready{act asap:Array Bool}{taken:List Nat}{pend tv:List (Nat×AVal)}{af:List AVal}{st:St} (I:Inv E ops act asap taken pend tv af st) (h:Region.ready .any ops act=[]):pend=[]:=by
 cases hp:pend with
 |nil=>rfl
 | cons p rest=>
  exfalso;obtain⟨i,r⟩:=p;have hm:(i,r)∈pend:=by grind
  obtain⟨h0,hlt,_⟩:=I.notin _ hm;have hord:=I.ord;rw[hp]at hord;obtain⟨o,ho⟩: ∃o,ops[i]?=some o:=⟨ops[i],cH hlt⟩;have:i∈Region.ready .any ops act:=cV.2 ⟨h0,o,ho,λe he hb=>hord.1 o ho e he hb⟩;grind
def Inv.asap_ready{act asap:Array Bool}{taken:List Nat}{tv:List (Nat×AVal)}{af:List AVal}{st:St} (I:Inv E ops act asap taken [] tv af st){j:Nat} (hj:j∈Region.ready .any ops asap):j∈Region.ready .any ops act:=by
 obtain⟨h0,o,ho,h1⟩:=cV.1 hj;have hlt:j<ops.size:=(aZ.1 ho).1;refine cV.2 ⟨?_,o,ho,λe he hb=>?_⟩;·cases h:act.getD j true with |false=>rfl|true=>have:=(I.list j hlt).2 (.inl h);grind
 ·have:=h1 e he hb;have hlt':e.on<asap.size:=by grind
  rw[SE hlt']at this;rw[SE (by rw[I.sz1,<-I.sz2];omega)];rcases (I.list e.on (by rw[<-I.sz2];exact hlt')).1 this with h|h<;>grind
def ACY{tv:List (Nat×AVal)}{af:List AVal}{st:St}: ∀ {chk:List Nat},Qt E ops tv af st chk->∀ {k:Nat},k∈chk->∃r o,Xo tv k=some r/\ops[k]?=some o/\Nr E ops o af st=some r
 |[],_,_,h=>by cases h
 | x::xs,⟨h1,h2⟩,k,h=>by
  rcases aL.1 h with rfl|h;·grind
  ·exact ACY h2 h
def AQ5{mv:List Tmp}{listed:Array Bool}{taken:List Nat}{tv:List (Nat×AVal)}{K:List AVal->St->Prop}{af:List AVal}{st:St}: ∀ {p:Plan},J2 ops p true listed taken=true->IR E mv ops p tv K af st->∀ {j:Nat},j∈p.alts->∃chk q o,ops[j]?=some o/\AVU ops taken j chk=true/\J2 ops q false (listed.setIfInBounds j true) taken=true/\gWp E mv ops o af st λaf' st'=>Qt E ops tv af' st' chk/\IR E mv ops q tv K af' st'
 | .alt i chk p rest,hok,hw,j,hj=>by
  simp only[J2,az]at hok;simp only[IR]at hw;rcases aL.1 hj with rfl|hj;·grind
  ·exact AQ5 hok.2 hw.2 hj
 |.done,_,_,_,h=>by cases h
 |.take _ _,_,_,_,h=>by cases h
 |.stop,_,_,_,h=>by cases h
def Inv.take{act asap:Array Bool}{taken:List Nat}{pend tv:List (Nat×AVal)}{af:List AVal}{st:St} (I:Inv E ops act asap taken pend tv af st){i:Nat}{o:Oper}{r:AVal} (hr:i∈Region.ready .any ops asap) (hok:ASj ops asap taken i=true) (ho:ops[i]?=some o) (hv:Nr E ops o (JA ops af pend) st=some r):Inv E ops act (asap.setIfInBounds i true) (i::taken) (pend++[(i,r)]) ((i,r)::tv) af st:=by
 obtain⟨h0,o',ho',hw⟩:=cV.1 hr;rw[ho]at ho';cases ho';have hlt:i<ops.size:=(aZ.1 ho).1;have hact:act.getD i true=false:=by cases h:act.getD i true with |false=>rfl|true=>have:=(I.list i hlt).2 (.inl h);grind
 have hnp:i∉pend.map (·.1):=λh=>by have:=(I.list i hlt).2 (.inr h);grind
 unfold ASj at hok;rw[ho]at hok;simp only at hok;split at hok
 ·rename_i d hd;simp only[az,cw,aR]at hok;obtain⟨⟨hfree,hself⟩,htk⟩:=hok;have hself':d∉o.looksAt ops:=by grind
  have hdst:K4 ops i=some d:=by grind[K4]
  have hfr:=λj oj hj hne hun hno=>Oper.apart_spec (Region.free_spec ho hfree j oj hj hne hun hno);have htk': ∀j,j∈taken->∀oj,ops[j]?=some oj->d∉oj.looksAt ops/\oj.dst≠some d:=by intro j hj oj hoj;have:=htk j hj;simp_all
  have hset: ∀k,k≠i->(asap.setIfInBounds i true).getD k true=asap.getD k true:=λk hk=>fp true (ez hk);have hseti:(asap.setIfInBounds i true).getD i true=true:=fA;have hpne: ∀p,p∈pend->p.1≠i:=λp hp e=>hnp (bu.2 ⟨p,hp,e⟩);refine {sz1:=I.sz1,sz2:=by simp[I.sz2],list:=?_,notin:=?_,nodup:=?_,tvl:=?_,val:=?_,free:=?_,self:=?_,pair:=?_,ord:=?_}
  ·intro k hk;rw[bZ,aX];by_cases hki:k=i;·grind
   ·rw[hset k hki,I.list k hk];grind
  ·intro p hp;rcases aX.1 hp with hp|hp;·obtain⟨a,b,c⟩:=I.notin p hp;grind
   grind
  ·rw[bZ,List.nodup_append];refine⟨I.nodup,fA,?_⟩;grind
  ·intro p hp;rcases aX.1 hp with hp|hp;·simp only[Xo];rw[ae (hpne p hp)];exact I.tvl p hp
   grind[Xo]
  ·intro p hp op hop;rw[Tm,hdst];rcases aX.1 hp with hp|hp;·rw[show BL (JA ops af pend) (some d) r=(JA ops af pend).set d r from rfl,Y1 (htk' p.1 (I.notin p hp).2.2 op hop).1];exact I.val p hp op hop
   ·simp only[bv]at hp;subst hp;rw[ho]at hop;cases hop;rw[show BL (JA ops af pend) (some d) r=(JA ops af pend).set d r from rfl,Y1 hself'];omega
  ·intro p hp dd hdd j oj hoj hun hno;have hji:j≠i:=λe=>by grind
   rw[hset j hji]at hun;rcases aX.1 hp with hp|hp;·exact I.free p hp dd hdd j oj hoj hun hno
   grind
  ·intro p hp dd op hdd hop;rcases aX.1 hp with hp|hp;·exact I.self p hp dd op hdd hop
   grind
  ·intro p q hp hq hne dd hdd;rcases aX.1 hp with hp|hp<;>rcases aX.1 hq with hq|hq;·exact I.pair p q hp hq hne dd hdd
   ·simp only[bv]at hq;subst hq;simp only at hne⊢;refine⟨?_,λoq hoq hno=>?_⟩
    ·rw[hdst];intro e;simp only[aj]at e;have hpo: ∃op,ops[p.1]?=some op:=⟨_,cH (I.notin p hp).2.1⟩;obtain⟨op,hop⟩:=hpo;have:=(htk' p.1 (I.notin p hp).2.2 op hop).2;have hdd':op.dst=some dd:=by grind[K4]
     rw[hdd',e]at this;grind
    ·rw[ho]at hoq;cases hoq;exact(I.free p hp dd hdd i o ho h0 hno).1
   ·simp only[bv]at hp;subst hp;simp only at hne hdd⊢;rw[hdst]at hdd;cases hdd;obtain⟨oq,hoq⟩: ∃oq,ops[q.1]?=some oq:=⟨_,cH (I.notin q hq).2.1⟩;have hh:=htk' q.1 (I.notin q hq).2.2;grind[K4]
   ·simp only[bv]at hp hq;subst hp;subst hq;omega
  ·refine I.ord.snoc λo'' ho'' e he hb=>?_;rw[ho]at ho'';cases ho'';have:=hw e he hb;have hlt':e.on<asap.size:=by grind
   rw[SE hlt']at this;rcases (I.list e.on (by rw[<-I.sz2];omega)).1 this with h|h;·exact .inl (by rw[SE (by rw[I.sz1,<-I.sz2];omega)];exact h)
   grind
 grind
def Inv.come{act asap:Array Bool}{taken:List Nat}{pend tv:List (Nat×AVal)}{af:List AVal}{st:St} (I:Inv E ops act asap taken pend tv af st){i:Nat}{r:AVal} (hm:(i,r)∈pend):Inv E ops (act.setIfInBounds i true) asap taken (pend.filter λp=>p.1 !=i) tv (BL af (K4 ops i) r) st:=by
 obtain⟨h0,hlt,htk⟩:=I.notin _ hm;have hmem: ∀p,p∈pend.filter (λp=>p.1 !=i)->p∈pend/\p.1≠i:=λp hp=>by grind
 have hset: ∀k,k≠i->(act.setIfInBounds i true).getD k true=act.getD k true:=λk hk=>fp true (ez hk);have hseti:(act.setIfInBounds i true).getD i true=true:=fA;have herase:=WP pend af hm I.nodup (λp q hp hq hne t ht=>(I.pair p q hp hq hne t ht).1);refine {sz1:=by simp[I.sz1],sz2:=I.sz2,list:=?_,notin:=?_,nodup:=?_,tvl:=λp hp=>I.tvl p (hmem p hp).1,val:=?_,free:=λp hp=>I.free p (hmem p hp).1,self:=λp hp=>I.self p (hmem p hp).1,pair:=λp q hp hq=>I.pair p q (hmem p hp).1 (hmem q hq).1,ord:=?_}
 ·intro k hk;by_cases hki:k=i;·subst hki;rw[hseti];simp only[true_or,iff_true];exact(I.list k hk).2 (.inr (bu.2 ⟨_,hm,rfl⟩))
  ·rw[hset k hki,I.list k hk];simp_all
 ·intro p hp;obtain⟨a,b⟩:=hmem p hp;obtain⟨c,d,e⟩:=I.notin p a;grind
 ·exact(List.filter_sublist.map _).nodup I.nodup
 ·intro p hp o ho;rw[<-herase];exact I.val p (hmem p hp).1 o ho
 ·refine(I.ord.erase (k:=i)).mono λk hk=>?_;grind
def Inv.step{act asap:Array Bool}{taken:List Nat}{pend tv:List (Nat×AVal)}{af af':List AVal}{st st':St} (I:Inv E ops act asap taken pend tv af st){i:Nat}{chk:List Nat}{o:Oper} (hr:i∈Region.ready .any ops act) (hp:i∉pend.map (·.1)) (ho:ops[i]?=some o) (hchk:AVU ops taken i chk=true) (hall:Qt E ops tv (JA ops af' pend) st' chk):Inv E ops (act.setIfInBounds i true) (asap.setIfInBounds i true) taken pend tv af' st':=by
 obtain⟨h0,o',ho',hw⟩:=cV.1 hr;rw[ho]at ho';cases ho';have hlt:i<ops.size:=(aZ.1 ho).1;have hset: ∀(l:Array Bool) k,k≠i->(l.setIfInBounds i true).getD k true=l.getD k true:=λl k hk=>fp true (ez hk);have hseti: ∀(l:Array Bool),l.size=ops.size->(l.setIfInBounds i true).getD i true=true:=λl hl=>by simp
 have hpne: ∀p,p∈pend->p.1≠i:=λp hpm e=>hp (bu.2 ⟨p,hpm,e⟩);refine {sz1:=by simp[I.sz1],sz2:=by simp[I.sz2],list:=?_,notin:=?_,nodup:=I.nodup,tvl:=I.tvl,val:=?_,free:=?_,self:=I.self,pair:=I.pair,ord:=?_}
 ·intro k hk;by_cases hki:k=i;·simp_all
  ·rw[hset act k hki,hset asap k hki];exact I.list k hk
 ·intro p hpm;obtain⟨a,b,c⟩:=I.notin p hpm;grind
 ·intro p hpm op hop;unfold AVU at hchk;rw[ho]at hchk;simp only[aR,bE]at hchk;obtain⟨a,b,c⟩:=I.notin p hpm;rcases hchk p.1 c with h|h;·obtain⟨r,o2,e1,e2,e3⟩:=ACY hall (by simpa using h);rw[I.tvl p hpm]at e1;grind
  ·exfalso;obtain⟨e,he,hb⟩:=Array.any_eq_true'.1 h;simp only[az,bA]at hb;have:=hw e he hb.1;rw[hb.2,SE (by grind),a]at this;grind
 ·intro p hpm d hd j oj hoj hun hno;have hji:j≠i:=λe=>by simp_all
  rw[hset asap j hji]at hun;exact I.free p hpm d hd j oj hoj hun hno
 ·exact I.ord.mono λk hk=>getD_set_true hk
def ATs{mv:List Tmp}{K:List AVal->St->Prop}{Qc:Exit->Act->World->Prop}{F:Nat->Nat} (fuel:Nat): ∀(plan:Plan){act asap:Array Bool}{taken:List Nat}{pend tv:List (Nat×AVal)}{af:List AVal}{st:St}{a:Act}{w:World}{Γ:Ghost},J2 ops plan false asap taken=true->Oz ops.size act<=fuel->Inv E ops act asap taken pend tv af st->a.defers=[]->Sim E F Γ st w af a.tmps.toList->IR E mv ops plan tv K (JA ops af pend) st->(∀Γ' af' st' a' w',Ext F Γ w Γ' w'->st.next<=st'.next->a'.defers=[]->Sim E F Γ' st' w' af' a'.tmps.toList->K af' st'->Qc .normal a' w')->wpAny E.P .any ops Qc fuel act a w:=by
 induction fuel with
 | zero=>
  intro plan;induction plan with
  | done=>
   intro act asap taken pend tv af st a w Γ hok hn I hd hs hw hK;have hrd:Region.ready .any ops act=[]:=List.eq_nil_iff_forall_not_mem.2 λj hj=>by obtain⟨h0,o,ho,_⟩:=cV.1 hj;rw[VZ (Nat.le_zero.1 hn) (aZ.1 ho).1]at h0;grind
   have:=I.some_ready hrd;subst this;exact⟨hrd,hK Γ af st a w (Ext.refl _ _ _) (aw _) hd hs hw⟩
  | take i p ih=>
   intro act asap taken pend tv af st a w Γ hok hn I hd hs hw hK;simp only[J2,az]at hok;simp only[IR]at hw;split at hw
   ·rename_i o ho;split at hw;·rename_i r hr;have I2:=I.take (by grind) hok.1.2 ho hr;grind[Tm,K4]
    grind
   grind
  | alt i chk p rest _ _=>
   intro act asap taken pend tv af st a w Γ hok hn I hd hs hw hK;exfalso;simp only[J2,az]at hok;have hi:i∈Region.ready .any ops asap:=by grind
   obtain⟨h0,o,ho,_⟩:=cV.1 hi;have hlt:=(aZ.1 ho).1;have:=(I.list i hlt).2 (.inl (VZ (Nat.le_zero.1 hn) hlt));grind
  |stop=>grind[J2]
 | succ fuel ihf=>
  have come: ∀(plan:Plan){act asap:Array Bool}{taken:List Nat}{pend tv:List (Nat×AVal)}{af:List AVal}{st:St}{a:Act}{w:World}{Γ:Ghost},J2 ops plan false asap taken=true->Oz ops.size act<=fuel+1->Inv E ops act asap taken pend tv af st->a.defers=[]->Sim E F Γ st w af a.tmps.toList->IR E mv ops plan tv K (JA ops af pend) st->(∀Γ' af' st' a' w',Ext F Γ w Γ' w'->st.next<=st'.next->a'.defers=[]->Sim E F Γ' st' w' af' a'.tmps.toList->K af' st'->Qc .normal a' w')->∀j,j∈Region.ready .any ops act->j∈pend.map (·.1)->wpOp E.P ops Qc j (wpAny E.P .any ops Qc fuel (act.setIfInBounds j true)) a w:=by
   intro plan act asap taken pend tv af st a w Γ hok hn I hd hs hw hK j hj hjp;obtain⟨p,hp,rfl⟩:=bu.1 hjp;obtain⟨h0,o,ho,hwt⟩:=cV.1 hj;have hlt:=(aZ.1 ho).1;have hlooks: ∀q,q∈pend->∀d,K4 ops q.1=some d->d∉o.looksAt ops:=by
    intro q hq d hdd;by_cases hqp:q.1=p.1;·exact I.self q hq d o hdd (by grind)
    ·refine(I.pair q p hq hp hqp d hdd).2 o ho λe he hb heq=>?_;have:=hwt e he hb;obtain⟨a1,b1,_⟩:=I.notin q hq;grind
   have hval:=I.val p hp o ho;rw[AJn pend af hlooks]at hval;refine AD6 ho hd hs (AWi (mv:=mv) hval) λΓ' af' st' a' w' x1 n1 d1 s1 k1=>?_;obtain⟨rfl,rfl⟩:=k1;have hdst:K4 ops p.1=o.dst:=by grind[K4]
   have hpm:(p.1,p.2)∈pend:=hp;have I2:=I.come hpm;rw[hdst]at I2;refine ihf plan hok (by have:=XZ h0 hlt;omega) I2 d1 s1 ?_ λΓ2 af2 st2 a2 w2 x2 n2 d2 s2 k2=>hK Γ2 af2 st2 a2 w2 (x1.trans x2) (bI n1 n2) d2 s2 k2;rw[WP pend af hpm I.nodup (λp q hp hq hne t ht=>(I.pair p q hp hq hne t ht).1),hdst]at hw;omega
  intro plan;induction plan with
  | done=>
   intro act asap taken pend tv af st a w Γ hok hn I hd hs hw hK;refine⟨λhrd=>?_,λj hj=>?_⟩;·have:=I.some_ready hrd;subst this;exact hK Γ af st a w (Ext.refl _ _ _) (aw _) hd hs hw
   ·by_cases hjp:j∈pend.map (·.1);·grind
    ·exfalso;have:=I.ready_sub hj hjp;simp only[J2,bh,bF,List.isEmpty_iff]at hok;grind
  | take i p ih=>
   intro act asap taken pend tv af st a w Γ hok hn I hd hs hw hK;simp only[J2,az]at hok;simp only[IR]at hw;split at hw
   ·rename_i o ho;split at hw;·rename_i r hr;have I2:=I.take (by grind) hok.1.2 ho hr;grind[Tm,K4]
    grind
   grind
  | alt i chk p rest _ _=>
   intro act asap taken pend tv af st a w Γ hok hn I hd hs hw hK;have hok0:=hok;simp only[J2,az]at hok;have hi:i∈Region.ready .any ops asap:=by grind
   refine⟨λhrd=>?_,λj hj=>?_⟩;·exfalso;have:=I.some_ready hrd;subst this;have:=I.asap_ready hi;grind
   ·by_cases hjp:j∈pend.map (·.1);·grind
    ·have hja:=I.ready_sub hj hjp;have hall:=hok.1.1.1.1;simp only[be,aR]at hall;have hjm:j∈(Plan.alt i chk p rest).alts:=by grind[Plan.alts]
     have hok':J2 ops (.alt i chk p rest) true asap taken=true:=by simp only[J2,dc,bF,az];grind
     obtain⟨chk',q,o,ho,hc,hq,hg⟩:=AQ5 hok' hw hjm;obtain⟨h0,o',ho',hwt⟩:=cV.1 hj;rw[ho]at ho';cases ho';have hlt:=(aZ.1 ho).1;have hun:asap.getD j true=false:=(cV.1 hja).1;have hlooks: ∀p,p∈pend->∀d,K4 ops p.1=some d->d∉o.looksAt ops/\o.dst≠some d:=by intro p hp d hdd;refine I.free p hp d hdd j o ho hun λe he hb heq=>?_;have:=hwt e he hb;obtain⟨a1,b1,_⟩:=I.notin p hp;grind
     refine AD6 ho hd hs (ATx pend hlooks hg) λΓ' af' st' a' w' x1 n1 d1 s1 k1=>?_;have I2:=I.step hj hjp ho hc k1.1;exact ihf q hq (by have:=XZ h0 hlt;omega) I2 d1 s1 k1.2 λΓ2 af2 st2 a2 w2 x2 n2 d2 s2 k2=>hK Γ2 af2 st2 a2 w2 (x1.trans x2) (bI n1 n2) d2 s2 k2
  |stop=>grind[J2]
end
def SS{E:Env}{Q:APost}{af:List AVal}{st:St}{id:Nat}{ops:Array Oper} (mv:List Tmp) (plan:Plan) (hm:E.P.follows .mixedOrders=true) (hok:J2 ops plan false (Array.replicate ops.size false) []=true) (h:IR E mv ops plan [] (λaf st=>Q .normal af st) af st):AWp E (.region id ops true) Q af st:=by
 constructor;intro F Γ w a hd hs;refine wp_region_any hm ?_;have I:Inv E ops (Array.replicate ops.size false) (Array.replicate ops.size false) [] [] [] af st:=by
  have hno: ∀p:Nat×AVal,p∈([]:List (Nat×AVal))->False:=λp hp=>by grind
  exact {sz1:=fA,sz2:=fA,list:=(λk hk=>by simp),notin:=(λp hp=>(hno p hp).elim),nodup:=fA,tvl:=(λp hp=>(hno p hp).elim),val:=(λp hp=>(hno p hp).elim),free:=(λp hp=>(hno p hp).elim),self:=(λp hp=>(hno p hp).elim),pair:=(λp q hp=>(hno p hp).elim),ord:=trivial}
 have hun:Oz ops.size (Array.replicate ops.size false)<=ops.size:=by grind[Oz,List.countP_le_length,Array.replicate,List.range]
 exact ATs ops.size plan hok hun I hd hs.drew h λΓ' af' st' a' w' x1 n1 d1 s1 k1=>⟨trivial,d1,Γ',af',st',⟨x1.le,x1.keep,x1.size,x1.os,x1.output,x1.tape⟩,n1,s1,k1⟩
end Go.VM
set_option linter.unusedVariables false
namespace Go.VM
def Aj:List Tmp->List AVal->List AVal |[],af=>af|j::js,af=>Aj js (af.set j .any)
def setVals:List AVal->List Tmp->List AVal->List AVal |af,c::cs,v::vs=>setVals (af.set c v) cs vs|af,_,_=>af
def C9 (af:List AVal) (cs:List Tmp):List AVal:=cs.map λc=>af.getD c .any
section
variable{E:Env}{F:Nat->Nat}{Γ:Ghost}{st:St}{w:World}{af:List AVal}{a:Act}{Q:APost}
def Sim.setAny (hs:Sim E F Γ st w af a.tmps.toList) (j:Tmp):Sim E F Γ st w (af.set j .any) a.tmps.toList:=by
 have key: ∀ {xs:List AVal}{vs:List Value} (j:Nat),RepL Γ xs vs->RepL Γ (xs.set j .any) vs:=by intro xs;induction xs with |nil=>simp| cons x xs ih=>intro vs j h;cases h with | cons h t=>cases j with |zero=>exact .cons (.any _) t|succ j=>exact .cons h (ih j t)
 have keyo: ∀ {xs:List AVal}{vs:List Value} (j:Nat),ownL Γ w xs vs->ownL Γ w (xs.set j .any) vs:=by intro xs;induction xs with |nil=>simp| cons x xs ih=>intro vs j h;cases vs with |nil=>cases j<;>simp[ownL]| cons v vs=>rw[ownL]at h;cases j with |zero=>grind[ownL,VM.own]|succ j=>grind[ownL]
 have keyc: ∀(xs:List AVal) (vs:List Value) (j b:Nat),AU b (xs.set j .any) vs<=AU b xs vs:=by intro xs;induction xs with |nil=>simp| cons x xs ih=>intro vs j b;cases vs with |nil=>cases j<;>simp[AU]| cons v vs=>cases j with |zero=>grind[AU,cnt]|succ j=>grind[AU]
 exact {hs with rep:=key j hs.rep,own:=keyo j hs.own,tok:=λb=>by have:=keyc af a.tmps.toList j b;have:=hs.tok b;omega}
def Sim.mask (js:List Tmp): ∀ {af:List AVal},Sim E F Γ st w af a.tmps.toList->Sim E F Γ st w (Aj js af) a.tmps.toList:=by induction js with |nil=>intro af hs;exact hs|cons j js ih=>intro af hs;exact ih (hs.setAny j)
def Su{c:Code} (js:List Tmp) (h:AWp E c Q (Aj js af) st):AWp E c Q af st:=⟨λF Γ w a hd hs=>h.go F Γ w a hd (hs.mask js)⟩
def Tw (js:List Tmp): ∀(af:List AVal) (j:Tmp),Aj js (af.set j .any)=(Aj js af).set j .any:=by induction js<;>grind[Aj,List.set_set,List.set_comm]
theorem LX: ∀(cs:List Tmp) (af af0:List AVal),Aj cs af=Aj cs af0->af=setVals af0 cs (C9 af cs):=by
 intro cs;induction cs with
 |nil=>intro af af0 h;exact h
 | cons c cs ih=>
  intro af af0 h;simp only[Aj]at h;simp only[C9,aE,setVals];have h2:Aj cs af=Aj cs (af0.set c (af.getD c .any)):=by
   have hl:af.length=af0.length:=by
    have hlen: ∀(l:List Tmp) (x:List AVal),(Aj l x).length=x.length:=by intro l;induction l<;>grind[Aj]
    have:=a8 List.length h;grind
   rw[Tw,Tw]at h;apply cx;intro i;have hi:=a8 (·[i]?) h;simp only[dm]at hi;have hmask: ∀(l:List Tmp) (x:List AVal) (k:Nat),(Aj l x)[k]?=if k∈l then(if k<x.length then some .any else none)else x[k]?:=by
    intro l;induction l with
    |nil=>grind[Aj]
    | cons j l ih=>
     intro x k;simp only[Aj,ih,ci,aL];by_cases hkl:k∈l;·grind
     ·by_cases hkj:k=j;·subst hkj;simp only[hkl,au,true_or,av,dm]
      ·simp only[hkl,au,hkj,eC,dm];rw[ae (λe=>hkj e.symm)]
   rw[hmask,hmask];rw[hmask,hmask]at hi;by_cases hic:i∈cs;·grind
   ·simp only[hic,au]at hi⊢;rw[dm];by_cases hci:c=i;·subst hci;simp only[av];by_cases hlt:c<af.length<;>simp_all[List.getD]
    simp_all
  exact ih af _ h2
def ABu{c:Code} (js cs:List Tmp) (I:Nat->List AVal->St->Prop) (n₀:Nat) (h₀:I n₀ (C9 (Aj js af) cs) st) (round: ∀n vs st',I n vs st'->∀J:List AVal->St->Prop,(∀n' af' st' m,n'<n->m.Sublist st'.m->Aj cs (Aj js af')=Aj cs (Aj js af)->I n' (C9 (Aj js af') cs) {st' with m:=m}->J af' st')->AWp E c (kPost J Q) (setVals (Aj js af) cs vs) st'):AWp E (.loop c) Q af st:=by refine Su js ?_;constructor;intro F Γ w a hd hs;refine wp_loop_ghost (λn a' w'=>a'.defers=[]/\∃Γ' vs st',Ext F Γ w Γ' w'/\st.next<=st'.next/\Sim E F Γ' st' w' (setVals (Aj js af) cs vs) a'.tmps.toList/\I n vs st') n₀ ⟨hd,Γ,C9 (Aj js af) cs,st,Ext.refl _ _ _,aw _,by rw[<-LX cs _ _ rfl];omega,h₀⟩ ?_;intro n a₁ w₁ ⟨hd1,Γ₁,vs₁,st₁,h2,h3,h4,h5⟩;refine fd ((round n vs₁ st₁ h5 (λaf' st'=>∃n' m,n'<n/\m.Sublist st'.m/\Aj cs (Aj js af')=Aj cs (Aj js af)/\I n' (C9 (Aj js af') cs) {st' with m:=m}) (λn' af' st' m k1 k2 k3 k4=>⟨n',m,k1,k2,k3,k4⟩)).go F Γ₁ w₁ a₁ hd1 h4) ?_;intro e a' w' hq;have hq:=Vh h2 h3 hq;cases e with | normal=>obtain⟨_,k1,Γ',af',st',k2,k3,k4,kk⟩:=hq;obtain⟨n',m,k5,k6,k7,k8⟩:=kk.get;refine⟨n',k5,k1,Γ',C9 (Aj js af') cs,{st' with m:=m},k2,k3,?_,k8⟩;rw[<-LX cs _ _ k7];exact(k4.mask js).fewer k6| _=>obtain⟨k0,k1,Γ',af',st',k2,k3,k4,kk⟩:=hq;exact⟨k0,k1,Γ',af',st',k2,k3,k4,kk.out fA⟩
theorem ACall.strip{f:FuncId}{args:List AVal}{Q:AVal->St->Prop} (h:ACall E f args st λr st'=>Q r.strip st'):ACall E f args st Q:=⟨λF Γ w cargs hs=>(h.go F Γ w cargs hs).mono λe w' ⟨v,he,Γ',r,st',h1,h2,h3,h4⟩=>⟨v,he,Γ',r.strip,st',h1,h2,by
 have hr:Rep Γ' r v:=by have:=h3.rep;cases this;omega
 have ht: ∀b,F b+AU b [r.strip] [v]+Ay Γ' w' b st'.m<=1:=λb=>by have:=h3.tok b;grind[AU,KA]
 exact {h3 with rep:=.cons hr.strip .nil,own:=(by grind[ownL,NH]),tok:=ht},h4⟩⟩
end
end Go.VM
set_option linter.unusedVariables false
namespace Go.VM
mutual def bnd:AVal->Prop |.agg cs=>bndL cs|.tuple cs=>bndL cs|.slice _ xs _=>xs.length<=Dl|.str s=>s.length<=Dl|.buf _ l _=>l.length<=Dl|_=>True def bndL:List AVal->Prop |[]=>True|x::xs=>bnd x/\bndL xs end
mutual theorem Rep.bnd{Γ:Ghost}: {x:AVal}->{v:Value}->Rep Γ x v->VM.bnd x |_,_,.any v=>by simp[VM.bnd]|_,_,.bool b=>by simp[VM.bnd]|_,_,.int k n=>by simp[VM.bnd]|_,_,.str b h=>by grind[VM.bnd]|_,_,.agg h o=>by simp only[VM.bnd];exact RepL.bndL h|_,_,.tuple h=>by simp only[VM.bnd];exact RepL.bndL h|_,_,.snil w o a=>by simp[VM.bnd]|_,_,.slice o hb hl hc h _=>by grind[VM.bnd]|_,_,.ptr h=>by simp[VM.bnd]|_,_,.nilp=>by simp[VM.bnd]|_,_,.cptr hb hd h _=>by simp[VM.bnd]|_,_,.fn h k=>by simp[VM.bnd]|_,_,.nilFn=>by simp[VM.bnd]|_,_,.iface h=>by simp[VM.bnd]|_,_,.nilIface=>by simp[VM.bnd]|_,_,.iter _ _ _=>by simp[VM.bnd]|_,_,.bsl _ _ _=>by simp[VM.bnd]|_,_,.nself _=>by simp[VM.bnd]| _,_,.buf _ h _=>by have:=Rep.bnd h;grind[VM.bnd,u8s]|_,_,.bnil _ _=>by simp[VM.bnd]|_,_,.bufp _ _ _ _ _=>by simp[VM.bnd]|_,_,.map _ _ _=>by simp[VM.bnd]|_,_,.slop _ _ _ _=>by simp[VM.bnd]|_,_,.sh _ _=>by simp[VM.bnd]|_,_,.sptr _=>by simp[VM.bnd]|_,_,.gsl _ _ _ _=>by simp[VM.bnd]|_,_,.nmap=>by simp[VM.bnd]|_,_,.num _ _=>by simp[VM.bnd]|_,_,.nbuf _=>by simp[VM.bnd]|_,_,.trow _ _ _ _=>by simp[VM.bnd] theorem RepL.bndL{Γ:Ghost}: {xs:List AVal}->{vs:List Value}->RepL Γ xs vs->VM.bndL xs |_,_,.nil=>by simp[VM.bndL]|_,_,.cons h t=>by simp only[VM.bndL];exact⟨Rep.bnd h,RepL.bndL t⟩ end
theorem RepS.bndL{Γ:Ghost}{w:Nat}{xs:List AVal}{cs:List Value} (h:RepS Γ w xs cs):VM.bndL xs:=by induction xs generalizing cs with |nil=>simp[VM.bndL]| cons x xs ih=>cases h with |cons h hw t=>simp only[VM.bndL];exact⟨h.bnd,ih t⟩
def keysLt (n:Nat) (m:List (Nat×List AVal)):Prop:= ∀i,n<=i->A9 m i=none
theorem Sim.keysLt{E:Env}{F:Nat->Nat}{Γ:Ghost}{st:St}{w:World}{af:List AVal}{tm:List Value} (hs:Sim E F Γ st w af tm):keysLt st.next st.m:=by intro i hi;cases hm:A9 st.m i with |none=>rfl| some c=>have:=hs.key_lt (ME hm);omega
theorem AWp.known{E:Env}{c:Code}{Q:APost}{af:List AVal}{st:St} (h:bndL af->keysLt st.next st.m->AWp E c Q af st):AWp E c Q af st:=⟨λF Γ w a hd hs=>(h hs.rep.bndL hs.keysLt).go F Γ w a hd hs⟩
theorem ACall.known{E:Env}{f:FuncId}{args:List AVal}{st:St}{Q:AVal->St->Prop} (h:bndL args->keysLt st.next st.m->ACall E f args st Q):ACall E f args st Q:=⟨λF Γ w cargs hs=>(h hs.rep.bndL hs.keysLt).go F Γ w cargs hs⟩
inductive Deep:AVal->Prop |leaf{x:AVal} (h:bnd x) (hc:match x with|.agg _|.tuple _|.slice _ _ _=>False|_=>True):Deep x |agg{cs:List AVal} (h: ∀x,x∈cs->Deep x):Deep (.agg cs) |tuple{cs:List AVal} (h: ∀x,x∈cs->Deep x):Deep (.tuple cs) |slice{w:Nat}{xs:List AVal}{o:Bool} (hl:xs.length<=Dl) (h: ∀x,x∈xs->Deep x):Deep (.slice w xs o)
theorem Deep.bnd{x:AVal} (h:Deep x):VM.bnd x:=by induction h with |leaf h hc=>exact h| agg h ih=>rename_i cs;simp only[VM.bnd];clear h;induction cs<;>grind[VM.bndL]| tuple h ih=>rename_i cs;simp only[VM.bnd];clear h;induction cs<;>grind[VM.bndL]|slice hl h ih=>grind[VM.bnd]
theorem AOZ{n:Nat} (h:n<=Dl):IntKind.i64.wrap (n:Int)=n:=by grind[Dl,IntKind.wrap,IntKind.bits,IntKind.signed]
theorem AEW{n:Nat} (h:n<=Dl):IntKind.i64.wrap ((n:Int)+1)=((n+1:Nat):Int):=by grind[Dl,IntKind.wrap,IntKind.bits,IntKind.signed]
end Go.VM
set_option linter.unusedVariables false
namespace Go.VM
section
variable{E:Env}{mv:List Tmp}{ops:Array Oper}{K:List AVal->St->Prop}{af:List AVal}{st:St}
def QS (x:Option AVal) (d:Option Tmp) (K:List AVal->St->Prop) (af:List AVal) (st:St):Prop:=match x with|some r=>K (BL af d r) st|none=>False
def MP (x:Option AVal) (d:Option Tmp) (K:List AVal->St->Prop) (af:List AVal) (st:St):Prop:=match x with|some r=>K (BL af d r.strip) st|none=>False
def SX (x:Option (AVal×St)) (d:Option Tmp) (K:List AVal->St->Prop) (af:List AVal):Prop:=match x with|some p=>K (BL af d p.1) p.2|none=>False
def AWb (b:Bool) (x:AVal) (d:Option Tmp) (K:List AVal->St->Prop) (af:List AVal) (st:St):Prop:=if b=true then K (BL af d (.ptr st.next 0)) {m:=(st.next,Ag x)::st.m,next:=st.next+1}else False
def AB1 (x:Option (List AVal)) (d:Option Tmp) (K:List AVal->St->Prop) (af:List AVal) (st:St):Prop:=match x with|some cs=>K (BL af d (.ptr st.next 0)) {m:=(st.next,cs)::st.m,next:=st.next+1}|none=>False
def AT5 (x u:Option AVal) (y:Option (AVal×St)) (st:St):Option (AVal×St):=match x with |some r=>some (r.strip,st)|none=>match u with|some r=>some (r,st)|none=>y
def R9 (x:Option St) (K:List AVal->St->Prop) (af:List AVal):Prop:=match x with|some st=>K af st|none=>False
def AUd (x:AVal) (n:Nat):Option AVal:=match x with|.tuple vs=>vs[n]?|_=>none
def ARc (x:AVal) (n:Nat):AVal:=match x with|.tuple vs=>.tuple (vs.set n ((vs.getD n .any).strip))|x=>x
def AA3 (E:Env) (t:TypeId) (x:AVal) (lo hi mx:Option (Option Int)) (d:Option Tmp) (K:List AVal->St->Prop) (af:List AVal) (st:St):Prop:=match lo,hi,mx with |some l,some h,some m=>QS (Gn E t x l h m) d K af st|_,_,_=>False
def AZr (d:Option Tmp) (K:List AVal->St->Prop) (af:List AVal):AVal->St->Prop:=λr st=>K (BL af d r) st
def AQl (E:Env) (f:AVal) (xs:List AVal) (d:Option Tmp) (K:List AVal->St->Prop) (af:List AVal) (st:St):Prop:=match f with |.fn (.func g) p q=>CallX E g (stripL (p++xs++q)) st (AZr d K af)|_=>False
theorem AYM{r:AVal}{d:Option Tmp}:QS (some r) d K af st=K (BL af d r) st:=rfl
theorem ASa{r:AVal}{d:Option Tmp}:MP (some r) d K af st=K (BL af d r.strip) st:=rfl
theorem ATt{r:AVal}{s:St}{d:Option Tmp}:SX (some (r,s)) d K af=K (BL af d r) s:=rfl
def Aal{x:AVal}{d:Option Tmp}:AWb true x d K af st=K (BL af d (.ptr st.next 0)) {m:=(st.next,Ag x)::st.m,next:=st.next+1}:=by simp[AWb]
theorem APJ{cs:List AVal}{d:Option Tmp}:AB1 (some cs) d K af st=K (BL af d (.ptr st.next 0)) {m:=(st.next,cs)::st.m,next:=st.next+1}:=rfl
theorem AnA{r:AVal}{u:Option AVal}{y:Option (AVal×St)}:AT5 (some r) u y st=some (r.strip,st):=rfl
theorem AnC{r:AVal}{y:Option (AVal×St)}:AT5 none (some r) y st=some (r,st):=rfl
theorem AmJ{y:Option (AVal×St)}:AT5 none none y st=y:=rfl
theorem AMX:R9 (some st) K af=K af st:=rfl
theorem AKp{n:Nat}{vs:List AVal}:AUd (.tuple vs) n=vs[n]?:=rfl
theorem AKO{n:Nat}{vs:List AVal}:ARc (.tuple vs) n=.tuple (vs.set n ((vs.getD n .any).strip)):=rfl
theorem AN9{t:TypeId}{x:AVal}{lo hi mx:Option Int}{d:Option Tmp}:AA3 E t x (some lo) (some hi) (some mx) d K af st=QS (Gn E t x lo hi mx) d K af st:=rfl
theorem AcD{d:Option Tmp}{r:AVal}:AZr d K af r st=K (BL af d r) st:=rfl
theorem Ab6{g:FuncId}{p q xs:List AVal}{d:Option Tmp}:AQl E (.fn (.func g) p q) xs d K af st=if callable E.P g=true then ACall E g (stripL (p++xs++q)) st (AZr d K af)else Zi E g (stripL (p++xs++q)) st (AZr d K af):=rfl
def AdM{d:Option Tmp}:QQ [] d=false:=by cases d<;>rfl
section ops
variable{d:Option Tmp}{ty:TypeId}{pos:String}{aft:Array Edge}{g:Option (Nat×Bool)}
def mvK (b:Bool) (x:Operand) (ty:TypeId) (E:Env) (d:Option Tmp) (K:List AVal->St->Prop) (af:List AVal) (st:St):Prop:=if b=true then K (BL (stripAt af x) d (rd E af ty x)) st else K (BL af d (rd E af ty x).strip) st
def AfM{x:Operand}:mvK true x ty E d K af st=K (BL (stripAt af x) d (rd E af ty x)) st:=by simp[mvK]
def AYx{x:Operand}:mvK false x ty E d K af st=K (BL af d (rd E af ty x).strip) st:=by simp[mvK]
def ldK (b:Bool) (t:TypeId) (x:AVal) (E:Env) (d:Option Tmp) (K:List AVal->St->Prop) (af:List AVal) (st:St):Prop:=if b=true then SX (Q4 E t x st) d K af else MP (RY E t x st) d K af st
def Adh{t:TypeId}{x:AVal}:ldK true t x E d K af st=SX (Q4 E t x st) d K af:=by simp[ldK]
def AZm{t:TypeId}{x:AVal}:ldK false t x E d K af st=MP (RY E t x st) d K af st:=by simp[ldK]
def AjV{x:Operand}:EA E mv ⟨d,.move x,ty,pos,aft,g⟩ af st K=mvK (QQ mv d) x ty E d K af st:=by simp only[EA,Fj,mvK];cases QQ mv d<;>simp
theorem AXn{x:Operand}:EA E mv ⟨d,.assign x,ty,pos,aft,g⟩ af st K=K (BL (stripAt af x) d (rd E af ty x)) st:=rfl
def alG{α:Type} (b:Bool) (x y:Option α):Option α:=if b=true then x else y
theorem Apb{α:Type}{x y:Option α}:alG false x y=y:=rfl
theorem Aoz{α:Type}{x y:Option α}:alG true x y=x:=rfl
def Abq{t:TypeId}:EA E mv ⟨d,.alloc t,ty,pos,aft,g⟩ af st K=AB1 (alG (QQ mv d) (Vo E.P t st.next) (Ee E.P t st.next)) d K af st:=by
 simp only[EA,Fj,AB1,alG];cases QQ mv d<;>simp only[av,au,al];·cases Ee E.P t st.next<;>rfl
 grind
def AnK{t:TypeId}{x:Operand}:EA E mv ⟨d,.box t x,ty,pos,aft,g⟩ af st K=AWb (EY (rd E af t x)) (rd E af t x) d K (stripAt af x) st:=by simp only[EA,Fj,AWb];cases EY (rd E af t x)<;>simp
def AgL{t:TypeId}{ps:List (Nat×Operand)}:EA E mv ⟨d,.build t ⟨ps⟩,ty,pos,aft,g⟩ af st K=QS (Tp E t (Bb E (Ab E.P t) af ps).2) d K (Bb E (Ab E.P t) af ps).1 st:=by simp only[EA,Fj,QS];cases Tp E t (Bb E (Ab E.P t) af ps).2<;>rfl
def bsK (b:Bool) (u:Option (Nat×List AVal)) (v:Option AVal) (n:Nat) (d:Option Tmp) (K:List AVal->St->Prop) (af1 af:List AVal) (st:St):Prop:=if b=true then(match u with|some p=>K (BL af1 d (.gsl p.1 st.next n)) {m:=(st.next,p.2)::st.m,next:=st.next+1}|none=>False)else QS v d K af st
def AZ8{u:Option (Nat×List AVal)}{v:Option AVal}{n:Nat}{af1:List AVal}:bsK false u v n d K af1 af st=QS v d K af st:=by simp[bsK]
def ACG{v:Option AVal}{n w:Nat}{cs af1:List AVal}:bsK true (some (w,cs)) v n d K af1 af st=K (BL af1 d (.gsl w st.next n)) {m:=(st.next,cs)::st.m,next:=st.next+1}:=by simp[bsK]
def ADe{t:TypeId}{n:Nat}{ps:List (Nat×Operand)}:EA E mv ⟨d,.buildSlice t n ⟨ps⟩,ty,pos,aft,g⟩ af st K=bsK (QQ mv d) (Jb E t n (Bb E (λ_=>Ab E.P t 0) af ps).2) (Ib E t n (Bb E (λ_=>Ab E.P t 0) af ps).2) n d K (Bb E (λ_=>Ab E.P t 0) af ps).1 af st:=by
 simp only[EA,Fj,QS,bsK];cases QQ mv d;·simp only[al,au];cases Ib E t n (Bb E (λ_=>Ab E.P t 0) af ps).2<;>rfl
 ·simp only[av];cases Jb E t n (Bb E (λ_=>Ab E.P t 0) af ps).2<;>rfl
def AlN{t:TypeId}{x:Operand}:EA E mv ⟨d,.load t x,ty,pos,aft,g⟩ af st K=ldK (QQ mv d) t (rd E af 0 x) E d K af st:=by
 simp only[EA,Fj,ldK,SX,MP];cases QQ mv d;·simp only[al,au];cases RY E t (rd E af 0 x) st<;>rfl
 ·simp only[av];cases Q4 E t (rd E af 0 x) st<;>rfl
def AeC{t:TypeId}{x y:Operand}:EA E mv ⟨none,.store t x y,ty,pos,aft,g⟩ af st K=R9 (O5 E t (rd E af 0 x) (rd E af t y) st) K (stripAt af y):=by simp only[EA,Fj,R9,de,av];cases O5 E t (rd E af 0 x) (rd E af t y) st<;>rfl
def ATi{t n:Nat}:EA E mv ⟨d,.extract (.tmp t) n,ty,pos,aft,g⟩ af st K=QS (AUd (af.getD t .any) n) d K (af.set t (ARc (af.getD t .any) n)) st:=by grind[EA,Fj,AUd,ARc,QS,List.getD]
def Abj{t:TypeId}{x:Operand}{lo hi mx:Option Operand}:EA E mv ⟨d,.slice t x lo hi mx,ty,pos,aft,g⟩ af st K=AA3 E t (rd E af t x) (rdo E af lo) (rdo E af hi) (rdo E af mx) d K af st:=by simp only[EA,Fj,AA3];cases rdo E af lo<;>cases rdo E af hi<;>cases rdo E af mx<;>(try rfl);simp only[QS];cases Gn E t (rd E af t x) _ _ _<;>rfl
def AAj (g:Bool) (x:AVal) (d:Option Tmp) (K:List AVal->St->Prop) (af:List AVal) (st:St):Prop:=match x with|.str s=>if g=true then K (BL af d (.iter s 0)) st else False|_=>False
def Adb{t:TypeId}{x:Operand}:EA E mv ⟨d,.range t x,ty,pos,aft,g⟩ af st K=AAj (EN E.P t) (rd E af t x) d K af st:=by grind[EA,Fj,AAj,rd,EN]
theorem ATm{s:B8}:AAj true (.str s) d K af st=K (BL af d (.iter s 0)) st:=rfl
def ACb (x:AVal) (t:Tmp) (d:Option Tmp) (K:List AVal->St->Prop) (af:List AVal) (st:St):Prop:=match x with|.iter s pos=>K (AEo s pos t d af) st|_=>False
def AjY{t:Tmp}:EA E mv ⟨d,.next (.tmp t) true,ty,pos,aft,g⟩ af st K=ACb (af.getD t .any) t d K af st:=by simp only[EA,Fj,ACb];cases af.getD t .any<;>rfl
def AUG{t:Tmp}{s:B8}{p:Nat}:ACb (.iter s p) t d K af st=if decide (p<s.length)=true then K (BL (af.set t (.iter s (p+(Dv s p).2))) d (.tuple [.bool true,.int .i64 p,.int .i32 (Dv s p).1])) st else K (BL af d (.tuple [.bool false])) st:=by simp only[ACb,AEo];split<;>rfl
theorem Aiv:MO (.any)=false:=rfl
theorem Agy{b:Bool}:MO (.bool b)=false:=rfl
theorem AkM{k:IntKind}{n:Int}:MO (.int k n)=false:=rfl
theorem AkH{s:B8}:MO (.str s)=false:=rfl
theorem Ais{c:List AVal}:MO (.agg c)=false:=rfl
theorem AX7{c:List AVal}:MO (.tuple c)=false:=rfl
theorem AYf{w:Nat}{c:List AVal}{o:Bool}:MO (.slice w c o)=false:=rfl
theorem Aio{i f:Nat}:MO (.ptr i f)=false:=rfl
theorem Agh:MO (.nilp)=false:=rfl
theorem AfI{c:List AVal}:MO (.cptr c)=false:=rfl
theorem AnQ{f:Fn}{p q:List AVal}:MO (.fn f p q)=false:=rfl
theorem AXy:MO (.nilFn)=false:=rfl
theorem AXA{t:TypeId}{v:AVal}:MO (.iface t v)=false:=rfl
theorem AFs:MO (.nilIface)=false:=rfl
theorem Aiq{w i f n:Nat}:MO (.bsl w i f n)=false:=rfl
theorem AYg{i:Nat}{T:TypeId}{n:Nat}:MO (.nself i T n)=false:=rfl
theorem Ai2{e:TypeId}{l:B8}{o:Bool}:MO (.buf e l o)=false:=rfl
theorem AfB{e:TypeId}{l:B8}{o:Bool}:MO (.bufp e l o)=false:=rfl
def shS (b:Bool) (x y:Option St):Option St:=if b=true then x else y
def Al0{x y:Option St}:shS false x y=y:=by simp[shS]
def AmF{x y:Option St}:shS true x y=x:=by simp[shS]
def Vm (E:Env) (t:TypeId) (addr v:AVal) (st:St):Option St:=match v with
 | .sh i=>match A9 st.m i with |some [.slice w xs o]=>if MO addr=false then Qy E t addr (.slice w xs o) {st with m:=Bz st.m i [.slice w xs false]}else none|_=>Qy E t addr (.sh i) st
 |v=>Qy E t addr v st
def AED{t:TypeId}{x v:AVal}:O5 E t x v st=shS (MO v) (Vm E t x v st) (Qy E t x v st):=by cases v<;>first| rfl| (simp only[shS,MO,av];rfl)
def Amh{t:TypeId}{i f:Nat}{v:AVal}:O5 E t (.ptr i f) v st=shS (MO v) (Vm E t (.ptr i f) v st) (Yq E t (.ptr i f) v st):=AED
def AUl{t:TypeId}{i w n:Nat}{v:AVal}:O5 E t (.sptr i w n) v st=shS (MO v) (Vm E t (.sptr i w n) v st) (ABH E t (.sptr i w n) v st):=AED
def agK (b:Bool) (u:Option (Nat×Nat×List AVal×List (Nat×List AVal)×Option Nat)) (X:Prop) (d:Option Tmp) (K:List AVal->St->Prop) (af:List AVal) (st:St):Prop:=if b=true then(match u with|some (wd,l,cs,rest,jo)=>∀i,i=st.next\/jo=some i->K (BL af d (.gsl wd i l)) {m:=(i,cs)::rest,next:=st.next+1}|none=>False)else X
def AV6{u:Option (Nat×Nat×List AVal×List (Nat×List AVal)×Option Nat)}{X:Prop}:agK false u X d K af st=X:=by simp[agK]
theorem AXd{w:Nat}{l:List AVal}{o:Bool}:VI (.slice w l o)=false:=rfl
theorem AkY{l:B8}:VI (.str l)=false:=rfl
theorem Aks{w i n:Nat}:VI (.gsl w i n)=true:=rfl
def AgI{w:Nat}{l:List AVal}{o:Bool}{y:AVal}:AFu (.slice w l o) y=VI y:=by simp[AFu,VI]
def Amk{e:TypeId}{l:B8}{o:Bool}{y:AVal}:AFu (.buf e l o) y=VI y:=by simp[AFu,VI]
def AnE{w i n:Nat}{y:AVal}:AFu (.gsl w i n) y=true:=by simp[AFu,VI]
theorem AnR{t0 t1:TypeId}{x:AVal}{w i n:Nat}:appG E t0 t1 x (.gsl w i n) st=ANm E t0 t1 x (.gsl w i n) st:=rfl
def AkO{wd l:Nat}{cs:List AVal}{rest:List (Nat×List AVal)}{jo:Option Nat}{X:Prop}{d:Option Tmp}{K:List AVal->St->Prop}{af:List AVal}{st:St} (h: ∀i,i=st.next\/jo=some i->K (BL af d (.gsl wd i l)) {m:=(i,cs)::rest,next:=st.next+1}):agK true (some (wd,l,cs,rest,jo)) X d K af st:=by grind[agK]
theorem AmK{t0 t1:TypeId}{x:AVal}{l:B8}:appG E t0 t1 x (.str l) st=AYR E t0 t1 x (.str l) st:=rfl
def apK (b:Bool) (u v:Option AVal) (d:Option Tmp) (K:List AVal->St->Prop) (af:List AVal) (st:St):Prop:=if b=true then(match u with|some r=>K (BL af d (.sh st.next)) {m:=(st.next,[r])::st.m,next:=st.next+1}|none=>False)else QS v d K af st
def AXN{u v:Option AVal}:apK false u v d K af st=QS v d K af st:=by simp[apK]
def AeW{v:Option AVal}{r:AVal}:apK true (some r) v d K af st=K (BL af d (.sh st.next)) {m:=(st.next,[r])::st.m,next:=st.next+1}:=by simp[apK]
theorem ASw{t:TypeId}:EA E mv ⟨d,.makeMap t none,ty,pos,aft,g⟩ af st K=K (BL af d (.sh st.next)) {m:=(st.next,[.map [] []])::st.m,next:=st.next+1}:=rfl
def Yc{t:TypeId}{m k:Operand}{ok:Bool}:EA E mv ⟨d,.lookup t m k ok,ty,pos,aft,g⟩ af st K=QS (P8 E t (rd E af t m) (rd E af 0 k) ok st) d K af st:=by simp only[EA,Fj,QS];cases P8 E t (rd E af t m) (rd E af 0 k) ok st<;>rfl
def Wo{t:TypeId}{m k x:Operand}:EA E mv ⟨none,.mapUpdate t m k x,ty,pos,aft,g⟩ af st K=R9 (Sq E t (rd E af t m) (rd E af 0 k) (rd E af 0 x) st) K af:=by simp only[EA,Fj,R9,de,av];cases Sq E t (rd E af t m) (rd E af 0 k) (rd E af 0 x) st<;>rfl
def AXU{t:TypeId}{m k x:Operand}:EA E mv ⟨none,.insert t m k x,ty,pos,aft,g⟩ af st K=R9 (Sq E t (rd E af t m) (rd E af 0 k) (rd E af 0 x) st) K af:=by simp only[EA,Fj,R9,de,av];cases Sq E t (rd E af t m) (rd E af 0 k) (rd E af 0 x) st<;>rfl
def AaS{x y:Operand}{t0 t1:TypeId}{ts:List TypeId}:EA E mv ⟨d,.call {callee:=.builtin .append,args:=⟨[x,y]⟩,argTypes:=⟨t0::t1::ts⟩},ty,pos,aft,g⟩ af st K=agK (AFu (rd E af t0 x) (rd E af t1 y)) (appG E t0 t1 (rd E af t0 x) (rd E af t1 y) st) (apK (QQ mv d) (PO E t0 t1 (rd E af t0 x) (rd E af t1 y)) (JN E t0 t1 (rd E af t0 x) (rd E af t1 y)) d K (stripAt af x) st) d K af st:=by
 simp only[EA,Fj,QS,apK,agK];cases AFu (rd E af t0 x) (rd E af t1 y);rotate_left;·first| rfl| (simp only[av];done)| (simp only[av];rfl)
 simp only[al,au];cases QQ mv d;·simp only[al,au];cases JN E t0 t1 (rd E af t0 x) (rd E af t1 y)<;>rfl
 ·simp only[av];cases PO E t0 t1 (rd E af t0 x) (rd E af t1 y)<;>rfl
def AkD{f:Operand}{xs:List Operand}{ts:List TypeId}:EA E mv ⟨d,.call {callee:=.value f,args:=⟨xs⟩,argTypes:=⟨ts⟩},ty,pos,aft,g⟩ af st K=AQl E (rd E af 0 f) (rdL E af xs ts) d K af st:=by simp only[EA,AQl];rfl
def Md{o:Oper} (h:EA E mv o af st K=(match(EO E o af).map λr=>(BL af o.dst r.strip,st)with|some (af',st')=>K af' st'|none=>False)):EA E mv o af st K=MP (EO E o af) o.dst K af st:=by rw[h];simp only[MP];cases EO E o af<;>rfl
def AcU (c x y:AVal):Option AVal:=match c with|.bool t=>some (if t=true then x else y)|_=>none
theorem ASQ{b:Bool}{x y:AVal}:AcU (.bool b) x y=some (if b=true then x else y):=rfl
def Aje{c x y:Operand}:EA E mv ⟨d,.pick c x y,ty,pos,aft,g⟩ af st K=MP (AcU (rd E af 0 c) (rd E af ty x) (rd E af ty y)) d K af st:=Md rfl
def AQA{x:Operand}:EA E mv ⟨d,.nilCheck x,ty,pos,aft,g⟩ af st K=MP (NE (rd E af 0 x)) d K af st:=Md rfl
def bnK (c b:Bool) (v:AVal) (d:Option Tmp) (K:List AVal->St->Prop) (af:List AVal) (st:St) (X:Prop):Prop:=if c=true then AdO b v (λr=>K (BL af d r) st)else X
def Apy{b:Bool}{v:AVal}{X:Prop}:bnK false b v d K af st X=X:=by simp[bnK]
def AqE{w:Nat}{xs:List AVal}{o:Bool}{X:Prop}:bnK true true (.slice w xs o) d K af st X= ∀c:Bool,(c=true->xs=[])->K (BL af d (.bool c)) st:=by simp[bnK,AdO]
def AgM{op:BinOp}{k:Tmp}:U0 op (.tmp k)=false:=by cases op<;>rfl
def Ajj{op:BinOp}{k:FuncId}:U0 op (.func k)=false:=by cases op<;>rfl
def Ams{op:BinOp}{k:Nat}:U0 op (.global k)=false:=by cases op<;>rfl
def Acv{op:BinOp}{k:IntKind}{n:Int}:U0 op (.const (.int k n))=false:=by cases op<;>rfl
def Ae3{op:BinOp}{s:ByteArray}:U0 op (.const (.string s))=false:=by cases op<;>rfl
def AXS{op:BinOp}{s:Bool}:U0 op (.const (.bool s))=false:=by cases op<;>rfl
def Ab7{op:BinOp}{s:Option Addr}:U0 op (.const (.pointer s))=false:=by cases op<;>rfl
def AgH{op:BinOp}{s:Array Value}:U0 op (.const (.agg s))=false:=by cases op<;>rfl
def AjX{op:BinOp}:U0 op (.const .nilFunc)=false:=by cases op<;>rfl
def Akz{op:BinOp}:U0 op (.const .nilIface)=false:=by cases op<;>rfl
theorem Agb:U0 .eql (.const (.slice none 0 0))=true:=rfl
theorem Ad8{op:BinOp}{t u:TypeId}{x y:Operand}:EA E mv ⟨d,.binOp op t x y u,ty,pos,aft,g⟩ af st K=bnK (U0 op y) (Dk E.P t) (rd E af t x) d K af st (MP (F6 E op t (rd E af t x) (rd E af t y)) d K af st):=by
 have e:EA E mv ⟨d,.binOp op t x y u,ty,pos,aft,g⟩ af st K=if U0 op y=true then AdO (Dk E.P t) (rd E af t x) (λv=>K (BL af d v) st)else(match(F6 E op t (rd E af t x) (rd E af t y)).map (λr=>(BL af d r.strip,st))with|some (af',st')=>K af' st'|none=>False):=rfl;rw[e];unfold bnK MP;split;·rfl
 ·cases F6 E op t (rd E af t x) (rd E af t y)<;>rfl
def AkJ{op:UnOp}{t:TypeId}{x:Operand}:EA E mv ⟨d,.unOp op t x,ty,pos,aft,g⟩ af st K=MP (unA op (rd E af 0 x)) d K af st:=Md rfl
theorem ATk{s t:TypeId}{x:Operand}:EA E mv ⟨d,.convert s t x,ty,pos,aft,g⟩ af st K=SX (AT5 (Rm E s t (rd E af s x)) (TE E s t (rd E af s x) st) (RZ E s t (rd E af s x) st) st) d K af:=by have h:EO E ⟨d,.convert s t x,ty,pos,aft,g⟩ af=Rm E s t (rd E af s x):=rfl;simp only[EA,Fj,SX,h];grind[Rm,rd,AT5,TE,RZ]
def AHM{t:TypeId}{x y:Operand}:EA E mv ⟨d,.makeSlice t x y,ty,pos,aft,g⟩ af st K=SX (alG (QQ mv d) (Wj E t (rd E af 0 x) (rd E af 0 y) st) (Xa E t (rd E af 0 x) (rd E af 0 y) st)) d K af:=by
 simp only[EA,Fj,SX,alG];cases QQ mv d<;>simp only[av,au,al];·cases Xa E t (rd E af 0 x) (rd E af 0 y) st<;>rfl
 ·cases Wj E t (rd E af 0 x) (rd E af 0 y) st<;>rfl
def Afl{x:Operand}{t0:TypeId}{ts:List TypeId}:EA E mv ⟨d,.call {callee:=.builtin .unsafeSliceData,args:=⟨[x]⟩,argTypes:=⟨t0::ts⟩},ty,pos,aft,g⟩ af st K=QS (UD (rd E af t0 x)) d K (stripAt af x) st:=by simp only[EA,Fj,QS];cases UD (rd E af t0 x)<;>rfl
def AkU{x y:Operand}{t0 t1:TypeId}:EA E mv ⟨d,.call {callee:=.builtin .unsafeString,args:=⟨[x,y]⟩,argTypes:=⟨[t0,t1]⟩},ty,pos,aft,g⟩ af st K=QS (WU E t0 (rd E af t0 x) (rd E af t1 y)) d K (stripAt af x) st:=by simp only[EA,Fj,QS];cases WU E t0 (rd E af t0 x) (rd E af t1 y)<;>rfl
def AMY{f:Fn}{p q:List Operand}:EA E mv ⟨d,.makeFunc f ⟨p⟩ ⟨q⟩,ty,pos,aft,g⟩ af st K=K (BL af d (AVal.fn f (p.map (rd E af 0)) (q.map (rd E af 0))).strip) st:=Md rfl
def AHz{s:TypeId}{x:Operand}{f:Nat}:EA E mv ⟨d,.fieldAddr s x f,ty,pos,aft,g⟩ af st K=MP (OL E s (rd E af 0 x) f) d K af st:=Md rfl
def Abe{s:TypeId}{x:Operand}{f:Nat}:EA E mv ⟨d,.field s x f,ty,pos,aft,g⟩ af st K=MP (Vb E s (rd E af s x) f) d K af st:=Md rfl
theorem ALV{t:TypeId}{x i:Operand}:EA E mv ⟨d,.indexAddr t x i,ty,pos,aft,g⟩ af st K=SX (AT5 (D5 E t (rd E af t x) (rd E af 0 i)) (KO E t (rd E af t x) (rd E af 0 i) st) none st) d K af:=by have h:EO E ⟨d,.indexAddr t x i,ty,pos,aft,g⟩ af=D5 E t (rd E af t x) (rd E af 0 i):=rfl;simp only[EA,Fj,SX,h];cases D5 E t (rd E af t x) (rd E af 0 i)with |some r=>rfl| none=>simp only[AT5];cases KO E t (rd E af t x) (rd E af 0 i) st<;>rfl
def Aew{t:TypeId}{x i:Operand}:EA E mv ⟨d,.index t x i,ty,pos,aft,g⟩ af st K=MP (UB E t (rd E af t x) (rd E af 0 i)) d K af st:=Md rfl
def Amj{x:Operand}{t:TypeId}{ts:List TypeId}:EA E mv ⟨d,.call {callee:=.builtin .len,args:=⟨[x]⟩,argTypes:=⟨t::ts⟩},ty,pos,aft,g⟩ af st K=MP (Sk E t (rd E af t x)) d K af st:=Md rfl
def Am9{x:Operand}{t:TypeId}{ts:List TypeId}:EA E mv ⟨d,.call {callee:=.builtin .cap,args:=⟨[x]⟩,argTypes:=⟨t::ts⟩},ty,pos,aft,g⟩ af st K=MP (Ae9 E t (rd E af t x)) d K af st:=Md rfl
def AkP{x y:Operand}{t s:TypeId}:EA E mv ⟨d,.call {callee:=.builtin .copy,args:=⟨[x,y]⟩,argTypes:=⟨[t,s]⟩},ty,pos,aft,g⟩ af st K=MP (AVe E t (rd E af t x) (rd E af s y)) d K af st:=Md rfl
def AoV{x y:Operand}{ts:Array TypeId}:EA E mv ⟨d,.call {callee:=.builtin .min,args:=⟨[x,y]⟩,argTypes:=ts},ty,pos,aft,g⟩ af st K=MP (AZv (rd E af 0 x) (rd E af 0 y)) d K af st:=Md rfl
def Aog{x y:Operand}{ts:Array TypeId}:EA E mv ⟨d,.call {callee:=.builtin .max,args:=⟨[x,y]⟩,argTypes:=ts},ty,pos,aft,g⟩ af st K=MP (AXf (rd E af 0 x) (rd E af 0 y)) d K af st:=Md rfl
def gdD (d:Option Tmp) (af:List AVal) (want:Bool):Option Bool:=match d with|some i=>gd (af.getD i .any) want|none=>none
def PG:List Oper->Nat->Option Tmp |[],_=>none|o::_,0=>o.dst|_::os,n+1=>PG os n
def AbZ (os:List Oper) (j:Nat):PG os j=((List.toArray os)[j]?).bind (·.dst):=by rw[dk];induction os generalizing j with |nil=>simp[PG]| cons o os ih=>cases j with |zero=>simp[PG]|succ j=>grind[PG]
theorem ARg (os:List Oper) (j:Nat) (want:Bool):gdA ⟨os⟩ af j want=gdD (PG os j) af want:=by rw[AbZ];rfl
theorem Ajz:Ls E mv ops [] K af st=K af st:=rfl
theorem Ad7{op:Op}{os:List Oper}:Ls E mv ops (⟨d,op,ty,pos,aft,none⟩::os) K af st=EA E mv ⟨d,op,ty,pos,aft,none⟩ af st (Ls E mv ops os K):=rfl
theorem AXu{op:Op}:Nr E ops ⟨d,op,ty,pos,aft,none⟩ af st=FO E ⟨d,op,ty,pos,aft,none⟩ af st:=rfl
def Ajb{op:Op}{os':List Oper}{j:Nat}{want:Bool}:Nr E ⟨os'⟩ ⟨d,op,ty,pos,aft,some (j,want)⟩ af st=if gdD (PG os' j) af want=some true then FO E ⟨d,op,ty,pos,aft,some (j,want)⟩ af st else if gdD (PG os' j) af want=some false then some (.tuple [])else none:=by grind[Nr,ARg,gdD,PG]
def Mh (x:Option AVal):Option AVal:=x.map AVal.strip
theorem AML{r:AVal}:Mh (some r)=some r.strip:=rfl
theorem Ak9{x:Operand}:FO E ⟨d,.move x,ty,pos,aft,g⟩ af st=some (rd E af ty x).strip:=rfl
theorem AiA{t:TypeId}{x:Operand}:FO E ⟨d,.load t x,ty,pos,aft,g⟩ af st=Mh (RY E t (rd E af 0 x) st):=rfl
def ASB (E:Env) (t:TypeId) (x:AVal) (lo hi mx:Option (Option Int)):Option AVal:=match lo,hi,mx with|some l,some h,some m=>Gn E t x l h m|_,_,_=>none
theorem AP8{t:TypeId}{x:AVal}{lo hi mx:Option Int}:ASB E t x (some lo) (some hi) (some mx)=Gn E t x lo hi mx:=rfl
def AcR{t:TypeId}{x:Operand}{lo hi mx:Option Operand}:FO E ⟨d,.slice t x lo hi mx,ty,pos,aft,g⟩ af st=ASB E t (rd E af t x) (rdo E af lo) (rdo E af hi) (rdo E af mx):=by grind[FO,ASB,rdo]
theorem ADE{t:TypeId}{n:Nat}{ps:List (Nat×Operand)}:FO E ⟨d,.buildSlice t n ⟨ps⟩,ty,pos,aft,g⟩ af st=Ib E t n (Bb E (λ_=>Ab E.P t 0) af ps).2:=rfl
theorem Ajh{c x y:Operand}:FO E ⟨d,.pick c x y,ty,pos,aft,g⟩ af st=Mh (AcU (rd E af 0 c) (rd E af ty x) (rd E af ty y)):=rfl
theorem AL9{x:Operand}:FO E ⟨d,.nilCheck x,ty,pos,aft,g⟩ af st=Mh (NE (rd E af 0 x)):=rfl
theorem Af1{op:BinOp}{t u:TypeId}{x y:Operand}:FO E ⟨d,.binOp op t x y u,ty,pos,aft,g⟩ af st=Mh (F6 E op t (rd E af t x) (rd E af t y)):=rfl
theorem Aix{op:UnOp}{t:TypeId}{x:Operand}:FO E ⟨d,.unOp op t x,ty,pos,aft,g⟩ af st=Mh (unA op (rd E af 0 x)):=rfl
theorem ARZ{s t:TypeId}{x:Operand}:FO E ⟨d,.convert s t x,ty,pos,aft,g⟩ af st=Mh (Rm E s t (rd E af s x)):=rfl
theorem AMd{f:Fn}{p q:List Operand}:FO E ⟨d,.makeFunc f ⟨p⟩ ⟨q⟩,ty,pos,aft,g⟩ af st=some (AVal.fn f (p.map (rd E af 0)) (q.map (rd E af 0))).strip:=rfl
theorem AFO{s:TypeId}{x:Operand}{f:Nat}:FO E ⟨d,.fieldAddr s x f,ty,pos,aft,g⟩ af st=Mh (OL E s (rd E af 0 x) f):=rfl
theorem AeE{s:TypeId}{x:Operand}{f:Nat}:FO E ⟨d,.field s x f,ty,pos,aft,g⟩ af st=Mh (Vb E s (rd E af s x) f):=rfl
theorem AKL{t:TypeId}{x i:Operand}:FO E ⟨d,.indexAddr t x i,ty,pos,aft,g⟩ af st=Mh (D5 E t (rd E af t x) (rd E af 0 i)):=rfl
theorem Acr{t:TypeId}{x i:Operand}:FO E ⟨d,.index t x i,ty,pos,aft,g⟩ af st=Mh (UB E t (rd E af t x) (rd E af 0 i)):=rfl
theorem Ani{x:Operand}{t:TypeId}{ts:List TypeId}:FO E ⟨d,.call {callee:=.builtin .len,args:=⟨[x]⟩,argTypes:=⟨t::ts⟩},ty,pos,aft,g⟩ af st=Mh (Sk E t (rd E af t x)):=rfl
theorem AnN{x:Operand}{t:TypeId}{ts:List TypeId}:FO E ⟨d,.call {callee:=.builtin .cap,args:=⟨[x]⟩,argTypes:=⟨t::ts⟩},ty,pos,aft,g⟩ af st=Mh (Ae9 E t (rd E af t x)):=rfl
theorem AmL{x y:Operand}{ts:Array TypeId}:FO E ⟨d,.call {callee:=.builtin .min,args:=⟨[x,y]⟩,argTypes:=ts},ty,pos,aft,g⟩ af st=Mh (AZv (rd E af 0 x) (rd E af 0 y)):=rfl
theorem Am8{x y:Operand}{ts:Array TypeId}:FO E ⟨d,.call {callee:=.builtin .max,args:=⟨[x,y]⟩,argTypes:=ts},ty,pos,aft,g⟩ af st=Mh (AXf (rd E af 0 x) (rd E af 0 y)):=rfl
theorem AoR{op:Op}:gWp E mv ops ⟨d,op,ty,pos,aft,none⟩ af st K=EA E mv ⟨d,op,ty,pos,aft,none⟩ af st K:=rfl
theorem Aov:gd (.bool true) true=some true:=rfl
theorem ApR:gd (.bool true) false=some false:=rfl
theorem Apm:gd (.bool false) true=some false:=rfl
theorem Ao7:gd (.bool false) false=some true:=rfl
theorem Abk{want:Bool}:gd (.tuple []) want=some false:=rfl
theorem Aeu{i:Nat}{want:Bool}:gdD (some i) af want=gd (af.getD i .any) want:=rfl
def opAt:List Oper->Nat->Option Oper |[],_=>none|o::_,0=>some o|_::os,n+1=>opAt os n
def AJ8 (os:List Oper) (j:Nat):opAt os j=(List.toArray os)[j]?:=by rw[dk];induction os generalizing j with |nil=>simp[opAt]| cons o os ih=>cases j with |zero=>simp[opAt]|succ j=>grind[opAt]
def tkR (E:Env) (mv:List Tmp) (os:List Oper) (x:Option AVal) (i:Nat) (d:Option Tmp) (p:Plan) (tv:List (Nat×AVal)) (K:List AVal->St->Prop) (af:List AVal) (st:St):Prop:=match x with|some r=>IR E mv ⟨os⟩ p ((i,r)::tv) K (BL af d r) st|none=>False
def tkO (E:Env) (mv:List Tmp) (os:List Oper) (x:Option Oper) (i:Nat) (p:Plan) (tv:List (Nat×AVal)) (K:List AVal->St->Prop) (af:List AVal) (st:St):Prop:=match x with|some o=>tkR E mv os (Nr E ⟨os⟩ o af st) i o.dst p tv K af st|none=>False
def AdC (E:Env) (mv:List Tmp) (os:List Oper) (chk:List Nat) (p:Plan) (tv:List (Nat×AVal)) (K:List AVal->St->Prop) (af:List AVal) (st:St):Prop:=Qt E ⟨os⟩ tv af st chk/\IR E mv ⟨os⟩ p tv K af st
def AjQ (E:Env) (mv:List Tmp) (os:List Oper) (x:Option Oper) (chk:List Nat) (p:Plan) (tv:List (Nat×AVal)) (K:List AVal->St->Prop) (af:List AVal) (st:St):Prop:=match x with|some o=>gWp E mv ⟨os⟩ o af st (AdC E mv os chk p tv K)|none=>False
def Ao0 (E:Env) (os:List Oper) (x:Option AVal) (o:Option Oper) (af:List AVal) (st:St):Prop:=match x,o with|some r,some o=>Nr E ⟨os⟩ o af st=some r|_,_=>False
variable{os:List Oper}{tv:List (Nat×AVal)}{p rest:Plan}{chk:List Nat}{i:Nat}
theorem AfZ{op:Op}:tkO E mv os (some ⟨d,op,ty,pos,aft,g⟩) i p tv K af st=tkR E mv os (Nr E ⟨os⟩ ⟨d,op,ty,pos,aft,g⟩ af st) i d p tv K af st:=rfl
theorem Ad2{r:AVal}:tkR E mv os (some r) i d p tv K af st=IR E mv ⟨os⟩ p ((i,r)::tv) K (BL af d r) st:=rfl
theorem AaG{o:Oper}:AjQ E mv os (some o) chk p tv K af st=gWp E mv ⟨os⟩ o af st (AdC E mv os chk p tv K):=rfl
theorem AbV:AdC E mv os chk p tv K af st=(Qt E ⟨os⟩ tv af st chk/\IR E mv ⟨os⟩ p tv K af st):=rfl
theorem AZh:IR E mv ⟨os⟩ .done tv K af st=K af st:=rfl
theorem AXe:IR E mv ⟨os⟩ .stop tv K af st=True:=rfl
def Aaf:IR E mv ⟨os⟩ (.take i p) tv K af st=tkO E mv os (opAt os i) i p tv K af st:=by rw[AJ8];rfl
def Ag4:IR E mv ⟨os⟩ (.alt i chk p rest) tv K af st=(AjQ E mv os (opAt os i) chk p tv K af st/\IR E mv ⟨os⟩ rest tv K af st):=by rw[AJ8];rfl
theorem AiG:Qt E ⟨os⟩ tv af st []=True:=rfl
def Afm{k:Nat}{ks:List Nat}:Qt E ⟨os⟩ tv af st (k::ks)=(Ao0 E os (Xo tv k) (opAt os k) af st/\Qt E ⟨os⟩ tv af st ks):=by rw[AJ8];rfl
theorem AXI{r:AVal}{o:Oper}:Ao0 E os (some r) (some o) af st=(Nr E ⟨os⟩ o af st=some r):=rfl
end ops
end
end Go.VM
set_option linter.unusedVariables false
namespace Go.VM
def grd{α:Type} (c:Prop) [Decidable c] (x:Option α):Option α:=if c then x else none
inductive PC where |k |w |v (x:AVal)
inductive BX where |k |d |s (c:List AVal) |t (c:Nat->List AVal) |p (ps:List PC)
inductive JD (α:Type) where |z |a (id:Nat×Nat) (js:List (Nat×Nat)) (cs:List Tmp) (V:α->List AVal) |b (id:Nat×Nat) (js:List (Nat×Nat)) (cs:List Tmp) (V:α->List AVal) (Ms:α->List BX) |n (id:Nat×Nat) (js:List (Nat×Nat)) (cs:List Tmp) (p:Tmp) (V:α->Nat->List AVal) (Ms:α->Nat->List BX) (C:α->Nat->List AVal)
def AB{α β:Type} (k:α->Option β) (body:(α->Option β)->Option β) (d:JD α:=.z):Option β:=body k
theorem ACl{α:Type}{c:Prop} [Decidable c]{x:Option α}{r:α} (h:grd c x=some r):c/\x=some r:=by grind[grd]
def bind_some{α β:Type}{x:Option α}{f:α->Option β}{r:β} (h:Option.bind x f=some r): ∃y,x=some y/\f y=some r:=by cases x with |none=>cases h|some y=>grind
def letL{α β:Type} (x:α) (f:α->Option β):Option β:=f x
def idx{α:Type} (l:List α) (i:Int):Option α:=if 0<=i then l[i.toNat]? else none
def sub{α:Type} (l:List α) (a b:Int):Option (List α):=if 0<=a/\a<=b/\b<=l.length then some ((l.drop a.toNat).take (b.toNat-a.toNat))else none
def AkK{α β:Type} (f:α->β) (l:List α) (i:Int):idx (l.map f) i=(idx l i).map f:=by unfold idx;split<;>simp
def AiV{α β:Type} (f:α->β) (l:List α) (a b:Int):sub (l.map f) a b=(sub l a b).map (List.map f):=by unfold sub;simp only[co];split<;>simp[ft,List.map_drop]
def CW (n b:Nat):Prop:=n * b<=140737488355328/\n<=4611686018427387904
instance (n b:Nat):Decidable (CW n b):=by unfold CW;infer_instance
def AL (n:Nat):Prop:=n<=4611686018427387904
instance (n:Nat):Decidable (AL n):=by unfold AL;infer_instance
def wr (k:IntKind) (n:Int):Int:=k.wrap n
def Gi (k:IntKind) (a b:Int):Int:=k.wrap (BitVec.ofInt k.bits a&&&BitVec.ofInt k.bits b).toNat
def I8 (k:IntKind) (a b:Int):Int:=k.wrap (BitVec.ofInt k.bits a|||BitVec.ofInt k.bits b).toNat
def Alt (k:IntKind) (a b:Int):Int:=k.wrap (BitVec.ofInt k.bits a^^^BitVec.ofInt k.bits b).toNat
def LY (k:IntKind) (a b:Int):Int:=k.wrap (BitVec.ofInt k.bits a&&& ~~~ BitVec.ofInt k.bits b).toNat
def VA (k:IntKind) (x y:Int):Int:=k.wrap (x * 2^min y.toNat k.bits)
def TC (k:IntKind) (x y:Int):Int:=x.fdiv (2^min y.toNat k.bits)
section
variable{E:Env}{st:St}{af:List AVal}
def AoN (e:Option Nat) (w:Nat) (y:Option AVal):Option AVal:=match y with |some y=>if e=some w/\(Ag y).length=w then some (.cptr (Ag y))else none|none=>none
def Afp{t:TypeId}{w:Nat}{xs:List AVal}{o:Bool}{k:IntKind}{n:Int}:D5 E t (.slice w xs o) (.int k n)=AoN (EW E.P t) w (idx xs n):=by simp only[D5,AoN,idx];by_cases h1:EW E.P t=some w<;>by_cases h2:0<=n<;>simp[h1,h2]<;>cases xs[n.toNat]?<;>simp
theorem AWJ{e:Option Nat}{w:Nat}{y:AVal}:AoN e w (some y)=if e=some w/\(Ag y).length=w then some (.cptr (Ag y))else none:=rfl
def Aob (b:Bool) (x:Option UInt8):Option AVal:=match x with|some c=>if b=true then some (.int .u8 c.toNat)else none|none=>none
def Aom{t:TypeId}{s:B8}{k:IntKind}{n:Int}:UB E t (.str s) (.int k n)=Aob (EN E.P t) (idx s n):=by simp only[UB,Aob,idx];cases EN E.P t<;>by_cases h2:0<=n<;>simp[h2]<;>cases s[n.toNat]?<;>simp
theorem AYj{c:UInt8}:Aob true (some c)=some (.int .u8 (AC c)):=rfl
def Aoa (b:Bool) (x:Option B8):Option AVal:=match x with|some s=>if b=true then some (.str s)else none|none=>none
def AmR{t:TypeId}{s:B8}{lo hi:Option Int}:Gn E t (.str s) lo hi none=Aoa (EN E.P t) (sub s (lo.getD 0) (hi.getD s.length)):=by
 simp only[Gn,Aoa,sub];by_cases h:0<=lo.getD 0/\lo.getD 0<=hi.getD s.length/\hi.getD s.length<=s.length
 ·rw[ah h];cases EN E.P t;·rw[ae fA];rfl
  ·rw[ah ⟨rfl,trivial,h⟩];rfl
 ·rw[ae h,ae (λk=>h k.2.2)]
theorem AWZ{s:B8}:Aoa true (some s)=some (.str s):=rfl
def AY6 (e:Option Nat) (w:Nat) (o:Bool) (x:Option (List AVal)):Option AVal:=match x with|some s=>if e=some w then some (.slice w s o)else none|none=>none
def AdA{t:TypeId}{w:Nat}{xs:List AVal}{o:Bool}{lo hi:Option Int}:Gn E t (.slice w xs o) lo hi none=AY6 (EW E.P t) w false (sub xs (lo.getD 0) (hi.getD xs.length)):=by grind[Gn,AY6,sub,EW]
def AZO{t:TypeId}{w:Nat}{xs:List AVal}{o:Bool}{lo:Option Int}{h:Int}:Gn E t (.slice w xs o) lo (some h) (some h)=AY6 (EW E.P t) w true (sub xs (lo.getD 0) h):=by grind[Gn,AY6,sub,EW]
def AaI{w:Nat}{o:Bool}{s:List AVal}:AY6 (some w) w o (some s)=some (.slice w s o):=by simp[AY6]
def AiC (e:Option (Nat×Nat)) (i:Option IntKind) (b:Bool) (wd:Nat) (xs:List AVal) (ys:Option (List AVal)):Option AVal:=match e,ys with |some (z,by_),some ys=>if z=wd/\i=none/\b=true/\CW (xs.length+ys.length) by_ then some (.slice wd (xs++ys) true)else none|_,_=>none
set_option linter.unusedSimpArgs false in theorem Adg{t0 t1:TypeId}{wd:Nat}{xs:List AVal}{y:AVal}:JN E t0 t1 (.slice wd xs true) y=AiC (QN E.P t0) (Mi E.P t1) (BO E.P t1) wd xs (TM wd y):=by simp only[JN,Nq,AiC];rcases QN E.P t0 with _|⟨z,b⟩<;>rcases TM wd y with _|ys<;>try rfl
def AWy{wd by_:Nat}{xs ys:List AVal}:AiC (some (wd,by_)) none true wd xs (some ys)=if CW (xs.length+ys.length) by_ then some (.slice wd (xs++ys) true)else none:=by simp[AiC]
def ARh{wd:Nat}{ys:List AVal}{o:Bool}:TM wd (.slice wd ys o)=some ys:=by simp[TM]
def Ab9{l:B8}:TM 1 (.str l)=some ((l.map AC).map (.int .u8)):=by simp[TM,AC]
def apB (i:Bool) (e:Option (Nat×Nat)) (n:Option IntKind) (b:Bool) (el:TypeId) (l m:B8):Option AVal:=match i,e,n,b with |true,some (1,by_),none,true=>if CW (l.length+m.length) by_ then some (.buf el (l++m) true)else none|_,_,_,_=>none
theorem Abi{by_:Nat}{el:TypeId}{l m:B8}:apB true (some (1,by_)) none true el l m=if CW (l.length+m.length) by_ then some (.buf el (l++m) true)else none:=rfl
def Am2{t0 t1 el:TypeId}{l m:B8}:JN E t0 t1 (.buf el l true) (.str m)=apB (ACC E.P t0 el) (QN E.P t0) (Mi E.P t1) (BO E.P t1) el l m:=by
 have hl:(u8s l).length=l.length:=by simp[u8s]
 cases h1:ACC E.P t0 el;·grind[JN,apB]
 rcases h2:QN E.P t0 with _|⟨z,by_⟩;·grind[JN,Nq,apB]
 cases h3:Mi E.P t1
 ·cases h4:BO E.P t1;·grind[JN,Nq,TM,apB]
  ·by_cases hz:z=1
   ·subst hz;rw[Abi];by_cases hf:CW (l.length+m.length) by_;·have hf':=hf;unfold CW at hf';simp[JN,Nq,h1,h2,h3,h4,TM,hl,hf,Dl];exact hf'
    ·have hf':=hf;unfold CW at hf';simp[JN,Nq,h1,h2,h3,h4,TM,hl,hf,Dl];intro k1;have:=λk2=>hf' ⟨k1,k2⟩;omega
   ·have:apB true (some (z,by_)) none true el l m=none:=by
     unfold apB;split;·rename_i e1 e2 e3 e4;cases e2;exact absurd rfl hz
     ·rfl
    rw[this];simp[JN,Nq,h2,h3,h4,TM,hz]
 grind[JN,Nq,TM,apB]
def Air{a b:B8}:ACJ .add a b=if AL (a.length+b.length)then some (.str (a++b))else none:=by simp only[ACJ,Dl];by_cases h:a.length+b.length<=4611686018427387904<;>simp[h,AL]
def ALm{i:Nat}{c:List AVal}{m:List (Nat×List AVal)}:A9 ((i,c)::m) i=some c:=by simp[A9]
def Xd{i j:Nat}{c:List AVal}{m:List (Nat×List AVal)} (h:i≠j):A9 ((j,c)::m) i=A9 m i:=by grind[A9]
def AUp{i:Nat}{c x:List AVal}{m:List (Nat×List AVal)}:Bz ((i,c)::m) i x=(i,x)::m:=by simp[Bz]
def AUy{i j:Nat}{c x:List AVal}{m:List (Nat×List AVal)} (h:i≠j):Bz ((j,c)::m) i x=(j,c)::Bz m i x:=by grind[Bz]
def ACall.of{f:FuncId}{args args':List AVal}{Q Q':AVal->St->Prop} (hc:ACall E f args' st Q') (ha:args=args') (hq: ∀r st',st.next<=st'.next->Q' r st'->Q r st'):ACall E f args st Q:=by subst ha;exact hc.mono hq
def Sb:List AVal->AVal |[r]=>r|rs=>.tuple rs
def Kc{fn:Func}{Q:AVal->St->Prop}{xs:List AVal}{st':St}{m:List (Nat×List AVal)} (h:QT E fn.results.toList af st=some (xs,st')) (hm:m.Sublist st'.m) (hq:Q (Sb xs) {st' with m:=m}):KP E fn Q .ret af st:=by unfold KP;rw[h];exact⟨m,hm,hq⟩
def Km{fn:Func}{Q:AVal->St->Prop}{xs:List AVal}{st':St}{m:List (Nat×List AVal)} (h:QT E fn.results.toList af st=some (xs,st')) (hm:m.Sublist st'.m) (hq:Q (Sb xs) {st' with m:=m}):KP E fn Q .normal af st:=by unfold KP;rw[h];exact⟨m,hm,hq⟩
def AWp.congr{c:Code}{Q:APost}{af':List AVal} (h:af=af') (k:AWp E c Q af' st):AWp E c Q af st:=h▸k
def stripB:List Bool->List AVal->List AVal |true::bs,x::xs=>x.strip::stripB bs xs|false::bs,x::xs=>x::stripB bs xs|[],xs=>xs|_::_,[]=>[]
def Ry: ∀(bs:List Bool) (xs:List AVal),(stripB bs xs).length=xs.length |[],xs=>by rw[stripB]|_::_,[]=>by rw[stripB]|true::bs,x::xs=>by rw[stripB,ag,ag,Ry bs xs]|false::bs,x::xs=>by rw[stripB,ag,ag,Ry bs xs]
def QJ{Γ:Ghost}: ∀(bs:List Bool) (xs:List AVal) (vs:List Value),RepL Γ xs vs->RepL Γ (stripB bs xs) vs
 |[],xs,vs,h=>by grind[stripB]
 |_::_,[],vs,h=>by grind[stripB]
 | true::bs,x::xs,vs,h=>by cases h with |cons h t=>rw[stripB];exact .cons h.strip (QJ bs _ _ t)
 | false::bs,x::xs,vs,h=>by cases h with |cons h t=>rw[stripB];exact .cons h (QJ bs _ _ t)
def P9{Γ:Ghost}{w:World}: ∀(bs:List Bool) (xs:List AVal) (vs:List Value),ownL Γ w xs vs->ownL Γ w (stripB bs xs) vs |[],xs,vs,h=>by grind[stripB]|_::_,[],vs,h=>by grind[stripB]|true::bs,x::xs,[],h=>by grind[stripB,ownL]|false::bs,x::xs,[],h=>by grind[stripB,ownL]|true::bs,x::xs,v::vs,h=>by rw[ownL]at h;rw[stripB,ownL];exact⟨NH _ _ _ _,P9 bs xs vs h.2⟩|false::bs,x::xs,v::vs,h=>by rw[ownL]at h;rw[stripB,ownL];exact⟨h.1,P9 bs xs vs h.2⟩
def P7 (b:Nat): ∀(bs:List Bool) (xs:List AVal) (vs:List Value),AU b (stripB bs xs) vs<=AU b xs vs |[],xs,vs=>by simp_all[stripB]|_::_,[],vs=>by simp_all[stripB]|true::bs,x::xs,[]=>by grind[stripB,AU]|false::bs,x::xs,[]=>by grind[stripB,AU]| true::bs,x::xs,v::vs=>by have:=P7 b bs xs vs;grind[stripB,AU,KA]| false::bs,x::xs,v::vs=>by have:=P7 b bs xs vs;grind[stripB,AU]
def Sim.stripCells{F:Nat->Nat}{Γ:Ghost}{w:World}{a:Act}{i:Nat}{cs:List AVal} (bs:List Bool) (hs:Sim E F Γ st w af a.tmps.toList) (hg:A9 st.m i=some cs):Sim E F Γ {st with m:=Bz st.m i (stripB bs cs)} w af a.tmps.toList:=by
 rcases hs.box_ok _ (ME hg)with⟨b,arr,e,hb⟩|⟨v,hv⟩;rotate_left;·exact hs.setSh hg hv (QJ bs _ _ hv.rep) (P9 bs _ _ hv.own) λn=>by have h1:=P7 n bs cs [v];have h2:=hs.tok n;omega
 obtain⟨lo,hi,hh,hf⟩:=hb.heap;exact(hs.setBox (w':=w) (cs':=stripB bs cs) (arr':=arr) (lo:=lo) (hi:=hi) hg hb hh hf (λ_ _=>rfl) rfl rfl rfl rfl (by rw[Ry];exact QJ bs _ _ hb.rep) (P9 bs _ _ hb.own) (by rw[Ry];exact hb.one) (λn=>by have h1:=P7 n bs cs arr.toList;have h2:=hs.tok n;omega)).1
def AKq{c:Code}{Q:APost}{i j p:Nat}{cs:List AVal}{x:AVal} (hij:j≠i) (hg:A9 st.m j=some cs) (h2:2<=cs.length) (hc:cs[p]?=some (.sh i)) (hi:A9 st.m i=some [x]) (h:AWp E c Q af {st with m:=Bz (Bz st.m i [x.strip]) j (cs.set p x)}):AWp E c Q af st:=⟨λF Γ w a hd hs=>h.go F Γ w a hd (hs.unshCell hij hg h2 hc hi)⟩
def ABt{c:Code}{Q:APost}{m m':List (Nat×List AVal)}{n:Nat} (hp:m.Perm m') (h:AWp E c Q af ⟨m',n⟩):AWp E c Q af ⟨m,n⟩:=⟨λF Γ w a hd hs=>h.go F Γ w a hd (hs.perm hp)⟩
def ACall.perm{f:FuncId}{args:List AVal}{Q:AVal->St->Prop}{m m':List (Nat×List AVal)}{n:Nat} (hp:m.Perm m') (h:ACall E f args ⟨m',n⟩ Q):ACall E f args ⟨m,n⟩ Q:=⟨λF Γ w cargs hs=>h.go F Γ w cargs (hs.perm hp)⟩
theorem AWp.nodup{c:Code}{Q:APost} (h:(st.m.map (·.1)).Nodup->AWp E c Q af st):AWp E c Q af st:=⟨λF Γ w a hd hs=>(h hs.keys).go F Γ w a hd hs⟩
def Rn: ∀ {m:List (Nat×List AVal)}{i:Nat}{c x:List AVal},A9 m i=some c->((i,x)::EP m i).Perm (Bz m i x)
 |[],_,_,_,h=>by grind[A9]
 | (j,d)::m,i,c,x,h=>by
  simp only[A9]at h;simp only[EP,Bz];split at h;·simp_all
  ·rename_i e;rw[ae e,ae e];exact(cu _ _ _).trans ((Rn h).cons _)
theorem X5: ∀ {m:List (Nat×List AVal)}{i j:Nat},i≠j->A9 (EP m i) j=A9 m j
 |[],_,_,_=>rfl
 | (k,d)::m,i,j,h=>by
  simp only[EP];split;·rename_i e;subst e;simp only[A9];rw[ae (λe=>h e.symm)]
  ·simp only[A9];rw[X5 h]
def ADq: ∀ {m:List (Nat×List AVal)}{i j:Nat}{x:List AVal},i≠j->Bz (EP m i) j x=EP (Bz m j x) i
 |[],_,_,_,_=>rfl
 | (k,d)::m,i,j,x,h=>by
  by_cases e:i=k;·subst e;simp only[EP,av,Bz];rw[ae (λe=>h e.symm)];simp[EP]
  ·by_cases e2:j=k;·grind[EP,Bz]
   ·simp only[EP,Bz,ae e,ae e2];rw[ADq h]
def ACall.front{f:FuncId}{args:List AVal}{m:List (Nat×List AVal)}{n i:Nat}{c:List AVal}{Q:AVal->St->Prop} (hi:A9 m i=some c) (h:i<n->ACall E f args ⟨(i,c)::EP m i,n⟩ λr st'=>∃c',st'.m=(i,c')::EP m i/\Q r ⟨Bz m i c',st'.next⟩):ACall E f args ⟨m,n⟩ Q:=by
 refine ACall.known λ_ hk=>?_;have hin:i<n:=by
  rcases aS i n with h'|h';·omega
  ·have:=hk i h';grind
 constructor;intro F Γ w cargs hs;refine((h hin).go F Γ w cargs (hs.perm (Ke hi))).mono ?_;rintro e w' ⟨v,he,Γ',r,⟨m',n'⟩,h1,h2,h3,c',hm,hq⟩;simp only at hm;subst hm;exact⟨v,he,Γ',r,⟨Bz m i c',n'⟩,h1,h2,h3.perm (Rn hi),hq⟩
end
end Go.VM
set_option linter.unusedVariables false
set_option linter.defProp false
set_option maxRecDepth 100000
namespace Go.VM
section
variable{E:Env}{t:TypeId}{k:IntKind}{a b:Int}
def AmS:F6 E .add t (.int k a) (.int k b)=some (.int k (wr k (a+b))):=by simp[F6,Ku,wr]
def Aml:F6 E .sub t (.int k a) (.int k b)=some (.int k (wr k (a-b))):=by simp[F6,Ku,wr]
def AmX:F6 E .mul t (.int k a) (.int k b)=some (.int k (wr k (a * b))):=by simp[F6,Ku,wr]
def Anx:F6 E .quo t (.int k a) (.int k b)=if b=0 then none else some (.int k (wr k (a.tdiv b))):=by simp[F6,Ku,wr]
def Am7:F6 E .rem t (.int k a) (.int k b)=if b=0 then none else some (.int k (a.tmod b)):=by simp[F6,Ku]
def AoF:F6 E .and t (.int k a) (.int k b)=some (.int k (Gi k a b)):=by simp[F6,Ku,Gi]
def ApY:F6 E .or t (.int k a) (.int k b)=some (.int k (I8 k a b)):=by simp[F6,Ku,I8]
def Am0:F6 E .xor t (.int k a) (.int k b)=some (.int k (Alt k a b)):=by simp[F6,Ku,Alt]
def AYL:F6 E .andNot t (.int k a) (.int k b)=some (.int k (LY k a b)):=by simp[F6,Ku,LY]
def AnH:F6 E .eql t (.int k a) (.int k b)=some (.bool (a==b)):=by simp[F6,Ku]
def AmO:F6 E .neq t (.int k a) (.int k b)=some (.bool (a !=b)):=by simp[F6,Ku]
def AnM:F6 E .lss t (.int k a) (.int k b)=some (.bool (decide (a<b))):=by simp[F6,Ku]
def Amz:F6 E .leq t (.int k a) (.int k b)=some (.bool (decide (a<=b))):=by simp[F6,Ku]
def AoO:F6 E .gtr t (.int k a) (.int k b)=some (.bool (decide (a>b))):=by simp[F6,Ku]
def AmI:F6 E .geq t (.int k a) (.int k b)=some (.bool (decide (a>=b))):=by simp[F6,Ku]
def AoE{j:IntKind}:F6 E .shl t (.int k a) (.int j b)=if b<0 then none else some (.int k (VA k a b)):=by simp[F6,ABv,VA]
def AnB{j:IntKind}:F6 E .shr t (.int k a) (.int j b)=if b<0 then none else some (.int k (TC k a b)):=by simp[F6,ABv,TC]
variable{x y:B8}{p q:Bool}
def Aiu:F6 E .add t (.str x) (.str y)=if AL (x.length+y.length)then some (.str (x++y))else none:=Air
theorem AkB:F6 E .eql t (.str x) (.str y)=some (.bool (x==y)):=rfl
theorem Ain:F6 E .neq t (.str x) (.str y)=some (.bool (!(x==y))):=rfl
theorem Ah4:F6 E .lss t (.str x) (.str y)=some (.bool (Op.bytesLess x y)):=rfl
theorem Aki:F6 E .leq t (.str x) (.str y)=some (.bool (Op.bytesLess x y||x==y)):=rfl
theorem AlI:F6 E .gtr t (.str x) (.str y)=some (.bool (!(Op.bytesLess x y||x==y))):=rfl
theorem AiX:F6 E .geq t (.str x) (.str y)=some (.bool (!(Op.bytesLess x y))):=rfl
theorem Ajr:F6 E .eql t (.bool p) (.bool q)=if Xj E.P t=true then some (.bool (p==q))else none:=rfl
theorem AjM:F6 E .neq t (.bool p) (.bool q)=if Xj E.P t=true then some (.bool (!(p==q)))else none:=rfl
def AgZ (op:BinOp) (g:Bool) (e:Option Bool):Option AVal:=if g=true then none else match op,e with |.eql,some b=>some (.bool b)|.neq,some b=>some (.bool (!b))|_,_=>none
theorem Am4{op:BinOp}{xs ys:List AVal}:F6 E op t (.agg xs) (.agg ys)=AgZ op (E.P.eqGuardType E.P.depth t) (eqA E.P 10000 t (.agg xs) (.agg ys)):=rfl
theorem AXt:AgZ .eql false (some p)=some (.bool p):=rfl
theorem AWD:AgZ .neq false (some p)=some (.bool (!p)):=rfl
def cvI (g:Bool) (st:Bool) (k:Option IntKind) (n:Int):Option AVal:=if(g&&st)=true then some (.str (Jm n))else if g=true then(match k with|some k=>some (.int k (wr k n))|none=>none)else none
theorem An9{s d:TypeId}{n:Int}:Rm E s d (.int k n)=cvI (BO E.P s) (EN E.P d) (Mi E.P d) n:=rfl
theorem AeP{n:Int}:cvI true false (some k) n=some (.int k (wr k n)):=rfl
theorem AiQ{n:Int}{j:Option IntKind}:cvI true true j n=some (.str (Jm n)):=rfl
def cvS (g h:Bool) (l:B8):Option AVal:=if(g&&h)=true then some (.str l)else none
theorem Aoo{s d:TypeId}{l:B8}:Rm E s d (.str l)=cvS (BO E.P s) (EN E.P d) l:=rfl
theorem Ags{l:B8}:cvS true true l=some (.str l):=rfl
theorem Ago{s d:TypeId}{w:Nat}{xs:List AVal}{o:Bool}:Rm E s d (.slice w xs o)=strOf (u8T E.P s&&EN E.P d) (bytesOf xs):=rfl
theorem AS4{l:B8}:strOf true (some l)=some (.str l):=rfl
def bytesOf_map{l:List Int}:bytesOf (l.map (AVal.int .u8))=some (l.map Gu):=by induction l<;>grind[bytesOf]
theorem R8{n:Int}{xs:List AVal}:bytesOf (.int .u8 n::xs)=(bytesOf xs).map (Gu n:: ·):=rfl
theorem AQ3:bytesOf []=some []:=rfl
def AM7{xs ys:List AVal}:bytesOf (xs++ys)=(bytesOf xs).bind λa=>(bytesOf ys).map (a++ ·):=by
 induction xs with
 |nil=>cases h:bytesOf ys<;>simp[bytesOf,h]
 | cons x xs ih=>
  rw[ba];cases x with
  | int k n=>
   cases k<;>try rfl
   rw[R8,R8,ih];cases bytesOf xs<;>cases bytesOf ys<;>simp
  |_=>rfl
theorem An6{l:B8}:cvS true false l=none:=rfl
theorem Anp{s d:TypeId}{w i l:Nat}:Rm E s d (.gsl w i l)=none:=rfl
theorem AoC{s d:TypeId}{w i o l:Nat}:Rm E s d (.bsl w i o l)=none:=rfl
theorem Ana{s d:TypeId}{i o:Nat}:Rm E s d (.ptr i o)=none:=rfl
section
variable{s d:TypeId}{st:St}
theorem AmZ{l:B8}:TE E s d (.str l) st=none:=rfl
theorem Amm{w i l:Nat}:TE E s d (.gsl w i l) st=none:=rfl
theorem Anl{w i o l:Nat}:TE E s d (.bsl w i o l) st=none:=rfl
def cuB (b:Bool) (i:Nat):Option AVal:=if b=true then some (.ptr i 0)else none
theorem Aep{i:Nat}:cuB true i=some (.ptr i 0):=rfl
def cuR (E:Env) (s d:TypeId) (i:Nat) (x:Option (List AVal)):Option AVal:=match x with |some (.nself j T n::_)=>if j=i then cuB (XN E.P s d T n) i else none|_=>none
def Agj{i n:Nat}{T:TypeId}{cs:List AVal}:cuR E s d i (some (.nself i T n::cs))=cuB (XN E.P s d T n) i:=by simp[cuR]
def AoK{i:Nat}:TE E s d (.ptr i 0) st=cuR E s d i (A9 st.m i):=by
 simp only[TE];generalize A9 st.m i=x;unfold cuR;split;·rename_i j T n rest;simp only[cuB];by_cases h1:j=i<;>by_cases h2:XN E.P s d T n=true<;>simp[h1,h2]
 simp
def KI (i:Nat) (T:TypeId) (n:Nat) (b:Bool):AVal:=if b=true then .ptr i 0 else .nself i T n
theorem AiB{i n:Nat}{T:TypeId}:KI i T n true=.ptr i 0:=rfl
theorem AlF{i n:Nat}{T:TypeId}:KI i T n false=.nself i T n:=rfl
def AWe{i n:Nat}{T:TypeId}{b:Bool}:(KI i T n b).strip=KI i T n b:=by cases b<;>simp[KI,AVal.strip]
def AWS{i n:Nat}{T:TypeId}{b:Bool}:Ag (KI i T n b)=[KI i T n b]:=by cases b<;>rfl
def AV8{i n:Nat}{T:TypeId}{b:Bool}:MO (KI i T n b)=false:=by cases b<;>rfl
def AWI{i n:Nat}{T:TypeId}{b:Bool}:EY (KI i T n b)=true:=by cases b<;>rfl
def cmS (a b:Bool) (l:B8) (st:St):Option (AVal×St):=if a=true/\b=true then some (.bsl 1 st.next 0 l.length,{m:=(st.next,List.map (AVal.int .u8) (List.map AC l))::st.m,next:=st.next+1})else none
def AnI{l:B8}:RZ E s d (.str l) st=cmS (u8T E.P d) (EN E.P s) l st:=by simp only[RZ,cmS,fw];rfl
def AfQ{l:B8}:cmS true true l st=some (.bsl 1 st.next 0 l.length,{m:=(st.next,List.map (AVal.int .u8) (List.map AC l))::st.m,next:=st.next+1}):=by simp[cmS]
def cmB (b:Bool) (off n:Nat) (st:St) (x:Option (List AVal)):Option (AVal×St):=match x with
 |some cs=>if b=true then(match bytesOf ((cs.drop off).take n)with|some l=>if l.length=n/\AL n then some (.str l,st)else none|none=>none)else none
 |none=>none
def Am6{i off n:Nat}:RZ E s d (.bsl 1 i off n) st=cmB (u8T E.P s&&EN E.P d) off n st (A9 st.m i):=by simp only[RZ,cmB,cM,Dl,AL];cases (u8T E.P s&&EN E.P d)<;>cases A9 st.m i<;>simp;grind
def AcY{q:List Int}{off n:Nat}:cmB true off n st (some (List.map (AVal.int .u8) q))=if n<=q.length-off/\AL n then some (.str (List.map Gu (List.take n (List.drop off q))),st)else none:=by simp only[cmB,av,<-ft,<-List.map_drop,bytesOf_map,co,bG,aB];grind
def VL (n:Int) (b:Nat):Prop:=0<=n/\n<=4611686018427387904/\n * b<=140737488355328
instance (n:Int) (b:Nat):Decidable (VL n b):=by unfold VL;infer_instance
def mkR (e:Option (Nat×AVal)) (n:Int) (st:St):Option (AVal×St):=match e with |some (b,z)=>if 0<=n/\n<=Dl/\n * b<=140737488355328 then some (.bsl 1 st.next 0 n.toNat,{m:=(st.next,List.replicate n.toNat z)::st.m,next:=st.next+1})else none|none=>none
def AjO{b:Nat}{k:IntKind}{z n:Int}:mkR (some (b,.int k z)) n st=if VL n b then some (.bsl 1 st.next 0 n.toNat,{m:=(st.next,List.map (AVal.int k) (List.replicate n.toNat z))::st.m,next:=st.next+1})else none:=by grind[mkR,VL,Dl,List.map_replicate]
def Aie{b:Nat}{n:Int}:mkR (some (b,.str [])) n st=if VL n b then some (.bsl 1 st.next 0 n.toNat,{m:=(st.next,List.map AVal.str (List.replicate n.toNat []))::st.m,next:=st.next+1})else none:=by grind[mkR,VL,Dl,List.map_replicate]
def Zj (n n':Int) (b:Nat):Prop:=0<=n/\n<=n'/\n'<=4611686018427387904/\n' * b<=140737488355328
instance (n n':Int) (b:Nat):Decidable (Zj n n' b):=by unfold Zj;infer_instance
def mkG (e:Option (Nat×AVal)) (n n':Int) (st:St):Option (AVal×St):=match e with |some (b,z)=>if 0<=n/\n<=n'/\n'<=Dl/\n' * b<=140737488355328 then some (.gsl 1 st.next n.toNat,{m:=(st.next,List.replicate n.toNat z)::st.m,next:=st.next+1})else none|none=>none
def Aj5{b:Nat}{k:IntKind}{z n n':Int}:mkG (some (b,.int k z)) n n' st=if Zj n n' b then some (.gsl 1 st.next n.toNat,{m:=(st.next,List.map (AVal.int k) (List.replicate n.toNat z))::st.m,next:=st.next+1})else none:=by grind[mkG,Zj,Dl,List.map_replicate]
def Ake{b:Nat}{n n':Int}:mkG (some (b,.str [])) n n' st=if Zj n n' b then some (.gsl 1 st.next n.toNat,{m:=(st.next,List.map AVal.str (List.replicate n.toNat []))::st.m,next:=st.next+1})else none:=by grind[mkG,Zj,Dl,List.map_replicate]
def ArG{k k':IntKind}{n n':Int}:Wj E t (.int k n) (.int k' n') st=mkG (VF E.P t) n n' st:=by simp only[Wj,mkG];rcases VF E.P t with _|⟨b,z⟩<;>simp
def Aok{i n:Nat}:RZ E s d (.gsl 1 i n) st=cmB (u8T E.P s&&EN E.P d) 0 n st (A9 st.m i):=by simp only[RZ,cmB,cM,Dl,AL,aY];cases (u8T E.P s&&EN E.P d)<;>cases A9 st.m i<;>simp;grind
def Aqy{k k':IntKind}{n:Int}:Xa E t (.int k n) (.int k' n) st=mkR (VF E.P t) n st:=by simp only[Xa,mkR];rcases VF E.P t with _|⟨b,z⟩<;>simp
end
theorem Amq{e:TypeId}{l:B8}{o:Bool}:UD (.buf e l o)=some (.bufp e l o):=rfl
def usB (b:Bool) (l:B8):Option AVal:=if b=true then some (.str l)else none
theorem Afh{l:B8}:usB true l=some (.str l):=rfl
def Amy{t0 e:TypeId}{l:B8}:WU E t0 (.bufp e l true) (.int .i64 (l.length:Int))=usB (ptrTo E.P t0 e) l:=by simp[WU,usB]
theorem AoX{op:BinOp}:F6 E op t .nilp .nilp=Qu op (SH E.P t) (some true):=rfl
theorem AmH{op:BinOp}{i n:Nat}{T:TypeId}:F6 E op t (.nself i T n) .nilp=Qu op (SH E.P t) (some true):=rfl
theorem Aon{op:BinOp}{i o:Nat}:F6 E op t (.ptr i o) .nilp=Qu op (SH E.P t) (some false):=rfl
def An8{op:BinOp}{i o:Nat}:F6 E op t (.ptr i o) (.ptr i o)=Qu op (SH E.P t) (some true):=by simp[F6,AFA]
theorem AnV:Qu .eql true (some p)=some (.bool p):=rfl
theorem AoS:Qu .neq true (some p)=some (.bool (!p)):=rfl
theorem Af4{e:TypeId}:Sk E t (.nbuf e)=if Dk E.P t=true then some (.int .i64 0)else none:=rfl
theorem Abt{e:TypeId}:Ae9 E t (.nbuf e)=if Dk E.P t=true then some (.int .i64 0)else none:=rfl
theorem Ah9{T:TypeId}{i:Nat}{e:TypeId}:AVe E t (.trow T i 0) (.nbuf e)=if EW E.P t=some 1 then some (.int .i64 0)else none:=rfl
def Aka{T:TypeId}{i len:Nat}{h:Int}:Gn E t (.trow T i len) none (some h) none=if EW E.P t=some 1 then(if 0<=h/\h<=len then some (.trow T i h.toNat)else none)else none:=by simp only[Gn];by_cases h1:EW E.P t=some 1<;>by_cases h2:0<=h<;>by_cases h3:h<=len<;>simp[h1,h2,h3]
theorem AhC{T:TypeId}{i l:Nat}:(AVal.trow T i l).strip=.trow T i l:=rfl
theorem AeU{T:TypeId}{i l:Nat}:Ag (.trow T i l)=[.trow T i l]:=rfl
theorem Ag5{T:TypeId}{i l:Nat}:EY (.trow T i l)=true:=rfl
theorem Afu{T:TypeId}{i l:Nat}:MO (.trow T i l)=false:=rfl
theorem Abf{e:TypeId}:(AVal.nbuf e).strip=.nbuf e:=rfl
theorem Afz{e:TypeId}:Ag (.nbuf e)=[.nbuf e]:=rfl
theorem Ab1{e:TypeId}:EY (.nbuf e)=true:=rfl
theorem AfE{e:TypeId}:MO (.nbuf e)=false:=rfl
theorem AjA{e:TypeId}{l:B8}{o:Bool}:Sk E t (.buf e l o)=if Dk E.P t=true then some (.int .i64 l.length)else none:=rfl
theorem Ako{w i o l:Nat}:Sk E t (.bsl w i o l)=if Dk E.P t=true then some (.int .i64 l)else none:=rfl
def CQ{w i len:Nat}{k:IntKind}{n:Int}:D5 E t (.gsl w i len) (.int k n)=if EW E.P t=some w then(if 0<=n/\n<len then some (.ptr i (n.toNat * w))else none)else none:=by simp only[D5];by_cases h1:EW E.P t=some w<;>by_cases h2:0<=n<;>by_cases h3:n<len<;>simp[h1,h2,h3]
def Bv{w i len:Nat}{h:Int}:Gn E t (.gsl w i len) none (some h) none=if EW E.P t=some w then(if 0<=h/\h<=len then some (.gsl w i h.toNat)else none)else none:=by simp only[Gn];by_cases h1:EW E.P t=some w<;>by_cases h2:0<=h<;>by_cases h3:h<=len<;>simp[h1,h2,h3]
def An7{w i len:Nat}{h:Int}:Gn E t (.bsl w i 0 len) none (some h) none=if EW E.P t=some w then(if 0<=h/\h<=len then some (.bsl w i 0 h.toNat)else none)else none:=by simp only[Gn];by_cases h1:EW E.P t=some w<;>by_cases h2:0<=h<;>by_cases h3:h<=len<;>simp[h1,h2,h3]
def apT (e:Option (Nat×Nat)) (g:Bool) (x:Option (List AVal)) (m:List (Nat×List AVal)) (j len:Nat) (s:B8):Option (Nat×Nat×List AVal×List (Nat×List AVal)×Option Nat):=match x,e with |some cs,some (z,by_)=>if z=1/\len<=cs.length/\(len+s.length) * by_<=140737488355328/\len+s.length<=Dl/\g=true then some (1,len+s.length,cs.take len++u8s s,EP m j,some j)else none|_,_=>none
def IK{t0 t1:TypeId}{j len:Nat}{s:B8}{st:St}:AYR E t0 t1 (.gsl 1 j len) (.str s) st=apT (QN E.P t0) ((Mi E.P t1).isNone&&BO E.P t1) (A9 st.m j) st.m j len s:=by simp only[AYR,apT];rcases A9 st.m j with _|cs<;>rcases QN E.P t0 with _|⟨z,b⟩<;>simp
def Ar{b j len:Nat}{q:List Int}{m:List (Nat×List AVal)}{s:B8}:apT (some (1,b)) true (some (List.map (AVal.int .u8) q)) m j len s=if len<=q.length/\CW (len+s.length) b then some (1,len+s.length,List.map (AVal.int .u8) (List.take len q++List.map AC s),EP m j,some j)else none:=by
 have e:u8s s=List.map (AVal.int .u8) (List.map AC s):=by simp[u8s,AC]
 simp_all[apT,CW,Dl]
theorem Aq{w i l:Nat}:(AVal.gsl w i l).strip=.gsl w i l:=rfl
def BV{i:Nat}{c:List AVal}{m:List (Nat×List AVal)}:EP ((i,c)::m) i=m:=by simp[EP]
def lkV:List B8->List AVal->B8->AVal->AVal |k::ks,v::vs,s,z=>if(s==k)=true then v.strip else lkV ks vs s z|_,_,_,z=>z.strip
theorem Acs{k s:B8}{ks:List B8}{v z:AVal}{vs:List AVal}:lkV (k::ks) (v::vs) s z=if(s==k)=true then v.strip else lkV ks vs s z:=rfl
theorem Aij{s:B8}{z:AVal}:lkV [] [] s z=z.strip:=rfl
def lkR (z:Option AVal) (x:Option (List AVal)) (s:B8):Option AVal:=match z,x with |some z,some [.map ks vs]=>some (lkV ks vs s z)|_,_=>none
theorem AS8{s:B8}{z:AVal}: ∀(ks:List B8) (vs:List AVal),(match LW ks vs s with|some x=>x.strip|none=>z.strip)=lkV ks vs s z
 |[],_=>by simp[LW,lkV]
 |_::_,[]=>by simp[LW,lkV]
 | k::ks,v::vs=>by
  simp only[LW,lkV,bA];split
  ·rename_i x hx;split at hx;·simp_all
   ·rename_i e;rw[ae e,<-AS8 ks vs,hx]
  ·rename_i hx;split at hx;·grind
   ·rename_i e;rw[ae e,<-AS8 ks vs,hx]
def Ao1{i:Nat}{s:B8}{st:St}:P8 E t (.sh i) (.str s) false st=lkR ((U1 E.P t).bind (FI E.P)) (A9 st.m i) s:=by
 unfold P8 Tv lkR;cases U1 E.P t with
 |none=>simp
 | some e=>
  simp only[aa];cases hm:A9 st.m i with
  |none=>cases FI E.P e<;>simp
  | some cs=>
   cases hz:FI E.P e with
   | none=>match cs with |[]=>simp|[.map _ _]=>grind|x::y::_=>cases x<;>simp|[.any]|[.bool _]|[.int _ _]|[.str _]|[.agg _]|[.tuple _]|[.slice _ _ _]|[.ptr _ _]|[.nilp]|[.cptr _]|[.fn _ _ _]|[.nilFn]|[.iface _ _]|[.nilIface]|[.iter _ _]|[.bsl _ _ _ _]|[.nself _ _ _]|[.buf _ _ _]|[.bufp _ _ _]|[.slop _ _]|[.sh _]|[.sptr _ _ _]|[.gsl _ _ _]|[.nmap]|[.num _]|[.nbuf _]|[.trow _ _ _]=>simp
   | some z=>match cs with |[]=>simp|[.map ks vs]=>grind[AS8]|x::y::_=>cases x<;>simp|[.any]|[.bool _]|[.int _ _]|[.str _]|[.agg _]|[.tuple _]|[.slice _ _ _]|[.ptr _ _]|[.nilp]|[.cptr _]|[.fn _ _ _]|[.nilFn]|[.iface _ _]|[.nilIface]|[.iter _ _]|[.bsl _ _ _ _]|[.nself _ _ _]|[.buf _ _ _]|[.bufp _ _ _]|[.slop _ _]|[.sh _]|[.sptr _ _ _]|[.gsl _ _ _]|[.nmap]|[.num _]|[.nbuf _]|[.trow _ _ _]=>simp
theorem Agq{s:B8}{z:AVal}{ks:List B8}{vs:List AVal}:lkR (some z) (some [.map ks vs]) s=some (lkV ks vs s z):=rfl
def upR (b:Bool) (y:Option (List AVal)) (i:Nat) (s:B8) (x:AVal) (st:St):Option St:=match b,y with |true,some [.map ks vs]=>some {st with m:=Bz st.m i [.map (I9 ks s) (K5 ks vs s x)]}|_,_=>none
def ApH{i:Nat}{s:B8}{x:AVal}{st:St}:Sq E t (.sh i) (.str s) x st=upR (U1 E.P t).isSome (A9 st.m i) i s x st:=by simp only[Sq,Tv,upR];grind[U1,A9]
theorem AdS{i:Nat}{s:B8}{x:AVal}{st:St}{ks:List B8}{vs:List AVal}:upR true (some [.map ks vs]) i s x st=some {st with m:=Bz st.m i [.map (I9 ks s) (K5 ks vs s x)]}:=rfl
theorem Apk{op:BinOp}{f:Fn}{x y:List AVal}:F6 E op t (.fn f x y) .nilFn=ZL op (AA2 E.P t) false:=rfl
theorem Apc{op:BinOp}:F6 E op t .nilFn .nilFn=ZL op (AA2 E.P t) true:=rfl
theorem Ane{b:Bool}:ZL .eql true b=some (.bool b):=rfl
theorem AnJ{b:Bool}:ZL .neq true b=some (.bool (!b)):=rfl
def AoB{w i off len:Nat}{k:IntKind}{n:Int}:D5 E t (.bsl w i off len) (.int k n)=if EW E.P t=some w then(if 0<=n/\n<len then some (.ptr i (off+n.toNat * w))else none)else none:=by simp only[D5];by_cases h1:EW E.P t=some w<;>by_cases h2:0<=n<;>by_cases h3:n<len<;>simp[h1,h2,h3]
def iaP (e:Option (Nat×Nat×Bool)) (j o:Nat) (n:Int):Option AVal:=match e with |some (len,z,_)=>if 0<=n/\n<len then some (.ptr j (o+n.toNat * z))else none|none=>none
def AmQ{j o:Nat}{k:IntKind}{n:Int}:D5 E t (.ptr j o) (.int k n)=iaP (Mq E.P t) j o n:=by simp only[D5,iaP];rcases Mq E.P t with _|⟨len,z,g⟩<;>rfl
theorem Adq{len z j o:Nat}{g:Bool}{n:Int}:iaP (some (len,z,g)) j o n=if 0<=n/\n<(len:Int)then some (.ptr j (o+n.toNat * z))else none:=rfl
def slP (e:Option (Nat×Nat×Bool)) (i o:Nat) (l:Int) (h:Option Int):Option AVal:=match e with |some (len,z,_)=>if 0<=l/\l<=h.getD len/\h.getD len<=len/\len<=Dl then some (.bsl z i (o+l.toNat * z) ((h.getD len).toNat-l.toNat))else none|none=>none
def Ans{i o:Nat}{lo hi:Option Int}:Gn E t (.ptr i o) lo hi none=slP (Mq E.P t) i o (lo.getD 0) hi:=by simp only[Gn,slP];rcases Mq E.P t with _|⟨len,z,g⟩<;>simp
def AeS{len z i o:Nat}{g:Bool}{l:Int}:slP (some (len,z,g)) i o l none=if 0<=l/\l<=(len:Int)/\len<=Dl then some (.bsl z i (o+l.toNat * z) (len-l.toNat))else none:=by simp[slP]
def AkF{α:Type}{l:List α}{n:Int} (h:0<=n):l[n.toNat]?=idx l n:=by grind[idx]
def AiU{α β:Type}{f:α->β}{l:List α}{k:Nat}{v:α}:(List.map f l).set k (f v)=List.map f (l.set k v):=List.map_set.symm
theorem Anb:unA .not (.bool p)=some (.bool (!p)):=rfl
theorem AoY:unA .neg (.int k a)=some (.int k (wr k (0-a))):=rfl
end
def AFF (n:Nat):List Bool:=List.replicate n false
def Xw{n:Nat}:(AFF n).length=n:=by simp[AFF]
def AZB{l:List Bool}:stripL (List.map AVal.bool l)=List.map AVal.bool l:=by induction l<;>grind[stripL,AVal.strip]
def AXM{k:IntKind}{l:List Int}:stripL (List.map (AVal.int k) l)=List.map (AVal.int k) l:=by induction l<;>grind[stripL,AVal.strip]
def AY1{l:List Bool}{n:Nat} (h:l.length=n):List.take n (List.map AVal.bool l)=List.map AVal.bool l:=by grind[List.take_of_length_le]
def AXr{k:IntKind}{l:List Int}{n:Nat} (h:l.length=n):List.take n (List.map (AVal.int k) l)=List.map (AVal.int k) l:=by grind[List.take_of_length_le]
def SL: ∀(l q p:List AVal),q.length=l.length->putCells (p++q) p.length l=p++l |[],q,p,h=>by grind[putCells]| x::l,q,p,h=>by cases q with |nil=>grind| cons y q=>rw[putCells];have e:(p++y::q).set p.length x=(p++[x])++q:=fA;have e2:p.length+1=(p++[x]).length:=fA;rw[e,e2,SL l q (p++[x]) (by grind)];simp
def AdT{l q:List Bool} (h:q.length=l.length):putCells (List.map AVal.bool q) 0 (List.map AVal.bool l)=List.map AVal.bool l:=by have:=SL (List.map AVal.bool l) (List.map AVal.bool q) [] (by grind);grind
def Acd{k:IntKind}{l q:List Int} (h:q.length=l.length):putCells (List.map (AVal.int k) q) 0 (List.map (AVal.int k) l)=List.map (AVal.int k) l:=by have:=SL (List.map (AVal.int k) l) (List.map (AVal.int k) q) [] (by grind);grind
def AkN:AVal.strip (.any)=.any:=by simp[AVal.strip]
def AdF{b:Bool}:AVal.strip (.bool b)=.bool b:=by simp[AVal.strip]
def AkW{k:IntKind}{n:Int}:AVal.strip (.int k n)=.int k n:=by simp[AVal.strip]
def AiW{l:B8}:AVal.strip (.str l)=.str l:=by simp[AVal.strip]
def AiT{w i o l:Nat}:AVal.strip (.bsl w i o l)=.bsl w i o l:=by simp[AVal.strip]
def AYB{i n:Nat}{T:TypeId}:AVal.strip (.nself i T n)=.nself i T n:=by simp[AVal.strip]
def AlO{e:TypeId}{l:B8}{o:Bool}:AVal.strip (.buf e l o)=.buf e l false:=by simp[AVal.strip]
def Aem{e:TypeId}{l:B8}{o:Bool}:AVal.strip (.bufp e l o)=.bufp e l false:=by simp[AVal.strip]
theorem AiR{w i o l:Nat}:Ag (.bsl w i o l)=[.bsl w i o l]:=rfl
theorem AXQ{i n:Nat}{T:TypeId}:Ag (.nself i T n)=[.nself i T n]:=rfl
theorem AiM{e:TypeId}{l:B8}{o:Bool}:Ag (.buf e l o)=[.buf e l o]:=rfl
theorem AS6{i:Nat}:(AVal.sh i).strip=.sh i:=rfl
theorem Ael{i w n:Nat}:(AVal.sptr i w n).strip=.sptr i w n:=rfl
theorem Afi{i:Nat}:Ag (.sh i)=[.sh i]:=rfl
theorem Adc{i w n:Nat}:Ag (.sptr i w n)=[.sptr i w n]:=rfl
theorem Ade{i:Nat}:EY (.sh i)=true:=rfl
theorem Ac2{i w n:Nat}:EY (.sptr i w n)=true:=rfl
theorem Aj2{w i o l:Nat}:EY (.bsl w i o l)=true:=rfl
theorem AV7{i n:Nat}{T:TypeId}:EY (.nself i T n)=true:=rfl
theorem AjH{e:TypeId}{l:B8}{o:Bool}:EY (.buf e l o)=true:=rfl
def Ajf{i o:Nat}:AVal.strip (.ptr i o)=.ptr i o:=by simp[AVal.strip]
def Ace:AVal.strip (.nilp)=.nilp:=by simp[AVal.strip]
def Acl{l:List AVal}:AVal.strip (.cptr l)=.cptr l:=by simp[AVal.strip]
def Anw{f:Fn}{p q:List AVal}:AVal.strip (.fn f p q)=.fn f p q:=by simp[AVal.strip]
def AYT:AVal.strip (.nilFn)=.nilFn:=by simp[AVal.strip]
def AaO{t:TypeId}{x:AVal}:AVal.strip (.iface t x)=.iface t x:=by simp[AVal.strip]
def AJN:AVal.strip (.nilIface)=.nilIface:=by simp[AVal.strip]
theorem AjI:Ag (.any)=[.any]:=rfl
theorem Acy{b:Bool}:Ag (.bool b)=[.bool b]:=rfl
theorem Ah1{k:IntKind}{n:Int}:Ag (.int k n)=[.int k n]:=rfl
theorem Ajv{l:B8}:Ag (.str l)=[.str l]:=rfl
theorem Aku{i o:Nat}:Ag (.ptr i o)=[.ptr i o]:=rfl
theorem Abb:Ag (.nilp)=[.nilp]:=rfl
theorem Abp{l:List AVal}:Ag (.cptr l)=[.cptr l]:=rfl
theorem Anr{f:Fn}{p q:List AVal}:Ag (.fn f p q)=[.fn f p q]:=rfl
theorem AXa:Ag (.nilFn)=[.nilFn]:=rfl
theorem AW8{t:TypeId}{x:AVal}:Ag (.iface t x)=[.iface t x]:=rfl
theorem AH8:Ag (.nilIface)=[.nilIface]:=rfl
theorem AXo{l:List AVal}:Ag (.tuple l)=[.tuple l]:=rfl
theorem AZQ{w:Nat}{l:List AVal}{o:Bool}:Ag (.slice w l o)=[.slice w l o]:=rfl
theorem AeR{b:Bool}:EY (.bool b)=true:=rfl
theorem Aj0{k:IntKind}{n:Int}:EY (.int k n)=true:=rfl
theorem AkQ{l:B8}:EY (.str l)=true:=rfl
theorem AlR{i o:Nat}:EY (.ptr i o)=true:=rfl
theorem Afe:EY (.nilp)=true:=rfl
theorem Abm{l:List AVal}:EY (.cptr l)=true:=rfl
theorem An4{f:Fn}{p q:List AVal}:EY (.fn f p q)=true:=rfl
theorem AXh:EY (.nilFn)=true:=rfl
theorem Aae{t:TypeId}{x:AVal}:EY (.iface t x)=true:=rfl
theorem AIm:EY (.nilIface)=true:=rfl
theorem AlM{l:List AVal}:EY (.agg l)=true:=rfl
theorem AZi{w:Nat}{l:List AVal}{o:Bool}:EY (.slice w l o)=true:=rfl
theorem AXK{af:List AVal}{v:Value}:stripAt af (.const v)=af:=rfl
theorem AdY{af:List AVal}{v:Nat}:stripAt af (.global v)=af:=rfl
theorem AfV{af:List AVal}{v:FuncId}:stripAt af (.func v)=af:=rfl
end Go.VM
set_option linter.unusedVariables false
namespace Go.VM
abbrev MS:=List (Nat×List AVal)
abbrev PQ:=AVal->St->Prop
structure Gl (P:Prop):Prop where go:P
inductive An where |z |q (a b:An) |c (a b:An) |r (mv:List Tmp)
def KH (F:List AVal->St->Prop) (K:APost):APost:=λe af st=>match e with |.normal=>F af st|e=>K e af st
def AAA (id:Nat) (K:APost):APost:=λe af st=>match e with |.exit id'=>if id'=id then K .normal af st else K (.exit id') af st|e=>K e af st
def nK (K:APost) (af:List AVal) (st:St):Prop:=K .normal af st
def TF (x:AVal) (X Y:List AVal->St->Prop) (af:List AVal) (st:St):Prop:=match x with |.bool b=>if b=true then X af st else Y af st|_=>False
theorem AEj{E:Env}{c:Code}{Q:APost}{af:List AVal}{st:St} (h:AWp E c Q af st):AWp E (.scope c) Q af st:=⟨λF Γ w a hd hs=>wp_scope_straight (fd (h.go F Γ w a hd hs) λe a' w' q=>by cases e<;>first| exact q| exact q.1.elim)⟩
def wpc (E:Env):Code->An->APost->List AVal->St->Prop |.skip,_,K=>λaf st=>K .normal af st|.ret,_,K=>λaf st=>K .ret af st|.exit id,_,K=>λaf st=>K (.exit id) af st|.seq x y,.q a b,K=>wpc E x a (KH (wpc E y b K) K)|.cond c x y,.c a b,K=>λaf st=>TF (rd E af 0 c) (wpc E x a K) (wpc E y b K) af st|.block id c,a,K=>wpc E c a (AAA id K)|.scope c,a,K=>wpc E c a K|.region _ os false,.r mv,K=>Ls E mv os os.toList (nK K)|c,_,K=>AWp E c K
section
variable{E:Env}{K:APost}{af:List AVal}{st:St}{x y:Code}{a b:An}{F:List AVal->St->Prop}
def AcL:wpc E .skip a K af st=K .normal af st:=by rw[wpc]
def Ah3:wpc E .ret a K af st=K .ret af st:=by rw[wpc]
def AcM{id:Nat}:wpc E (.exit id) a K af st=K (.exit id) af st:=by rw[wpc]
def Ak0:wpc E (.seq x y) (.q a b) K af st=wpc E x a (KH (wpc E y b K) K) af st:=by rw[wpc]
def Ab4{c:Operand}:wpc E (.cond c x y) (.c a b) K af st=TF (rd E af 0 c) (wpc E x a K) (wpc E y b K) af st:=by rw[wpc]
def AWW{id:Nat}:wpc E (.block id x) a K af st=wpc E x a (AAA id K) af st:=by rw[wpc]
def AYk:wpc E (.scope x) a K af st=wpc E x a K af st:=by rw[wpc]
def ASV{id:Nat}{os:List Oper}{mv:List Tmp}:wpc E (.region id (List.toArray os) false) (.r mv) K af st=Ls E mv ⟨os⟩ os (nK K) af st:=by rw[wpc]
def App:wpc E (.seq x y) .z K af st=AWp E (.seq x y) K af st:=by rw[wpc]<;>simp
def AbY:wpc E (.loop x) a K af st=AWp E (.loop x) K af st:=by rw[wpc]<;>simp
def AcP{id:Nat}{os:Array Oper}:wpc E (.region id os true) a K af st=AWp E (.region id os true) K af st:=by rw[wpc]<;>simp
theorem Aig:KH F K .normal af st=F af st:=rfl
theorem Ai0:KH F K .ret af st=K .ret af st:=rfl
theorem AlV{id:Nat}:KH F K (.exit id) af st=K (.exit id) af st:=rfl
theorem Aol{id:Nat}:AAA id K .normal af st=K .normal af st:=rfl
theorem Amw{id:Nat}:AAA id K .ret af st=K .ret af st:=rfl
def AmT{id:Nat}:AAA id K (.exit id) af st=K .normal af st:=by simp[AAA]
def An1{id id':Nat} (h:id'≠id):AAA id K (.exit id') af st=K (.exit id') af st:=by grind[AAA]
theorem AmY:nK K af st=K .normal af st:=rfl
theorem AU2{X Y:List AVal->St->Prop}:TF (.bool true) X Y af st=X af st:=rfl
theorem AVl{X Y:List AVal->St->Prop}:TF (.bool false) X Y af st=Y af st:=rfl
def PY: ∀ {c:Code} (a:An){K:APost}{af:List AVal}{st:St},wpc E c a K af st->AWp E c K af st:=by
 intro c;induction c with
 |skip=>intro a K af st h;rw[wpc]at h;exact AMA h
 |ret=>intro a K af st h;rw[wpc]at h;exact AVP h
 |exit id=>intro a K af st h;rw[wpc]at h;exact AP7 h
 | seq x y ihx ihy=>
  intro a K af st h;cases a with
  | q a b=>rw[wpc]at h;refine UV ((ihx a h).mono λe af' st' _ q=>?_);cases e with |normal=>exact ihy b q|_=>exact q
  |_=>(rw[wpc]at h;exact h)<;>(intros;simp_all)
 | cond c x y ihx ihy=>
  intro a K af st h;cases a with
  | c a b=>
   rw[wpc]at h;unfold TF at h;split at h;·rename_i b' hb;refine AN7 b' hb ?_;cases b' with |true=>simp only[av]at h⊢;grind|false=>simp only[al,au]at h⊢;grind
   grind
  |_=>(rw[wpc]at h;exact h)<;>(intros;simp_all)
 | block id c ih=>intro a K af st h;rw[wpc]at h;exact AEy ((ih a h).mono λe af' st' _ q=>by cases e<;>exact q)
 | region id os d=>intro a K af st h;cases d with |true=>(rw[wpc]at h;exact h)<;>(intros;simp_all)| false=>cases a with |r mv=>rw[wpc]at h;exact Ve mv h|_=>(rw[wpc]at h;exact h)<;>(intros;simp_all)
 |loop c ih=>intro a K af st h;(rw[wpc]at h;exact h)<;>(intros;simp_all)
 |rangeFunc f ps x y ihx ihy=>intro a K af st h;(rw[wpc]at h;exact h)<;>(intros;simp_all)
 |scope c ih=>intro a K af st h;rw[wpc]at h;grind[AEj]
 |label l=>intro a K af st h;(rw[wpc]at h;exact h)<;>(intros;simp_all)
 |goto l=>intro a K af st h;(rw[wpc]at h;exact h)<;>(intros;simp_all)
 |refuse w=>intro a K af st h;(rw[wpc]at h;exact h)<;>(intros;simp_all)
end
def gK (g:Option Bool) (X Y:Prop):Prop:=match g with|some true=>X|some false=>Y|none=>False
theorem Aq2{X Y:Prop}:gK (some true) X Y=X:=rfl
theorem Aql{X Y:Prop}:gK (some false) X Y=Y:=rfl
def nxK (b:Bool) (X Y:Prop):Prop:=if b=true then X else Y
def AqD{X Y:Prop}:nxK true X Y=X:=by simp[nxK]
def Apq{X Y:Prop}:nxK false X Y=Y:=by simp[nxK]
section
variable{E:Env}{mv:List Tmp}{ops:Array Oper}{K:List AVal->St->Prop}{af:List AVal}{st:St}{d:Option Tmp}{ty:TypeId}{pos:String}{aft:Array Edge}{g:Option (Nat×Bool)}
def Am5{op:Op}{os' os:List Oper}{j:Nat}{want:Bool}:Ls E mv ⟨os'⟩ (⟨d,op,ty,pos,aft,some (j,want)⟩::os) K af st=gK (gdD (PG os' j) af want) (EA E mv ⟨d,op,ty,pos,aft,some (j,want)⟩ af st (Ls E mv ⟨os'⟩ os K)) (Ls E mv ⟨os'⟩ os K (BL af d (.tuple [])) st):=by grind[Ls,ARg,gK,gdD,PG]
def Aqo{op:Op}{os':List Oper}{j:Nat}{want:Bool}:gWp E mv ⟨os'⟩ ⟨d,op,ty,pos,aft,some (j,want)⟩ af st K=gK (gdD (PG os' j) af want) (EA E mv ⟨d,op,ty,pos,aft,some (j,want)⟩ af st K) (K (BL af d (.tuple [])) st):=by grind[gWp,ARg,gK,gdD,PG]
def AlK{t:Tmp}{s:B8}{p:Nat}:ACb (.iter s p) t d K af st=nxK (decide (p<s.length)) (K (BL (af.set t (.iter s (p+(Dv s p).2))) d (.tuple [.bool true,.int .i64 p,.int .i32 (Dv s p).1])) st) (K (BL af d (.tuple [.bool false])) st):=by rw[AUG];rfl
end
section cong
@[congr] theorem ApO {E : Env} {mv : List Tmp} {ops : Array Oper} {os : List Oper} {K : List AVal -> St -> Prop} {af : List AVal} {st : St} {af' : List AVal} {st' : St} (h0 : af = af') (h1 : st = st') : Ls E mv ops os K af st = Ls E mv ops os K af' st' := by grind
@[congr] theorem AqL {E : Env} {mv : List Tmp} {o : Oper} {af : List AVal} {st : St} {K : List AVal -> St -> Prop} {af' : List AVal} {st' : St} (h0 : af = af') (h1 : st = st') : EA E mv o af st K = EA E mv o af' st' K := by grind
@[congr] theorem AqJ {x : Option AVal} {d : Option Tmp} {K : List AVal -> St -> Prop} {af : List AVal} {st : St} {x' : Option AVal} {af' : List AVal} {st' : St} (h0 : x = x') (h1 : af = af') (h2 : st = st') : QS x d K af st = QS x' d K af' st' := by grind
@[congr] theorem AqB {x : Option AVal} {d : Option Tmp} {K : List AVal -> St -> Prop} {af : List AVal} {st : St} {x' : Option AVal} {af' : List AVal} {st' : St} (h0 : x = x') (h1 : af = af') (h2 : st = st') : MP x d K af st = MP x' d K af' st' := by grind
@[congr] theorem Ap1 {z : Option (AVal × St)} {d : Option Tmp} {K : List AVal -> St -> Prop} {af : List AVal} {z' : Option (AVal × St)} {af' : List AVal} (h0 : z = z') (h1 : af = af') : SX z d K af = SX z' d K af' := by grind
@[congr] theorem AqF {b : Bool} {v : AVal} {d : Option Tmp} {K : List AVal -> St -> Prop} {af : List AVal} {st : St} {b' : Bool} {v' : AVal} {af' : List AVal} {st' : St} (h0 : b = b') (h1 : v = v') (h2 : af = af') (h3 : st = st') : AWb b v d K af st = AWb b' v' d K af' st' := by grind
@[congr] theorem Aos {x : Option (List AVal)} {d : Option Tmp} {K : List AVal -> St -> Prop} {af : List AVal} {st : St} {x' : Option (List AVal)} {af' : List AVal} {st' : St} (h0 : x = x') (h1 : af = af') (h2 : st = st') : AB1 x d K af st = AB1 x' d K af' st' := by grind
@[congr] theorem Aou {s : Option St} {K : List AVal -> St -> Prop} {af : List AVal} {s' : Option St} {af' : List AVal} (h0 : s = s') (h1 : af = af') : R9 s K af = R9 s' K af' := by grind
@[congr] theorem Aor {E : Env} {t : TypeId} {v : AVal} {lo : Option (Option Int)} {hi : Option (Option Int)} {mx : Option (Option Int)} {d : Option Tmp} {K : List AVal -> St -> Prop} {af : List AVal} {st : St} {v' : AVal} {lo' : Option (Option Int)} {hi' : Option (Option Int)} {mx' : Option (Option Int)} {af' : List AVal} {st' : St} (h0 : v = v') (h1 : lo = lo') (h2 : hi = hi') (h3 : mx = mx') (h4 : af = af') (h5 : st = st') : AA3 E t v lo hi mx d K af st = AA3 E t v' lo' hi' mx' d K af' st' := by grind
@[congr] theorem Aot {b : Bool} {v : AVal} {d : Option Tmp} {K : List AVal -> St -> Prop} {af : List AVal} {st : St} {b' : Bool} {v' : AVal} {af' : List AVal} {st' : St} (h0 : b = b') (h1 : v = v') (h2 : af = af') (h3 : st = st') : AAj b v d K af st = AAj b' v' d K af' st' := by grind
@[congr] theorem ApP {v : AVal} {tm : Tmp} {d : Option Tmp} {K : List AVal -> St -> Prop} {af : List AVal} {st : St} {v' : AVal} {af' : List AVal} {st' : St} (h0 : v = v') (h1 : af = af') (h2 : st = st') : ACb v tm d K af st = ACb v' tm d K af' st' := by grind
@[congr] theorem Apw {E : Env} {v : AVal} {l : List AVal} {d : Option Tmp} {K : List AVal -> St -> Prop} {af : List AVal} {st : St} {v' : AVal} {l' : List AVal} {af' : List AVal} {st' : St} (h0 : v = v') (h1 : l = l') (h2 : af = af') (h3 : st = st') : AQl E v l d K af st = AQl E v' l' d K af' st' := by grind
@[congr] theorem Aqw {b : Bool} {u : Operand} {t : TypeId} {E : Env} {d : Option Tmp} {K : List AVal -> St -> Prop} {af : List AVal} {st : St} {b' : Bool} {af' : List AVal} {st' : St} (h0 : b = b') (h1 : af = af') (h2 : st = st') : mvK b u t E d K af st = mvK b' u t E d K af' st' := by grind
@[congr] theorem Aq0 {b : Bool} {t : TypeId} {v : AVal} {E : Env} {d : Option Tmp} {K : List AVal -> St -> Prop} {af : List AVal} {st : St} {b' : Bool} {v' : AVal} {af' : List AVal} {st' : St} (h0 : b = b') (h1 : v = v') (h2 : af = af') (h3 : st = st') : ldK b t v E d K af st = ldK b' t v' E d K af' st' := by grind
@[congr] theorem ApZ {F : List AVal -> St -> Prop} {L : APost} {e : Exit} {af : List AVal} {st : St} {e' : Exit} {af' : List AVal} {st' : St} (h0 : e = e') (h1 : af = af') (h2 : st = st') : KH F L e af st = KH F L e' af' st' := by grind
@[congr] theorem AqK {id : Nat} {L : APost} {e : Exit} {af : List AVal} {st : St} {e' : Exit} {af' : List AVal} {st' : St} (h0 : e = e') (h1 : af = af') (h2 : st = st') : AAA id L e af st = AAA id L e' af' st' := by grind
@[congr] theorem ArO {L : APost} {af : List AVal} {st : St} {af' : List AVal} {st' : St} (h0 : af = af') (h1 : st = st') : nK L af st = nK L af' st' := by grind
@[congr] theorem Apf {v : AVal} {F : List AVal -> St -> Prop} {G : List AVal -> St -> Prop} {af : List AVal} {st : St} {v' : AVal} {af' : List AVal} {st' : St} (h0 : v = v') (h1 : af = af') (h2 : st = st') : TF v F G af st = TF v' F G af' st' := by grind
@[congr] theorem Aqq {E : Env} {c : Code} {a : An} {L : APost} {af : List AVal} {st : St} {af' : List AVal} {st' : St} (h0 : af = af') (h1 : st = st') : wpc E c a L af st = wpc E c a L af' st' := by grind
@[congr] theorem Aqu {E : Env} {c : Code} {L : APost} {af : List AVal} {st : St} {af' : List AVal} {st' : St} (h0 : af = af') (h1 : st = st') : AWp E c L af st = AWp E c L af' st' := by grind
@[congr] theorem ApN {E : Env} {f : FuncId} {l : List AVal} {st : St} {Q : AVal -> St -> Prop} {l' : List AVal} {st' : St} (h0 : l = l') (h1 : st = st') : ACall E f l st Q = ACall E f l' st' Q := by grind
@[congr] theorem Aoq {E : Env} {mv : List Tmp} {ops : Array Oper} {p : Plan} {tv : List (Nat × AVal)} {K : List AVal -> St -> Prop} {af : List AVal} {st : St} {tv' : List (Nat × AVal)} {af' : List AVal} {st' : St} (h0 : tv = tv') (h1 : af = af') (h2 : st = st') : IR E mv ops p tv K af st = IR E mv ops p tv' K af' st' := by grind
@[congr] theorem Aqn {E : Env} {mv : List Tmp} {os : List Oper} {x : Option AVal} {i : Nat} {d : Option Tmp} {p : Plan} {tv : List (Nat × AVal)} {K : List AVal -> St -> Prop} {af : List AVal} {st : St} {x' : Option AVal} {tv' : List (Nat × AVal)} {af' : List AVal} {st' : St} (h0 : x = x') (h1 : tv = tv') (h2 : af = af') (h3 : st = st') : tkR E mv os x i d p tv K af st = tkR E mv os x' i d p tv' K af' st' := by grind
@[congr] theorem Aqr {E : Env} {mv : List Tmp} {os : List Oper} {w : Option Oper} {i : Nat} {p : Plan} {tv : List (Nat × AVal)} {K : List AVal -> St -> Prop} {af : List AVal} {st : St} {w' : Option Oper} {tv' : List (Nat × AVal)} {af' : List AVal} {st' : St} (h0 : w = w') (h1 : tv = tv') (h2 : af = af') (h3 : st = st') : tkO E mv os w i p tv K af st = tkO E mv os w' i p tv' K af' st' := by grind
@[congr] theorem AqI {E : Env} {mv : List Tmp} {os : List Oper} {chk : List Nat} {p : Plan} {tv : List (Nat × AVal)} {K : List AVal -> St -> Prop} {af : List AVal} {st : St} {tv' : List (Nat × AVal)} {af' : List AVal} {st' : St} (h0 : tv = tv') (h1 : af = af') (h2 : st = st') : AdC E mv os chk p tv K af st = AdC E mv os chk p tv' K af' st' := by grind
@[congr] theorem AqH {E : Env} {mv : List Tmp} {os : List Oper} {w : Option Oper} {chk : List Nat} {p : Plan} {tv : List (Nat × AVal)} {K : List AVal -> St -> Prop} {af : List AVal} {st : St} {w' : Option Oper} {tv' : List (Nat × AVal)} {af' : List AVal} {st' : St} (h0 : w = w') (h1 : tv = tv') (h2 : af = af') (h3 : st = st') : AjQ E mv os w chk p tv K af st = AjQ E mv os w' chk p tv' K af' st' := by grind
@[congr] theorem AqO {E : Env} {mv : List Tmp} {ops : Array Oper} {o : Oper} {af : List AVal} {st : St} {K : List AVal -> St -> Prop} {af' : List AVal} {st' : St} (h0 : af = af') (h1 : st = st') : gWp E mv ops o af st K = gWp E mv ops o af' st' K := by grind
@[congr] theorem ArP {g : Option Bool} {X : Prop} {Y : Prop} {g' : Option Bool} (h0 : g = g') : gK g X Y = gK g' X Y := by grind
@[congr] theorem AqG {d : Option Tmp} {K : List AVal -> St -> Prop} {af : List AVal} {r : AVal} {sx : St} {af' : List AVal} {r' : AVal} {sx' : St} (h0 : af = af') (h1 : r = r') (h2 : sx = sx') : AZr d K af r sx = AZr d K af' r' sx' := by grind
@[congr] theorem ArI {b : Bool} {X : Prop} {Y : Prop} {b' : Bool} (h0 : b = b') : nxK b X Y = nxK b' X Y := by grind
end cong
section rules
variable{E:Env}{K Q:APost}{af:List AVal}{st:St}{x y c:Code}
def ent{f:FuncId}{fn:Func}{nt:Nat}{rs:List ResultVar}{args:List AVal}{m m':MS}{n:Nat}{r':AVal}{Q:PQ} (hQ: ∀n',n<=n'->Gl (Q r' ⟨m',n'⟩)) (hf:E.P.funcs[f]?=some fn) (hb:fn.body=some c) (hn:fn.ntmps=nt) (hr:fn.results=rs.toArray) (a:An) (h: ∀R:APost,(∀af st xs m0 m1 n',QT E rs af st=some (xs,⟨m1,n'⟩)->m0.Sublist m1->m0=m'->n<=n'->Sb xs=r'->R .ret af st/\R .normal af st)->Gl (wpc E c a R (args++List.replicate (nt-args.length) .any) ⟨m,n⟩)):ACall E f args ⟨m,n⟩ Q:=by
 refine MM hf hb ?_;have hw:=PY a (h (KP E fn Q) ?_).go;·grind
 ·intro af st xs m0 m1 n' h1 h2 h0 h3 h4;subst h0;have e:fn.results.toList=rs:=by rw[hr]
  subst h4;exact⟨Kc (by rw[e];omega) h2 (hQ n' h3).go,Km (by rw[e];omega) h2 (hQ n' h3).go⟩
def Ap4{f:FuncId}{fn:Func}{nt:Nat}{rs:List ResultVar}{args:List AVal}{m m':MS}{n:Nat}{r':AVal}{Q:PQ} (hQ: ∀n',n<=n'->Gl (Q r' ⟨m',n'⟩)) (hf:E.P.funcs[f]?=some fn) (hb:fn.body=some c) (hn:fn.ntmps=nt) (hr:fn.results=rs.toArray) (a:An) (h: ∀R:APost,(∀af st xs m0 m1 n',QT E rs af st=some (xs,⟨m1,n'⟩)->m0.Sublist m1->m0=m'->n<=n'->(Sb xs).strip=r'->R .ret af st/\R .normal af st)->Gl (wpc E c a R (args++List.replicate (nt-args.length) .any) ⟨m,n⟩)):ACall E f args ⟨m,n⟩ Q:=by
 refine ACall.strip (MM hf hb ?_);have hw:=PY a (h (KP E fn λr st'=>Q r.strip st') ?_).go;·grind
 ·intro af st xs m0 m1 n' h1 h2 h0 h3 h4;subst h0;have e:fn.results.toList=rs:=by rw[hr]
  subst h4;exact⟨Kc (by rw[e];omega) h2 (hQ n' h3).go,Km (by rw[e];omega) h2 (hQ n' h3).go⟩
def PV{id:Nat}{os:List Oper} (mv:List Tmp) (plan:Plan) (hm:E.P.follows .mixedOrders=true) (hok:J2 (List.toArray os) plan false (Array.replicate (List.toArray os).size false) []=true) (h:Gl (IR E mv ⟨os⟩ plan [] (nK Q) af st)):AWp E (.region id (List.toArray os) true) Q af st:=SS mv plan hm hok h.go
def Qq{α β γ:Type}{k0:α->Option β}{body:(α->Option β)->Option β}{r:β}{m:MS}{n:Nat}{T:Prop}{d:JD α} (h:T/\AB k0 body d=some r) (js cs:List Tmp) (V:α->γ->List AVal) (M:α->γ->MS) (a:An) (rest: ∀j g n',n<=n'->keysLt n' (M j g)->((M j g).map (·.1)).Nodup->T/\k0 j=some r->AWp E y Q (setVals (Aj js af) cs (V j g)) ⟨M j g,n'⟩) (first: ∀(k:α->Option β) (J:List AVal->St->Prop),(∀j g af' m0 m1 n',k j=some r->m0.Sublist m1->m0=M j g->Aj cs (Aj js af')=Aj cs (Aj js af)->C9 (Aj js af') cs=V j g->n<=n'->J af' ⟨m1,n'⟩)->T/\body k=some r->Gl (wpc E x a (KH J Q) af ⟨m,n⟩)):AWp E (.seq x y) Q af ⟨m,n⟩:=by
 refine UV ?_;have key:=PY a (first k0 (λaf' st'=>AWp E y Q af' ⟨st'.m,st'.next⟩) ?_ h).go;·exact key.mono λe af' st' _ q=>by cases e<;>exact q
 ·intro j g af' m0 m1 n' h1 h2 h3 h4 h5 h6;subst h3;refine Su js (AXi (m:=M j g) h2 ?_);grind[AWp.known,AWp.nodup,LX]
def ANT{σ β γ:Type}{r:β}{m:MS}{n:Nat}{T:Prop} (G:Nat->σ->Option β) (V:σ->γ->List AVal) (M:σ->γ->MS) (js cs:List Tmp) (s0:σ) (g0:γ){k0:Nat} (h:T/\G k0 s0=some r) (hz: ∀s,G 0 s=none) (hm:m=M s0 g0) (hv:C9 (Aj js af) cs=V s0 g0) (round: ∀k s g n',n<=n'->keysLt n' (M s g)->T/\G (k+1) s=some r->∀J:List AVal->St->Prop,(∀s' g' af' m0 m1 n'',G k s'=some r->m0.Sublist m1->m0=M s' g'->Aj cs (Aj js af')=Aj cs (Aj js af)->C9 (Aj js af') cs=V s' g'->n'<=n''->J af' ⟨m1,n''⟩)->AWp E c (KH J Q) (setVals (Aj js af) cs (V s g)) ⟨M s g,n'⟩):AWp E (.loop c) Q af ⟨m,n⟩:=by
 refine ABu js cs (λk vs st'=>∃s g,vs=V s g/\st'.m=M s g/\n<=st'.next/\G k s=some r) k0 ⟨s0,g0,hv,hm,aw _,h.2⟩ ?_;rintro k vs ⟨m',n'⟩ ⟨s,g,rfl,hm',hn,hG⟩ J hJ;simp only at hm' hn;subst hm';cases k with
 |zero=>grind
 | succ k=>
  refine AWp.known λ_ hk=>?_;refine(round k s g n' hn hk ⟨h.1,hG⟩ J ?_).mono λe af' st' _ q=>by cases e<;>first| exact Nc q| exact .oth fA q
  intro s' g' af' m0 m1 n'' h1 h2 h3 h4 h5 h6;exact hJ k af' ⟨m1,n''⟩ m0 (eS _) h2 h4 ⟨s',g',h5,h3,bI hn h6,h1⟩
def AX3{α:Type}{L pre suf:List α}{x:α} (h:L=pre++x::suf) (hL:AL L.length):decide ((pre.length:Int)<(L.length:Int))=true/\idx L (pre.length:Int)=some x/\wr .i64 ((pre.length:Int)+1)=(pre.length:Int)+1:=by subst h;unfold AL at hL;simp only[an,ag]at hL;refine⟨by simp only[aq,an,ag];omega,by simp[idx],?_⟩;grind[wr,IntKind.wrap,IntKind.bits,IntKind.signed]
def Adx{σ β γ:Type}{r:β}{m:MS}{n:Nat}{T:Prop} (i0 b:Int) (hL: -4611686018427387904<=i0/\b<=4611686018427387904) (G:Nat->Int->σ->Option β) (V:Int->σ->γ->List AVal) (M:Int->σ->γ->MS) (js cs:List Tmp) (s0:σ) (g0:γ) (h:T/\G (b-i0).toNat i0 s0=some r) (hm:m=M i0 s0 g0) (hv:C9 (Aj js af) cs=V i0 s0 g0) (rnil: ∀i s g n',n<=n'->keysLt n' (M i s g)->(decide (i<b)=false/\T)/\G 0 i s=some r->AWp E c (KH (λ_ _=>False) Q) (setVals (Aj js af) cs (V i s g)) ⟨M i s g,n'⟩) (rcons: ∀k i s g n',n<=n'->keysLt n' (M i s g)->(decide (i<b)=true/\wr .i64 (i+1)=i+1/\T)/\G (k+1) i s=some r->∀J:List AVal->St->Prop,(∀s' g' af' m0 m1 n'',G k (i+1) s'=some r->m0.Sublist m1->m0=M (i+1) s' g'->Aj cs (Aj js af')=Aj cs (Aj js af)->C9 (Aj js af') cs=V (i+1) s' g'->n'<=n''->J af' ⟨m1,n''⟩)->AWp E c (KH J Q) (setVals (Aj js af) cs (V i s g)) ⟨M i s g,n'⟩):AWp E (.loop c) Q af ⟨m,n⟩:=by
 refine ABu js cs (λk vs st'=>∃i s g,i0<=i/\k=(b-i).toNat/\vs=V i s g/\st'.m=M i s g/\n<=st'.next/\G k i s=some r) (b-i0).toNat ⟨i0,s0,g0,br _,rfl,hv,hm,aw _,h.2⟩ ?_;rintro k vs ⟨m',n'⟩ ⟨i,s,g,hi,hk',rfl,hm',hn,hG⟩ J hJ;simp only at hm' hn;subst hm';cases k with
 | zero=>refine AWp.known λ_ hk=>?_;refine(rnil _ s g n' hn hk ⟨⟨by grind,h.1⟩,hG⟩).mono λe af' st' _ q=>by cases e<;>first| exact q.elim| exact .oth fA q
 | succ k=>
  refine AWp.known λ_ hk=>?_;have hw:wr .i64 (i+1)=i+1:=by grind[wr,IntKind.wrap,IntKind.bits,IntKind.signed]
  refine(rcons k i s g n' hn hk ⟨⟨by simp only[aq];omega,hw,h.1⟩,hG⟩ J ?_).mono λe af' st' _ q=>by cases e<;>first| exact Nc q| exact .oth fA q
  intro s' g' af' m0 m1 n'' h1 h2 h3 h4 h5 h6;exact hJ k af' ⟨m1,n''⟩ m0 fA h2 h4 ⟨i+1,s',g',fy,fy,h5,h3,bI hn h6,h1⟩
def ET (a:An) (h:Gl (wpc E c a K af st)):AWp E c K af st:=PY a h.go
end rules
def ATd{A B:Prop} (a:Gl A) (b:Gl B):Gl (A/\B):=⟨a.go,b.go⟩
def Jq{α:Type}{c:Bool}{x y:Option α}{r:α}{T:Prop} (h:T/\(if c=true then x else y)=some r):((c=true/\T)/\x=some r)\/((c=false/\T)/\y=some r):=by
 cases c;·exact .inr ⟨⟨rfl,h.1⟩,h.2⟩
 ·exact .inl ⟨⟨rfl,h.1⟩,h.2⟩
def Fg{α β:Type}{x:Option α}{f:α->Option β}{r:β}{T:Prop} (h:T/\Option.bind x f=some r): ∃y,(x=some y/\T)/\f y=some r:=by obtain⟨y,h1,h2⟩:=bind_some h.2;grind
def LV{α:Type}{c:Prop} [Decidable c]{x:Option α}{r:α}{T:Prop} (h:T/\grd c x=some r):c/\T/\x=some r:=by grind[ACl]
def I5{A B C:Prop} (a:A) (h:B/\C):(A/\B)/\C:=⟨⟨a,h.1⟩,h.2⟩
end Go.VM
set_option linter.unusedVariables false
set_option linter.defProp false
set_option maxRecDepth 100000
namespace Go.VM
section
variable{E:Env}{af:List AVal}{t:TypeId}
theorem Ak3{r:AVal}:Sb [r]=r:=rfl
theorem Ak5:Sb []=.tuple []:=rfl
theorem Ah6{a b:AVal}{l:List AVal}:Sb (a::b::l)=.tuple (a::b::l):=rfl
theorem Ac0:Aj [] af=af:=rfl
theorem AaJ{j:Tmp}{js:List Tmp}:Aj (j::js) af=Aj js (af.set j .any):=rfl
def Amd{vs:List AVal}:setVals af [] vs=af:=by cases vs<;>rfl
theorem Ak1{c:Tmp}{cs:List Tmp}{v:AVal}{vs:List AVal}:setVals af (c::cs) (v::vs)=setVals (af.set c v) cs vs:=rfl
theorem Aoi:C9 af []=[]:=rfl
theorem AiY{c:Tmp}{cs:List Tmp}:C9 af (c::cs)=af.getD c .any::C9 af cs:=rfl
theorem Aco{r:AVal}:BL af none r=af:=rfl
theorem AeF{d:Tmp}{r:AVal}:BL af (some d) r=af.set d r:=rfl
theorem AjW{i:Tmp}:stripAt af (.tmp i)=af.set i (af.getD i .any).strip:=rfl
def AkE{l:List AVal}:AVal.strip (.agg l)=.agg (stripL l):=by rw[AVal.strip]
def AWL{l:List AVal}:AVal.strip (.tuple l)=.tuple (stripL l):=by rw[AVal.strip]
def AYu{w:Nat}{l:List AVal}{o:Bool}:AVal.strip (.slice w l o)=.slice w l false:=by rw[AVal.strip]
def AeQ{s:B8}{p:Nat}:AVal.strip (.iter s p)=.any:=by rw[AVal.strip]
def AcA:stripL []=[]:=by rw[stripL]
def AnO{x:AVal}{bs:List Bool}{xs:List AVal}:stripB (true::bs) (x::xs)=x.strip::stripB bs xs:=by rw[stripB]
def Amu{x:AVal}{bs:List Bool}{xs:List AVal}:stripB (false::bs) (x::xs)=x::stripB bs xs:=by rw[stripB]
def AoQ{xs:List AVal}:stripB [] xs=xs:=by rw[stripB]
def AYb{x:AVal}{l:List AVal}:stripL (x::l)=x.strip::stripL l:=by rw[stripL]
theorem Anc{i:Tmp}:rd E af t (.tmp i)=af.getD i .any:=rfl
theorem Aeh{v:Value}:rd E af t (.const v)=KT (Lu E.P t) v:=rfl
theorem Ah8{g:FuncId}:rd E af t (.func g)=.fn (.func g) [] []:=rfl
end
def vmC:=ac (ac (ac (ac (ac (ac (ac (ac (ac (@AYM) (@ASa)) (ac (@ATt) (@Aal))) (ac (ac (@APJ) (@AMX)) (ac (@AKp) (@AKO)))) (ac (ac (ac (@AN9) (@AcD)) (ac (@Ab6) (@AdM))) (ac (ac (@AfM) (@AYx)) (ac (@Adh) (ac (@AZm) (@AjV)))))) (ac (ac (ac (ac (@AXn) (@Abq)) (ac (@AnK) (@AgL))) (ac (ac (@ADe) (@AlN)) (ac (@AeC) (@ATi)))) (ac (ac (ac (@Abj) (@AaS)) (ac (@Adb) (@ATm))) (ac (ac (@AjY) (@AkD)) (ac (@ASQ) (ac (@Aje) (@AQA))))))) (ac (ac (ac (ac (ac (@Ad8) (@AkJ)) (ac (@ATk) (@AMY))) (ac (ac (@AHz) (@Abe)) (ac (@ALV) (@Aew)))) (ac (ac (ac (@Amj) (@AoV)) (ac (@Aog) (@Ajz))) (ac (ac (@Ad7) (@AXu)) (ac (@Ajb) (ac (@AML) (@Ak9)))))) (ac (ac (ac (ac (@AiA) (@AP8)) (ac (@AcR) (@ADE))) (ac (ac (@Ajh) (@AL9)) (ac (@Af1) (@Aix)))) (ac (ac (ac (@ARZ) (@AMd)) (ac (@AFO) (@AeE))) (ac (ac (@AKL) (@Acr)) (ac (@Ani) (ac (@AmL) (@Am8)))))))) (ac (ac (ac (ac (ac (ac (@AoR) (@AfZ)) (ac (@Ad2) (@AaG))) (ac (ac (@AbV) (@AZh)) (ac (@AXe) (@Aaf)))) (ac (ac (ac (@Ag4) (@AiG)) (ac (@Afm) (@AXI))) (ac (ac (@Aov) (@ApR)) (ac (@Apm) (ac (@Ao7) (@Abk)))))) (ac (ac (ac (ac (@Aeu) (@AkK)) (ac (@AiV) (@Afp))) (ac (ac (@AWJ) (@Aom)) (ac (@AYj) (@AmR)))) (ac (ac (ac (@AWZ) (@AdA)) (ac (@AZO) (@AaI))) (ac (ac (@Adg) (@AWy)) (ac (@ARh) (ac (@Ab9) (@ALm))))))) (ac (ac (ac (ac (ac (@Xd) (@AUp)) (ac (@AUy) (@Ue))) (ac (ac (@AmS) (@Aml)) (ac (@AmX) (@Anx)))) (ac (ac (ac (@Am7) (@AoF)) (ac (@ApY) (@Am0))) (ac (ac (@AYL) (@AnH)) (ac (@AmO) (ac (@AnM) (@Amz)))))) (ac (ac (ac (ac (@AoO) (@AmI)) (ac (@AoE) (@AnB))) (ac (ac (@Aiu) (@AkB)) (ac (@Ain) (@Ah4)))) (ac (ac (ac (@Aki) (@AlI)) (ac (@AiX) (@Ajr))) (ac (ac (@AjM) (@Am4)) (ac (@AXt) (ac (@AWD) (@An9))))))))) (ac (ac (ac (ac (ac (ac (ac (@AeP) (@AiQ)) (ac (@Aoo) (@Ags))) (ac (ac (@Ago) (@AS4)) (ac (@bytesOf_map) (@R8)))) (ac (ac (ac (@AQ3) (@AM7)) (ac (@Anb) (@AoY))) (ac (ac (@List.append_eq.{0}) (@bZ.{0,0})) (ac (@an.{0}) (ac (@br) (@Int.natCast_nonneg)))))) (ac (ac (ac (ac (@eX.{0}) (@dq.{0})) (ac (@bP) (@eD))) (ac (ac (@bF) (@bL)) (ac (@bh) (@co.{0,0})))) (ac (ac (ac (@Nat.left_eq_add) (@fe)) (ac (@Nat.one_ne_zero) (@Nat.succ_ne_self))) (ac (ac (@eY) (@dh)) (ac (@ag.{0}) (ac (@ap.{0}) (@eg.{0}))))))) (ac (ac (ac (ac (ac (@List.replicate_zero.{0}) (@ba.{0})) (ac (@bc.{0}) (@bm.{0}))) (ac (ac (@dD.{0}) (@cS.{0})) (ac (@cj.{0}) (@cC.{0})))) (ac (ac (ac (@aQ.{0,0}) (@bS.{0,0})) (ac (@aa.{0,0}) (@Option.bind_none.{0,0}))) (ac (ac (@dn.{0}) (@bb.{0})) (ac (@List.elem_nil.{0}) (ac (@List.elem_cons.{0}) (@av.{1})))))) (ac (ac (ac (ac (@au.{1}) (@al)) (ac (@dM) (@aY.{0}))) (ac (ac (@dC.{0}) (@cc.{0})) (ac (@bU) (@b9)))) (ac (ac (ac (@cm.{0}) (@eZ.{0})) (ac (@eT.{0}) (@Bool.or_true))) (ac (ac (@dc) (@cA)) (ac (@be) (ac (@de.{0}) (@Option.isNone_some.{0})))))))) (ac (ac (ac (ac (ac (ac (@dQ.{0}) (@cD.{0})) (ac (@bg) (@aT))) (ac (ac (@d8) (@cM)) (ac (@cT) (@aw)))) (ac (ac (ac (@dk.{0}) (@eU.{0})) (ac (@cB.{0}) (@ite_self.{1}))) (ac (ac (@aE.{0,0}) (@bM.{0,0})) (ac (@List.range_succ) (ac (@List.range_zero) (@aI.{0})))))) (ac (ac (ac (ac (@fc.{0}) (@d6)) (ac (@di) (@aj.{0}))) (ac (ac (@a7) (@true_or)) (ac (@or_true) (@false_or)))) (ac (ac (ac (@eC) (@cO)) (ac (@not_false_eq_true) (@dU.{1}))) (ac (ac (@rdL.eq_1) (@rdL.eq_2)) (ac (@rdL.eq_3) (ac (@rdo.eq_1) (@rdo.eq_2))))))) (ac (ac (ac (ac (ac (@Bb.eq_1) (@Bb.eq_2)) (ac (@QQ.eq_1) (@QQ.eq_2))) (ac (ac (@PG.eq_1) (@PG.eq_2)) (ac (@PG.eq_3) (@opAt.eq_1)))) (ac (ac (ac (@opAt.eq_2) (@opAt.eq_3)) (ac (@Xo.eq_1) (@Xo.eq_2))) (ac (ac (@Ag.eq_1) (@EY.eq_1)) (ac (@EY.eq_2) (ac (@EY.eq_3) (@putCells.eq_1)))))) (ac (ac (ac (ac (@putCells.eq_2) (@ZM.eq_1)) (ac (@RY.eq_1) (@Q4.eq_1))) (ac (ac (@Q4.eq_2) (@UX.eq_1)) (ac (@UX.eq_2) (ac (@UX.eq_3) (@OL.eq_1))))) (ac (ac (ac (@Vb.eq_1) (@Vb.eq_2)) (ac (@NE.eq_1) (@NE.eq_2))) (ac (ac (@NE.eq_3) (@NE.eq_4)) (ac (@KT.eq_1) (ac (@KT.eq_2) (@KT.eq_3)))))))))) (ac (ac (ac (ac (ac (ac (ac (ac (@KT.eq_4) (@KT.eq_5)) (ac (@KT.eq_6) (@KT.eq_7))) (ac (ac (@KT.eq_8) (@Tp.eq_1)) (ac (@ZK.eq_1) (@ZK.eq_2)))) (ac (ac (ac (@Ib.eq_1) (@Sk.eq_1)) (ac (@Sk.eq_2) (@AZv.eq_1))) (ac (ac (@AZv.eq_2) (@AXf.eq_1)) (ac (@AXf.eq_2) (ac (@Dl.eq_1) (@QT.eq_1)))))) (ac (ac (ac (ac (@QT.eq_2) (@QT.eq_3)) (ac (@XY.eq_1) (@XY.eq_2))) (ac (ac (@AjI) (@Acy)) (ac (@Ah1) (@Ajv)))) (ac (ac (ac (@Aku) (@Abb)) (ac (@Abp) (@Anr))) (ac (ac (@AXa) (@AW8)) (ac (@AH8) (ac (@AXo) (@AZQ))))))) (ac (ac (ac (ac (ac (@AeR) (@Aj0)) (ac (@AkQ) (@AlR))) (ac (ac (@Afe) (@Abm)) (ac (@An4) (@AXh)))) (ac (ac (ac (@Aae) (@AIm)) (ac (@AlM) (@AZi))) (ac (ac (@Am5) (@Aqo)) (ac (@AlK) (ac (@Aq2) (@Aql)))))) (ac (ac (ac (ac (@AqD) (@Apq)) (ac (@AcL) (@Ah3))) (ac (ac (@AcM) (@Ak0)) (ac (@Ab4) (@AWW)))) (ac (ac (ac (@AYk) (@ASV)) (ac (@App) (@AbY))) (ac (ac (@AcP) (@Aig)) (ac (@Ai0) (ac (@AlV) (@Aol)))))))) (ac (ac (ac (ac (ac (ac (@Amw) (@AmT)) (ac (@An1) (@AmY))) (ac (ac (@AU2) (@AVl)) (ac (@Ak3) (@Ak5)))) (ac (ac (ac (@Ah6) (@Ac0)) (ac (@AaJ) (@Amd))) (ac (ac (@Ak1) (@Aoi)) (ac (@AiY) (ac (@Aco) (@AeF)))))) (ac (ac (ac (ac (@AjW) (@AXK)) (ac (@AdY) (@AfV))) (ac (ac (@AkN) (@AdF)) (ac (@AkW) (@AiW)))) (ac (ac (ac (@Ajf) (@Ace)) (ac (@Acl) (@Anw))) (ac (ac (@AYT) (@AaO)) (ac (@AJN) (ac (@AkE) (@AWL))))))) (ac (ac (ac (ac (ac (@AYu) (@AeQ)) (ac (@AcA) (@AYb))) (ac (ac (@AnO) (@Amu)) (ac (@AoQ) (@Anc)))) (ac (ac (ac (@Aeh) (@Ah8)) (ac (@AiB) (@AlF))) (ac (ac (@AWe) (@AWS)) (ac (@AWI) (ac (@AHM) (@Afl)))))) (ac (ac (ac (ac (@AkU) (@AnA)) (ac (@AnC) (@AmJ))) (ac (ac (@An6) (@AoC)) (ac (@Ana) (ac (@AmZ) (@Anl))))) (ac (ac (ac (@AoK) (@Agj)) (ac (@Aep) (@AnI))) (ac (ac (@AfQ) (@Am6)) (ac (@AcY) (ac (@AjO) (@AmQ))))))))) (ac (ac (ac (ac (ac (ac (ac (@Adq) (@Ans)) (ac (@AeS) (@Aqy))) (ac (ac (@Amq) (@Amy)) (ac (@Afh) (@AoX)))) (ac (ac (ac (@AmH) (@Aon)) (ac (@An8) (@AnV))) (ac (ac (@AoS) (@AjA)) (ac (@Ako) (ac (@AoB) (@AkF)))))) (ac (ac (ac (ac (@AiU) (@Am2)) (ac (@Abi) (@AiT))) (ac (ac (@AYB) (@AlO)) (ac (@Aem) (@AiR)))) (ac (ac (ac (@AXQ) (@AiM)) (ac (@Aj2) (@AV7))) (ac (ac (@AjH) (@Xw)) (ac (@AZB) (ac (@AXM) (@AY1))))))) (ac (ac (ac (ac (ac (@AXr) (@AdT)) (ac (@Acd) (@AZ8))) (ac (ac (@ACG) (@AV6)) (ac (@AXd) (@AkY)))) (ac (ac (ac (@Aks) (@AXN)) (ac (@AeW) (@ASw))) (ac (ac (@Yc) (@Wo)) (ac (@AXU) (ac (@Al0) (@AmF)))))) (ac (ac (ac (ac (@Amh) (@AUl)) (ac (@Yq.eq_1) (@Aiv))) (ac (ac (@Agy) (@AkM)) (ac (@AkH) (@Ais)))) (ac (ac (ac (@AX7) (@AYf)) (ac (@Aio) (@Agh))) (ac (ac (@AfI) (@AnQ)) (ac (@AXy) (ac (@AXA) (@AFs)))))))) (ac (ac (ac (ac (ac (ac (@Aiq) (@AYg)) (ac (@Ai2) (@AfB))) (ac (ac (@AV8) (@AS6)) (ac (@Ael) (@Afi)))) (ac (ac (ac (@Adc) (@Ade)) (ac (@Ac2) (@Am9))) (ac (ac (@AkP) (@AnN)) (ac (@Abt) (ac (@Af4) (@Ah9)))))) (ac (ac (ac (ac (@Aka) (@AhC)) (ac (@AeU) (@Ag5))) (ac (ac (@Afu) (@Abf)) (ac (@Afz) (@Ab1)))) (ac (ac (ac (@AfE) (@Ao1)) (ac (@Agq) (@Acs))) (ac (ac (@Aij) (@ApH)) (ac (@AdS) (ac (@An7) (@Apk))))))) (ac (ac (ac (ac (ac (@Apc) (@Ane)) (ac (@AnJ) (@Apb))) (ac (ac (@Aoz) (@AgI)) (ac (@Amk) (@AnE)))) (ac (ac (ac (@AnR) (@AmK)) (ac (@Anp) (@Amm))) (ac (ac (@Aok) (@Aie)) (ac (@ArG) (ac (@Aj5) (@Ake)))))) (ac (ac (ac (ac (@Apy) (@AqE)) (ac (@AgM) (@Ajj))) (ac (ac (@Ams) (@Acv)) (ac (@Ae3) (ac (@AXS) (@Ab7))))) (ac (ac (ac (@AgH) (@AjX)) (ac (@Akz) (@Agb))) (ac (ac (@c8.{0}) (@List.getElem?_map.{0,0})) (ac (@ci.{0}) (ac (@fq) (@dj.{0}))))))))))
def liE:=ac (ac (ac (ac (ac (ac (@List.append_eq.{0}) (@bZ.{0,0})) (ac (@an.{0}) (ac (@br) (@Int.natCast_nonneg)))) (ac (ac (@eX.{0}) (@dq.{0})) (ac (@bP) (ac (@eD) (@bF))))) (ac (ac (ac (@bL) (@bh)) (ac (@co.{0,0}) (ac (@Nat.left_eq_add) (@fe)))) (ac (ac (@Nat.one_ne_zero) (ac (@Nat.succ_ne_self) (@eY))) (ac (@dh) (ac (@ag.{0}) (@ap.{0})))))) (ac (ac (ac (ac (@eg.{0}) (@List.replicate_zero.{0})) (ac (@ba.{0}) (ac (@bc.{0}) (@bm.{0})))) (ac (ac (@dD.{0}) (@cS.{0})) (ac (@cj.{0}) (ac (@cC.{0}) (@aQ.{0,0}))))) (ac (ac (ac (@bS.{0,0}) (@aa.{0,0})) (ac (@Option.bind_none.{0,0}) (ac (@dn.{0}) (@bb.{0})))) (ac (ac (@List.elem_nil.{0}) (ac (@List.elem_cons.{0}) (@av.{1}))) (ac (@au.{1}) (ac (@al) (@dM))))))) (ac (ac (ac (ac (ac (@aY.{0}) (@dC.{0})) (ac (@cc.{0}) (ac (@bU) (@b9)))) (ac (ac (@cm.{0}) (@eZ.{0})) (ac (@eT.{0}) (ac (@Bool.or_true) (@dc))))) (ac (ac (ac (@cA) (@be)) (ac (@de.{0}) (ac (@Option.isNone_some.{0}) (@dQ.{0})))) (ac (ac (@cD.{0}) (ac (@bg) (@aT))) (ac (@d8) (ac (@cM) (@cT)))))) (ac (ac (ac (ac (@aw) (@dk.{0})) (ac (@eU.{0}) (ac (@cB.{0}) (@ite_self.{1})))) (ac (ac (@aE.{0,0}) (ac (@bM.{0,0}) (@List.range_succ))) (ac (@List.range_zero) (ac (@aI.{0}) (@fc.{0}))))) (ac (ac (ac (@d6) (@di)) (ac (@aj.{0}) (ac (@a7) (@true_or)))) (ac (ac (@or_true) (ac (@false_or) (@eC))) (ac (@cO) (ac (@not_false_eq_true) (@dU.{1})))))))
end Go.VM
set_option linter.unusedVariables false
set_option linter.unusedSimpArgs false
namespace Go.VM
abbrev DT:=List (Nat×List Tmp×Plan)
def AAp:DT->Nat->List Tmp |[],_=>[]|(i,m,_)::D,j=>if i=j then m else AAp D j
def AlE:DT->Nat->Plan |[],_=>.done|(i,_,p)::D,j=>if i=j then p else AlE D j
inductive DD (D:DT):Prop |mk
def ATw (l:List Tmp) (F:List Tmp->Prop):Prop:=F l
def Yl:Plan->Bool |.stop=>true|_=>false
def AZn:DT->Nat->Bool |[],_=>false|(i,_,p)::D,j=>if i=j then Yl p else AZn D j
def AJm (b:Bool) (X Y:Prop):Prop:=if b=true then X else Y
def wpd (E:Env) (D:DT):Code->APost->List AVal->St->Prop |.skip,K=>λaf st=>K .normal af st|.label _,K=>λaf st=>K .normal af st|.ret,K=>λaf st=>K .ret af st|.exit id,K=>λaf st=>K (.exit id) af st|.seq (.region id os false) y,K=>λaf st=>AJm (AZn D id) (AWp E (.seq (.region id os false) y) K af st) (ATw (AAp D id) λmv=>Ls E mv os os.toList (nK (KH (wpd E D y K) K)) af st)|.cond c x y,K=>λaf st=>TF (rd E af 0 c) (wpd E D x K) (wpd E D y K) af st|.block id c,K=>wpd E D c (AAA id K)|.scope c,K=>wpd E D c K|.region id os false,K=>λaf st=>ATw (AAp D id) λmv=>Ls E mv os os.toList (nK K) af st|c,K=>AWp E c K
section
variable{E:Env}{D:DT}{K:APost}{af:List AVal}{st:St}{x y:Code}{F:List AVal->St->Prop}
def AcK:wpd E D .skip K af st=K .normal af st:=by rw[wpd]
def AXP{l:Nat}:wpd E D (.label l) K af st=K .normal af st:=by rw[wpd]
def Ai1:wpd E D .ret K af st=K .ret af st:=by rw[wpd]
def Agx{id:Nat}:wpd E D (.exit id) K af st=K (.exit id) af st:=by rw[wpd]
def Ab3{id:Nat}{os:List Oper}:wpd E D (.seq (.region id (List.toArray os) false) y) K af st=AJm (AZn D id) (AWp E (.seq (.region id (List.toArray os) false) y) K af st) (ATw (AAp D id) λmv=>Ls E mv ⟨os⟩ os (nK (KH (wpd E D y K) K)) af st):=by rw[wpd]
def AnS{X Y:Prop}:AJm true X Y=X:=by simp[AJm]
def AoD{X Y:Prop}:AJm false X Y=Y:=by simp[AJm]
theorem Adu{j:Nat}:AZn [] j=false:=rfl
theorem Aaa{i j:Nat}{m:List Tmp}{p:Plan}:AZn ((i,m,p)::D) j=if i=j then Yl p else AZn D j:=rfl
theorem Afo:Yl .stop=true:=rfl
theorem Ae8:Yl .done=false:=rfl
theorem Abs{i:Nat}{p:Plan}:Yl (.take i p)=false:=rfl
theorem AlP{i:Nat}{c:List Nat}{p q:Plan}:Yl (.alt i c p q)=false:=rfl
@[congr] theorem AqM {b b' : Bool} {X Y : Prop} (h : b = b') : AJm b X Y = AJm b' X Y := by grind
def Ab0{c:Operand}:wpd E D (.cond c x y) K af st=TF (rd E af 0 c) (wpd E D x K) (wpd E D y K) af st:=by rw[wpd]
def AWU{id:Nat}:wpd E D (.block id x) K af st=wpd E D x (AAA id K) af st:=by rw[wpd]
def AXp:wpd E D (.scope x) K af st=wpd E D x K af st:=by rw[wpd]
def ASu{id:Nat}{os:List Oper}:wpd E D (.region id (List.toArray os) false) K af st=ATw (AAp D id) λmv=>Ls E mv ⟨os⟩ os (nK K) af st:=by rw[wpd]
theorem Abl{l:List Tmp}{F:List Tmp->Prop}:ATw l F=F l:=rfl
def Ae4{id:Nat}{os:Array Oper}:wpd E D (.region id os true) K af st=AWp E (.region id os true) K af st:=by rw[wpd]<;>simp
def Ag6:wpd E D (.loop x) K af st=AWp E (.loop x) K af st:=by rw[wpd]<;>simp
def Ang{a b:Code}:wpd E D (.seq (.seq a b) y) K af st=AWp E (.seq (.seq a b) y) K af st:=by rw[wpd]<;>simp
def AmV{c:Operand}{a b:Code}:wpd E D (.seq (.cond c a b) y) K af st=AWp E (.seq (.cond c a b) y) K af st:=by rw[wpd]<;>simp
def Aop{id:Nat}{a:Code}:wpd E D (.seq (.block id a) y) K af st=AWp E (.seq (.block id a) y) K af st:=by rw[wpd]<;>simp
def Ank{l:Nat}:wpd E D (.seq (.label l) y) K af st=AWp E (.seq (.label l) y) K af st:=by rw[wpd]<;>simp
def An3{a:Code}:wpd E D (.seq (.loop a) y) K af st=AWp E (.seq (.loop a) y) K af st:=by rw[wpd]<;>simp
def Amx{id:Nat}{os:Array Oper}:wpd E D (.seq (.region id os true) y) K af st=AWp E (.seq (.region id os true) y) K af st:=by rw[wpd]<;>simp
def AnY{a:Code}:wpd E D (.seq (.scope a) y) K af st=AWp E (.seq (.scope a) y) K af st:=by rw[wpd]<;>simp
def AmP:wpd E D (.seq .skip y) K af st=AWp E (.seq .skip y) K af st:=by rw[wpd]<;>simp
theorem AOa{j:Nat}:AAp [] j=[]:=rfl
theorem AEs{i j:Nat}{m:List Tmp}{p:Plan}:AAp ((i,m,p)::D) j=if i=j then m else AAp D j:=rfl
theorem AYi{i j:Nat}{m:List Tmp}{p:Plan}:AlE ((i,m,p)::D) j=if i=j then p else AlE D j:=rfl
def Fq: ∀ {c:Code}{K:APost}{af:List AVal}{st:St},wpd E D c K af st->AWp E c K af st:=by
 intro c;induction c with
 |skip=>intro K af st h;rw[wpd]at h;exact AMA h
 |ret=>intro K af st h;rw[wpd]at h;exact AVP h
 |exit id=>intro K af st h;rw[wpd]at h;exact AP7 h
 | seq x y ihx ihy=>
  intro K af st h;cases x with
  | region id os d=>
   cases d with
   |true=>(rw[wpd]at h;exact h)<;>(intros;simp_all)
   | false=>
    rw[wpd]at h;unfold AJm at h;split at h;·exact h
    refine UV ((Ve (AAp D id) h).mono λe af' st' _ q=>?_);cases e with |normal=>exact ihy q|_=>exact q
  |_=>(rw[wpd]at h;exact h)<;>(intros;simp_all)
 | cond c x y ihx ihy=>
  intro K af st h;rw[wpd]at h;unfold TF at h;split at h;·rename_i b hb;refine AN7 b hb ?_;cases b with |true=>simp_all|false=>simp_all
  grind
 | block id c ih=>intro K af st h;rw[wpd]at h;exact AEy ((ih h).mono λe af' st' _ q=>by cases e<;>exact q)
 | region id os d=>intro K af st h;cases d with |true=>(rw[wpd]at h;exact h)<;>(intros;simp_all)|false=>rw[wpd]at h;exact Ve (AAp D id) h
 |loop c ih=>intro K af st h;(rw[wpd]at h;exact h)<;>(intros;simp_all)
 |rangeFunc f ps x y ihx ihy=>intro K af st h;(rw[wpd]at h;exact h)<;>(intros;simp_all)
 |scope c ih=>intro K af st h;rw[wpd]at h;grind[AEj]
 |label l=>intro K af st h;rw[wpd]at h;exact AYh h
 |goto l=>intro K af st h;(rw[wpd]at h;exact h)<;>(intros;simp_all)
 |refuse w=>intro K af st h;(rw[wpd]at h;exact h)<;>(intros;simp_all)
@[congr] theorem Aq9 {c : Code} {L : APost} {af' : List AVal} {st' : St} (h0 : af = af') (h1 : st = st') : wpd E D c L af st = wpd E D c L af' st' := by grind
def rgs:List (Nat×Nat)->List Tmp |[]=>[]|(a,n)::l=>List.range' a n++rgs l
def AS1:Nat->List AVal->List AVal |n+1,_::l=>.any::AS1 n l|_,l=>l
def maskN:Nat->Nat->List AVal->List AVal |0,n,l=>AS1 n l|a+1,n,x::l=>x::maskN a n l|_+1,_,[]=>[]
def DJ:List (Nat×Nat)->List AVal->List AVal |[],af=>af|(a,n)::l,af=>DJ l (maskN a n af)
def AD3: ∀(js ks:List Tmp) (af:List AVal),Aj (js++ks) af=Aj ks (Aj js af) |[],_,_=>rfl|j::js,ks,af=>by rw[ba,Aj,Aj,AD3 js]
def Vy: ∀(js:List Tmp) (x:AVal) (l:List AVal),Aj (js.map (· +1)) (x::l)=x::Aj js l |[],_,_=>rfl|j::js,x,l=>by rw[aE,Aj,cC,Vy js,Aj]
def X4: ∀js:List Tmp,Aj js []=[] |[]=>rfl|j::js=>by rw[Aj,List.set_nil,X4 js]
def ACg: ∀(a n:Nat),List.range' (a+1) n=(List.range' a n).map (· +1) |a,0=>rfl|a,n+1=>by rw[cU,cU,aE,ACg (a+1) n]
def ABZ: ∀(a n:Nat) (l:List AVal),maskN a n l=Aj (List.range' a n) l |0,0,l=>by rw[maskN];cases l<;>rfl|0,n+1,[]=>by rw[X4];rfl| 0,n+1,x::l=>by rw[maskN,AS1,cU,Aj,cj,show List.range' (0+1) n=(List.range' 0 n).map (· +1)from ACg _ _,Vy,<-ABZ 0 n l,maskN]|a+1,n,[]=>by rw[X4];rfl| a+1,n,x::l=>by rw[maskN,show List.range' (a+1) n=(List.range' a n).map (· +1)from ACg _ _,Vy,ABZ a n l]
def EU: ∀(js:List (Nat×Nat)) (af:List AVal),DJ js af=Aj (rgs js) af |[],_=>rfl|(a,n)::js,af=>by rw[DJ,ABZ,EU js,rgs,AD3]
theorem Amn:DJ [] af=af:=rfl
theorem Ajk{a n:Nat}{l:List (Nat×Nat)}:DJ ((a,n)::l) af=DJ l (maskN a n af):=rfl
theorem Aqk{a n:Nat}{v:AVal}{l:List AVal}:maskN (a+1) n (v::l)=v::maskN a n l:=rfl
def AqP{n:Nat}{l:List AVal}:maskN 0 n l=AS1 n l:=by cases l<;>rfl
theorem Aqd{n:Nat}{v:AVal}{l:List AVal}:AS1 (n+1) (v::l)=.any::AS1 n l:=rfl
def ArA{l:List AVal}:AS1 0 l=l:=by cases l<;>rfl
def Zo:List PC->List AVal->List AVal |.k::l,x::xs=>x::Zo l xs|.w::l,x::xs=>x.strip::Zo l xs|.v y::l,_::xs=>y::Zo l xs|_,xs=>xs
def reB:List BX->MS->MS |.k::l,p::m=>p::reB l m|.d::l,_::m=>reB l m|.s c::l,p::m=>(p.1,c)::reB l m|.t c::l,p::m=>(p.1,c p.1)::reB l m|.p ps::l,p::m=>(p.1,Zo ps p.2)::reB l m|_,m=>m
def AqY{m:MS}:reB [] m=m:=by cases m<;>rfl
theorem AqR{l:List BX}{p:Nat×List AVal}{m:MS}:reB (.k::l) (p::m)=p::reB l m:=rfl
theorem ArN{l:List BX}{p:Nat×List AVal}{m:MS}:reB (.d::l) (p::m)=reB l m:=rfl
theorem ArC{l:List BX}{c x:List AVal}{i:Nat}{m:MS}:reB (.s c::l) ((i,x)::m)=(i,c)::reB l m:=rfl
theorem AqT{l:List BX}{c:Nat->List AVal}{x:List AVal}{i:Nat}{m:MS}:reB (.t c::l) ((i,x)::m)=(i,c i)::reB l m:=rfl
theorem Aqj{l:List BX}{ps:List PC}{x:List AVal}{i:Nat}{m:MS}:reB (.p ps::l) ((i,x)::m)=(i,Zo ps x)::reB l m:=rfl
def ArF{xs:List AVal}:Zo [] xs=xs:=by cases xs<;>rfl
theorem Aq6{l:List PC}{x:AVal}{xs:List AVal}:Zo (.k::l) (x::xs)=x::Zo l xs:=rfl
theorem ArM{l:List PC}{x:AVal}{xs:List AVal}:Zo (.w::l) (x::xs)=x.strip::Zo l xs:=rfl
theorem ArK{l:List PC}{x y:AVal}{xs:List AVal}:Zo (.v y::l) (x::xs)=y::Zo l xs:=rfl
def XA:Code->Nat×Nat |.seq x y=>((XA x).1,(XA x).2+(XA y).2+1)|.cond _ x y=>((XA x).1,(XA x).2+(XA y).2+1)|.block id x=>(id,(XA x).2+1)|.loop x=>((XA x).1,(XA x).2+1)|.scope x=>((XA x).1,(XA x).2+1)|.region id _ _=>(id,1)|_=>(0,1)
end
inductive Wk:AVal->AVal->Prop |same (x:AVal):Wk x x |strip (x:AVal):Wk x x.strip
inductive WkL:List AVal->List AVal->Prop |nil:WkL [] [] |cons{x y:AVal}{xs ys:List AVal} (h:Wk x y) (t:WkL xs ys):WkL (x::xs) (y::ys)
inductive SubW:MS->MS->Prop |refl (m:MS):SubW m m |keep{m0 m1:MS}{i:Nat}{cs cs':List AVal} (h:WkL cs cs') (t:SubW m0 m1):SubW ((i,cs')::m0) ((i,cs)::m1) |drop{m0 m1:MS}{p:Nat×List AVal} (t:SubW m0 m1):SubW m0 (p::m1)
def WkL.refl: ∀xs:List AVal,WkL xs xs |[]=>.nil|x::xs=>.cons (.same x) (WkL.refl xs)
theorem WkL.stripB{xs ys:List AVal} (h:WkL xs ys): ∃bs,VM.stripB bs xs=ys:=by induction h with |nil=>exact⟨[],rfl⟩| cons h t ih=>obtain⟨bs,rfl⟩:=ih;cases h with |same=>exact⟨false::bs,by rw[VM.stripB]⟩|strip=>exact⟨true::bs,by rw[VM.stripB]⟩
def WkL.set{v u:AVal} (h:Wk u v): ∀ {xs ys:List AVal} (c:Nat),WkL xs ys->WkL (xs.set c u) (ys.set c v) |_,_,_,.nil=>by simpa using WkL.nil|_,_,0,.cons _ t=>.cons h t|_,_,c+1,.cons k t=>.cons k (WkL.set h c t)
theorem WkL.setVals: ∀ {cs:List Tmp}{us vs xs ys:List AVal},WkL xs ys->WkL us vs->WkL (VM.setVals xs cs us) (VM.setVals ys cs vs) |[],us,vs,xs,ys,h,k=>by cases k<;>(rw[VM.setVals,VM.setVals];exact h)<;>simp| c::cs,_,_,xs,ys,h,.nil=>by grind[VM.setVals]|c::cs,_,_,xs,ys,h,.cons h1 t=>by rw[VM.setVals,VM.setVals];exact WkL.setVals (WkL.set h1 c h) t
section
variable{E:Env}{F:Nat->Nat}{Γ:Ghost}{st:St}{w:World}{af af2:List AVal}{a:Act}{Q:APost}{c:Code}{n:Nat}
def Sim.wkF (hs:Sim E F Γ st w af a.tmps.toList) (h:WkL af af2):Sim E F Γ st w af2 a.tmps.toList:=by obtain⟨bs,rfl⟩:=h.stripB;exact {hs with rep:=QJ bs _ _ hs.rep,own:=P9 bs _ _ hs.own,tok:=λb=>by have:=P7 b bs af a.tmps.toList;have:=hs.tok b;omega}
def AVT: ∀ {pre m:MS}{i:Nat}{cs:List AVal},((pre++(i,cs)::m).map (·.1)).Nodup->A9 (pre++(i,cs)::m) i=some cs/\∀x,Bz (pre++(i,cs)::m) i x=pre++(i,x)::m
 |[],m,i,cs,_=>⟨ALm,λx=>AUp⟩
 | (j,d)::pre,m,i,cs,h=>by
  rw[ba,aE,b8]at h;have hne:i≠j:=by rintro rfl;grind
  have:=AVT (pre:=pre) h.2;rw[ba,Xd hne];exact⟨this.1,λx=>by rw[AUy hne,this.2 x,ba]⟩
def Sim.wkM{m0 m1:MS} (h:SubW m0 m1): ∀ {pre:MS},Sim E F Γ ⟨pre++m1,n⟩ w af a.tmps.toList->Sim E F Γ ⟨pre++m0,n⟩ w af a.tmps.toList:=by
 induction h with
 |refl m=>simp
 | @drop m0 m1 p t ih=>intro pre hs;exact ih (hs.fewer (m:=pre++m1) (List.Sublist.append (cf _) (cy _ (cf _))))
 | @keep m0 m1 i cs cs' h t ih=>
  intro pre hs;obtain⟨bs,rfl⟩:=h.stripB;obtain⟨h1,h2⟩:=AVT hs.keys;have:=hs.stripCells bs h1;rw[h2]at this;have e: ∀m:MS,pre++(i,VM.stripB bs cs)::m=(pre++[(i,VM.stripB bs cs)])++m:=λm=>by simp
  grind
def AWp.wk{m m2:MS} (h:AWp E c Q af2 ⟨m2,n⟩) (h1:WkL af af2) (h2:SubW m2 m):AWp E c Q af ⟨m,n⟩:=⟨λF Γ w a hd hs=>h.go F Γ w a hd ((Sim.wkM (pre:=[]) h2 hs).wkF h1)⟩
def Vi (js cs:List Tmp) (I:Nat->List AVal->St->Prop) (n₀:Nat){vs0:List AVal}{m m0:MS} (hv:WkL (C9 (Aj js af) cs) vs0) (hm:SubW m0 m) (h₀:I n₀ vs0 ⟨m0,n⟩) (round: ∀k vs st',I k vs st'->∀J:List AVal->St->Prop,(∀k' af' st' m vs',k'<k->SubW m st'.m->Aj cs (Aj js af')=Aj cs (Aj js af)->WkL (C9 (Aj js af') cs) vs'->I k' vs' {st' with m:=m}->J af' st')->AWp E c (kPost J Q) (setVals (Aj js af) cs vs) st'):AWp E (.loop c) Q af ⟨m,n⟩:=by
 refine Su js ?_;constructor;intro F Γ w a hd hs;have hs0:Sim E F Γ ⟨m0,n⟩ w (setVals (Aj js af) cs vs0) a.tmps.toList:=by have h1:=Sim.wkM (pre:=[]) hm hs;rw[LX cs _ _ (rfl:Aj cs (Aj js af)=Aj cs (Aj js af))]at h1;exact h1.wkF (WkL.setVals (WkL.refl _) hv)
 refine wp_loop_ghost (λk a' w'=>a'.defers=[]/\∃Γ' vs st',Ext F Γ w Γ' w'/\n<=st'.next/\Sim E F Γ' st' w' (setVals (Aj js af) cs vs) a'.tmps.toList/\I k vs st') n₀ ⟨hd,Γ,vs0,⟨m0,n⟩,Ext.refl _ _ _,aw _,hs0,h₀⟩ ?_;intro k a₁ w₁ ⟨hd1,Γ₁,vs₁,st₁,h2,h3,h4,h5⟩;refine fd ((round k vs₁ st₁ h5 (λaf' st'=>∃k' m vs',k'<k/\SubW m st'.m/\Aj cs (Aj js af')=Aj cs (Aj js af)/\WkL (C9 (Aj js af') cs) vs'/\I k' vs' {st' with m:=m}) (λk' af' st' m vs' k1 k2 k3 k4 k5=>⟨k',m,vs',k1,k2,k3,k4,k5⟩)).go F Γ₁ w₁ a₁ hd1 h4) ?_;intro e a' w' hq;have hq:=Vh h2 h3 hq;cases e with | normal=>obtain⟨_,k1,Γ',af',st',k2,k3,k4,kk⟩:=hq;obtain⟨k',m,vs',k5,k6,k7,k9,k8⟩:=kk.get;refine⟨k',k5,k1,Γ',vs',{st' with m:=m},k2,k3,?_,k8⟩;have h1:=Sim.wkM (pre:=[]) k6 (k4.mask js);rw[LX cs _ _ k7]at h1;exact h1.wkF (WkL.setVals (WkL.refl _) k9)| _=>obtain⟨k0,k1,Γ',af',st',k2,k3,k4,kk⟩:=hq;exact⟨k0,k1,Γ',af',st',k2,k3,k4,kk.out fA⟩
end
@[congr] theorem AqN {l l' : List Tmp} {F : List Tmp -> Prop} (h : l = l') : ATw l F = ATw l' F := by grind
def stp (b:Bool) (v:AVal):AVal:=if b=true then v.strip else v
theorem AVk{v:AVal}:stp true v=v.strip:=rfl
theorem AVr{v:AVal}:stp false v=v:=rfl
structure RH (E:Env) (rs:List ResultVar) (R:APost) (b:Bool) (m':MS) (n:Nat) (r':AVal):Prop where go: ∀af st xs m0 m1 n',QT E rs af st=some (xs,⟨m1,n'⟩)->m0.Sublist m1->m0=m'->n<=n'->stp b (Sb xs)=r'->R .ret af st/\R .normal af st
structure JOK{α β:Type} (k:α->Option β) (r:β) (js:List (Nat×Nat)) (cs:List Tmp) (V:α->List AVal) (Ms:α->List BX) (af0:List AVal) (m:MS) (n:Nat) (J:List AVal->St->Prop):Prop where go: ∀j af' m0 m1 n',k j=some r->SubW m0 m1->m0=reB (Ms j) m->Aj cs (DJ js af')=Aj cs (DJ js af0)->WkL (C9 (DJ js af') cs) (V j)->n<=n'->J af' ⟨m1,n'⟩
def ASU:AVal->Nat |.ptr i _=>i|_=>0
theorem Afn{i o:Nat}:ASU (.ptr i o)=i:=rfl
structure JNK{α β:Type} (k:α->Option β) (r:β) (js:List (Nat×Nat)) (cs:List Tmp) (p:Tmp) (V:α->Nat->List AVal) (Ms:α->Nat->List BX) (C:α->Nat->List AVal) (af0:List AVal) (m:MS) (n:Nat) (J:List AVal->St->Prop):Prop where go: ∀j g af' m0 m1 n',k j=some r->SubW m0 m1->m0=(g,C j g)::reB (Ms j g) m->Aj cs (DJ js af')=Aj cs (DJ js af0)->WkL (C9 (DJ js af') cs) (V j g)->n<=g/\g<n'->J af' ⟨m1,n'⟩
structure LOK{σ β:Type} (G:Nat->σ->Option β) (r:β) (k:Nat) (js:List (Nat×Nat)) (cs:List Tmp) (V:σ->List AVal) (Ms:σ->List BX) (af0:List AVal) (m:MS) (n:Nat) (J:List AVal->St->Prop):Prop where go: ∀s af' m0 m1 n',G k s=some r->SubW m0 m1->m0=reB (Ms s) m->Aj cs (DJ js af')=Aj cs (DJ js af0)->WkL (C9 (DJ js af') cs) (V s)->n<=n'->J af' ⟨m1,n'⟩
structure ROK{α σ β:Type} (G:List α->Int->σ->Option β) (r:β) (xs:List α) (i:Int) (js:List (Nat×Nat)) (cs:List Tmp) (V:Int->σ->List AVal) (Ms:Int->σ->List BX) (af0:List AVal) (m:MS) (n:Nat) (J:List AVal->St->Prop):Prop where go: ∀s af' m0 m1 n',G xs i s=some r->SubW m0 m1->m0=reB (Ms i s) m->Aj cs (DJ js af')=Aj cs (DJ js af0)->WkL (C9 (DJ js af') cs) (V i s)->n<=n'->J af' ⟨m1,n'⟩
structure COK{σ β:Type} (G:Nat->Int->σ->Option β) (r:β) (k:Nat) (i:Int) (js:List (Nat×Nat)) (cs:List Tmp) (V:Int->σ->List AVal) (Ms:Int->σ->List BX) (af0:List AVal) (m:MS) (n:Nat) (J:List AVal->St->Prop):Prop where go: ∀s af' m0 m1 n',G k i s=some r->SubW m0 m1->m0=reB (Ms i s) m->Aj cs (DJ js af')=Aj cs (DJ js af0)->WkL (C9 (DJ js af') cs) (V i s)->n<=n'->J af' ⟨m1,n'⟩
class CF (E:Env){ρ:Type} (X:Option ρ) (f:outParam FuncId) (args:outParam (List AVal)) (er:outParam (ρ->AVal)):Prop where go: ∀ {r:ρ}{n:Nat}{m:MS}{Q:PQ},X=some r->(∀n',n<=n'->Gl (Q (er r) ⟨m,n'⟩))->ACall E f args ⟨m,n⟩ Q
class CB (E:Env){ρ:Type} (X:Option ρ) (f:outParam FuncId) (args:outParam (Nat->List AVal)) (pre:outParam (Nat->List AVal)) (er:outParam (ρ->AVal)) (post:outParam (Nat->ρ->List AVal)):Prop where go: ∀ {r:ρ}{n i:Nat}{m:MS}{Q:PQ},X=some r->A9 m i=some (pre i)->(∀n',n<=n'->Gl (Q (er r) ⟨Bz m i (post i r),n'⟩))->ACall E f (args i) ⟨m,n⟩ Q
class CT (E:Env){ρ:Type} (X:Option ρ) (f:outParam FuncId) (pre:outParam (Nat->List AVal)) (er:outParam (ρ->AVal)) (post:outParam (Nat->ρ->List AVal)):Prop where go: ∀ {r:ρ}{n i j:Nat}{m:MS}{Q:PQ},X=some r->A9 m j=some [.ptr i 0]->A9 m i=some (pre i)->i≠j->(∀n',n<=n'->Gl (Q (er r) ⟨Bz m i (post i r),n'⟩))->ACall E f [.ptr j 0] ⟨m,n⟩ Q
class XC (E:Env) (f:FuncId) (args:List AVal) (r:outParam AVal):Prop where go: ∀ {st:St}{Q:PQ},Gl (Q r st)->Zi E f args st Q
class CN (E:Env){ρ:Type} (X:Option ρ) (f:outParam FuncId) (args:outParam (List AVal)) (rv:outParam (Nat->AVal)) (cells:outParam (ρ->Nat->List AVal)):Prop where go: ∀ {r:ρ}{n:Nat}{m:MS}{Q:PQ},X=some r->(∀i n',n<=i->i<n'->Gl (Q (rv i) ⟨(i,cells r i)::m,n'⟩))->ACall E f args ⟨m,n⟩ Q
class LF{β:Type} (X:Option β){σ:outParam Type} (G B:outParam (Nat->σ->Option β)) (k:outParam Nat) (s:outParam σ) (js:outParam (List (Nat×Nat))) (cs:outParam (List Tmp)) (V:outParam (σ->List AVal)) (Ms:outParam (σ->List BX)):Prop where
  eq:X=G k s
  z: ∀s,G 0 s=none
  u: ∀k s,G (k+1) s=B k s
class LR{β:Type} (X:Option β){α σ:outParam Type} (G:outParam (List α->Int->σ->Option β)) (Bn:outParam (Int->σ->Option β)) (Bc:outParam (α->List α->Int->σ->Option β)) (L:outParam (List α)) (i:outParam Int) (s:outParam σ) (js:outParam (List (Nat×Nat))) (cs:outParam (List Tmp)) (V:outParam (Int->σ->List AVal)) (Ms:outParam (Int->σ->List BX)):Prop where
  eq:X=G L i s
  un: ∀i s,G [] i s=Bn i s
  uc: ∀x xs i s,G (x::xs) i s=Bc x xs i s
class LQ{β:Type} (X:Option β){α σ:outParam Type} (G:outParam (List α->Int->σ->Option β)) (Bn:outParam (Int->σ->Option β)) (Bc:outParam (α->List α->Int->σ->Option β)) (L:outParam (List α)) (s:outParam σ) (js:outParam (List (Nat×Nat))) (cs:outParam (List Tmp)) (V:outParam (Int->σ->List AVal)) (Ms:outParam (Int->σ->List BX)):Prop where
  eq: ∀i,X=G L i s
  un: ∀i s,G [] i s=Bn i s
  uc: ∀x xs i s,G (x::xs) i s=Bc x xs i s
class LC{β:Type} (X:Option β){σ:outParam Type} (G:outParam (Nat->Int->σ->Option β)) (Bn:outParam (Int->σ->Option β)) (Bc:outParam (Nat->Int->σ->Option β)) (k:outParam Nat) (i:outParam Int) (s:outParam σ) (js:outParam (List (Nat×Nat))) (cs:outParam (List Tmp)) (V:outParam (Int->σ->List AVal)) (Ms:outParam (Int->σ->List BX)):Prop where
  eq:X=G k i s
  un: ∀i s,G 0 i s=Bn i s
  uc: ∀k i s,G (k+1) i s=Bc k i s
class LU{β:Type} (X:Option β){σ:outParam Type} (G:outParam (Nat->Int->σ->Option β)) (Bn:outParam (Int->σ->Option β)) (Bc:outParam (Nat->Int->σ->Option β)) (k:outParam Nat) (s:outParam σ) (js:outParam (List (Nat×Nat))) (cs:outParam (List Tmp)) (V:outParam (Int->σ->List AVal)) (Ms:outParam (Int->σ->List BX)):Prop where
  eq: ∀i,X=G k i s
  un: ∀i s,G 0 i s=Bn i s
  uc: ∀k i s,G (k+1) i s=Bc k i s
class MX (E:Env):Prop where ok:E.P.follows .mixedOrders=true
section rules
variable{E:Env}{D:DT}{β ρ:Type}{r:β}{T:Prop}{n n':Nat}{m m0 m1:MS}{af af0:List AVal}{st:St}{Q K:APost}{x y c:Code}{js:List (Nat×Nat)}{cs:List Tmp}{J:List AVal->St->Prop}
theorem mkF{X B:Option ρ}{f:FuncId}{fn:Func}{nt:Nat}{rs:List ResultVar}{args:List AVal}{er:ρ->AVal} (hx:X=B) (hf:E.P.funcs[f]?=some fn) (hb:fn.body=some c) (hn:fn.ntmps=nt) (hr:fn.results=rs.toArray) (D:DT) (b:Bool) (w: ∀(r:ρ) (n:Nat) (m:MS) (R:APost),RH E rs R b m n (er r)->True/\B=some r->DD D->Gl (wpd E D c R (args++List.replicate (nt-args.length) .any) ⟨m,n⟩)):CF E X f args er:=by
 constructor;intro r n m Q h hQ;subst hn;have e:fn.results.toList=rs:=by rw[hr]
 cases b with | false=>refine MM hf hb (Fq (w r n m (KP E fn Q) ⟨?_⟩ ⟨trivial,hx▸h⟩ ⟨⟩).go);intro af st xs m0 m1 n' h1 h2 h0 h3 h4;subst h0;rw[AVr]at h4;exact⟨Kc (by rw[e];omega) h2 (h4▸(hQ n' h3).go),Km (by rw[e];omega) h2 (h4▸(hQ n' h3).go)⟩| true=>refine ACall.strip (MM hf hb (Fq (w r n m (KP E fn λr st'=>Q r.strip st') ⟨?_⟩ ⟨trivial,hx▸h⟩ ⟨⟩).go));intro af st xs m0 m1 n' h1 h2 h0 h3 h4;subst h0;rw[AVk]at h4;exact⟨Kc (by rw[e];omega) h2 (by rw[h4];exact(hQ n' h3).go),Km (by rw[e];omega) h2 (by rw[h4];exact(hQ n' h3).go)⟩
theorem mkB{X B:Option ρ}{f:FuncId}{fn:Func}{nt:Nat}{rs:List ResultVar}{args:Nat->List AVal}{pre:Nat->List AVal}{er:ρ->AVal}{post:Nat->ρ->List AVal} (hx:X=B) (hf:E.P.funcs[f]?=some fn) (hb:fn.body=some c) (hn:fn.ntmps=nt) (hr:fn.results=rs.toArray) (D:DT) (b:Bool) (w: ∀(r:ρ) (n i:Nat) (m:MS) (R:APost),i<n->RH E rs R b ((i,post i r)::m) n (er r)->True/\B=some r->DD D->Gl (wpd E D c R (args i++List.replicate (nt-(args i).length) .any) ⟨(i,pre i)::m,n⟩)):CB E X f args pre er post:=by
 constructor;intro r n i m Q h hi hQ;subst hn;have e:fn.results.toList=rs:=by rw[hr]
 refine ACall.front hi λhin=>?_;cases b with | false=>refine MM hf hb (Fq (w r n i _ (KP E fn _) hin ⟨?_⟩ ⟨trivial,hx▸h⟩ ⟨⟩).go);intro af st xs m0 m1 n' h1 h2 h0 h3 h4;subst h0;rw[AVr]at h4;exact⟨Kc (by rw[e];omega) h2 ⟨_,rfl,h4▸(hQ n' h3).go⟩,Km (by rw[e];omega) h2 ⟨_,rfl,h4▸(hQ n' h3).go⟩⟩| true=>refine ACall.strip (MM hf hb (Fq (w r n i _ (KP E fn λr st'=>_) hin ⟨?_⟩ ⟨trivial,hx▸h⟩ ⟨⟩).go));intro af st xs m0 m1 n' h1 h2 h0 h3 h4;subst h0;rw[AVk]at h4;exact⟨Kc (by rw[e];omega) h2 ⟨_,rfl,by rw[h4];exact(hQ n' h3).go⟩,Km (by rw[e];omega) h2 ⟨_,rfl,by rw[h4];exact(hQ n' h3).go⟩⟩
def Ao6{b:Bool}{u v:Option β}{A B:List AVal->St->Prop} (h:T/\(if b=true then u else v)=some r) (a:(b=true/\T)/\u=some r->Gl (A af st)) (a':(b=false/\T)/\v=some r->Gl (B af st)):Gl (TF (.bool b) A B af st):=by
 rcases Jq h with h|h;·grind[AU2]
 grind[AVl]
theorem Xu{X:Option ρ}{f:FuncId}{args args':List AVal}{er:ρ->AVal}{y:ρ}{Q:PQ} [i:CF E X f args er] (h:X=some y) (ha:args'=args) (k: ∀n',n<=n'->Gl (Q (er y) ⟨m,n'⟩)):Gl (ACall E f args' ⟨m,n⟩ Q):=⟨ha▸i.go h k⟩
theorem AP4{X:Option ρ}{f:FuncId}{args:Nat->List AVal}{tl:List AVal}{pre:Nat->List AVal}{er:ρ->AVal}{post:Nat->ρ->List AVal}{y:ρ}{Q:PQ}{j:Nat} [i:CB E X f args pre er post] (h:X=some y) (ha: .ptr j 0::tl=args j) (hm:A9 m j=some (pre j)) (k: ∀n',n<=n'->Gl (Q (er y) ⟨Bz m j (post j y),n'⟩)):Gl (ACall E f (.ptr j 0::tl) ⟨m,n⟩ Q):=⟨ha▸i.go h hm k⟩
theorem ASE{X:Option ρ}{f:FuncId}{args:Nat->List AVal}{x:AVal}{g:Fn}{pre:Nat->List AVal}{er:ρ->AVal}{post:Nat->ρ->List AVal}{y:ρ}{Q:PQ}{j:Nat} [i:CB E X f args pre er post] (h:X=some y) (ha:[x,.fn g [] [.ptr j 0]]=args j) (hm:A9 m j=some (pre j)) (k: ∀n',n<=n'->Gl (Q (er y) ⟨Bz m j (post j y),n'⟩)):Gl (ACall E f [x,.fn g [] [.ptr j 0]] ⟨m,n⟩ Q):=⟨ha▸i.go h hm k⟩
theorem ATE{X:Option ρ}{f:FuncId}{args:Nat->List AVal}{x:AVal}{g:Fn}{pre:Nat->List AVal}{er:ρ->AVal}{post:Nat->ρ->List AVal}{y:ρ}{Q:PQ}{j:Nat} [i:CB E X f args pre er post] (h:X=some y) (ha:[x,.fn g [.ptr j 0] []]=args j) (hm:A9 m j=some (pre j)) (k: ∀n',n<=n'->Gl (Q (er y) ⟨Bz m j (post j y),n'⟩)):Gl (ACall E f [x,.fn g [.ptr j 0] []] ⟨m,n⟩ Q):=⟨ha▸i.go h hm k⟩
theorem ApD{f:FuncId}{args:List AVal}{x:AVal}{Q:PQ} [i:XC E f args x] (h:Gl (Q x st)):Gl (Zi E f args st Q):=⟨i.go h⟩
theorem Ad3{X:Option ρ}{f:FuncId}{args args':List AVal}{rv:Nat->AVal}{cells:ρ->Nat->List AVal}{y:ρ}{Q:PQ} [i:CN E X f args rv cells] (h:X=some y) (ha:args'=args) (k: ∀i n',n<=i->i<n'->Gl (Q (rv i) ⟨(i,cells y i)::m,n'⟩)):Gl (ACall E f args' ⟨m,n⟩ Q):=⟨ha▸i.go h k⟩
theorem AgD{X:Option ρ}{f:FuncId}{pre:Nat->List AVal}{er:ρ->AVal}{post:Nat->ρ->List AVal}{y:ρ}{Q:PQ}{i j:Nat} [c:CT E X f pre er post] (h:X=some y) (hj:A9 m j=some [.ptr i 0]) (hm:A9 m i=some (pre i)) (hne:i≠j) (k: ∀n',n<=n'->Gl (Q (er y) ⟨Bz m i (post i y),n'⟩)):Gl (ACall E f [.ptr j 0] ⟨m,n⟩ Q):=⟨c.go h hj hm hne k⟩
theorem ATj{X:Option ρ}{f:FuncId}{args:Nat->List AVal}{x:AVal}{tl:List AVal}{pre:Nat->List AVal}{er:ρ->AVal}{post:Nat->ρ->List AVal}{y:ρ}{Q:PQ}{j:Nat} [i:CB E X f args pre er post] (h:X=some y) (ha:x:: .ptr j 0::tl=args j) (hm:A9 m j=some (pre j)) (k: ∀n',n<=n'->Gl (Q (er y) ⟨Bz m j (post j y),n'⟩)):Gl (ACall E f (x:: .ptr j 0::tl) ⟨m,n⟩ Q):=⟨ha▸i.go h hm k⟩
theorem ATD{X:Option ρ}{f:FuncId}{args:Nat->List AVal}{x y:AVal}{pre:Nat->List AVal}{er:ρ->AVal}{post:Nat->ρ->List AVal}{yy:ρ}{Q:PQ}{j:Nat} [i:CB E X f args pre er post] (h:X=some yy) (ha:[x,y,.ptr j 0]=args j) (hm:A9 m j=some (pre j)) (k: ∀n',n<=n'->Gl (Q (er yy) ⟨Bz m j (post j yy),n'⟩)):Gl (ACall E f [x,y,.ptr j 0] ⟨m,n⟩ Q):=⟨ha▸i.go h hm k⟩
theorem Aqc{id:Nat}{os:List Oper}{mv:List Tmp}{p:Plan} (hD:DD D) [i:MX E] (hm:AAp D id=mv) (hp:AlE D id=p) (hok:J2 (List.toArray os) p false (Array.replicate (List.toArray os).size false) []=true) (h:Gl (IR E mv ⟨os⟩ p [] (nK Q) af st)):Gl (AWp E (.region id (List.toArray os) true) Q af st):=⟨SS mv p i.ok hok h.go⟩
def ArL (hD:DD D) (h:Gl (wpd E D x (KH (wpd E D y Q) Q) af st)):Gl (AWp E (.seq x y) Q af st):=⟨UV ((Fq h.go).mono λe af' st' _ q=>by cases e<;>first| exact Fq q| exact q)⟩
def Aly{α:Type}{id:Nat×Nat}{V:α->List AVal}{Ms:α->List BX}{k0:α->Option β}{body:(α->Option β)->Option β} (h:T/\AB k0 body (.b id js cs V Ms)=some r) (hD:DD D) (hid:XA x=id) (rest: ∀j n',n<=n'->T/\k0 j=some r->Gl (wpd E D y Q (setVals (DJ js af) cs (V j)) ⟨reB (Ms j) m,n'⟩)) (first: ∀(k:α->Option β) (J:List AVal->St->Prop),JOK k r js cs V Ms af m n J->T/\body k=some r->Gl (wpd E D x (KH J Q) af ⟨m,n⟩)):Gl (AWp E (.seq x y) Q af ⟨m,n⟩):=by
 refine⟨UV ?_⟩;have key:=Fq (first k0 (λaf' st'=>AWp E y Q af' ⟨st'.m,st'.next⟩) ⟨?_⟩ h).go;·exact key.mono λe af' st' _ q=>by cases e<;>exact q
 ·intro j af' m0 m1 n' h1 h2 h3 h4 h5 h6;subst h3;refine Su (rgs js) ?_;have:=Fq (rest j n' h6 ⟨h.1,h1⟩).go;rw[EU,EU]at h4;rw[EU]at h5 this;rw[LX cs _ _ h4];exact this.wk (WkL.setVals (WkL.refl _) h5) h2
def Apa{α:Type}{id:Nat×Nat}{V:α->List AVal}{k0:α->Option β}{body:(α->Option β)->Option β} (h:T/\AB k0 body (.a id js cs V)=some r) (hD:DD D) (hid:XA x=id) (rest: ∀j n',n<=n'->T/\k0 j=some r->Gl (wpd E D y Q (setVals (DJ js af) cs (V j)) ⟨m,n'⟩)) (first: ∀(k:α->Option β) (J:List AVal->St->Prop),JOK k r js cs V (λ_=>[]) af m n J->T/\body k=some r->Gl (wpd E D x (KH J Q) af ⟨m,n⟩)):Gl (AWp E (.seq x y) Q af ⟨m,n⟩):=by refine Aly (Ms:=λ_=>[]) (k0:=k0) (body:=body) h hD hid (λj n' hn h=>?_) first;grind[reB]
def Aoy{α:Type}{id:Nat×Nat}{p:Tmp}{V:α->Nat->List AVal}{Ms:α->Nat->List BX}{C:α->Nat->List AVal}{k0:α->Option β}{body:(α->Option β)->Option β} (h:T/\AB k0 body (.n id js cs p V Ms C)=some r) (hD:DD D) (hid:XA x=id) (rest: ∀j n' g,n<=g/\g<n'->T/\k0 j=some r->Gl (wpd E D y Q (setVals (DJ js af) cs (V j g)) ⟨(g,C j g)::reB (Ms j g) m,n'⟩)) (first: ∀(k:α->Option β) (J:List AVal->St->Prop),JNK k r js cs p V Ms C af m n J->True->T/\body k=some r->Gl (wpd E D x (KH J Q) af ⟨m,n⟩)):Gl (AWp E (.seq x y) Q af ⟨m,n⟩):=by
 refine⟨UV ?_⟩;have key:=Fq (first k0 (λaf' st'=>AWp E y Q af' ⟨st'.m,st'.next⟩) ⟨?_⟩ trivial h).go;·exact key.mono λe af' st' _ q=>by cases e<;>exact q
 ·intro j g af' m0 m1 n' h1 h2 h3 h4 h5 h6;subst h3;refine Su (rgs js) ?_;have:=Fq (rest j n' g h6 ⟨h.1,h1⟩).go;rw[EU,EU]at h4;rw[EU]at h5 this;rw[LX cs _ _ h4];exact this.wk (WkL.setVals (WkL.refl _) h5) h2
def Aq7{α:Type}{p:Tmp}{V:α->Nat->List AVal}{Ms:α->Nat->List BX}{C:α->Nat->List AVal}{k:α->Option β}{v:α} (hj:JNK k r js cs p V Ms C af0 m n J) (h:T/\k v=some r) (h2:SubW ((ASU (af.getD p .any),C v (ASU (af.getD p .any)))::reB (Ms v (ASU (af.getD p .any))) m) m1) (h4:Aj cs (DJ js af)=Aj cs (DJ js af0)) (h5:WkL (C9 (DJ js af) cs) (V v (ASU (af.getD p .any)))) (h6:n<=ASU (af.getD p .any)/\ASU (af.getD p .any)<n'):Gl (J af ⟨m1,n'⟩):=⟨hj.go v _ af _ m1 n' h.2 h2 rfl h4 h5 h6⟩
def Aqt{α:Type}{V:α->List AVal}{Ms:α->List BX}{k:α->Option β}{v:α} (hj:JOK k r js cs V Ms af0 m n J) (h:T/\k v=some r) (h2:SubW (reB (Ms v) m) m1) (h4:Aj cs (DJ js af)=Aj cs (DJ js af0)) (h5:WkL (C9 (DJ js af) cs) (V v)) (h6:n<=n'):Gl (J af ⟨m1,n'⟩):=⟨hj.go v af _ m1 n' h.2 h2 rfl h4 h5 h6⟩
theorem ApM{σ:Type}{V:σ->List AVal}{Ms:σ->List BX}{X:Option β}{G B:Nat->σ->Option β}{k:Nat}{s:σ} [i:LF X G B k s js cs V Ms] (h:T/\X=some r) (hj:LOK G r k js cs V Ms af0 m n J) (h2:SubW (reB (Ms s) m) m1) (h4:Aj cs (DJ js af)=Aj cs (DJ js af0)) (h5:WkL (C9 (DJ js af) cs) (V s)) (h6:n<=n'):Gl (J af ⟨m1,n'⟩):=⟨hj.go s af _ m1 n' (i.eq▸h.2) h2 rfl h4 h5 h6⟩
theorem ApL{α σ:Type}{V:Int->σ->List AVal}{Ms:Int->σ->List BX}{X:Option β}{G:List α->Int->σ->Option β}{Bn:Int->σ->Option β}{Bc:α->List α->Int->σ->Option β}{L:List α}{i:Int}{s:σ} [ii:LR X G Bn Bc L i s js cs V Ms] (h:T/\X=some r) (hj:ROK G r L i js cs V Ms af0 m n J) (h2:SubW (reB (Ms i s) m) m1) (h4:Aj cs (DJ js af)=Aj cs (DJ js af0)) (h5:WkL (C9 (DJ js af) cs) (V i s)) (h6:n<=n'):Gl (J af ⟨m1,n'⟩):=⟨hj.go s af _ m1 n' (ii.eq▸h.2) h2 rfl h4 h5 h6⟩
def ArH{R:APost}{rs:List ResultVar}{b:Bool}{r':AVal}{xs:List AVal} (hR:RH E rs R b m n r') (h1:QT E rs af st=some (xs,⟨m1,n'⟩)) (h2:m.Sublist m1) (h4:n<=n') (h5:stp b (Sb xs)=r'):Gl (R .ret af st):=⟨(hR.go af st xs m m1 n' h1 h2 rfl h4 h5).1⟩
def Aq3{R:APost}{rs:List ResultVar}{b:Bool}{r':AVal}{xs:List AVal} (hR:RH E rs R b m n r') (h1:QT E rs af st=some (xs,⟨m1,n'⟩)) (h2:m.Sublist m1) (h4:n<=n') (h5:stp b (Sb xs)=r'):Gl (R .normal af st):=⟨(hR.go af st xs m m1 n' h1 h2 rfl h4 h5).2⟩
def Amr{v:β} (h:T/\some v=some r):T/\v=r:=⟨h.1,cK h.2⟩
theorem Apx{σ:Type}{V:σ->List AVal}{Ms:σ->List BX}{X:Option β}{G B:Nat->σ->Option β}{k:Nat}{s:σ} [i:LF X G B k s js cs V Ms] (h:T/\X=some r) (hD:DD D) (hm:SubW (reB (Ms s) m) m) (hv:WkL (C9 (DJ js af) cs) (V s)) (round: ∀k s n',n<=n'->T/\B k s=some r->∀J,LOK G r k js cs V Ms af m n' J->Gl (wpd E D c (KH J Q) (setVals (DJ js af) cs (V s)) ⟨reB (Ms s) m,n'⟩)):Gl (AWp E (.loop c) Q af ⟨m,n⟩):=by
 rw[EU]at hv;refine⟨Vi (rgs js) cs (λk vs st'=>∃s,vs=V s/\st'.m=reB (Ms s) m/\n<=st'.next/\G k s=some r) k hv hm ⟨s,rfl,rfl,aw _,i.eq▸h.2⟩ ?_⟩;rintro k vs ⟨m',n'⟩ ⟨s,rfl,hm',hn,hG⟩ J hJ;simp only at hm' hn;subst hm';cases k with
 |zero=>rw[i.z]at hG;grind
 | succ k=>
  have key:=λhJ'=>Fq (round k s n' hn ⟨h.1,i.u k s▸hG⟩ J hJ').go;rw[EU]at key;refine(key ⟨λs' af' m0 m1 n'' h1 h2 h3 h4 h5 h6=>?_⟩).mono λe af' st' _ q=>by cases e<;>first| exact Nc q| exact .oth fA q
  subst h3;rw[EU,EU]at h4;rw[EU]at h5;exact hJ k af' ⟨m1,n''⟩ _ _ (eS _) h2 h4 h5 ⟨s',rfl,rfl,bI hn h6,h1⟩
theorem Adm{α σ:Type}{V:Int->σ->List AVal}{Ms:Int->σ->List BX}{X:Option β}{G:List α->Int->σ->Option β}{Bn:Int->σ->Option β}{Bc:α->List α->Int->σ->Option β}{L:List α}{s:σ} [ii:LR X G Bn Bc L 0 s js cs V Ms] (h:T/\X=some r) (hD:DD D) (hL:AL L.length) (hm:SubW (reB (Ms 0 s) m) m) (hv:WkL (C9 (DJ js af) cs) (V 0 s)) (rnil: ∀i s n',n<=n'->(decide (i<(L.length:Int))=false/\T)/\Bn i s=some r->Gl (wpd E D c (KH (λ_ _=>False) Q) (setVals (DJ js af) cs (V i s)) ⟨reB (Ms i s) m,n'⟩)) (rcons: ∀x xs i s n',n<=n'->(decide (i<(L.length:Int))=true/\idx L i=some x/\wr .i64 (i+1)=i+1/\T)/\Bc x xs i s=some r->∀J,ROK G r xs (i+1) js cs V Ms af m n' J->Gl (wpd E D c (KH J Q) (setVals (DJ js af) cs (V i s)) ⟨reB (Ms i s) m,n'⟩)):Gl (AWp E (.loop c) Q af ⟨m,n⟩):=by
 rw[EU]at hv;refine⟨Vi (rgs js) cs (λk vs st'=>∃pre suf s,L=pre++suf/\k=suf.length/\vs=V pre.length s/\st'.m=reB (Ms pre.length s) m/\n<=st'.next/\G suf pre.length s=some r) L.length hv hm ⟨[],L,s,rfl,rfl,rfl,rfl,aw _,ii.eq▸h.2⟩ ?_⟩;rintro k vs ⟨m',n'⟩ ⟨pre,suf,s,hp,rfl,rfl,hm',hn,hG⟩ J hJ;simp only at hm' hn;subst hm';cases suf with
 | nil=>have key:=Fq (rnil _ s n' hn ⟨⟨by grind,h.1⟩,ii.un _ s▸hG⟩).go;rw[EU]at key;exact key.mono λe af' st' _ q=>by cases e<;>first| exact q.elim| exact .oth fA q
 | cons x xs=>
  obtain⟨f1,f2,f3⟩:=AX3 hp hL;have key:=λhJ'=>Fq (rcons x xs _ s n' hn ⟨⟨f1,f2,f3,h.1⟩,ii.uc x xs _ s▸hG⟩ J hJ').go;rw[EU]at key;refine(key ⟨λs' af' m0 m1 n'' h1 h2 h3 h4 h5 h6=>?_⟩).mono λe af' st' _ q=>by cases e<;>first| exact Nc q| exact .oth fA q
  have e1:((pre.length:Int)+1)=((pre++[x]).length:Int):=fA;rw[e1]at h1 h3 h5;subst h3;rw[EU,EU]at h4;rw[EU]at h5;exact hJ xs.length af' ⟨m1,n''⟩ _ _ fA h2 h4 h5 ⟨pre++[x],xs,s',by grind,rfl,rfl,rfl,bI hn h6,h1⟩
theorem Apo{α σ:Type}{V:Int->σ->List AVal}{Ms:Int->σ->List BX}{X:Option β}{G:List α->Int->σ->Option β}{Bn:Int->σ->Option β}{Bc:α->List α->Int->σ->Option β}{L:List α}{i:Int}{s:σ} [ii:LQ X G Bn Bc L s js cs V Ms] (h:T/\X=some r) (hj:ROK G r L i js cs V Ms af0 m n J) (h2:SubW (reB (Ms i s) m) m1) (h4:Aj cs (DJ js af)=Aj cs (DJ js af0)) (h5:WkL (C9 (DJ js af) cs) (V i s)) (h6:n<=n'):Gl (J af ⟨m1,n'⟩):=⟨hj.go s af _ m1 n' (ii.eq i▸h.2) h2 rfl h4 h5 h6⟩
theorem Ama{α σ:Type}{V:Int->σ->List AVal}{Ms:Int->σ->List BX}{X:Option β}{G:List α->Int->σ->Option β}{Bn:Int->σ->Option β}{Bc:α->List α->Int->σ->Option β}{L:List α}{s:σ} [ii:LQ X G Bn Bc L s js cs V Ms] (h:T/\X=some r) (hD:DD D) (hL:AL L.length) (hm:SubW (reB (Ms 0 s) m) m) (hv:WkL (C9 (DJ js af) cs) (V 0 s))
    (rnil: ∀i s n',n<=n'->(decide (i<(L.length:Int))=false/\T)/\Bn i s=some r->Gl (wpd E D c (KH (λ_ _=>False) Q) (setVals (DJ js af) cs (V i s)) ⟨reB (Ms i s) m,n'⟩))
    (rcons: ∀x xs i s n',n<=n'->(decide (i<(L.length:Int))=true/\idx L i=some x/\wr .i64 (i+1)=i+1/\T)/\Bc x xs i s=some r-> ∀J,ROK G r xs (i+1) js cs V Ms af m n' J->Gl (wpd E D c (KH J Q) (setVals (DJ js af) cs (V i s)) ⟨reB (Ms i s) m,n'⟩)):Gl (AWp E (.loop c) Q af ⟨m,n⟩):=
  haveI:LR X G Bn Bc L 0 s js cs V Ms:=⟨ii.eq 0,ii.un,ii.uc⟩
  Adm h hD hL hm hv rnil rcons
theorem ApF{σ:Type}{V:Int->σ->List AVal}{Ms:Int->σ->List BX}{X:Option β}{G:Nat->Int->σ->Option β}{Bn:Int->σ->Option β}{Bc:Nat->Int->σ->Option β}{k:Nat}{i:Int}{s:σ} [ii:LC X G Bn Bc k i s js cs V Ms] (h:T/\X=some r) (hj:COK G r k i js cs V Ms af0 m n J) (h2:SubW (reB (Ms i s) m) m1) (h4:Aj cs (DJ js af)=Aj cs (DJ js af0)) (h5:WkL (C9 (DJ js af) cs) (V i s)) (h6:n<=n'):Gl (J af ⟨m1,n'⟩):=⟨hj.go s af _ m1 n' (ii.eq▸h.2) h2 rfl h4 h5 h6⟩
theorem Api{σ:Type}{V:Int->σ->List AVal}{Ms:Int->σ->List BX}{X:Option β}{G:Nat->Int->σ->Option β}{Bn:Int->σ->Option β}{Bc:Nat->Int->σ->Option β}{k:Nat}{i:Int}{s:σ} [ii:LU X G Bn Bc k s js cs V Ms] (h:T/\X=some r) (hj:COK G r k i js cs V Ms af0 m n J) (h2:SubW (reB (Ms i s) m) m1) (h4:Aj cs (DJ js af)=Aj cs (DJ js af0)) (h5:WkL (C9 (DJ js af) cs) (V i s)) (h6:n<=n'):Gl (J af ⟨m1,n'⟩):=⟨hj.go s af _ m1 n' (ii.eq i▸h.2) h2 rfl h4 h5 h6⟩
theorem Adv{σ:Type}{V:Int->σ->List AVal}{Ms:Int->σ->List BX}{X:Option β}{G:Nat->Int->σ->Option β}{Bn:Int->σ->Option β}{Bc:Nat->Int->σ->Option β}{i0 b:Int}{s:σ} [ii:LC X G Bn Bc (b-i0).toNat i0 s js cs V Ms] (h:T/\X=some r) (hD:DD D) (hL: -4611686018427387904<=i0/\b<=4611686018427387904) (hm:SubW (reB (Ms i0 s) m) m) (hv:WkL (C9 (DJ js af) cs) (V i0 s)) (rnil: ∀i s n',n<=n'->(decide (i<b)=false/\T)/\Bn i s=some r->Gl (wpd E D c (KH (λ_ _=>False) Q) (setVals (DJ js af) cs (V i s)) ⟨reB (Ms i s) m,n'⟩)) (rcons: ∀k i s n',n<=n'->(decide (i<b)=true/\wr .i64 (i+1)=i+1/\T)/\Bc k i s=some r->∀J,COK G r k (i+1) js cs V Ms af m n' J->Gl (wpd E D c (KH J Q) (setVals (DJ js af) cs (V i s)) ⟨reB (Ms i s) m,n'⟩)):Gl (AWp E (.loop c) Q af ⟨m,n⟩):=by
 rw[EU]at hv;refine⟨Vi (rgs js) cs (λk vs st'=>∃i s,i0<=i/\k=(b-i).toNat/\vs=V i s/\st'.m=reB (Ms i s) m/\n<=st'.next/\G k i s=some r) (b-i0).toNat hv hm ⟨i0,s,br _,rfl,rfl,rfl,aw _,ii.eq▸h.2⟩ ?_⟩;rintro k vs ⟨m',n'⟩ ⟨i,s,hi,hk',rfl,hm',hn,hG⟩ J hJ;simp only at hm' hn;subst hm';cases k with
 | zero=>have key:=Fq (rnil _ s n' hn ⟨⟨by grind,h.1⟩,ii.un _ s▸hG⟩).go;rw[EU]at key;exact key.mono λe af' st' _ q=>by cases e<;>first| exact q.elim| exact .oth fA q
 | succ k=>
  have hw:wr .i64 (i+1)=i+1:=by grind[wr,IntKind.wrap,IntKind.bits,IntKind.signed]
  have key:=λhJ'=>Fq (rcons k i s n' hn ⟨⟨by simp only[aq];omega,hw,h.1⟩,ii.uc k i s▸hG⟩ J hJ').go;rw[EU]at key;refine(key ⟨λs' af' m0 m1 n'' h1 h2 h3 h4 h5 h6=>?_⟩).mono λe af' st' _ q=>by cases e<;>first| exact Nc q| exact .oth fA q
  subst h3;rw[EU,EU]at h4;rw[EU]at h5;exact hJ k af' ⟨m1,n''⟩ _ _ fA h2 h4 h5 ⟨i+1,s',fy,fy,rfl,rfl,bI hn h6,h1⟩
theorem Aod{σ:Type}{V:Int->σ->List AVal}{Ms:Int->σ->List BX}{X:Option β}{G:Nat->Int->σ->Option β}{Bn:Int->σ->Option β}{Bc:Nat->Int->σ->Option β}{i0 b:Int}{s:σ} [ii:LU X G Bn Bc (b-i0).toNat s js cs V Ms] (h:T/\X=some r) (hD:DD D) (hL: -4611686018427387904<=i0/\b<=4611686018427387904) (hm:SubW (reB (Ms i0 s) m) m) (hv:WkL (C9 (DJ js af) cs) (V i0 s))
    (rnil: ∀i s n',n<=n'->(decide (i<b)=false/\T)/\Bn i s=some r->Gl (wpd E D c (KH (λ_ _=>False) Q) (setVals (DJ js af) cs (V i s)) ⟨reB (Ms i s) m,n'⟩))
    (rcons: ∀k i s n',n<=n'->(decide (i<b)=true/\wr .i64 (i+1)=i+1/\T)/\Bc k i s=some r-> ∀J,COK G r k (i+1) js cs V Ms af m n' J->Gl (wpd E D c (KH J Q) (setVals (DJ js af) cs (V i s)) ⟨reB (Ms i s) m,n'⟩)):Gl (AWp E (.loop c) Q af ⟨m,n⟩):=
  haveI:LC X G Bn Bc (b-i0).toNat i0 s js cs V Ms:=⟨ii.eq i0,ii.un,ii.uc⟩
  Adv h hD hL hm hv rnil rcons
def Aow{G:Prop} (h:T/\(none:Option β)=some r):G:=by grind
def Aqp{α:Type}{u:α}{f:α->Option β} (h:T/\letL u f=some r): ∃y,u=y/\T/\f y=some r:=⟨u,rfl,h⟩
def AqA{α:Type}{l:List α}{i:Int}{f:α->Option β} (h:T/\Option.bind (idx l i) f=some r): ∃y,(idx l i=some y/\T)/\f y=some r:=Fg h
def ApI{α:Type}{l:List α}{i j:Int}{f:List α->Option β} (h:T/\Option.bind (sub l i j) f=some r): ∃y,(sub l i j=some y/\T)/\f y=some r:=Fg h
def isW (x:Gl (wpd E D c K af st)):Gl (wpd E D c K af st):=x
def isC{f:FuncId}{args:List AVal}{Q:PQ} (x:Gl (ACall E f args st Q)):Gl (ACall E f args st Q):=x
def isA (x:Gl (AWp E c K af st)):Gl (AWp E c K af st):=x
end rules
end Go.VM
namespace Go.VM
def tD{G:Prop} (x:G:=by first|(simp(disch:=omega) only[vm,seval,h.1];done)|rfl):G:=x
def tR{G:Prop} (x:G:=by
 obtain⟨H,h⟩:=h;cases h;simp(disch:= omega) only[vm,seval,H];refine⟨(hR _ _ _ _ _ _ (by simp(disch:= omega) only[vm,seval,H];rfl) ?_ rfl fy ?_).1⟩;·first| ((repeat (first| exact cf _| apply cy));done)| (simp(disch:= omega) only[vm,seval,H];(repeat (first| exact cf _| apply cy));done)
 ·first| (simp(disch:= omega) only[vm,seval,H];done)| rfl):G:=x
def tJ{A G:Prop} (a:A) (x:A->G:=by
  intro hz
  simp(disch:=omega) only[vm,seval,h.1]
  refine⟨hz _ _ _ _ h.2 ?_ rfl ?_ ?_ fy⟩
  . first|((repeat (first|exact cf _|apply cy));done)|(simp(disch:=omega) only[vm,seval,h.1];(repeat (first|exact cf _|apply cy));done)
  all_goals first|(simp(disch:=omega) only[vm,seval,h.1];done)|rfl):G:=x a
end Go.VM
