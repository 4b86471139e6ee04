import Derived.Laws.RangeString
import Derived.Laws.RangeAny
import Derived.Lib.OthersKept
import Derived.Lib.MakeNoZero
import Derived.Test.YtfbofngnmfcomaaGreatDoorVM4
import Derived.Scope
set_option linter.defProp false
set_option linter.unusedSimpArgs false
set_option linter.unusedVariables false
namespace Go.VM
def ABr (mv:List Tmp) (dst:Option Tmp):Bool:=match dst with|some d=>mv.contains (d+1000000)|none=>false
def PG (mv:List Tmp) (dst:Option Tmp):Bool:=match dst with|some d=>mv.contains d|none=>false
def Cz (s:B8) (pos:Nat):Nat×Nat:=Utf8.decode ⟨s.toArray⟩ pos
def ADh (s:B8) (pos:Nat) (t:Tmp) (d:Option Tmp) (af:List AVal):List AVal:=if decide (pos<s.length)=true then Ab (af.set t (.iter s (pos+(Cz s pos).2))) d (.tuple [.bool true,.int .i64 pos,.int .i32 (Cz s pos).1])else Ab af d (.tuple [.bool false])
def D8 (E:Env) (mv:List Tmp) (o:Oper) (af:List AVal) (st:St):Option (List AVal×St):=
  match o.op with
  | .move x=>
    if PG mv o.dst=true then
      match nameV af x with
      |some (d,w,xs)=>some (Ab (af.set d (.sh st.next)) o.dst (.sh st.next),{m:=(st.next,[.vec w xs])::st.m,next:=st.next+1})
      | none=>
        match ACb (ABr mv o.dst) af x st with
        |some (j,i,w,xs)=>some (Ab (af.set j (.slice w xs false)) o.dst (.slice w xs false),{st with m:=Ar st.m i [.any]})
        |none=>some (Ab (stripAt af x) o.dst (rd E af o.type x),st)
    else some (Ab af o.dst (rd E af o.type x).strip,st)
  | .assign x=>
    if PG mv o.dst=true then
      match Zq E o with
      |some w=>some (Ab af o.dst (.vec w []),st)
      | none=>
        match Ya E af x o.type st with
        |some p=>some (Ab af o.dst (.vec p.2.1 p.2.2),{st with m:=Ar st.m p.1 [.any]})
        |none=>some (Ab (stripAt af x) o.dst (rd E af o.type x),st)
    else some (Ab (stripAt af x) o.dst (rd E af o.type x),st)
  |.alloc t=>(if PG mv o.dst=true then VF E.P t st.next else CX E.P t st.next).map λcs=>(Ab af o.dst (.ptr st.next 0),{m:=(st.next,cs)::st.m,next:=st.next+1})
  |.box t x=>if CW (rd E af t x)=true then some (Ab (stripAt af x) o.dst (.ptr st.next 0),{m:=(st.next,AX (rd E af t x))::st.m,next:=st.next+1})else none
  |.build t ⟨ps⟩=>(TG E t (BO E (AP E.P t) af ps).2).map λr=>(Ab (BO E (AP E.P t) af ps).1 o.dst r,st)
  | .buildSlice t len ⟨ps⟩=>
    if PG mv o.dst=true then(Ia E t len (BO E (λ_=>AP E.P t 0) af ps).2).map λp=>(Ab (BO E (λ_=>AP E.P t 0) af ps).1 o.dst (.gsl p.1 st.next len),{m:=(st.next,p.2)::st.m,next:=st.next+1})
    else(Gz E t len (BO E (λ_=>AP E.P t 0) af ps).2).map λr=>(Ab af o.dst r,st)
  | .load t x=>
    if PG mv o.dst=true then(RO E t (rd E af 0 x) st).map λp=>(Ab af o.dst p.1,p.2)
    else(Rb E t (rd E af 0 x) st).map λr=>(Ab af o.dst r.strip,st)
  |.store t x y=>if o.dst.isNone=true then(OP E t (rd E af 0 x) (rd E af t y) st).map λst'=>(stripAt af y,st')else none
  | .extract (.tmp t) n=>
    match af.getD t .any with
    |.tuple vs=>(vs[n]?).map λr=>(Ab (af.set t (.tuple (vs.set n r.strip))) o.dst r,st)
    |_=>none
  | .range t x=>
    match rd E af t x with
    |.str s=>if C9 E.P t=true then some (Ab af o.dst (.iter s 0),st)else none
    |_=>none
  | .next (.tmp t) true=>
    match af.getD t .any with
    |.iter s pos=>some (ADh s pos t o.dst af,st)
    |_=>none
  | .slice t x lo hi mx=>
    match rdo E af lo,rdo E af hi,rdo E af mx with
    | some l,some h,some m=>
      match FW E t (rd E af t x) l h m with
      |some r=>some (Ab af o.dst r,st)
      |none=>(RD E t (rd E af t x) l h m st).map λst'=>(Ab af o.dst (.sh st.next),st')
    |_,_,_=>none
  | .call {callee:=.builtin .append,args:=⟨[x,y]⟩,argTypes:=⟨t0::t1::_⟩}=>
    if PG mv o.dst=true then
      match Pj E t0 t1 (rd E af t0 x) (rd E af t1 y)with
      |some r=>some (Ab (stripAt af x) o.dst (.sh st.next),{m:=(st.next,[r])::st.m,next:=st.next+1})
      |none=>(appW E x t0 t1 (rd E af t0 x) (rd E af t1 y) st).map λp=>(Ab af o.dst p.1,p.2)
    else match Il E t0 t1 (rd E af t0 x) (rd E af t1 y)with
      |some r=>some (Ab (stripAt af x) o.dst r,st)
      |none=>(ZO E t0 t1 (rd E af t0 x) (rd E af t1 y) st).map λst'=>(Ab af o.dst (.sh st.next),st')
  | .call {callee:=.builtin .len,args:=⟨[x]⟩,argTypes:=⟨t::_⟩}=>
    match DX E o af with
    |some r=>some (Ab af o.dst r.strip,st)
    |none=>(Z6 E t (rd E af t x) st).map λr=>(Ab af o.dst r,st)
  |.makeMap t none=>some (Ab af o.dst (.sh st.next),{m:=(st.next,[.map [] []])::st.m,next:=st.next+1})
  |.lookup t m k ok=>(TV E t (rd E af t m) (rd E af 0 k) ok st).map λr=>(Ab af o.dst r,st)
  |.mapUpdate t m k x=>if o.dst.isNone=true then(Uo E t (rd E af t m) (rd E af 0 k) (rd E af 0 x) st).map λst'=>(af,st')else none
  |.insert t m k x=>if o.dst.isNone=true then(Uo E t (rd E af t m) (rd E af 0 k) (rd E af 0 x) st).map λst'=>(af,st')else none
  | .indexAddr t x i=>
    match DX E o af with
    |some r=>some (Ab af o.dst r.strip,st)
    | none=>
      match Gi E t (rd E af t x) (rd E af 0 i) st with
      |some r=>some (Ab af o.dst r,st)
      |none=>(QK E t (rd E af t x) (rd E af 0 i) st).map λr=>(Ab af o.dst r,st)
  |.makeSlice t x y=>(if PG mv o.dst=true then Wu E t (rd E af 0 x) (rd E af 0 y) st else WE E t (rd E af 0 x) (rd E af 0 y) st).map λp=>(Ab af o.dst p.1,p.2)
  | .convert s d x=>
    match DX E o af with
    |some r=>some (Ab af o.dst r.strip,st)
    | none=>
      match Tu E s d (rd E af s x) st with
      |some r=>some (Ab af o.dst r,st)
      |none=>(Rv E s d (rd E af s x) st).map λp=>(Ab af o.dst p.1,p.2)
  |.call {callee:=.builtin .unsafeSliceData,args:=⟨[x]⟩,argTypes:=⟨t0::_⟩}=>(TM (rd E af t0 x)).map λr=>(Ab (stripAt af x) o.dst r,st)
  |.call {callee:=.builtin .unsafeString,args:=⟨[x,y]⟩,argTypes:=⟨[t0,t1]⟩}=>(XQ E t0 (rd E af t0 x) (rd E af t1 y)).map λr=>(Ab (stripAt af x) o.dst r,st)
  |_=>(DX E o af).map λr=>(Ab af o.dst r.strip,st)
section
variable{E:Env}{F:Nat->Nat}{Γ:Ghost}{st:St}{w:World}{af:List AVal}{a:Act}
theorem Ad2 (vs:List Value) (t:Nat) (d:Value):vs.set t (vs.getD t d)=vs:=by apply b9;grind
def Sim.newIter (hs:Sim E F Γ st w af a.tmps.toList) (sb:ByteArray) (p:Nat):Sim E F Γ st (w.iter sb p) af a.tmps.toList/\Ext F Γ w Γ (w.iter sb p):=by
 have hold: ∀n,n<w.heap.size->(w.iter sb p).heap[n]?=w.heap[n]?:=λn hn=>alloc_old (.stringIter sb p) hn;have hsz:(w.iter sb p).heap.size=w.heap.size+1:=by simp[World.iter]
 refine⟨hs.elsewhere (b:=w.heap.size) (λn hn _=>hold n hn) fx (hs.com_none (au _)) (λi hi h=>?_) ?_ ?_,⟨Γ.le_refl,λn hn=>⟨hold n (hs.F_of hn),rfl⟩,fx,rfl,rfl,rfl⟩⟩;·have:=hs.bx_lt _ _ h;omega
 ·rcases aS 0 (AO w.heap.size af a.tmps.toList)with h|h;·have:=(Bl _ _ hs.own h).1;omega
  omega
 ·rcases aS 0 (Ah Γ w w.heap.size st.m)with h|h;·have:=ZY hs h;omega
  omega
def Sim.iterTo (hs:Sim E F Γ st w af a.tmps.toList){t:Tmp}{s:B8}{pos:Nat} (hx:af.getD t .any=.iter s pos){b:Nat}{sb:ByteArray} (hv:a.tmps.toList.getD t undef=.pointer (some ⟨b,0,none⟩)) (hsb:sb.data.toList=s) (hh:w.heap[b]?=some (.stringIter sb pos)) (pos':Nat):Sim E F Γ st (w.iterAt b sb pos') (af.set t (.iter s pos')) a.tmps.toList/\Ext F Γ w Γ (w.iterAt b sb pos'):=by
 have e:=MP b af a.tmps.toList t undef hs.rep.length;rw[hx,hv]at e;have e1:cnt b (.iter s pos) (.pointer (some ⟨b,0,none⟩))=1:=by simp[cnt,Ql]
 rw[e1]at e;have e2:(AVal.iter s pos).strip=.any:=by simp[AVal.strip]
 rw[e2]at e;have tk:=hs.tok b;have hlt:b<w.heap.size:=(aH.1 hh).1;have hold: ∀n,n≠b->(w.iterAt b sb pos').heap[n]?=w.heap[n]?:=λn hn=>by grind[World.iterAt]
 have hsz:(w.iterAt b sb pos').heap.size=w.heap.size:=by simp[World.iterAt]
 have hnew:(w.iterAt b sb pos').heap[b]?=some (.stringIter sb pos'):=by grind[World.iterAt]
 have hs0:Sim E F Γ st w (af.set t .any) a.tmps.toList:=by have:=hs.stripAt (.tmp t);grind[VM.stripAt]
 have hcom:Γ.com b=none:=by cases hc:Γ.com b with|none=>rfl|some cs=>obtain⟨ar,e',fz,q2,_⟩:=hs.com_ok b cs hc;grind
 have s1:Sim E F Γ st (w.iterAt b sb pos') (af.set t .any) a.tmps.toList:=hs0.elsewhere (b:=b) (λn _ hn=>hold n hn) fx hcom (λi hi h=>by
  obtain⟨p,hp,rfl⟩:=bD.1 hi;rcases hs.box_ok p hp with⟨k,ar,e',hb⟩|⟨v,hv⟩;rotate_left;·have:=hv.bx;grind
  obtain⟨lo,hh2,q3,_⟩:=hb.heap;have:=hb.bx;grind) fx fx;refine⟨?_,⟨Γ.le_refl,λn hn=>⟨hold n (λe=>by grind),rfl⟩,fx,rfl,rfl,rfl⟩⟩;have hset:a.tmps.toList=a.tmps.toList.set t (.pointer (some ⟨b,0,none⟩)):=by grind[Ad2]
 have hss:af.set t (.iter s pos')=(af.set t .any).set t (.iter s pos'):=fy;rw[hss];have h5: ∀n,AO n ((af.set t .any).set t (.iter s pos')) a.tmps.toList<=AO n (af.set t .any) a.tmps.toList+cnt n (.iter s pos') (.pointer (some ⟨b,0,none⟩)):=λn=>by grind[HY]
 refine {s1 with rep:=?_,own:=?_,tok:=?_};·have:=s1.rep.set t (x:=.iter s pos') (v:=.pointer (some ⟨b,0,none⟩)) (.iter _ _ _);grind
 ·have:=s1.own.set t (x:=.iter s pos') (v:=.pointer (some ⟨b,0,none⟩)) (by simp only[VM.own];exact⟨b,sb,rfl,hsb,hnew⟩);grind
 ·intro n;have q1:=h5 n;have q2:=s1.tok n;by_cases hn:n=b
  ·subst hn;have q3:Ah Γ (w.iterAt n sb pos') n st.m=0:=by
    rw[EZ (w:=w) λp hp=>⟨rfl,λk hk=>hold k (λe=>by
     subst e;rcases hs.box_ok p hp with⟨k2,ar,e',hb⟩|⟨v,hv⟩;rotate_left;·have:=hv.bx;grind
     obtain⟨lo,hh2,q3,_⟩:=hb.heap;have:=hb.bx;grind)⟩];omega
   grind[cnt,Ql]
  grind[cnt,Ql]
def ZB{b:ByteArray}{s:B8} (h:b.data.toList=s):b=⟨s.toArray⟩:=by subst h;simp
theorem AT4 (hs:Sim E F Γ st w af a.tmps.toList){o:Oper}{t:TypeId}{x:Operand}{s:B8} (hop:o.op=.range t x) (hx:rd E af t x=.str s) (ht:C9 E.P t=true):∃nx w' a' Γ',Stepped E F Γ st w a o (Ab af o.dst (.iter s 0)) st nx w' a' Γ':=by
 have hr:=hs.rd t x;rw[hx]at hr;generalize hv:a.eval x=v at hr;cases hr;rename_i sb hn;have hrun:=run_range_string (P:=E.P) w t sb (CO ht);refine⟨.value (.pointer (some ⟨w.heap.size,0,none⟩)),w.iter sb 0,a.put o.dst (.pointer (some ⟨w.heap.size,0,none⟩)),Γ,?_,λK Q hk=>hk,put_defers _ _ _,?_,au _,?_⟩;·simp_all[execOp]
 ·exact(hs.newIter sb 0).2
 ·refine(hs.newIter sb 0).1.put o.dst (.iter _ _ _) ?_ ?_;·simp only[VM.own];exact⟨_,sb,rfl,rfl,World.iter_heap w sb 0⟩
  ·intro b;have h1:=hs.tok b;have h2:=(hs.newIter sb 0).1.tok b;simp only[cnt,Ql];split
   ·rename_i e;have h3:F b=0:=hs.F_lt b fx;have h4:AO b af a.tmps.toList=0:=by
     rcases aS 0 (AO b af a.tmps.toList)with h|h;·have:=(Bl _ _ hs.own h).1;omega
     omega
    have h5:Ah Γ (w.iter sb 0) b st.m=0:=by
     rw[EZ (Γ:=Γ) (w:=w) (w':=w.iter sb 0) λp hp=>⟨rfl,λk hk=>alloc_old (.stringIter sb 0) (hs.bx_lt _ _ hk)⟩];rcases aS 0 (Ah Γ w b st.m)with h|h;·have:=ZY hs h;omega
     omega
    omega
   omega
theorem AZP (hs:Sim E F Γ st w af a.tmps.toList){o:Oper}{t:Tmp}{s:B8}{pos:Nat} (hop:o.op=.next (.tmp t) true) (hx:af.getD t .any=.iter s pos):∃nx w' a' Γ',Stepped E F Γ st w a o (ADh s pos t o.dst af) st nx w' a' Γ':=by
 have ho:=hs.own.get hs.rep.length t undef;rw[hx]at ho;simp only[VM.own]at ho;obtain⟨b,sb,hv,hsb,hh⟩:=ho;have hev:a.eval (.tmp t)=.pointer (some ⟨b,0,none⟩):=by grind[Act.eval,Array.getD_toList']
 have hlen:sb.size=s.length:=by rw[<-hsb,aC];rfl
 unfold ADh;split
 ·rename_i hlt;have hlt:pos<sb.size:=by grind
  have hrun:=Go.Lib.run_next_any_at (P:=E.P) w b sb pos o.type hh hlt;have hde:Utf8.decode sb pos=Cz s pos:=by rw[ZB hsb];rfl
  rw[hde]at hrun;obtain⟨s1,x1⟩:=hs.iterTo (t:=t) hx hv hsb hh (pos+(Cz s pos).2);refine⟨.value (.tuple #[.bool true,.int .i64 pos,.int .i32 (Cz s pos).1]),w.iterAt b sb (pos+(Cz s pos).2),a.put o.dst (.tuple #[.bool true,.int .i64 pos,.int .i32 (Cz s pos).1]),Γ,?_,λK Q hk=>hk,put_defers _ _ _,x1,au _,?_⟩;·simp_all[execOp]
  ·refine s1.put o.dst (r:=.tuple [.bool true,.int .i64 pos,.int .i32 (Cz s pos).1]) (.tuple (.cons (.bool _) (.cons (.int _ _) (.cons (.int _ _) .nil)))) (by simp[VM.own,ownL]) λn=>?_;have:=s1.tok n;grind[cnt,AO]
 ·rename_i hlt;have hlt: ¬pos<sb.size:=by grind
  have hrun:=Go.Lib.run_next_end_at (P:=E.P) w b sb pos o.type hh hlt;refine⟨.value (.tuple #[.bool false]),w,a.put o.dst (.tuple #[.bool false]),Γ,?_,λK Q hk=>hk,put_defers _ _ _,Ext.refl _ _ _,au _,?_⟩;·simp_all[execOp]
  ·refine hs.put o.dst (r:=.tuple [.bool false]) (.tuple (.cons (.bool _) .nil)) (by simp[VM.own,ownL]) λn=>?_;have:=hs.tok n;grind[cnt,AO]
def SC (hs:Sim E F Γ st w af a.tmps.toList){mv:List Tmp}{o:Oper}{af':List AVal}{st':St} (h:D8 E mv o af st=some (af',st')):∃nx w' a' Γ',Stepped E F Γ st w a o af' st' nx w' a' Γ':=by
 unfold D8 at h;split at h
 ·rename_i x hop;split at h
  ·split at h;·rename_i hz;simp only[ae,az]at h;obtain⟨rfl,rfl⟩:=h;exact AWm hs hop hz
   ·split at h;·rename_i hz;simp only[ae,az]at h;obtain⟨rfl,rfl⟩:=h;exact AZK hs hop hz
    ·simp only[ae,az]at h;obtain⟨rfl,rfl⟩:=h;exact Xi hs (.inl hop)
  ·simp only[ae,az]at h;obtain⟨rfl,rfl⟩:=h;exact⟨.value (a.eval x),w,a.put o.dst (a.eval x),Γ,by simp[execOp,hop],λK Q hk=>hk,put_defers _ _ _,Ext.refl _ _ _,au _,hs.putStrip o.dst (hs.rd o.type x)⟩
 ·rename_i x hop;split at h
  ·split at h;·rename_i hz;simp only[ae,az]at h;obtain⟨rfl,rfl⟩:=h;exact AN3 hs hz
   ·split at h;·rename_i z hz;simp only[ae,az]at h;obtain⟨rfl,rfl⟩:=h;exact AT0 hs hop hz
    ·simp only[ae,az]at h;obtain⟨rfl,rfl⟩:=h;exact Xi hs (.inr hop)
  ·simp only[ae,az]at h;obtain⟨rfl,rfl⟩:=h;exact Xi hs (.inr hop)
 ·rename_i t hop;split at h;·cases hz:VF E.P t st.next with|none=>grind|some z=>simp only[hz,aK,ae,az]at h;obtain⟨rfl,rfl⟩:=h;grind[AOU]
  ·cases hz:CX E.P t st.next with|none=>grind|some z=>simp only[hz,aK,ae,az]at h;obtain⟨rfl,rfl⟩:=h;grind[AWO]
 ·rename_i t x hop;split at h;·rename_i hx;simp only[ae,az]at h;obtain⟨rfl,rfl⟩:=h;grind[AUK]
  grind
 ·rename_i t ps hop;cases hz:TG E t (BO E (AP E.P t) af ps).2 with|none=>grind|some z=>simp only[hz,aK,ae,az]at h;obtain⟨rfl,rfl⟩:=h;grind[AVu]
 ·rename_i t len ps hop;split at h;·cases hz:Ia E t len (BO E (λ_=>AP E.P t 0) af ps).2 with|none=>grind|some z=>obtain⟨z,cs⟩:=z;simp only[hz,aK,ae,az]at h;obtain⟨rfl,rfl⟩:=h;grind[Xe]
  cases hz:Gz E t len (BO E (λ_=>AP E.P t 0) af ps).2 with|none=>grind|some z=>simp only[hz,aK,ae,az]at h;obtain⟨rfl,rfl⟩:=h;grind[ZI]
 ·rename_i t x hop;split at h;·cases hz:RO E t (rd E af 0 x) st with|none=>grind|some z=>obtain⟨r,s⟩:=z;simp only[hz,aK,ae,az]at h;obtain⟨rfl,rfl⟩:=h;grind[ATB]
  ·cases hz:Rb E t (rd E af 0 x) st with|none=>grind|some z=>simp only[hz,aK,ae,az]at h;obtain⟨rfl,rfl⟩:=h;grind[Ab5]
 ·rename_i t x y hop;split at h;·rename_i hd;cases hz:OP E t (rd E af 0 x) (rd E af t y) st with|none=>grind|some z=>simp only[hz,aK,ae,az]at h;obtain⟨rfl,rfl⟩:=h;exact AUR hs hop (by simp_all) hz
  grind
 ·rename_i t n hop;split at h;·rename_i vs hv;cases hz:vs[n]? with|none=>grind|some z=>simp only[hz,aK,ae,az]at h;obtain⟨rfl,rfl⟩:=h;exact AFR hs hop hv hz
  grind
 ·rename_i t x hop;split at h
  ·rename_i s hx;split at h;·rename_i ht;simp only[ae,az]at h;obtain⟨rfl,rfl⟩:=h;grind[AT4]
   grind
  grind
 ·rename_i t hop;split at h;·rename_i s pos hx;simp only[ae,az]at h;obtain⟨rfl,rfl⟩:=h;grind[AZP]
  grind
 ·rename_i t x lo hi mx hop;split at h
  ·rename_i l hh m h1 h2 h3;split at h;·rename_i r hz;simp only[ae,az]at h;obtain⟨rfl,rfl⟩:=h;exact AWP hs hop h1 h2 h3 hz
   ·cases hz:RD E t (rd E af t x) l hh m st with|none=>rw[hz]at h;cases h|some z=>simp only[hz,aK,ae,az]at h;obtain⟨rfl,rfl⟩:=h;exact ASn hs hop h1 h2 h3 hz
  grind
 ·rename_i x y t0 t1 ts hop;split at h
  ·split at h;·rename_i z hz;simp only[ae,az]at h;obtain⟨rfl,rfl⟩:=h;grind[AGD]
   ·cases hz:appW E x t0 t1 (rd E af t0 x) (rd E af t1 y) st with|none=>rw[hz]at h;cases h|some z=>obtain⟨r,s⟩:=z;simp only[hz,aK,ae,az]at h;obtain⟨rfl,rfl⟩:=h;exact Aam hs hop hz
  split at h;·rename_i z hz;simp only[ae,az]at h;obtain⟨rfl,rfl⟩:=h;grind[AQL]
  ·cases hz:ZO E t0 t1 (rd E af t0 x) (rd E af t1 y) st with|none=>rw[hz]at h;cases h|some z=>simp only[hz,aK,ae,az]at h;obtain⟨rfl,rfl⟩:=h;exact ADc hs hop hz
 ·rename_i x t0 ts hop;split at h;·rename_i r hz;simp only[ae,az]at h;obtain⟨rfl,rfl⟩:=h;grind[Ub]
  ·cases hz:Z6 E t0 (rd E af t0 x) st with|none=>rw[hz]at h;cases h|some z=>simp only[hz,aK,ae,az]at h;obtain⟨rfl,rfl⟩:=h;exact Abe hs hop hz
 ·rename_i t hop;simp only[ae,az]at h;obtain⟨rfl,rfl⟩:=h;grind[AKN]
 ·rename_i t m k ok hop;cases hz:TV E t (rd E af t m) (rd E af 0 k) ok st with|none=>grind|some z=>simp only[hz,aK,ae,az]at h;obtain⟨rfl,rfl⟩:=h;grind[AVC]
 ·rename_i t m k x hop;split at h;·rename_i hd;cases hz:Uo E t (rd E af t m) (rd E af 0 k) (rd E af 0 x) st with|none=>grind|some z=>simp only[hz,aK,ae,az]at h;obtain⟨rfl,rfl⟩:=h;exact ADF hs (.inl hop) (by simp_all) hz
  grind
 ·rename_i t m k x hop;split at h;·rename_i hd;cases hz:Uo E t (rd E af t m) (rd E af 0 k) (rd E af 0 x) st with|none=>grind|some z=>simp only[hz,aK,ae,az]at h;obtain⟨rfl,rfl⟩:=h;exact ADF hs (.inr hop) (by simp_all) hz
  grind
 ·rename_i t x i hop;split at h;·rename_i r hz;simp only[ae,az]at h;obtain⟨rfl,rfl⟩:=h;grind[Ub]
  ·split at h;·rename_i r hz;simp only[ae,az]at h;obtain⟨rfl,rfl⟩:=h;grind[ZE]
   ·cases hz:QK E t (rd E af t x) (rd E af 0 i) st with|none=>rw[hz]at h;cases h|some z=>simp only[hz,aK,ae,az]at h;obtain⟨rfl,rfl⟩:=h;exact AQj hs hop hz
 ·rename_i t x y hop;split at h;·cases hz:Wu E t (rd E af 0 x) (rd E af 0 y) st with|none=>grind|some z=>simp only[hz,aK,ae,az]at h;obtain⟨rfl,rfl⟩:=h;grind[AUC]
  ·cases hz:WE E t (rd E af 0 x) (rd E af 0 y) st with|none=>grind|some z=>simp only[hz,aK,ae,az]at h;obtain⟨rfl,rfl⟩:=h;grind[AdN]
 ·rename_i s d x hop;split at h;·rename_i r hz;simp only[ae,az]at h;obtain⟨rfl,rfl⟩:=h;grind[Ub]
  ·split at h;·rename_i r hz;simp only[ae,az]at h;obtain⟨rfl,rfl⟩:=h;grind[AWZ]
   ·cases hz:Rv E s d (rd E af s x) st with|none=>grind|some z=>simp only[hz,aK,ae,az]at h;obtain⟨rfl,rfl⟩:=h;grind[AV1]
 ·rename_i x t0 ts hop;cases hz:TM (rd E af t0 x)with|none=>grind|some z=>simp only[hz,aK,ae,az]at h;obtain⟨rfl,rfl⟩:=h;grind[AUL]
 ·rename_i x y t0 t1 hop;cases hz:XQ E t0 (rd E af t0 x) (rd E af t1 y)with|none=>grind|some z=>simp only[hz,aK,ae,az]at h;obtain⟨rfl,rfl⟩:=h;grind[AdS]
 ·cases hz:DX E o af with|none=>grind|some z=>simp only[hz,aK,ae,az]at h;obtain⟨rfl,rfl⟩:=h;grind[Ub]
end
def rdL (E:Env) (af:List AVal):List Operand->List TypeId->List AVal|[],_=>[]|x::xs,[]=>rd E af 0 x::rdL E af xs []|x::xs,t::ts=>rd E af t x::rdL E af xs ts
def callable (P:Program) (g:FuncId):Bool:=match P.funcs[g]? with | some fn=>fn.name != "runtime.NumGoroutine" && fn.body.isSome|none=>false
def Atq (E:Env) (g:FuncId) (args:List AVal) (st:St) (Q:AVal->St->Prop):Prop:=∃ fn e r,E.P.funcs[g]? = some fn/\(fn.name == "runtime.NumGoroutine") = false/\fn.body.isNone = true/\Extern.findNext fn = none/\Extern.find fn = some e/\(∀Γ vs w,RepL Γ args vs->∃v,(e vs.toArray).run E.P w=.ok v w/\Rep Γ r v)/\Q r.strip st
def AuG (E:Env) (g:FuncId) (args:List AVal) (st:St) (Q:AVal->St->Prop):Prop:=∃ fn ps t el,∃ n : Nat,E.P.funcs[g]? = some fn/\(fn.name == "runtime.NumGoroutine") = false/\fn.body.isNone = true/\Extern.findNext fn = none/\Extern.find fn = some (Extern.BytealgMakeNoZero.makeNoZero ps #[t])/\E.P.underlying t=some (.slice el)/\1<=n/\n<=140737488355328/\args=[.int .i64 n]/\Q (.trow el st.next n) {m:=(st.next,[.any])::st.m,next:=st.next+1}
def Yj (E:Env) (g:FuncId) (args:List AVal) (st:St) (Q:AVal->St->Prop):Prop:=Atq E g args st Q\/AuG E g args st Q
def Zx: ∀(n t:Nat) (acc:Array Value),(∀v,v∈acc.toList->v.oneCell'=true)->∀v,v∈(Extern.BytealgMakeNoZero.digits n t acc).toList->v.oneCell'=true
 |0,_,_,h=>h
 |n+1,t,acc,h=>by
  rw[Extern.BytealgMakeNoZero.digits];refine Zx n _ _ λv hv=>?_;rw[Array.toList_push,aX]at hv;rcases hv with hv|hv;·grind
  ·rw[aV]at hv;subst hv;rfl
def Ant{P:Program} (w:World) (ps:Array TypeId) (t e:TypeId) (ht:P.underlying t=some (.slice e)) (n:Nat) (hn:n<=281474976710656):
    ∃cs:Array Value,(Extern.BytealgMakeNoZero.makeNoZero ps #[t] #[.int .i64 n]).run P w=.ok (.slice (some ⟨w.heap.size,0,none⟩) n cs.size) (w.drew.drew.alloc (.cells cs e))/\n<=cs.size/\ ∀v,v∈cs.toList->v.oneCell'=true:=by
  have h1: ¬(n:Int)<0:=fx
  have h2: ¬(281474976710656:Int)<(n:Int):=fx
  refine ⟨Extern.BytealgMakeNoZero.digits (grownCap w n 0 e) ((Question.extern "internal/bytealg.MakeNoZero.bytes" 0).cut (w.tape (w.drawn + 1) (.extern "internal/bytealg.MakeNoZero.bytes" 0))) #[], ?_, ?_, Zx _ _ _ fy⟩
  . show Sem.run P (do
        let TypeDesc.slice el<-underlying t|stuck _
        if(n:Int)<0||(n:Int)>2^48 then runtimePanic _
        let c<-choose (.appendCap (n:Int).toNat 0 el)
        askRoom c
        let bs<-choose (.extern _ 0)
        let a<-newRow el (Extern.BytealgMakeNoZero.digits c bs #[])
        pure (Value.slice (some a) (n:Int).toNat c):Sem Value) w=_
    simp[aE ht,h1,h2,Question.forced,newRow,Go.Lib.size_digits,grownCap]
  grind[Go.Lib.size_digits,grownCap_ge]
def CallX (E:Env) (g:FuncId) (args:List AVal) (st:St) (Q:AVal->St->Prop):Prop:=if callable E.P g=true then ACall E g args st Q else Yj E g args st Q
def CallX.mono{E:Env}{st:St}{g:FuncId}{args:List AVal}{Q Q':AVal->St->Prop} (h:CallX E g args st Q) (k: ∀r st',st.next<=st'.next->Q r st'->Q' r st'):CallX E g args st Q':=by
 unfold CallX at *;split;·rename_i hc;rw[aq hc]at h;exact h.mono k
 ·rename_i hc;rw[an hc]at h;rcases h with h|h;·obtain⟨fn,e,r,h1,h2,h3,h4,h5,h6,h7⟩:=h;exact .inl ⟨fn,e,r,h1,h2,h3,h4,h5,h6,k _ _ (au _) h7⟩
  ·obtain⟨fn,ps,t,el,n,h1,h2,h3,h4,h5,h6,h7,h8,h9,h10⟩:=h;exact .inr ⟨fn,ps,t,el,n,h1,h2,h3,h4,h5,h6,h7,h8,h9,k _ _ (fp _) h10⟩
def Sl:AVal->Bool|.gsl _ _ _=>true|_=>false
def AAG (x y:AVal):Bool:=Sl y||Sl x
def Un:BinOp->Operand->Bool|.eql,.const (.slice none 0 0)=>true|_,_=>false
def AlV (b:Bool) (v:AVal) (K:AVal->Prop):Prop:=match b,v with|true,.slice _ xs _=>∀c:Bool,(c=true->xs=[])->K (.bool c)|_,_=>False
def Cu (E:Env) (mv:List Tmp) (o:Oper) (af:List AVal) (st:St) (K:List AVal->St->Prop):Prop:=match o.op with
 |.call {callee:=.value f,args,argTypes}=>match rd E af 0 f with|.fn (.func g) p q=>CallX E g (stripL (p++rdL E af args.toList argTypes.toList++q)) st λr st'=>K (Ab af o.dst r) st'|_=>False
 |.call {callee:=.builtin .append,args:=⟨[x,y]⟩,argTypes:=⟨t0::t1::_⟩}=>if AAG (rd E af t0 x) (rd E af t1 y)=true then match appG E t0 t1 (rd E af t0 x) (rd E af t1 y) st with|some (wd,l,cs,rest,jo)=>∀i,i=st.next\/jo=some i->K (Ab af o.dst (.gsl wd i l)) {m:=(i,cs)::rest,next:=st.next+1}|none=>False else match D8 E mv o af st with|some (af',st')=>K af' st'|none=>False
 |.binOp op t x y _=>if Un op y=true then AlV (BP E.P t) (rd E af t x) λv=>K (Ab af o.dst v) st else match D8 E mv o af st with|some (af',st')=>K af' st'|none=>False
 |_=>match D8 E mv o af st with|some (af',st')=>K af' st'|none=>False
def Axe (E:Env) (o:Oper) (af:List AVal) (st:St) (K:List AVal->St->Prop):Prop:=∀(F:Nat->Nat) (Γ:Ghost) (w:World) (a:Act),a.defers=[]->Sim E F Γ st w af a.tmps.toList->∀(K':Act->World->Prop) (Qx:Exit->Act->World->Prop),(∀Γ' af' st' a' w',Ext F Γ w Γ' w'->st.next<=st'.next->a'.defers=[]->Sim E F Γ' st' w' af' a'.tmps.toList->K af' st'->K' a' w')->o.wp E.P a w K' Qx
section
variable{E:Env}{F:Nat->Nat}{Γ:Ghost}{st:St}{w:World}{af:List AVal}{a:Act}
def RepL.append{xs ys:List AVal}{us vs:List Value} (h:RepL Γ xs us) (k:RepL Γ ys vs):RepL Γ (xs++ys) (us++vs):=by induction xs generalizing us with|nil=>cases h;exact k|cons x xs ih=>cases h with|cons h t=>exact .cons h (ih t)
def ANo (hs:Sim E F Γ st w af a.tmps.toList): ∀(xs:List Operand) (ts:List TypeId),RepL Γ (rdL E af xs ts) (xs.map a.eval)|[],_=>.nil|x::xs,[]=>.cons (hs.rd _ x) (ANo hs xs [])|x::xs,t::ts=>.cons (hs.rd _ x) (ANo hs xs ts)
def Sim.aside (hs:Sim E F Γ st w af a.tmps.toList){xs:List AVal}{vs:List Value} (hr:RepL Γ xs vs):Sim E (λb=>F b+AO b af a.tmps.toList) Γ st w (stripL xs) vs:=by
 refine {hs with bx_F:=?_,F_lt:=?_,rep:=hr.strip,own:=Jf _ _ _ _,tok:=?_}
 ·intro p b hp hb;have h1:=hs.bx_F p b hp hb;have h2:AO b af a.tmps.toList=0:=by
   rcases aS 0 (AO b af a.tmps.toList)with h|h
   ·rcases hs.box_ok p hp with⟨b',arr,e,hk⟩|⟨v,hv⟩;rotate_left;·have:=hv.bx;grind
    have:=hk.bx;rw[hb]at this;cases this;rcases (Bl _ _ hs.own h).2 with⟨c,hc⟩|⟨s0,p0,hc⟩|⟨s0,p0,hc⟩;·rw[hk.com]at hc;grind
    ·obtain⟨lo,hi,hh,_⟩:=hk.heap;grind
    ·obtain⟨lo,hi,hh,_⟩:=hk.heap;grind
   omega
  omega
 ·intro b hb;have h1:=hs.F_lt b hb;have h2:AO b af a.tmps.toList=0:=by
   rcases aS 0 (AO b af a.tmps.toList)with h|h;·have:=(Bl _ _ hs.own h).1;omega
   omega
  omega
 ·intro b;have:=hs.tok b;grind[Hz]
def Sim.back (hs:Sim E F Γ st w af a.tmps.toList){Γ':Ghost}{st':St}{w':World}{r:AVal}{v:Value} (hx:Ext (λb=>F b+AO b af a.tmps.toList) Γ w Γ' w') (h:Sim E (λb=>F b+AO b af a.tmps.toList) Γ' st' w' [r] [v]) (dst:Option Tmp):Sim E F Γ' st' w' (Ab af dst r) (a.put dst v).tmps.toList:=by
 have hown:ownL Γ' w' af a.tmps.toList:=Be hx.le _ _ hs.own λb hb=>hx.keep b fx;have hmid:Sim E F Γ' st' w' af a.tmps.toList:=by
  refine {h with bx_F:=?_,F_lt:=?_,rep:=hs.rep.mono hx.le,own:=hown,tok:=?_};·intro p b hp hb;have:=h.bx_F p b hp hb;omega
  ·intro b hb;have:=h.F_lt b hb;omega
  ·intro b;have:=h.tok b;omega
 have hr:Rep Γ' r v:=by have:=h.rep;cases this;omega
 have ho:VM.own Γ' w' r v:=by have:=h.own;grind[ownL]
 refine hmid.put dst hr ho λb=>?_;have:=h.tok b;grind[AO,cnt]
def ACg{P:Program}{w:World}{t e:TypeId} (h:P.underlying t=some (.slice e)) (p:Option Addr) (n k:Nat):(binOp .eql t (.slice p n k) (.slice none 0 0)).run P w=.ok (.bool p.isNone) w:=by
 have key: ∀d:Nat,(Op.equalIn (d+1) t (.slice p n k) (.slice none 0 0)).run P w=.ok p.isNone w:=λd=>by cases p<;>simp[Op.equalIn,aE h]
 simp_all[binOp,Op.equal,Op.maxDepth]
def AXo{op:BinOp}{y:Operand} (h:Un op y=true):op=.eql/\y=.const (.slice none 0 0):=by
 unfold Un at h;split at h;·exact⟨rfl,rfl⟩
 ·cases h
theorem VD {mv:List Tmp}{o:Oper}{K:List AVal->St->Prop} (h:Cu E mv o af st K):Axe E o af st K:=by
 intro F Γ w a hd hs K' Qx hK;unfold Cu at h;split at h
 ·rename_i f args ts hop;have hf:=hs.rd 0 f;split at h
  ·rename_i g p q e;rw[e]at hf;generalize hfv:a.eval f=fv at hf;cases hf with
   | fn hp hq=>
    rename_i vp vq;have hargs:=ANo hs args.toList ts.toList;have hall:=hp.append (hargs.append hq);rw[<-aM]at hall;unfold CallX at h;split at h;rotate_left
    ·rcases h with h|h
     ·obtain⟨fn,e2,r,h1,h2,h3,h4,h5,h6,h7⟩:=h;obtain⟨v,hv,hr⟩:=h6 Γ (vp.toList++args.toList.map a.eval++vq.toList) w (by have:=hall.strip;grind);have harr:(vp.toList++args.toList.map a.eval++vq.toList).toArray=vp++args.map a.eval++vq:=by simp
      rw[harr]at hv;have hrun:(execOp a.eval o).run E.P w=.ok (.value v) w:=by grind[run_callFunc_extern,execOp,resolve,Deferred.ofValue,Sem.run_bind,Sem.run_pure,Result.andThen_ok,invoke]
      unfold Oper.wp;rw[hrun];exact hK Γ _ st (a.put o.dst v) w (Ext.refl _ _ _) (au _) (by grind[put_defers]) (hs.putStrip o.dst hr) h7
     ·obtain⟨fn,ps,t,el,n,h1,h2,h3,h4,h5,h6,h7,h8,h9,h10⟩:=h;have hst:=hall.strip;have harr:(vp.toList++args.toList.map a.eval++vq.toList).toArray=vp++args.map a.eval++vq:=by simp
      obtain⟨v0,hv0,hrv⟩: ∃v0,vp.toList++args.toList.map a.eval++vq.toList=[v0]/\Rep Γ (.int .i64 n) v0:=by
       have hst':RepL Γ [.int .i64 n] (vp.toList++args.toList.map a.eval++vq.toList):=by grind
       generalize vp.toList++args.toList.map a.eval++vq.toList=vs at hst';cases hst' with|cons q t=>cases t;grind
      cases hrv;rw[hv0]at harr;obtain⟨cs,r1,r2,r3⟩:=Ant (P:=E.P) w ps t el h6 n fx;have hrun:(execOp a.eval o).run E.P w=.ok (.value (.slice (some ⟨w.drew.drew.heap.size,0,none⟩) n cs.size)) (w.drew.drew.alloc (.cells cs el (0,0))):=by have hcf:=run_callFunc_extern (P:=E.P) h1 h2 h3 h4 h5 (vp++args.map a.eval++vq) w;rw[<-harr]at hcf;rw[r1]at hcf;simp only[execOp,hop,resolve,hfv,Deferred.ofValue,aI,bf,aB,invoke];rw[<-harr,hcf];rfl
      have hx:Ext F Γ w Γ w.drew.drew:=⟨Γ.le_refl,λ_ _=>⟨rfl,rfl⟩,au _,rfl,rfl,rfl⟩;obtain⟨nx,w',a',Γ',hp⟩:=YX (o:=o) (r:=.trow el st.next n) (w1:=w.drew.drew) (cells:=cs) (e:=el) (cs:=[.any]) (fz:=(0,0)) (cap:=cs.size) (len:=n) hs hs.drew.drew hx fy (by
       have hl:1<=cs.toList.length:=by grind
       match hc:cs.toList,hl with|v::vs,_=>exact .cons (.any v) .nil) (λv hv=>r3 v (di hv)) (λx hx=>by grind[VM.own,cnt]) (λΓ' q1 q2=>.trow q1 q2 ⟨r2,by grind[Bg]⟩ rfl) (λ_ _ _=>by simp[VM.own]) (λ_ _=>by simp[cnt]) hrun;unfold Oper.wp;rw[hp.run];exact hp.upon _ _ (hK Γ' _ _ a' w' hp.ext hp.next (by rw[hp.defers];omega) hp.sim h10)
    rename_i hcall;have hac:=h;have hrun:(execOp a.eval o).run E.P w=.ok (.enter g (vp++args.map a.eval++vq)) w:=by
     unfold callable at hcall;split at hcall
     ·rename_i fn hfn;simp only[av,eZ,eN]at hcall;have hb:fn.body.isNone=false:=by have:=hcall.2;cases hfb:fn.body<;>simp_all
      simp only[execOp,hop,resolve,hfv,Deferred.ofValue,aI,bf,aB,invoke,callFunc,run_program,hfn];have hname : (fn.name == "runtime.NumGoroutine") = false:=by grind
      simp only[hname,hb,aj,aA];rfl
     grind
    have key:=hac.go (λb=>F b+AO b af a.tmps.toList) Γ w (vp++args.map a.eval++vq) (by have e2:(vp++args.map a.eval++vq).toList=vp.toList++(args.toList.map a.eval++vq.toList):=fy;rw[e2,<-aM];refine hs.aside ?_;grind);unfold Oper.wp;rw[hrun,Oper.upon_enter];refine key.mono ?_;rintro e' w' ⟨v,rfl,Γ',r,st',x1,n1,s1,q1⟩;exact hK Γ' _ st' (a.put o.dst v) w' (x1.less λb=>by omega) n1 (by grind[put_defers]) (hs.back x1 s1 o.dst) q1
  grind
 ·rename_i x y t0 t1 ts hop;split at h
  ·split at h;·rename_i wd l cs rest jo hab;obtain⟨i,hi,nx,w',a',Γ',hp⟩:=Adk hs hop hab;unfold Oper.wp;rw[hp.run];exact hp.upon _ _ (hK Γ' _ _ a' w' hp.ext hp.next (by rw[hp.defers];omega) hp.sim (h i hi))
   grind
  ·split at h;·rename_i af' st' hst;obtain⟨nx,w',a',Γ',hp⟩:=SC hs hst;unfold Oper.wp;rw[hp.run];exact hp.upon _ _ (hK Γ' af' st' a' w' hp.ext hp.next (by rw[hp.defers];omega) hp.sim h)
   grind
 ·rename_i op t x y _ hop;split at h
  ·rename_i hn;obtain⟨rfl,rfl⟩:=AXo hn;have hx:=hs.rd t x;unfold AlV at h;split at h
   ·rename_i xs ow ht hr;rw[hr]at hx;obtain⟨e,hu⟩: ∃e,E.P.underlying t=some (.slice e):=by grind[BP]
    have main: ∀(p:Option Addr) (n k:Nat),a.eval x=.slice p n k->(p.isNone=true->xs=[])->o.wp E.P a w K' Qx:=by
     intro p n k hv hc;have hrun:(execOp a.eval o).run E.P w=.ok (.value (.bool p.isNone)) w:=by simp only[execOp,hop];have hc:a.eval (.const (.slice none 0 0))=.slice none 0 0:=rfl;simp[hv,hc,eqGuard,ACg hu]
     unfold Oper.wp;rw[hrun];exact hK Γ _ st (a.put o.dst (.bool p.isNone)) w (Ext.refl _ _ _) (au _) (by grind[put_defers]) (hs.putStrip o.dst (.bool _)) (h _ hc)
    generalize hv:a.eval x=v at hx;cases hx with|snil w o a=>simp_all|slice=>grind
   grind
  ·split at h;·rename_i af' st' hst;obtain⟨nx,w',a',Γ',hp⟩:=SC hs hst;unfold Oper.wp;rw[hp.run];exact hp.upon _ _ (hK Γ' af' st' a' w' hp.ext hp.next (by rw[hp.defers];omega) hp.sim h)
   grind
 ·split at h;·rename_i af' st' hst;obtain⟨nx,w',a',Γ',hp⟩:=SC hs hst;unfold Oper.wp;rw[hp.run];exact hp.upon _ _ (hK Γ' af' st' a' w' hp.ext hp.next (by rw[hp.defers];omega) hp.sim h)
  grind
def gd (x:AVal) (want:Bool):Option Bool:=match x with|.bool b=>some (b==want)|.tuple []=>some false|_=>none
def gdA (ops:Array Oper) (af:List AVal) (j:Nat) (want:Bool):Option Bool:=match(ops[j]?).bind (·.dst)with|some d=>gd (af.getD d .any) want|none=>none
def Lt (E:Env) (mv:List Tmp) (ops:Array Oper):List Oper->(List AVal->St->Prop)->List AVal->St->Prop|[],K,af,st=>K af st|o::rest,K,af,st=>match o.guard with|none=>Cu E mv o af st (Lt E mv ops rest K)|some (j,want)=>match gdA ops af j want with|some true=>Cu E mv o af st (Lt E mv ops rest K)|some false=>Lt E mv ops rest K (Ab af o.dst (.tuple [])) st|none=>False
def Ud (hs:Sim E F Γ st w af a.tmps.toList){ops:Array Oper}{j:Nat}{want t:Bool} (h:gdA ops af j want=some t):(yielded ops a.tmps j==some want)=t:=by
 unfold gdA at h;split at h
 ·rename_i d hd;have hr:=hs.rep.get d undef;unfold yielded;rw[hd];simp only[aa];unfold gd at h;have hlt:d<a.tmps.size:=by
   rcases aS d a.tmps.size with h'|h';·omega
   ·have:af.length=a.tmps.size:=by rw[hs.rep.length,aC]
    grind
  have e:a.tmps.toList.getD d undef=a.tmps[d]:=by grind
  rw[e]at hr;rw[cH hlt];generalize a.tmps[d]=v at hr;split at h;·rename_i b hb;rw[hb]at hr;cases hr;grind[Option.some.injEq]
  ·rename_i hb;rw[hb]at hr;cases hr;grind
  grind
 grind
def Pf{ops:Array Oper}{o:Oper}{tmps:Array Value}{j:Nat}{want:Bool} (hg:o.guard=some (j,want)):Region.wanted o (yielded ops tmps)=(yielded ops tmps j==some want):=by grind[Region.wanted]
def Sim.skipped (hs:Sim E F Γ st w af a.tmps.toList) (d:Option Tmp):Sim E F Γ st w (Ab af d (.tuple [])) (a.put d undef).tmps.toList:=hs.put d (r:=.tuple []) (v:=undef) (.tuple .nil) (by simp[VM.own,undef,ownL]) λn=>by have:=hs.tok n;grind[cnt,undef,AO]
def AP8{mv:List Tmp}{ops:Array Oper}{Qc:Exit->Act->World->Prop}: ∀(rest:List Oper) (i:Nat),ops.toList.drop i=rest->∀ {K:List AVal->St->Prop}{F:Nat->Nat}{Γ:Ghost}{st:St}{w:World}{af:List AVal}{a:Act},a.defers=[]->Sim E F Γ st w af a.tmps.toList->Lt E mv ops rest K af st->(∀Γ' af' st' a' w',Ext F Γ w Γ' w'->st.next<=st'.next->a'.defers=[]->Sim E F Γ' st' w' af' a'.tmps.toList->K af' st'->Qc .normal a' w')->wpOps E.P ops Qc (List.range' i rest.length) a w:=by
 intro rest;induction rest with
 |nil=>intro i hi K F Γ st w af a hd hs h hK;exact hK Γ af st a w (Ext.refl _ _ _) (au _) hd hs h
 | cons o rest ih=>
  intro i hi K F Γ st w af a hd hs h hK;have hoi:ops[i]?=some o:=by
   have:ops.toList[i]?=some o:=by have:=bu (·[0]?) hi;grind
   grind
  have hi':ops.toList.drop (i+1)=rest:=by grind[List.tail_drop]
  rw[ag,cU];simp only[wpOps,hoi];have go:Cu E mv o af st (Lt E mv ops rest K)->o.wp E.P a w (wpOps E.P ops Qc (List.range' (i+1) rest.length)) Qc:=λh=>VD h F Γ w a hd hs _ _ λΓ' af' st' a' w' x1 n1 d1 s1 k1=>ih (i+1) hi' d1 s1 k1 λΓ2 af2 st2 a2 w2 x2 n2 d2 s2 k2=>hK Γ2 af2 st2 a2 w2 (x1.trans x2) (bG n1 n2) d2 s2 k2;simp only[Lt]at h;split at h;·simp_all[Region.wanted]
  ·rename_i j want hg;split at h;·rename_i hgd;rw[aq (by rw[Pf hg,Ud hs hgd])];grind
   ·rename_i hgd;rw[an (by rw[Pf hg,Ud hs hgd];simp)];exact ih (i+1) hi' (by grind[put_defers]) (hs.skipped o.dst) h λΓ2 af2 st2 a2 w2 x2 n2 d2 s2 k2=>hK Γ2 af2 st2 a2 w2 x2 n2 d2 s2 k2
   grind
def VX{Q:APost}{id:Nat}{ops:Array Oper} (mv:List Tmp) (h:Lt E mv ops ops.toList (λaf st=>Q .normal af st) af st):AWp E (.region id ops false) Q af st:=by constructor;intro F Γ w a hd hs;refine wp_region ?_;have key:=AP8 (Qc:=lift E F Γ w st.next Q) ops.toList 0 rfl hd hs h λΓ' af' st' a' w' x1 n1 d1 s1 k1=>⟨trivial,d1,Γ',af',st',x1,n1,s1,k1⟩;grind[Array.length_toList,List.range_eq_range']
def ARh{Q:APost}{c:Operand}{x y:Code} (b:Bool) (hb:rd E af 0 c=.bool b) (h:if b=true then AWp E x Q af st else AWp E y Q af st):AWp E (.cond c x y) Q af st:=by
 constructor;intro F Γ w a hd hs;have hr:=hs.rd 0 c;rw[hb]at hr;generalize hv:a.eval c=v at hr;cases hr;refine wp_cond hv ?_;cases b;·exact h.go F Γ w a hd hs
 ·exact h.go F Γ w a hd hs
def Aba{Q:APost}{c:Code}{m:List (Nat×List AVal)} (hm:m.Sublist st.m) (h:AWp E c Q af {st with m:=m}):AWp E c Q af st:=⟨λF Γ w a hd hs=>h.go F Γ w a hd (hs.fewer hm)⟩
def V9 (E:Env) (t:TypeId) (addr:AVal) (st:St):Option (AVal×St):=
  match addr with
  | .ptr i 0=>
    match Af st.m i with
    | some cs=>
      if Ae E.P t=true then
        if BC E.P t=true then(if BK E.P t=some cs.length then some (.agg cs,{st with m:=Ar st.m i (stripL cs)})else none)
        else match cs with
          |[c]=>some (c,{st with m:=Ar st.m i (stripL cs)})
          |_=>none
      else none
    |none=>none
  |_=>none
def Qe (E:Env):List ResultVar->List AVal->St->Option (List AVal×St)|[],af,st=>some ([],st)|.tmp t::rs,af,st=>(Qe E rs (stripAt af (.tmp t)) st).map λp=>(af.getD t .any::p.1,p.2)|.cell i t::rs,af,st=>match V9 E t (af.getD i .any) st with|some (r,st')=>(Qe E rs af st').map λp=>(r::p.1,p.2)|none=>none
def Jh (E:Env) (fn:Func) (Q:AVal->St->Prop):APost:=λe af st=>
  match e with
  | .normal|.ret=>
    match Qe E fn.results.toList af st with
    |some (rs,st')=> ∃m,m.Sublist st'.m/\Q (match rs with|[r]=>r|rs=>.tuple rs) {st' with m:=m}
    |none=>False
  |_=>False
end
end Go.VM
set_option linter.unusedVariables false
namespace Go.VM
section
variable{E:Env}{F:Nat->Nat}{Γ:Ghost}{st:St}{w:World}{af:List AVal}{a:Act}
def ACO (hs:Sim E F Γ st w af a.tmps.toList){t:TypeId}{x:AVal}{v:Value}{r:AVal}{st':St} (hx:Rep Γ x v) (h:V9 E t x st=some (r,st')):∃u,(do loadVar t (<-asAddr v):Sem Value).run E.P w=.ok u w/\Rep Γ r u/\VM.own Γ w r u/\Sim E F Γ st' w af a.tmps.toList/\st'.next=st.next/\∀b,cnt b r u+Ah Γ w b st'.m=Ah Γ w b st.m:=by
 unfold V9 at h;split at h
 ·rename_i i;cases hx with
  |ptr hbx=>
   rename_i b;split at h
   ·rename_i cs hg;split at h
    ·rename_i hk;obtain⟨b',arr,e,hb⟩:=hs.box hg hbx;have:b'=b:=by have:=hb.bx;grind
     subst this;obtain⟨lo,hi,hh,hf⟩:=hb.heap;obtain⟨L,hL⟩: ∃L,L=arr.toList.take cs.length:=⟨_,rfl⟩;have hrepL:RepL Γ cs L:=by rw[hL];exact hb.rep
     have hone: ∀v,v∈L->v.oneCell'=true:=by rw[hL];exact hb.one
     have hownL:VM.ownL Γ w cs L:=by rw[hL];exact(M8 Γ w cs arr.toList).2 hb.own
     have hcntL: ∀n,AO n cs L=AO n cs arr.toList:=λn=>by grind[NB]
     obtain⟨s1,x1⟩:=hs.setBox (w':=w) (cs':=stripL cs) (arr':=arr) (lo:=lo) (hi:=hi) hg hb hh hf (λ_ _=>rfl) rfl rfl rfl rfl (by rw[MO];exact hb.rep.strip) (Jf _ _ _ _) (by grind[MO]) (λn=>by rw[Hz];have:=hs.tok n;omega);have hcnt: ∀n,AO n cs arr.toList+Ah Γ w n (Ar st.m i (stripL cs))=Ah Γ w n st.m:=by intro n;have e1:=IL (Γ:=Γ) (Γ':=Γ) (w:=w) (w':=w) (b:=n) (x:=stripL cs) hs.keys hg (λp hp hne=>rfl);grind[Ct,AO,hcells,stripL,Hz]
     have hcell: ∀j u,L[j]?=some u->w.cell? ⟨b',0+j,none⟩=some u:=by intro j u hj;rw[hL]at hj;have hj:=List.getElem?_take_some hj;simp_all[World.cell?]
     have ha:=QF (w:=w) hk;split at h
     ·rename_i hag;rw[hag]at ha;split at h;·rename_i hz;simp only[ae,az]at h;obtain⟨rfl,rfl⟩:=h;have key:=dG (P:=E.P) w ⟨b',0,none⟩ L (λj v hj=>by grind[addr_add]);rw[<-hrepL.length]at key;refine⟨.agg L.toArray,?_,.agg fx fx,by grind[VM.own],s1,rfl,λn=>by grind[cnt]⟩;simp[asAddr,loadVar,ha,Cw hz,key]
      grind
     ·rename_i hag;rw[eU]at hag;rw[hag]at ha;split at h
      ·rename_i c;simp only[ae,az]at h;obtain⟨rfl,rfl⟩:=h;obtain⟨u,hu,hrep⟩:=hrepL.get? (i:=0) (x:=c) rfl;have h1:L=[u]:=by
        have:L.length=1:=by grind
        clear hL hcell;match L,this,hu with|[x],_,hu=>grind
       refine⟨u,?_,hrep,?_,s1,rfl,λn=>?_⟩;·simp_all[asAddr,loadVar]
       ·grind[VM.ownL]
       grind[AO]
      grind
    grind
   grind
 grind
def AOl{m m':List (Nat×List AVal)} (h:m.Sublist m') (n:Nat):Ah Γ w n m<=Ah Γ w n m':=by induction h with|slnil=>omega|cons p _ ih=>grind[Ah]|cons_cons p _ ih=>grind[Ah]
def AFV (tmps:Array Value) (r:ResultVar):Sem Value:=match r with|.tmp t=>pure (tmps.getD t undef)|.cell i t=>do loadVar t (<-asAddr (tmps.getD i undef))
def AVJ (rs:List ResultVar): ∀ {af:List AVal}{st:St}{xs:List AVal}{st':St},Sim E F Γ st w af a.tmps.toList->Qe E rs af st=some (xs,st')->∃vs,(rs.mapM (AFV a.tmps)).run E.P w=.ok vs w/\RepL Γ xs vs/\ownL Γ w xs vs/\st'.next=st.next/\∃af',Sim E F Γ st' w af' a.tmps.toList/\∀b,AO b af' a.tmps.toList+AO b xs vs+Ah Γ w b st'.m=AO b af a.tmps.toList+Ah Γ w b st.m:=by
 induction rs with
 |nil=>intro af st xs st' hs h;simp only[Qe,ae,az]at h;obtain⟨rfl,rfl⟩:=h;exact⟨[],fy,.nil,by simp[ownL],rfl,af,hs,λb=>by simp[AO]⟩
 | cons x rs ih=>
  intro af st xs st' hs h;cases x with
  | tmp t=>
   simp only[Qe]at h;cases hr:Qe E rs (stripAt af (.tmp t)) st with
   |none=>grind
   |some p=>
    simp only[hr,aK,ae,az]at h;obtain⟨rfl,rfl⟩:=h;obtain⟨vs,r1,r2,r3,r4,af',r5,r6⟩:=ih (hs.stripAt (.tmp t)) hr;refine⟨a.tmps.getD t undef::vs,?_,.cons (hs.rd 0 (.tmp t)) r2,?_,r4,af',r5,λb=>?_⟩;·rw[List.mapM_cons,aI];simp only[AFV,bf,aB];rw[aI,r1];rfl
    ·rw[ownL];exact⟨hs.rd_own 0 (.tmp t),r3⟩
    ·have:=r6 b;have:=hs.rd_cnt 0 (.tmp t) b;grind[rd,Act.eval,AO]
  | cell i t=>
   simp only[Qe]at h;split at h
   ·rename_i r st1 hc;cases hr:Qe E rs af st1 with
    |none=>grind
    |some p=>
     simp only[hr,aK,ae,az]at h;obtain⟨rfl,rfl⟩:=h;obtain⟨u,c1,c2,c3,c4,c5,c6⟩:=ACO hs (hs.rd 0 (.tmp i)) hc;obtain⟨vs,r1,r2,r3,r4,af',r5,r6⟩:=ih c4 hr;refine⟨u::vs,?_,.cons c2 r2,by grind[ownL],fx,af',r5,λb=>?_⟩;·rw[List.mapM_cons,aI];simp_all[Act.eval,AFV]
     grind[AO]
   grind
theorem MJ {f:FuncId}{fn:Func}{c:Code}{args:List AVal}{Q:AVal->St->Prop} (hf:E.P.funcs[f]?=some fn) (hb:fn.body=some c)
    (h:AWp E c (Jh E fn Q) (args++List.replicate (fn.ntmps-args.length) .any) st):ACall E f args st Q:=by
  constructor
  intro F Γ w cargs hs
  have hlen:args.length=cargs.size:=by rw[hs.rep.length,aC]
  have hrepl: ∀n,RepL Γ (List.replicate n .any) (List.replicate n undef)/\ownL Γ w (List.replicate n .any) (List.replicate n undef)/\ ∀b,AO b (List.replicate n .any) (List.replicate n undef)=0:=by
    intro n
    induction n with
    |zero=>exact⟨.nil,by simp[ownL],λb=>by simp[AO]⟩
    |succ n ih=>exact⟨.cons (.any _) ih.1,by grind[ownL,VM.own],λb=>by grind[AO,cnt]⟩
  have happ: ∀(xs:List AVal) (vs:List Value),xs.length=vs.length->ownL Γ w xs vs-> ∀n,ownL Γ w (xs++List.replicate n .any) (vs++List.replicate n undef)/\ ∀b,AO b (xs++List.replicate n .any) (vs++List.replicate n undef)=AO b xs vs:=by
    intro xs
    induction xs with
    |nil=>grind[AO]
    | cons x xs ih=>intro vs hl ho n;cases vs with
      |nil=>grind
      | cons v vs=>
        grind[ownL,AO]
  have htm:(cargs++Array.replicate (fn.ntmps-cargs.size) undef).toList=cargs.toList++List.replicate (fn.ntmps-args.length) undef:=by
    grind[Array.toList_append,Array.toList_replicate]
  refine calls_of_wp hf hb (fb (h.go F Γ w {tmps:=cargs++Array.replicate (fn.ntmps-cargs.size) undef,defers:=[]} rfl ?_) ?_)
  . simp only
    rw[htm]
    obtain⟨o1,o2⟩:=happ args cargs.toList hs.rep.length hs.own (fn.ntmps-args.length)
    exact {hs with rep:=hs.rep.append (hrepl _).1,own:=o1,tok:=λb=>by rw[o2 b];exact hs.tok b}
  . intro e a' w' hq
    obtain⟨h0,hd,Γ',af',st',x1,n1,s1,q1⟩:=hq
    have fin:(match Qe E fn.results.toList af' st' with
        |some (rs,st')=> ∃m,m.Sublist st'.m/\Q (match rs with|[r]=>r|rs=>.tuple rs) {st' with m:=m}
        |none=>False)-> ∃v,(results fn a'.tmps).run E.P w'=.ok v w'/\ ∃v1,Ending.returned v=.returned v1/\ ∃Γ' r st',Ext F Γ w Γ' w'/\st.next<=st'.next/\Sim E F Γ' st' w' [r] [v1]/\Q r st':=by
      intro q
      split at q
      . rename_i rs st2 hres
        obtain⟨m,hm,hQ⟩:=q
        obtain⟨vs,r1,r2,r3,r4,af2,r5,r6⟩:=AVJ fn.results.toList s1 hres
        have hrun:(results fn a'.tmps).run E.P w'=.ok (if h:vs.toArray.size=1 then vs.toArray[0]else .tuple vs.toArray) w':=by
          have e:results fn a'.tmps=(do
            let vs<-fn.results.mapM (AFV a'.tmps)
            pure (if h:vs.size=1 then vs[0]else .tuple vs)):=rfl
          rw[e,Array.mapM_eq_mapM_toList,aI,Sem.run_map,r1]
          rfl
        refine⟨_,hrun,_,rfl,Γ',_,{st2 with m:=m},x1,by grind,?_,hQ⟩
        have s2:=r5.fewer hm
        have hcm: ∀n,Ah Γ' w' n m<=Ah Γ' w' n st2.m:=λn=>AOl hm n
        have htok: ∀b,F b+AO b rs vs+Ah Γ' w' b m<=1:=by
          intro b
          have:=r6 b
          have:=s1.tok b
          grind
        cases r2 with
        | nil=>
          simp only[ci,ap]
          exact {s2 with rep:=.cons (.tuple .nil) .nil,own:=by simp[ownL,VM.own],tok:=λb=>by grind[AO,cnt]}
        | cons hr t=>
          cases t with
          | nil=>
            simp only[ci,ag,ap,bJ,dite_true]
            exact {s2 with rep:=.cons hr .nil,own:=r3,tok:=htok}
          | cons hy t=>
            rename_i x v y u xs us
            have hne: ¬((v::u::us:List Value).toArray.size=1):=fy
            rw[dif_neg hne]
            have hrp:RepL Γ' (x::y::xs) (v::u::us):=.cons hr (.cons hy t)
            exact {s2 with rep:=.cons (.tuple fx) .nil,own:=by grind[ownL,VM.own],tok:=λb=>by grind[AO,cnt]}
      grind
    cases e with
    |normal=>obtain⟨v,hr,hR⟩:=fin q1;exact⟨hd,v,hr,hR⟩
    |ret=>obtain⟨v,hr,hR⟩:=fin q1;exact⟨hd,v,hr,hR⟩
    |exit id=>exact q1.elim
    |goto l=>grind
    |panic c=>grind
    |outgrown=>grind
end
end Go.VM
set_option linter.unusedVariables false
namespace Go.VM
section
variable{E:Env}{st:St}{af:List AVal}{Q:APost}
inductive kPost (K:List AVal->St->Prop) (Q:APost):APost|nrm{af:List AVal}{st:St} (h:K af st):kPost K Q .normal af st|oth{e:Exit}{af:List AVal}{st:St} (hne:e≠ .normal) (h:Q e af st):kPost K Q e af st
def kPost.get{K:List AVal->St->Prop} (h:kPost K Q .normal af st):K af st:=by cases h with|nrm h=>exact h|oth hne h=>grind
def kPost.out{K:List AVal->St->Prop}{e:Exit} (h:kPost K Q e af st) (hne:e≠ .normal):Q e af st:=by cases h with|nrm h=>grind|oth hne h=>exact h
def Nk{K:List AVal->St->Prop} (h:K af st):kPost K Q .normal af st:=.nrm h
end
end Go.VM
set_option linter.unusedVariables false
namespace Go.VM
def slots (o:Oper):List Tmp:=o.op.operands.toList.filterMap λ|.tmp t=>some t|_=>none
def Q6{o:Oper}{d:Tmp} (h:d∉slots o){x:Operand} (hx:x∈o.op.operands):x≠ .tmp d:=by intro e;subst e;exact h (List.mem_filterMap.2 ⟨.tmp d,by grind,rfl⟩)
section
variable{E:Env}{af:List AVal}{st:St}{d:Tmp}{v:AVal}
theorem BJ{t:TypeId}{x:Operand} (h:x≠ .tmp d):rd E (af.set d v) t x=rd E af t x:=by cases x with|tmp i=>grind[rd,List.getD]|_=>rfl
def Ip{x:Operand} (h:x≠ .tmp d):stripAt (af.set d v) x=(stripAt af x).set d v:=by cases x with|tmp i=>grind[stripAt,List.set_comm,List.getD,List.getElem?_set_ne]|_=>rfl
theorem A8{dst:Option Tmp} (h:dst≠some d) (r:AVal):Ab (af.set d v) dst r=(Ab af dst r).set d v:=by cases dst with|none=>rfl|some e=>grind[Ab,List.set_comm]
theorem ZZ{x:Option Operand} (h: ∀y,x=some y->y≠ .tmp d):rdo E (af.set d v) x=rdo E af x:=by cases x with|none=>rfl|some y=>simp only[rdo,BJ (h y rfl)]
theorem AE8: ∀(xs:List Operand) (ts:List TypeId),(∀x,x∈xs->x≠ .tmp d)->rdL E (af.set d v) xs ts=rdL E af xs ts|[],_,_=>rfl|x::xs,[],h=>by simp only[rdL,BJ (h x fy),AE8 xs [] (λy hy=>h y (aR _ hy))]|x::xs,t::ts,h=>by simp only[rdL,BJ (h x fy),AE8 xs ts (λy hy=>h y (aR _ hy))]
theorem Qv{ty:Nat->TypeId}: ∀(ps:List (Nat×Operand)){af:List AVal},(∀p,p∈ps->p.2≠ .tmp d)->(BO E ty (af.set d v) ps).1=(BO E ty af ps).1.set d v/\(BO E ty (af.set d v) ps).2=(BO E ty af ps).2|[],_,_=>⟨rfl,rfl⟩|(i,x)::ps,af,h=>by have hx:=h (i,x) fy;obtain⟨h1,h2⟩:=Qv ps (af:=stripAt af x) (λp hp=>h p (aR _ hp));simp only[BO,Ip hx,BJ hx];exact⟨h1,by rw[h2]⟩
def Kt{o:Oper} (h:d∉slots o):DX E o (af.set d v)=DX E o af:=by
 have hx:=λx=>Q6 h (x:=x);unfold DX;split;·grind[Op.operands,BJ]
 ·grind[Op.operands,BJ]
 ·grind[Op.operands,BJ]
 ·grind[Op.operands,BJ]
 ·grind[Op.operands,BJ]
 ·grind[Op.operands,rd,List.map_congr_left,BJ]
 ·grind[Op.operands,BJ]
 ·grind[Op.operands,BJ]
 ·grind[Op.operands,BJ]
 ·grind[Op.operands,BJ]
 ·grind[Op.operands,Call.operands,BJ]
 ·rename_i x y ts hop;simp only[hop,Op.operands,Call.operands]at hx;grind[BJ]
 ·rename_i x y ts hop;simp only[hop,Op.operands,Call.operands]at hx;grind[BJ]
 ·grind[Op.operands,Call.operands,BJ]
 ·rename_i x y t s hop;simp only[hop,Op.operands,Call.operands]at hx;grind[BJ]
 ·rfl
def AcS{x:Operand} (h:x≠ .tmp d):nameV (af.set d v) x=nameV af x:=by cases x with|tmp i=>have:d≠i:=λe=>h (by rw[e]);simp[nameV,List.getD,cN this]|_=>rfl
def AiR{b:Bool}{x:Operand} (h:x≠ .tmp d):ACb b (af.set d v) x st=ACb b af x st:=by
 cases b<;>cases x<;>try rfl
 rename_i j;have:j≠d:=λe=>h (by rw[e]);simp[ACb,List.getD,cN (dD this)]
def Aga{b:Bool}{x:Operand}{j i w:Nat}{xs:List AVal} (h:ACb b af x st=some (j,i,w,xs)):x=.tmp j:=by
 unfold ACb at h;split at h;·obtain⟨p,_,e⟩:=bQ.1 h;cases e;rfl
 ·cases h
def AbL{x:Operand}{i w:Nat}{xs:List AVal} (h:nameV af x=some (i,w,xs)):x=.tmp i:=by
 unfold nameV at h;split at h
 ·split at h;·cases h;rfl
  ·cases h
 ·cases h
def AcT{x:Operand}{t:TypeId} (h:x≠ .tmp d):Ya E (af.set d v) x t st=Ya E af x t st:=by cases x with|tmp i=>simp only[Ya,BJ h]|_=>rfl
theorem Vi{mv:List Tmp}{o:Oper} (h:d∉slots o) (hd:o.dst≠some d):D8 E mv o (af.set d v) st=(D8 E mv o af st).map λp=>(p.1.set d v,p.2):=by
 have hx:=λx=>Q6 h (x:=x);unfold D8;split
 ·rename_i x hop;simp only[hop,Op.operands]at hx;split
  ·rw[AcS (hx x fy)];cases hn:nameV af x with
   |none=>rw[AiR (hx x fy)];cases hf:ACb (ABr mv o.dst) af x st with|none=>simp[BJ (hx x fy),Ip (hx x fy),A8 hd]|some p=>obtain⟨j,i,w,xs⟩:=p;have hi:j≠d:=λe=>hx x fy (by rw[Aga hf,e]);simp only[aK];rw[cQ _ _ (dD hi)];simp[A8 hd]
   |some p=>obtain⟨i,w,xs⟩:=p;have hi:i≠d:=λe=>hx x fy (by rw[AbL hn,e]);simp only[aK];rw[cQ _ _ (dD hi)];simp[A8 hd]
  ·simp[BJ (hx x fy),A8 hd]
 ·rename_i x hop;simp only[hop,Op.operands]at hx;split;·rw[AcT (hx x fy)];cases Zq E o with|some w=>simp[A8 hd]|none=>cases Ya E af x o.type st<;>simp[BJ (hx x fy),Ip (hx x fy),A8 hd]
  ·simp[BJ (hx x fy),Ip (hx x fy),A8 hd]
 ·rename_i t hop;split;·cases VF E.P t st.next<;>simp[A8 hd]
  ·cases CX E.P t st.next<;>simp[A8 hd]
 ·rename_i t x hop;simp only[hop,Op.operands]at hx;rw[BJ (hx x fy),Ip (hx x fy)];split<;>simp[A8 hd]
 ·rename_i t ps hop;simp only[hop,Op.operands]at hx;obtain⟨h1,h2⟩:=Qv (E:=E) (v:=v) (ty:=AP E.P t) ps (af:=af) (λp hp=>hx p.2 (by grind));rw[h1,h2];cases TG E t (BO E (AP E.P t) af ps).2<;>simp[A8 hd]
 ·rename_i t len ps hop;simp only[hop,Op.operands]at hx;obtain⟨h1,h2⟩:=Qv (E:=E) (v:=v) (ty:=λ_=>AP E.P t 0) ps (af:=af) (λp hp=>hx p.2 (by grind));rw[h2,h1];split;·cases Ia E t len (BO E (λ_=>AP E.P t 0) af ps).2<;>simp[A8 hd]
  ·cases Gz E t len (BO E (λ_=>AP E.P t 0) af ps).2<;>simp[A8 hd]
 ·rename_i t x hop;simp only[hop,Op.operands]at hx;rw[BJ (hx x fy)];split;·cases RO E t (rd E af 0 x) st<;>simp[A8 hd]
  ·cases Rb E t (rd E af 0 x) st<;>simp[A8 hd]
 ·rename_i t x y hop;simp only[hop,Op.operands]at hx;rw[BJ (hx x fy),BJ (hx y fy),Ip (hx y fy)];split;·cases OP E t (rd E af 0 x) (rd E af t y) st<;>simp
  ·simp
 ·rename_i t n hop;simp only[hop,Op.operands]at hx;have ht:d≠t:=λe=>hx (.tmp t) fy (by rw[e]);have hg:(af.set d v).getD t .any=af.getD t .any:=by grind
  rw[hg];split;·rename_i vs hvs;cases vs[n]? with|none=>simp|some r=>grind[List.set_comm,A8]
  ·simp
 ·rename_i t x hop;simp only[hop,Op.operands]at hx;rw[BJ (hx x fy)];split<;>grind[A8]
 ·grind[Op.operands,List.getD,List.getElem?_set_ne,ADh,List.set_comm,A8]
 ·rename_i t x lo hi mx hop;simp only[hop,Op.operands]at hx;rw[BJ (hx x fy),ZZ (λy hy=>hx y (by grind)),ZZ (λy hy=>hx y (by grind)),ZZ (λy hy=>hx y (by grind))];split;·rename_i l hh m h1 h2 h3;cases FW E t (rd E af t x) l hh m with|some r=>simp[A8 hd]|none=>cases RD E t (rd E af t x) l hh m st<;>simp[A8 hd]
  ·simp
 ·rename_i x y t0 t1 ts hop;simp only[hop,Op.operands,Call.operands]at hx;rw[BJ (hx x fy),BJ (hx y fy),Ip (hx x fy)];split;·cases Pj E t0 t1 (rd E af t0 x) (rd E af t1 y)with|some r=>simp[A8 hd]|none=>cases appW E x t0 t1 (rd E af t0 x) (rd E af t1 y) st<;>simp[A8 hd]
  ·cases Il E t0 t1 (rd E af t0 x) (rd E af t1 y)with|some r=>simp[A8 hd]|none=>cases ZO E t0 t1 (rd E af t0 x) (rd E af t1 y) st<;>simp[A8 hd]
 ·rename_i x t0 ts hop;simp only[hop,Op.operands,Call.operands]at hx;rw[Kt h];cases DX E o af with|some r=>simp[A8 hd]|none=>rw[BJ (hx x fy)];cases Z6 E t0 (rd E af t0 x) st<;>simp[A8 hd]
 ·grind[A8]
 ·rename_i t m k ok hop;simp only[hop,Op.operands]at hx;rw[BJ (hx m fy),BJ (hx k fy)];cases TV E t (rd E af t m) (rd E af 0 k) ok st<;>simp[A8 hd]
 ·rename_i t m k x hop;simp only[hop,Op.operands]at hx;rw[BJ (hx m fy),BJ (hx k fy),BJ (hx x fy)];split;·cases Uo E t (rd E af t m) (rd E af 0 k) (rd E af 0 x) st<;>simp
  ·simp
 ·rename_i t m k x hop;simp only[hop,Op.operands]at hx;rw[BJ (hx m fy),BJ (hx k fy),BJ (hx x fy)];split;·cases Uo E t (rd E af t m) (rd E af 0 k) (rd E af 0 x) st<;>simp
  ·simp
 ·rename_i t x i hop;simp only[hop,Op.operands]at hx;rw[Kt h];cases DX E o af with|some r=>grind[A8]|none=>rw[BJ (hx x fy),BJ (hx i fy)];cases Gi E t (rd E af t x) (rd E af 0 i) st with|some r=>simp[A8 hd]|none=>cases QK E t (rd E af t x) (rd E af 0 i) st<;>simp[A8 hd]
 ·rename_i t x y hop;simp only[hop,Op.operands]at hx;rw[BJ (hx x fy),BJ (hx y fy)];split;·cases Wu E t (rd E af 0 x) (rd E af 0 y) st<;>simp[A8 hd]
  ·cases WE E t (rd E af 0 x) (rd E af 0 y) st<;>simp[A8 hd]
 ·rename_i s e x hop;simp only[hop,Op.operands]at hx;rw[Kt h];cases DX E o af with|some r=>grind[A8]|none=>rw[BJ (hx x fy)];cases Tu E s e (rd E af s x) st with|some r=>grind[A8]|none=>cases Rv E s e (rd E af s x) st<;>simp[A8 hd]
 ·rename_i x t0 ts hop;simp only[hop,Op.operands,Call.operands]at hx;rw[BJ (hx x fy),Ip (hx x fy)];cases TM (rd E af t0 x)<;>simp[A8 hd]
 ·rename_i x y t0 t1 hop;simp only[hop,Op.operands,Call.operands]at hx;rw[BJ (hx x fy),BJ (hx y fy),Ip (hx x fy)];cases XQ E t0 (rd E af t0 x) (rd E af t1 y)<;>simp[A8 hd]
 ·rw[Kt h];cases DX E o af<;>simp[A8 hd]
def ASb{mv:List Tmp}{o:Oper}{K:List AVal->St->Prop} (h:d∉slots o) (hd:o.dst≠some d) (hw:Cu E mv o (af.set d v) st K):Cu E mv o af st λaf' st'=>K (af'.set d v) st':=by
 have hx:=λx=>Q6 h (x:=x);unfold Cu at *;split at hw;·grind[Op.operands,Call.operands,BJ,AE8,A8]
 ·rename_i x y t0 t1 ts hop;simp only[hop,Op.operands,Call.operands]at hx;rw[BJ (hx x fy),BJ (hx y fy),Vi h hd]at hw;split at hw
  ·split at hw;·rename_i wd l cs rest jo hab;rw[aq fx];grind[A8]
   grind
  ·rw[an fx];grind
 ·rename_i op t x y _ hop;simp only[hop,Op.operands]at hx;rw[Vi h hd,BJ (hx x fy)]at hw;split at hw;·rename_i hn;rw[aq hn];grind[A8]
  ·rename_i hn;rw[an hn];grind
 grind[Vi,D8]
end
def EH (E:Env) (o:Oper) (af:List AVal) (st:St):Option AVal:=match o.op with
 |.move x=>some (rd E af o.type x).strip
 |.load t x=>(Rb E t (rd E af 0 x) st).map AVal.strip
 |.slice t x lo hi mx=>match rdo E af lo,rdo E af hi,rdo E af mx with|some l,some h,some m=>FW E t (rd E af t x) l h m|_,_,_=>none
 |.buildSlice t len ⟨ps⟩=>Gz E t len (BO E (λ_=>AP E.P t 0) af ps).2
 |.assign _=>none
 |.alloc _=>none
 |.box _ _=>none
 |.build _ _=>none
 |.store _ _ _=>none
 |.extract _ _=>none
 |.range _ _=>none
 |.next _ _=>none
 |.call {callee:=.builtin .append,args:=_,argTypes:=_}=>none
 |.indexAddr t x i=>match DX E o af with|some r=>some r.strip|none=>match Gi E t (rd E af t x) (rd E af 0 i) st with|some _=>none|none=>QK E t (rd E af t x) (rd E af 0 i) st
 |.call {callee:=.builtin .len,args:=⟨[x]⟩,argTypes:=⟨t::_⟩}=>match DX E o af with|some r=>some r.strip|none=>Z6 E t (rd E af t x) st
 |_=>(DX E o af).map AVal.strip
def APE{E:Env}{o:Oper}{af:List AVal}{st:St}{r:AVal} (h:EH E o af st=some r):D8 E [] o af st=some (Ab af o.dst r,st):=by
 have hm: ∀dst,PG [] dst=false:=λdst=>by cases dst<;>rfl
 unfold EH at h;unfold D8;split at h;·grind
 ·rename_i t x hop;simp only[hop,hm,aj,aA];cases hl:Rb E t (rd E af 0 x) st with|none=>grind|some z=>grind
 ·grind
 ·grind
 all_goals (try (cases h;done))
 ·rename_i t x i hop;simp only[hop];split at h;·rename_i z hz;cases h;simp only[hz]
  ·rename_i hz;split at h;·cases h
   ·rename_i hz2;simp only[hz,hz2,h,aK]
 ·rename_i x t ts hop;simp only[hop];split at h;·rename_i z hz;cases h;simp only[hz]
  ·rename_i hz;simp only[hz,h,aK]
 ·split;all_goals first|grind|grind[DX]|(cases hp:DX E o af with|none=>grind|some z=>grind)
theorem AUm{E:Env}{o:Oper}{af:List AVal}{st:St}{d:Tmp}{v:AVal} (h:d∉slots o):EH E o (af.set d v) st=EH E o af st:=by
 have hx:=λx=>Q6 h (x:=x);unfold EH;split;·grind[Op.operands,BJ]
 ·grind[Op.operands,BJ]
 ·grind[Op.operands,BJ,ZZ]
 ·grind[Op.operands,Qv,AP]
 all_goals (try (first|rfl|(rw[Kt h];done)))
 ·rename_i t x i hop;simp only[hop,Op.operands]at hx;rw[Kt h,BJ (hx x fy),BJ (hx i fy)]
 ·rename_i x t ts hop;simp only[hop,Op.operands,Call.operands]at hx;rw[Kt h,BJ (hx x fy)]
def Nl (E:Env) (ops:Array Oper) (o:Oper) (af:List AVal) (st:St):Option AVal:=match o.guard with|none=>EH E o af st|some (j,want)=>match gdA ops af j want with|some true=>EH E o af st|some false=>some (.tuple [])|none=>none
def gWp (E:Env) (mv:List Tmp) (ops:Array Oper) (o:Oper) (af:List AVal) (st:St) (K:List AVal->St->Prop):Prop:=match o.guard with|none=>Cu E mv o af st K|some (j,want)=>match gdA ops af j want with|some true=>Cu E mv o af st K|some false=>K (Ab af o.dst (.tuple [])) st|none=>False
theorem TI{ops:Array Oper}{o:Oper}{d:Tmp} (h:d∉o.looksAt ops):d∉slots o:=λhm=>h (dl _ hm)
theorem guard_looks{ops:Array Oper}{o:Oper}{d g j:Nat}{want:Bool} (h:d∉o.looksAt ops) (hg:o.guard=some (j,want)) (hd:(ops[j]?).bind (·.dst)=some g):d≠g:=λe=>by subst e;exact h (df _ (by grind))
theorem AYZ{ops:Array Oper}{o:Oper}{af:List AVal}{d j:Nat}{want:Bool}{v:AVal} (h:d∉o.looksAt ops) (hg:o.guard=some (j,want)):gdA ops (af.set d v) j want=gdA ops af j want:=by grind[gdA,guard_looks,List.getD,List.getElem?_set_ne]
def YJ{E:Env}{ops:Array Oper}{o:Oper}{af:List AVal}{st:St}{d:Tmp}{v:AVal} (h:d∉o.looksAt ops):Nl E ops o (af.set d v) st=Nl E ops o af st:=by grind[Nl,AUm,TI,AYZ]
def Aqm{E:Env}{mv:List Tmp}{ops:Array Oper}{o:Oper}{af:List AVal}{st:St}{d:Tmp}{v:AVal}{K:List AVal->St->Prop} (h:d∉o.looksAt ops) (hd:o.dst≠some d) (hw:gWp E mv ops o (af.set d v) st K):gWp E mv ops o af st λaf' st'=>K (af'.set d v) st':=by
 unfold gWp at *;split at hw;·exact ASb (TI h) hd hw
 ·rename_i j want hg;rw[AYZ h hg]at hw;split at hw;·exact ASb (TI h) hd hw
  ·grind[A8]
  omega
section
variable{E:Env}{F:Nat->Nat}{Γ:Ghost}{st:St}{w:World}{af:List AVal}{a:Act}
def AC4{mv:List Tmp}{ops:Array Oper}{i:Nat}{o:Oper} (ho:ops[i]?=some o){K:List AVal->St->Prop}{K':Act->World->Prop}{Qc:Exit->Act->World->Prop} (hd:a.defers=[]) (hs:Sim E F Γ st w af a.tmps.toList) (h:gWp E mv ops o af st K) (hK: ∀Γ' af' st' a' w',Ext F Γ w Γ' w'->st.next<=st'.next->a'.defers=[]->Sim E F Γ' st' w' af' a'.tmps.toList->K af' st'->K' a' w'):wpOp E.P ops Qc i K' a w:=by
 unfold wpOp;simp only[ho];unfold gWp at h;split at h;·rename_i hg;rw[aq (by grind[Region.wanted])];exact .inl (VD h F Γ w a hd hs K' Qc hK)
 ·rename_i j want hg;split at h;·rename_i hgd;rw[aq (by rw[Pf hg,Ud hs hgd])];exact .inl (VD h F Γ w a hd hs K' Qc hK)
  ·rename_i hgd;rw[an (by rw[Pf hg,Ud hs hgd];simp)];exact hK Γ _ st _ w (Ext.refl _ _ _) (au _) (by grind[put_defers]) (hs.skipped o.dst) h
  grind
theorem Ajl{E:Env}{t:TypeId}{w:Nat}{x:AVal}:En E .eql t x (.slice w [] true)=none:=by cases x<;>simp[En,RG,AD6]
def AdF{mv:List Tmp}{ops:Array Oper}{o:Oper}{r:AVal} (h:Nl E ops o af st=some r):gWp E [] ops o af st λaf' st'=>af'=Ab af o.dst r/\st'=st:=by
 have key: ∀r,EH E o af st=some r->Cu E [] o af st λaf' st'=>af'=Ab af o.dst r/\st'=st:=by
  intro r hr;have hst:=APE hr;unfold Cu;split;·grind[EH,DX]
  ·grind[EH]
  ·rename_i op t x y _ hop;split;·rename_i hn;obtain⟨rfl,rfl⟩:=AXo hn;grind[EH,DX,rd,Jl,Ajl]
   simp_all
  simp_all
 unfold Nl at h;unfold gWp;split at h;·grind
 ·split at h;·exact key r h
  ·simp only[ae]at h;subst h;exact⟨rfl,rfl⟩
  ·cases h
end
end Go.VM
set_option linter.unusedVariables false
namespace Go.VM
inductive Plan where|done|take (i:Nat) (p:Plan)|alt (i:Nat) (chk:List Nat) (p rest:Plan)|stop
def Plan.tk:Nat->Nat->Plan->Plan|_,0,p=>p|n,k+1,p=>.take n (Plan.tk (n+1) k p)
def dnL:Nat->Nat->List Nat->List Nat|_,0,l=>l|a,k+1,l=>a::dnL (a-1) k l
def exL:List (Nat×Nat)->List Nat|[]=>[]|(a,k)::l=>dnL a k (exL l)
def Plan.ar (n:Nat) (l:List (Nat×Nat)) (p r:Plan):Plan:=.alt n (exL l) p r
def Plan.al (n:Nat) (l:List (Nat×Nat)) (p:Plan):Plan:=.alt n (exL l) p .stop
theorem AxN{n:Nat}{p:Plan}:Plan.tk n 0 p=p:=rfl
theorem AxW{n k:Nat}{p:Plan}:Plan.tk n (k+1) p=.take n (Plan.tk (n+1) k p):=rfl
theorem AwJ{a:Nat}{l:List Nat}:dnL a 0 l=l:=rfl
theorem AvL{a k:Nat}{l:List Nat}:dnL a (k+1) l=a::dnL (a-1) k l:=rfl
theorem AwI:exL []=[]:=rfl
theorem Avb{a k:Nat}{l:List (Nat×Nat)}:exL ((a,k)::l)=dnL a k (exL l):=rfl
theorem Awk{n:Nat}{l:List (Nat×Nat)}{p r:Plan}:Plan.ar n l p r=.alt n (exL l) p r:=rfl
theorem AxU{n:Nat}{l:List (Nat×Nat)}{p:Plan}:Plan.al n l p=.alt n (exL l) p .stop:=rfl
def plE:=ac (@AxN) (ac (@AxW) (ac (@AwJ) (ac (@AvL) (ac AwI (ac (@Avb) (ac (@Awk) (@AxU)))))))
def Plan.alts:Plan->List Nat|.alt i _ _ rest=>i::rest.alts|_=>[]
def Plan.sub (j:Nat):Plan->Option (List Nat×Plan)|.alt i chk p rest=>if i=j then some (chk,p)else rest.sub j|_=>none
def AsJ (o:Oper) (k:Nat):Bool:=o.after.any λe=>Region.binds .any e&&e.on==k
def AWH (ops:Array Oper) (listed:Array Bool) (taken:List Nat) (i:Nat):Bool:=
  match ops[i]? with
  | some o=>
    match o.dst with
    |some d=>Region.free .any ops listed i&&!(o.looksAt ops).contains d&&taken.all λj=>match ops[j]? with|some oj=>!(oj.looksAt ops).contains d&&oj.dst !=some d|none=>false
    |none=>false
  |none=>false
def AYR (ops:Array Oper) (taken:List Nat) (i:Nat) (chk:List Nat):Bool:=match ops[i]? with|some o=>taken.all λk=>chk.contains k||AsJ o k|none=>false
def JK (ops:Array Oper):Plan->Bool->Array Bool->List Nat->Bool|.done,mode,listed,_=>!mode&&(Region.ready .any ops listed).isEmpty|.take i p,mode,listed,taken=>!mode&&(Region.ready .any ops listed).contains i&&AWH ops listed taken i&&JK ops p false (listed.setIfInBounds i true) (i::taken)|.alt i chk p rest,mode,listed,taken=>(mode||(Region.ready .any ops listed).all λj=>(i::rest.alts).contains j)&&(Region.ready .any ops listed).contains i&&AYR ops taken i chk&&JK ops p false (listed.setIfInBounds i true) taken&&JK ops rest true listed taken|.stop,mode,_,_=>mode
def XH:List (Nat×AVal)->Nat->Option AVal|[],_=>none|(j,r)::tv,k=>if k=j then some r else XH tv k
def RU (E:Env) (ops:Array Oper) (tv:List (Nat×AVal)) (af:List AVal) (st:St):List Nat->Prop|[]=>True|k::ks=>(match XH tv k,ops[k]? with|some r,some o=>Nl E ops o af st=some r|_,_=>False)/\RU E ops tv af st ks
def Gw (E:Env) (mv:List Tmp) (ops:Array Oper):Plan->List (Nat×AVal)->(List AVal->St->Prop)->List AVal->St->Prop
  |.done,_,K,af,st=>K af st
  | .take i p,tv,K,af,st=>
    match ops[i]? with
    | some o=>
      match Nl E ops o af st with
      |some r=>Gw E mv ops p ((i,r)::tv) K (Ab af o.dst r) st
      |none=>False
    |none=>False
  | .alt i chk p rest,tv,K,af,st=>
    (match ops[i]? with
      |some o=>gWp E mv ops o af st λaf' st'=>RU E ops tv af' st' chk/\Gw E mv ops p tv K af' st'
      |none=>False)/\Gw E mv ops rest tv K af st
  |.stop,_,_,_,_=>True
def KY (ops:Array Oper) (i:Nat):Option Tmp:=(ops[i]?).bind (·.dst)
def IA (ops:Array Oper) (af:List AVal):List (Nat×AVal)->List AVal|[]=>af|(i,r)::pend=>IA ops (Ab af (KY ops i) r) pend
theorem UA (ops:Array Oper) (pend:List (Nat×AVal)) (i:Nat) (r:AVal): ∀af,IA ops af (pend++[(i,r)])=Ab (IA ops af pend) (KY ops i) r:=by induction pend with|nil=>intro af;rfl|cons p pend ih=>intro af;exact ih _
def AEB{E:Env}{ops:Array Oper}{o:Oper}{st:St} (pend:List (Nat×AVal)): ∀af,(∀p,p∈pend->∀d,KY ops p.1=some d->d∉o.looksAt ops)->Nl E ops o (IA ops af pend) st=Nl E ops o af st:=by induction pend with|nil=>intro af _;rfl|cons p pend ih=>intro af h;obtain⟨i,r⟩:=p;simp only[IA];rw[ih _ (λq hq=>h q (aR _ hq))];cases hd:KY ops i with|none=>rfl|some d=>exact YJ (h (i,r) fy d hd)
def AVr{E:Env}{mv:List Tmp}{ops:Array Oper}{o:Oper}{st:St} (pend:List (Nat×AVal)): ∀ {af:List AVal}{K:List AVal->St->Prop},(∀p,p∈pend->∀d,KY ops p.1=some d->d∉o.looksAt ops/\o.dst≠some d)->gWp E mv ops o (IA ops af pend) st K->gWp E mv ops o af st λaf' st'=>K (IA ops af' pend) st':=by induction pend with|nil=>intro af K _ h;exact h|cons p pend ih=>intro af K h hw;obtain⟨i,r⟩:=p;simp only[IA]at hw⊢;have h1:=ih (λq hq=>h q (aR _ hq)) hw;cases hd:KY ops i with|none=>rw[hd]at h1;exact h1|some d=>rw[hd]at h1;obtain⟨a1,a2⟩:=h (i,r) fy d hd;exact Aqm (K:=λaf' st'=>K (IA ops af' pend) st') a1 a2 h1
def Aa5{af:List AVal}{d e:Option Tmp}{x y:AVal} (h: ∀t,d=some t->e≠some t):Ab (Ab af d x) e y=Ab (Ab af e y) d x:=by cases d with|none=>rfl|some d=>cases e with|none=>rfl|some e=>have:d≠e:=λhe=>h d rfl (by rw[he]);grind[Ab,List.set_comm]
def WW{ops:Array Oper}{i:Nat}{r:AVal} (pend:List (Nat×AVal)): ∀af,(i,r)∈pend->(pend.map (·.1)).Nodup->(∀p q,p∈pend->q∈pend->p.1≠q.1->∀t,KY ops p.1=some t->KY ops q.1≠some t)->IA ops af pend=IA ops (Ab af (KY ops i) r) (pend.filter λp=>p.1 !=i):=by
 induction pend with
 |nil=>simp
 | cons p pend ih=>
  intro af h hn hd;obtain⟨j,s⟩:=p;simp only[aF,bW]at hn;by_cases hij:j=i
  ·subst hij;have hsr:s=r:=by
    rcases aP.1 h with e|e;·grind
    ·exact absurd (bD.2 ⟨(j,r),e,rfl⟩) hn.1
   subst hsr;have hf:pend.filter (λp=>p.1 !=j)=pend:=List.filter_eq_self.2 λq hq=>by simp only[eZ,eN];grind
   grind[IA]
  ·have hm:(i,r)∈pend:=by
    rcases aP.1 h with e|e;·cases e;omega
    omega
   have hne:(j !=i)=true:=by grind
   rw[dr,aq hne];simp only[IA];rw[ih _ hm hn.2 (λp q hp hq=>hd p q (aR _ hp) (aR _ hq))];rw[Aa5 (λt ht=>hd (j,s) (i,r) fy h fx t ht)]
def OrdP (ops:Array Oper):(Nat->Prop)->List (Nat×AVal)->Prop|_,[]=>True|P,(i,_)::rest=>(∀o,ops[i]?=some o->∀e,e∈o.after->Region.binds .any e=true->P e.on)/\OrdP ops (λk=>P k\/k=i) rest
def OrdP.mono{ops:Array Oper}: ∀ {pend:List (Nat×AVal)}{P P':Nat->Prop},(∀k,P k->P' k)->OrdP ops P pend->OrdP ops P' pend|[],_,_,_,_=>trivial|(i,_)::rest,_,_,h,⟨h1,h2⟩=>⟨λo ho e he hb=>h _ (h1 o ho e he hb),OrdP.mono (λk hk=>hk.imp (h k) id) h2⟩
def OrdP.snoc{ops:Array Oper}{i:Nat}{r:AVal}: ∀ {pend:List (Nat×AVal)}{P:Nat->Prop},OrdP ops P pend->(∀o,ops[i]?=some o->∀e,e∈o.after->Region.binds .any e=true->P e.on\/e.on∈pend.map (·.1))->OrdP ops P (pend++[(i,r)])|[],P,_,h=>⟨λo ho e he hb=>(h o ho e he hb).resolve_right fy,trivial⟩|(j,_)::rest,P,⟨h1,h2⟩,h=>⟨h1,OrdP.snoc h2 λo ho e he hb=>by grind⟩
def OrdP.erase{ops:Array Oper}{k:Nat}: ∀ {pend:List (Nat×AVal)}{P:Nat->Prop},OrdP ops P pend->OrdP ops (λj=>P j\/j=k) (pend.filter λp=>p.1 !=k)
 |[],_,_=>trivial
 | (i,s)::rest,P,⟨h1,h2⟩=>by
  have ih:=OrdP.erase (k:=k) h2;by_cases hik:i=k;·grind
  ·have hne:(i !=k)=true:=by grind
   rw[dr,aq hne];exact⟨λo ho e he hb=>.inl (h1 o ho e he hb),ih.mono λj hj=>by grind⟩
def Ot (n:Nat) (listed:Array Bool):Nat:=(List.range n).countP λk=>!listed.getD k true
def ABE{i:Nat}{f g:Nat->Bool} (hf:f i=false) (hg:g i=true) (h: ∀k,k≠i->f k=g k): ∀l:List Nat,l.countP f+l.count i=l.countP g|[]=>rfl|k::l=>by have ih:=ABE hf hg h l;grind
def XL{n i:Nat}{listed:Array Bool} (hi:listed.getD i true=false) (hn:i<n):Ot n (listed.setIfInBounds i true)+1<=Ot n listed:=by
 have hlt:i<listed.size:=by grind
 have hset:(listed.setIfInBounds i true).getD i true=true:=fy;have hother: ∀k,k≠i->(listed.setIfInBounds i true).getD k true=listed.getD k true:=λk hk=>fq true (dD hk);unfold Ot;have key:=λl=>ABE (i:=i) (f:=λk=>!(listed.setIfInBounds i true).getD k true) (g:=λk=>!listed.getD k true) fy (by grind) (λk hk=>by grind) l;grind
def U4{n:Nat}{listed:Array Bool} (h:Ot n listed=0){k:Nat} (hk:k<n):listed.getD k true=true:=by have:=List.countP_eq_zero.1 h k (dj.2 hk);grind
structure Inv (E:Env) (ops:Array Oper) (act asap:Array Bool) (taken:List Nat) (pend tv:List (Nat×AVal)) (af:List AVal) (st:St):Prop where
  sz1:act.size=ops.size
  sz2:asap.size=ops.size
  list: ∀k,k<ops.size->(asap.getD k true=true<->act.getD k true=true\/k∈pend.map (·.1))
  notin: ∀p,p∈pend->act.getD p.1 true=false/\p.1<ops.size/\p.1∈taken
  nodup:(pend.map (·.1)).Nodup
  tvl: ∀p,p∈pend->XH tv p.1=some p.2
  val: ∀p,p∈pend-> ∀o,ops[p.1]?=some o->Nl E ops o (IA ops af pend) st=some p.2
  free: ∀p,p∈pend-> ∀d,KY ops p.1=some d-> ∀j oj,ops[j]?=some oj->asap.getD j true=false->(∀e,e∈oj.after->Region.binds .any e=true->e.on≠p.1)->d∉oj.looksAt ops/\oj.dst≠some d
  self: ∀p,p∈pend-> ∀d o,KY ops p.1=some d->ops[p.1]?=some o->d∉o.looksAt ops
  pair: ∀p q,p∈pend->q∈pend->p.1≠q.1-> ∀d,KY ops p.1=some d->KY ops q.1≠some d/\ ∀oq,ops[q.1]?=some oq->(∀e,e∈oq.after->Region.binds .any e=true->e.on≠p.1)->d∉oq.looksAt ops
  ord:OrdP ops (λk=>act.getD k false=true) pend
def SV{l:Array Bool}{k:Nat} (h:k<l.size):l.getD k false=l.getD k true:=by grind
section
variable{E:Env}{ops:Array Oper}
def Inv.ready_sub{act asap:Array Bool}{taken:List Nat}{pend tv:List (Nat×AVal)}{af:List AVal}{st:St} (I:Inv E ops act asap taken pend tv af st){j:Nat} (hj:j∈Region.ready .any ops act) (hp:j∉pend.map (·.1)):j∈Region.ready .any ops asap:=by
 obtain⟨h0,o,ho,h1⟩:=cV.1 hj;have hlt:j<ops.size:=(aH.1 ho).1;refine cV.2 ⟨?_,o,ho,λe he hb=>?_⟩;·cases h:asap.getD j true with|false=>rfl|true=>rcases (I.list j hlt).1 h with h|h<;>grind[absurd]
 ·have:=h1 e he hb;have hlt':e.on<act.size:=by grind
  rw[SV hlt']at this;rw[SV (by rw[I.sz2,<-I.sz1];omega)];exact(I.list e.on (by rw[<-I.sz1];omega)).2 (.inl this)
def Inv.some_ready{act asap:Array Bool}{taken:List Nat}{pend tv:List (Nat×AVal)}{af:List AVal}{st:St} (I:Inv E ops act asap taken pend tv af st) (h:Region.ready .any ops act=[]):pend=[]:=by
 cases hp:pend with
 |nil=>rfl
 |cons p rest=>
  exfalso;obtain⟨i,r⟩:=p;have hm:(i,r)∈pend:=by grind
  obtain⟨h0,hlt,_⟩:=I.notin _ hm;have hord:=I.ord;rw[hp]at hord;obtain⟨o,ho⟩: ∃o,ops[i]?=some o:=⟨ops[i],cH hlt⟩;have:i∈Region.ready .any ops act:=cV.2 ⟨h0,o,ho,λe he hb=>hord.1 o ho e he hb⟩;grind
def Inv.asap_ready{act asap:Array Bool}{taken:List Nat}{tv:List (Nat×AVal)}{af:List AVal}{st:St} (I:Inv E ops act asap taken [] tv af st){j:Nat} (hj:j∈Region.ready .any ops asap):j∈Region.ready .any ops act:=by
 obtain⟨h0,o,ho,h1⟩:=cV.1 hj;have hlt:j<ops.size:=(aH.1 ho).1;refine cV.2 ⟨?_,o,ho,λe he hb=>?_⟩;·cases h:act.getD j true with|false=>rfl|true=>have:=(I.list j hlt).2 (.inl h);grind
 ·have:=h1 e he hb;have hlt':e.on<asap.size:=by grind
  rw[SV hlt']at this;rw[SV (by rw[I.sz1,<-I.sz2];omega)];rcases (I.list e.on (by rw[<-I.sz2];exact hlt')).1 this with h|h<;>grind
def ABD{tv:List (Nat×AVal)}{af:List AVal}{st:St}: ∀ {chk:List Nat},RU E ops tv af st chk->∀ {k:Nat},k∈chk->∃r o,XH tv k=some r/\ops[k]?=some o/\Nl E ops o af st=some r
 |[],_,_,h=>by cases h
 |x::xs,⟨h1,h2⟩,k,h=>by
  rcases aP.1 h with rfl|h;·grind
  ·exact ABD h2 h
def ATC{mv:List Tmp}{listed:Array Bool}{taken:List Nat}{tv:List (Nat×AVal)}{K:List AVal->St->Prop}{af:List AVal}{st:St}: ∀ {p:Plan},JK ops p true listed taken=true->Gw E mv ops p tv K af st->∀ {j:Nat},j∈p.alts->∃chk q o,ops[j]?=some o/\AYR ops taken j chk=true/\JK ops q false (listed.setIfInBounds j true) taken=true/\gWp E mv ops o af st λaf' st'=>RU E ops tv af' st' chk/\Gw E mv ops q tv K af' st'
 |.alt i chk p rest,hok,hw,j,hj=>by
  simp only[JK,av]at hok;simp only[Gw]at hw;rcases aP.1 hj with rfl|hj;·grind
  ·exact ATC hok.2 hw.2 hj
 |.done,_,_,_,h=>by cases h
 |.take _ _,_,_,_,h=>by cases h
 |.stop,_,_,_,h=>by cases h
def Inv.take{act asap:Array Bool}{taken:List Nat}{pend tv:List (Nat×AVal)}{af:List AVal}{st:St} (I:Inv E ops act asap taken pend tv af st){i:Nat}{o:Oper}{r:AVal} (hr:i∈Region.ready .any ops asap) (hok:AWH ops asap taken i=true) (ho:ops[i]?=some o) (hv:Nl E ops o (IA ops af pend) st=some r):Inv E ops act (asap.setIfInBounds i true) (i::taken) (pend++[(i,r)]) ((i,r)::tv) af st:=by
 obtain⟨h0,o',ho',hw⟩:=cV.1 hr;rw[ho]at ho';cases ho';have hlt:i<ops.size:=(aH.1 ho).1;have hact:act.getD i true=false:=by cases h:act.getD i true with|false=>rfl|true=>have:=(I.list i hlt).2 (.inl h);grind
 have hnp:i∉pend.map (·.1):=λh=>by have:=(I.list i hlt).2 (.inr h);grind
 unfold AWH at hok;rw[ho]at hok;simp only at hok;split at hok
 ·rename_i d hd;simp only[av,Bool.not_eq_true',aU]at hok;obtain⟨⟨hfree,hself⟩,htk⟩:=hok;have hself':d∉o.looksAt ops:=by grind
  have hdst:KY ops i=some d:=by grind[KY]
  have hfr:=λj oj hj hne hun hno=>Oper.apart_spec (Region.free_spec ho hfree j oj hj hne hun hno);have htk': ∀j,j∈taken->∀oj,ops[j]?=some oj->d∉oj.looksAt ops/\oj.dst≠some d:=by intro j hj oj hoj;have:=htk j hj;simp_all
  have hset: ∀k,k≠i->(asap.setIfInBounds i true).getD k true=asap.getD k true:=λk hk=>fq true (dD hk);have hseti:(asap.setIfInBounds i true).getD i true=true:=fy;have hpne: ∀p,p∈pend->p.1≠i:=λp hp e=>hnp (bD.2 ⟨p,hp,e⟩);refine {sz1:=I.sz1,sz2:=by simp[I.sz2],list:=?_,notin:=?_,nodup:=?_,tvl:=?_,val:=?_,free:=?_,self:=?_,pair:=?_,ord:=?_}
  ·intro k hk;rw[cB,aX];by_cases hki:k=i;·grind
   ·rw[hset k hki,I.list k hk];grind
  ·intro p hp;rcases aX.1 hp with hp|hp;·obtain⟨a,b,c⟩:=I.notin p hp;grind
   grind
  ·rw[cB,List.nodup_append];refine⟨I.nodup,fy,?_⟩;grind
  ·intro p hp;rcases aX.1 hp with hp|hp;·simp only[XH];rw[an (hpne p hp)];exact I.tvl p hp
   grind[XH]
  ·intro p hp op hop;rw[UA,hdst];rcases aX.1 hp with hp|hp;·rw[show Ab (IA ops af pend) (some d) r=(IA ops af pend).set d r from rfl,YJ (htk' p.1 (I.notin p hp).2.2 op hop).1];exact I.val p hp op hop
   ·simp only[aV]at hp;subst hp;rw[ho]at hop;cases hop;rw[show Ab (IA ops af pend) (some d) r=(IA ops af pend).set d r from rfl,YJ hself'];omega
  ·intro p hp dd hdd j oj hoj hun hno;have hji:j≠i:=λe=>by grind
   rw[hset j hji]at hun;rcases aX.1 hp with hp|hp;·exact I.free p hp dd hdd j oj hoj hun hno
   grind
  ·intro p hp dd op hdd hop;rcases aX.1 hp with hp|hp;·exact I.self p hp dd op hdd hop
   grind
  ·intro p q hp hq hne dd hdd;rcases aX.1 hp with hp|hp<;>rcases aX.1 hq with hq|hq;·exact I.pair p q hp hq hne dd hdd
   ·simp only[aV]at hq;subst hq;simp only at hne⊢;refine⟨?_,λoq hoq hno=>?_⟩
    ·rw[hdst];intro e;simp only[ae]at e;have hpo: ∃op,ops[p.1]?=some op:=⟨_,cH (I.notin p hp).2.1⟩;obtain⟨op,hop⟩:=hpo;have:=(htk' p.1 (I.notin p hp).2.2 op hop).2;have hdd':op.dst=some dd:=by grind[KY]
     rw[hdd',e]at this;grind
    ·rw[ho]at hoq;cases hoq;exact(I.free p hp dd hdd i o ho h0 hno).1
   ·simp only[aV]at hp;subst hp;simp only at hne hdd⊢;rw[hdst]at hdd;cases hdd;obtain⟨oq,hoq⟩: ∃oq,ops[q.1]?=some oq:=⟨_,cH (I.notin q hq).2.1⟩;have hh:=htk' q.1 (I.notin q hq).2.2;grind[KY]
   ·simp only[aV]at hp hq;subst hp;subst hq;omega
  ·refine I.ord.snoc λo'' ho'' e he hb=>?_;rw[ho]at ho'';cases ho'';have:=hw e he hb;have hlt':e.on<asap.size:=by grind
   rw[SV hlt']at this;rcases (I.list e.on (by rw[<-I.sz2];omega)).1 this with h|h;·exact .inl (by rw[SV (by rw[I.sz1,<-I.sz2];omega)];exact h)
   grind
 grind
def Inv.come{act asap:Array Bool}{taken:List Nat}{pend tv:List (Nat×AVal)}{af:List AVal}{st:St} (I:Inv E ops act asap taken pend tv af st){i:Nat}{r:AVal} (hm:(i,r)∈pend):Inv E ops (act.setIfInBounds i true) asap taken (pend.filter λp=>p.1 !=i) tv (Ab af (KY ops i) r) st:=by
 obtain⟨h0,hlt,htk⟩:=I.notin _ hm;have hmem: ∀p,p∈pend.filter (λp=>p.1 !=i)->p∈pend/\p.1≠i:=λp hp=>by grind
 have hset: ∀k,k≠i->(act.setIfInBounds i true).getD k true=act.getD k true:=λk hk=>fq true (dD hk);have hseti:(act.setIfInBounds i true).getD i true=true:=fy;have herase:=WW pend af hm I.nodup (λp q hp hq hne t ht=>(I.pair p q hp hq hne t ht).1);refine {sz1:=by simp[I.sz1],sz2:=I.sz2,list:=?_,notin:=?_,nodup:=?_,tvl:=λp hp=>I.tvl p (hmem p hp).1,val:=?_,free:=λp hp=>I.free p (hmem p hp).1,self:=λp hp=>I.self p (hmem p hp).1,pair:=λp q hp hq=>I.pair p q (hmem p hp).1 (hmem q hq).1,ord:=?_}
 ·intro k hk;by_cases hki:k=i;·subst hki;rw[hseti];simp only[true_or,iff_true];exact(I.list k hk).2 (.inr (bD.2 ⟨_,hm,rfl⟩))
  ·rw[hset k hki,I.list k hk];simp_all
 ·intro p hp;obtain⟨a,b⟩:=hmem p hp;obtain⟨c,d,e⟩:=I.notin p a;grind
 ·exact(List.filter_sublist.map _).nodup I.nodup
 ·intro p hp o ho;rw[<-herase];exact I.val p (hmem p hp).1 o ho
 ·refine(I.ord.erase (k:=i)).mono λk hk=>?_;grind
def Inv.step{act asap:Array Bool}{taken:List Nat}{pend tv:List (Nat×AVal)}{af af':List AVal}{st st':St} (I:Inv E ops act asap taken pend tv af st){i:Nat}{chk:List Nat}{o:Oper} (hr:i∈Region.ready .any ops act) (hp:i∉pend.map (·.1)) (ho:ops[i]?=some o) (hchk:AYR ops taken i chk=true) (hall:RU E ops tv (IA ops af' pend) st' chk):Inv E ops (act.setIfInBounds i true) (asap.setIfInBounds i true) taken pend tv af' st':=by
 obtain⟨h0,o',ho',hw⟩:=cV.1 hr;rw[ho]at ho';cases ho';have hlt:i<ops.size:=(aH.1 ho).1;have hset: ∀(l:Array Bool) k,k≠i->(l.setIfInBounds i true).getD k true=l.getD k true:=λl k hk=>fq true (dD hk);have hseti: ∀(l:Array Bool),l.size=ops.size->(l.setIfInBounds i true).getD i true=true:=λl hl=>by simp
 have hpne: ∀p,p∈pend->p.1≠i:=λp hpm e=>hp (bD.2 ⟨p,hpm,e⟩);refine {sz1:=by simp[I.sz1],sz2:=by simp[I.sz2],list:=?_,notin:=?_,nodup:=I.nodup,tvl:=I.tvl,val:=?_,free:=?_,self:=I.self,pair:=I.pair,ord:=?_}
 ·intro k hk;by_cases hki:k=i;·simp_all
  ·rw[hset act k hki,hset asap k hki];exact I.list k hk
 ·intro p hpm;obtain⟨a,b,c⟩:=I.notin p hpm;grind
 ·intro p hpm op hop;unfold AYR at hchk;rw[ho]at hchk;simp only[aU,cK]at hchk;obtain⟨a,b,c⟩:=I.notin p hpm;rcases hchk p.1 c with h|h;·obtain⟨r,o2,e1,e2,e3⟩:=ABD hall (by simpa using h);rw[I.tvl p hpm]at e1;grind
  ·exfalso;obtain⟨e,he,hb⟩:=Array.any_eq_true'.1 h;simp only[av,bc]at hb;have:=hw e he hb.1;rw[hb.2,SV (by grind),a]at this;grind
 ·intro p hpm d hd j oj hoj hun hno;have hji:j≠i:=λe=>by simp_all
  rw[hset asap j hji]at hun;exact I.free p hpm d hd j oj hoj hun hno
 ·exact I.ord.mono λk hk=>getD_set_true hk
def AWC{mv:List Tmp}{K:List AVal->St->Prop}{Qc:Exit->Act->World->Prop}{F:Nat->Nat} (fuel:Nat): ∀(plan:Plan){act asap:Array Bool}{taken:List Nat}{pend tv:List (Nat×AVal)}{af:List AVal}{st:St}{a:Act}{w:World}{Γ:Ghost},JK ops plan false asap taken=true->Ot ops.size act<=fuel->Inv E ops act asap taken pend tv af st->a.defers=[]->Sim E F Γ st w af a.tmps.toList->Gw E mv ops plan tv K (IA ops af pend) st->(∀Γ' af' st' a' w',Ext F Γ w Γ' w'->st.next<=st'.next->a'.defers=[]->Sim E F Γ' st' w' af' a'.tmps.toList->K af' st'->Qc .normal a' w')->wpAny E.P .any ops Qc fuel act a w:=by
 induction fuel with
 | zero=>
  intro plan;induction plan with
  |done=>
   intro act asap taken pend tv af st a w Γ hok hn I hd hs hw hK;have hrd:Region.ready .any ops act=[]:=List.eq_nil_iff_forall_not_mem.2 λj hj=>by obtain⟨h0,o,ho,_⟩:=cV.1 hj;rw[U4 (Nat.le_zero.1 hn) (aH.1 ho).1]at h0;grind
   have:=I.some_ready hrd;subst this;exact⟨hrd,hK Γ af st a w (Ext.refl _ _ _) (au _) hd hs hw⟩
  | take i p ih=>
   intro act asap taken pend tv af st a w Γ hok hn I hd hs hw hK;simp only[JK,av]at hok;simp only[Gw]at hw;split at hw
   ·rename_i o ho;split at hw;·rename_i r hr;have I2:=I.take (by grind) hok.1.2 ho hr;grind[UA,KY]
    grind
   grind
  |alt i chk p rest _ _=>
   intro act asap taken pend tv af st a w Γ hok hn I hd hs hw hK;exfalso;simp only[JK,av]at hok;have hi:i∈Region.ready .any ops asap:=by grind
   obtain⟨h0,o,ho,_⟩:=cV.1 hi;have hlt:=(aH.1 ho).1;have:=(I.list i hlt).2 (.inl (U4 (Nat.le_zero.1 hn) hlt));grind
  |stop=>grind[JK]
 | succ fuel ihf=>
  have come: ∀(plan:Plan){act asap:Array Bool}{taken:List Nat}{pend tv:List (Nat×AVal)}{af:List AVal}{st:St}{a:Act}{w:World}{Γ:Ghost},JK ops plan false asap taken=true->Ot ops.size act<=fuel+1->Inv E ops act asap taken pend tv af st->a.defers=[]->Sim E F Γ st w af a.tmps.toList->Gw E mv ops plan tv K (IA ops af pend) st->(∀Γ' af' st' a' w',Ext F Γ w Γ' w'->st.next<=st'.next->a'.defers=[]->Sim E F Γ' st' w' af' a'.tmps.toList->K af' st'->Qc .normal a' w')->∀j,j∈Region.ready .any ops act->j∈pend.map (·.1)->wpOp E.P ops Qc j (wpAny E.P .any ops Qc fuel (act.setIfInBounds j true)) a w:=by
   intro plan act asap taken pend tv af st a w Γ hok hn I hd hs hw hK j hj hjp;obtain⟨p,hp,rfl⟩:=bD.1 hjp;obtain⟨h0,o,ho,hwt⟩:=cV.1 hj;have hlt:=(aH.1 ho).1;have hlooks: ∀q,q∈pend->∀d,KY ops q.1=some d->d∉o.looksAt ops:=by
    intro q hq d hdd;by_cases hqp:q.1=p.1;·exact I.self q hq d o hdd (by grind)
    ·refine(I.pair q p hq hp hqp d hdd).2 o ho λe he hb heq=>?_;have:=hwt e he hb;obtain⟨a1,b1,_⟩:=I.notin q hq;grind
   have hval:=I.val p hp o ho;rw[AEB pend af hlooks]at hval;refine AC4 ho hd hs (AdF (mv:=mv) hval) λΓ' af' st' a' w' x1 n1 d1 s1 k1=>?_;obtain⟨rfl,rfl⟩:=k1;have hdst:KY ops p.1=o.dst:=by grind[KY]
   have hpm:(p.1,p.2)∈pend:=hp;have I2:=I.come hpm;rw[hdst]at I2;refine ihf plan hok (by have:=XL h0 hlt;omega) I2 d1 s1 ?_ λΓ2 af2 st2 a2 w2 x2 n2 d2 s2 k2=>hK Γ2 af2 st2 a2 w2 (x1.trans x2) (bG n1 n2) d2 s2 k2;rw[WW pend af hpm I.nodup (λp q hp hq hne t ht=>(I.pair p q hp hq hne t ht).1),hdst]at hw;omega
  intro plan;induction plan with
  | done=>
   intro act asap taken pend tv af st a w Γ hok hn I hd hs hw hK;refine⟨λhrd=>?_,λj hj=>?_⟩;·have:=I.some_ready hrd;subst this;exact hK Γ af st a w (Ext.refl _ _ _) (au _) hd hs hw
   ·by_cases hjp:j∈pend.map (·.1);·grind
    ·exfalso;have:=I.ready_sub hj hjp;simp only[JK,bE,cD,dR]at hok;grind
  | take i p ih=>
   intro act asap taken pend tv af st a w Γ hok hn I hd hs hw hK;simp only[JK,av]at hok;simp only[Gw]at hw;split at hw
   ·rename_i o ho;split at hw;·rename_i r hr;have I2:=I.take (by grind) hok.1.2 ho hr;grind[UA,KY]
    grind
   grind
  | alt i chk p rest _ _=>
   intro act asap taken pend tv af st a w Γ hok hn I hd hs hw hK;have hok0:=hok;simp only[JK,av]at hok;have hi:i∈Region.ready .any ops asap:=by grind
   refine⟨λhrd=>?_,λj hj=>?_⟩;·exfalso;have:=I.some_ready hrd;subst this;have:=I.asap_ready hi;grind
   ·by_cases hjp:j∈pend.map (·.1);·grind
    ·have hja:=I.ready_sub hj hjp;have hall:=hok.1.1.1.1;simp only[bg,aU]at hall;have hjm:j∈(Plan.alt i chk p rest).alts:=by grind[Plan.alts]
     have hok':JK ops (.alt i chk p rest) true asap taken=true:=by simp only[JK,c7,cD,av];grind
     obtain⟨chk',q,o,ho,hc,hq,hg⟩:=ATC hok' hw hjm;obtain⟨h0,o',ho',hwt⟩:=cV.1 hj;rw[ho]at ho';cases ho';have hlt:=(aH.1 ho).1;have hun:asap.getD j true=false:=(cV.1 hja).1;have hlooks: ∀p,p∈pend->∀d,KY ops p.1=some d->d∉o.looksAt ops/\o.dst≠some d:=by intro p hp d hdd;refine I.free p hp d hdd j o ho hun λe he hb heq=>?_;have:=hwt e he hb;obtain⟨a1,b1,_⟩:=I.notin p hp;grind
     refine AC4 ho hd hs (AVr pend hlooks hg) λΓ' af' st' a' w' x1 n1 d1 s1 k1=>?_;have I2:=I.step hj hjp ho hc k1.1;exact ihf q hq (by have:=XL h0 hlt;omega) I2 d1 s1 k1.2 λΓ2 af2 st2 a2 w2 x2 n2 d2 s2 k2=>hK Γ2 af2 st2 a2 w2 (x1.trans x2) (bG n1 n2) d2 s2 k2
  |stop=>grind[JK]
end
def Su{E:Env}{Q:APost}{af:List AVal}{st:St}{id:Nat}{ops:Array Oper} (mv:List Tmp) (plan:Plan) (hm:E.P.follows .mixedOrders=true) (hok:JK ops plan false (Array.replicate ops.size false) []=true) (h:Gw E mv ops plan [] (λaf st=>Q .normal af st) af st):AWp E (.region id ops true) Q af st:=by
 constructor;intro F Γ w a hd hs;refine wp_region_any hm ?_;have I:Inv E ops (Array.replicate ops.size false) (Array.replicate ops.size false) [] [] [] af st:=by
  have hno: ∀p:Nat×AVal,p∈([]:List (Nat×AVal))->False:=λp hp=>by grind
  exact {sz1:=fy,sz2:=fy,list:=(λk hk=>by simp),notin:=(λp hp=>(hno p hp).elim),nodup:=fy,tvl:=(λp hp=>(hno p hp).elim),val:=(λp hp=>(hno p hp).elim),free:=(λp hp=>(hno p hp).elim),self:=(λp hp=>(hno p hp).elim),pair:=(λp q hp=>(hno p hp).elim),ord:=trivial}
 have hun:Ot ops.size (Array.replicate ops.size false)<=ops.size:=by grind[Ot,List.countP_le_length,Array.replicate,List.range]
 exact AWC ops.size plan hok hun I hd hs.drew h λΓ' af' st' a' w' x1 n1 d1 s1 k1=>⟨trivial,d1,Γ',af',st',⟨x1.le,x1.keep,x1.size,x1.os,x1.output,x1.tape⟩,n1,s1,k1⟩
end Go.VM
set_option linter.unusedVariables false
namespace Go.VM
def Ag:List Tmp->List AVal->List AVal|[],af=>af|j::js,af=>Ag js (af.set j .any)
def setVals:List AVal->List Tmp->List AVal->List AVal|af,c::cs,v::vs=>setVals (af.set c v) cs vs|af,_,_=>af
def Cb (af:List AVal) (cs:List Tmp):List AVal:=cs.map λc=>af.getD c .any
section
variable{E:Env}{F:Nat->Nat}{Γ:Ghost}{st:St}{w:World}{af:List AVal}{a:Act}{Q:APost}
def Sim.setAny (hs:Sim E F Γ st w af a.tmps.toList) (j:Tmp):Sim E F Γ st w (af.set j .any) a.tmps.toList:=by
 have key: ∀ {xs:List AVal}{vs:List Value} (j:Nat),RepL Γ xs vs->RepL Γ (xs.set j .any) vs:=by intro xs;induction xs with|nil=>simp|cons x xs ih=>intro vs j h;cases h with|cons h t=>cases j with|zero=>exact .cons (.any _) t|succ j=>exact .cons h (ih j t)
 have keyo: ∀ {xs:List AVal}{vs:List Value} (j:Nat),ownL Γ w xs vs->ownL Γ w (xs.set j .any) vs:=by intro xs;induction xs with|nil=>simp|cons x xs ih=>intro vs j h;cases vs with|nil=>cases j<;>simp[ownL]|cons v vs=>rw[ownL]at h;cases j with|zero=>grind[ownL,VM.own]|succ j=>grind[ownL]
 have keyc: ∀(xs:List AVal) (vs:List Value) (j b:Nat),AO b (xs.set j .any) vs<=AO b xs vs:=by intro xs;induction xs with|nil=>simp|cons x xs ih=>intro vs j b;cases vs with|nil=>cases j<;>simp[AO]|cons v vs=>cases j with|zero=>grind[AO,cnt]|succ j=>grind[AO]
 exact {hs with rep:=key j hs.rep,own:=keyo j hs.own,tok:=λb=>by have:=keyc af a.tmps.toList j b;have:=hs.tok b;omega}
def Sim.mask (js:List Tmp): ∀ {af:List AVal},Sim E F Γ st w af a.tmps.toList->Sim E F Γ st w (Ag js af) a.tmps.toList:=by induction js with|nil=>intro af hs;exact hs|cons j js ih=>intro af hs;exact ih (hs.setAny j)
def Tf{c:Code} (js:List Tmp) (h:AWp E c Q (Ag js af) st):AWp E c Q af st:=⟨λF Γ w a hd hs=>h.go F Γ w a hd (hs.mask js)⟩
def TL (js:List Tmp): ∀(af:List AVal) (j:Tmp),Ag js (af.set j .any)=(Ag js af).set j .any:=by induction js<;>grind[Ag,List.set_set,List.set_comm]
theorem Kk: ∀(cs:List Tmp) (af af0:List AVal),Ag cs af=Ag cs af0->af=setVals af0 cs (Cb af cs):=by
 intro cs;induction cs with
 |nil=>intro af af0 h;exact h
 | cons c cs ih=>
  intro af af0 h;simp only[Ag]at h;simp only[Cb,aF,setVals];have h2:Ag cs af=Ag cs (af0.set c (af.getD c .any)):=by
   have hl:af.length=af0.length:=by
    have hlen: ∀(l:List Tmp) (x:List AVal),(Ag l x).length=x.length:=by intro l;induction l<;>grind[Ag]
    have:=bu List.length h;grind
   rw[TL,TL]at h;apply b9;intro i;have hi:=bu (·[i]?) h;simp only[dh]at hi;have hmask: ∀(l:List Tmp) (x:List AVal) (k:Nat),(Ag l x)[k]?=if k∈l then(if k<x.length then some .any else none)else x[k]?:=by
    intro l;induction l with
    |nil=>grind[Ag]
    | cons j l ih=>
     intro x k;simp only[Ag,ih,bX,aP];by_cases hkl:k∈l;·grind
     ·by_cases hkj:k=j;·subst hkj;simp only[hkl,aA,true_or,aD,dh]
      ·simp only[hkl,aA,hkj,eT,dh];rw[an (λe=>hkj e.symm)]
   rw[hmask,hmask];rw[hmask,hmask]at hi;by_cases hic:i∈cs;·grind
   ·simp only[hic,aA]at hi⊢;rw[dh];by_cases hci:c=i;·subst hci;simp only[aD];by_cases hlt:c<af.length<;>simp_all[List.getD]
    simp_all
  exact ih af _ h2
def AAg{c:Code} (js cs:List Tmp) (I:Nat->List AVal->St->Prop) (n₀:Nat) (h₀:I n₀ (Cb (Ag js af) cs) st) (round: ∀n vs st',I n vs st'->∀J:List AVal->St->Prop,(∀n' af' st' m,n'<n->m.Sublist st'.m->Ag cs (Ag js af')=Ag cs (Ag js af)->I n' (Cb (Ag js af') cs) {st' with m:=m}->J af' st')->AWp E c (kPost J Q) (setVals (Ag js af) cs vs) st'):AWp E (.loop c) Q af st:=by refine Tf js ?_;constructor;intro F Γ w a hd hs;refine wp_loop_ghost (λn a' w'=>a'.defers=[]/\∃Γ' vs st',Ext F Γ w Γ' w'/\st.next<=st'.next/\Sim E F Γ' st' w' (setVals (Ag js af) cs vs) a'.tmps.toList/\I n vs st') n₀ ⟨hd,Γ,Cb (Ag js af) cs,st,Ext.refl _ _ _,au _,by rw[<-Kk cs _ _ rfl];omega,h₀⟩ ?_;intro n a₁ w₁ ⟨hd1,Γ₁,vs₁,st₁,h2,h3,h4,h5⟩;refine fb ((round n vs₁ st₁ h5 (λaf' st'=>∃n' m,n'<n/\m.Sublist st'.m/\Ag cs (Ag js af')=Ag cs (Ag js af)/\I n' (Cb (Ag js af') cs) {st' with m:=m}) (λn' af' st' m k1 k2 k3 k4=>⟨n',m,k1,k2,k3,k4⟩)).go F Γ₁ w₁ a₁ hd1 h4) ?_;intro e a' w' hq;have hq:=Vd h2 h3 hq;cases e with|normal=>obtain⟨_,k1,Γ',af',st',k2,k3,k4,kk⟩:=hq;obtain⟨n',m,k5,k6,k7,k8⟩:=kk.get;refine⟨n',k5,k1,Γ',Cb (Ag js af') cs,{st' with m:=m},k2,k3,?_,k8⟩;rw[<-Kk cs _ _ k7];exact(k4.mask js).fewer k6|_=>obtain⟨k0,k1,Γ',af',st',k2,k3,k4,kk⟩:=hq;exact⟨k0,k1,Γ',af',st',k2,k3,k4,kk.out fy⟩
theorem ACall.strip{f:FuncId}{args:List AVal}{Q:AVal->St->Prop} (h:ACall E f args st λr st'=>Q r.strip st'):ACall E f args st Q:=⟨λF Γ w cargs hs=>(h.go F Γ w cargs hs).mono λe w' ⟨v,he,Γ',r,st',h1,h2,h3,h4⟩=>⟨v,he,Γ',r.strip,st',h1,h2,by
 have hr:Rep Γ' r v:=by have:=h3.rep;cases this;omega
 have ht: ∀b,F b+AO b [r.strip] [v]+Ah Γ' w' b st'.m<=1:=λb=>by have:=h3.tok b;grind[AO,IE]
 exact {h3 with rep:=.cons hr.strip .nil,own:=(by grind[ownL,La]),tok:=ht},h4⟩⟩
end
end Go.VM
set_option linter.unusedVariables false
namespace Go.VM
mutual def bnd:AVal->Prop|.agg cs=>bndL cs|.tuple cs=>bndL cs|.slice _ xs _=>xs.length<=Bg|.str s=>s.length<=Bg|.buf _ l _=>l.length<=Bg|_=>True def bndL:List AVal->Prop|[]=>True|x::xs=>bnd x/\bndL xs end
mutual theorem Rep.bnd{Γ:Ghost}: {x:AVal}->{v:Value}->Rep Γ x v->VM.bnd x|_,_,.any v=>by simp[VM.bnd]|_,_,.bool b=>by simp[VM.bnd]|_,_,.int k n=>by simp[VM.bnd]|_,_,.str b h=>by grind[VM.bnd]|_,_,.agg h o=>by simp only[VM.bnd];exact RepL.bndL h|_,_,.tuple h=>by simp only[VM.bnd];exact RepL.bndL h|_,_,.snil w o a=>by simp[VM.bnd]|_,_,.slice o hb hl hc h _=>by grind[VM.bnd]|_,_,.ptr h=>by simp[VM.bnd]|_,_,.nilp=>by simp[VM.bnd]|_,_,.cptr hb hd h _=>by simp[VM.bnd]|_,_,.fn h k=>by simp[VM.bnd]|_,_,.nilFn=>by simp[VM.bnd]|_,_,.iface h=>by simp[VM.bnd]|_,_,.nilIface=>by simp[VM.bnd]|_,_,.iter _ _ _=>by simp[VM.bnd]|_,_,.bsl _ _ _=>by simp[VM.bnd]|_,_,.nself _=>by simp[VM.bnd]|_,_,.buf _ h _=>by have:=Rep.bnd h;grind[VM.bnd,u8s]|_,_,.bnil _ _=>by simp[VM.bnd]|_,_,.bufp _ _ _ _ _=>by simp[VM.bnd]|_,_,.map _ _ _=>by simp[VM.bnd]|_,_,.slop _ _ _ _=>by simp[VM.bnd]|_,_,.sh _ _=>by simp[VM.bnd]|_,_,.sptr _=>by simp[VM.bnd]|_,_,.gsl _ _ _ _=>by simp[VM.bnd]|_,_,.nmap=>by simp[VM.bnd]|_,_,.vec _ _ _=>by simp[VM.bnd]|_,_,.hset _ _=>by simp[VM.bnd]|_,_,.vptr _=>by simp[VM.bnd]|_,_,.num _ _=>by simp[VM.bnd]|_,_,.nbuf _=>by simp[VM.bnd]|_,_,.trow _ _ _ _=>by simp[VM.bnd] theorem RepL.bndL{Γ:Ghost}: {xs:List AVal}->{vs:List Value}->RepL Γ xs vs->VM.bndL xs|_,_,.nil=>by simp[VM.bndL]|_,_,.cons h t=>by simp only[VM.bndL];exact⟨Rep.bnd h,RepL.bndL t⟩ end
theorem RepS.bndL{Γ:Ghost}{w:Nat}{xs:List AVal}{cs:List Value} (h:RepS Γ w xs cs):VM.bndL xs:=by induction xs generalizing cs with|nil=>simp[VM.bndL]|cons x xs ih=>cases h with|cons h hw t=>simp only[VM.bndL];exact⟨h.bnd,ih t⟩
def keysLt (n:Nat) (m:List (Nat×List AVal)):Prop:= ∀i,n<=i->Af m i=none
theorem Sim.keysLt{E:Env}{F:Nat->Nat}{Γ:Ghost}{st:St}{w:World}{af:List AVal}{tm:List Value} (hs:Sim E F Γ st w af tm):keysLt st.next st.m:=by intro i hi;cases hm:Af st.m i with|none=>rfl|some c=>have:=hs.key_lt (Kv hm);omega
theorem AWp.known{E:Env}{c:Code}{Q:APost}{af:List AVal}{st:St} (h:bndL af->keysLt st.next st.m->AWp E c Q af st):AWp E c Q af st:=⟨λF Γ w a hd hs=>(h hs.rep.bndL hs.keysLt).go F Γ w a hd hs⟩
theorem ACall.known{E:Env}{f:FuncId}{args:List AVal}{st:St}{Q:AVal->St->Prop} (h:bndL args->keysLt st.next st.m->ACall E f args st Q):ACall E f args st Q:=⟨λF Γ w cargs hs=>(h hs.rep.bndL hs.keysLt).go F Γ w cargs hs⟩
inductive Deep:AVal->Prop|leaf{x:AVal} (h:bnd x) (hc:match x with|.agg _|.tuple _|.slice _ _ _=>False|_=>True):Deep x|agg{cs:List AVal} (h: ∀x,x∈cs->Deep x):Deep (.agg cs)|tuple{cs:List AVal} (h: ∀x,x∈cs->Deep x):Deep (.tuple cs)|slice{w:Nat}{xs:List AVal}{o:Bool} (hl:xs.length<=Bg) (h: ∀x,x∈xs->Deep x):Deep (.slice w xs o)
theorem Deep.bnd{x:AVal} (h:Deep x):VM.bnd x:=by induction h with|leaf h hc=>exact h|agg h ih=>rename_i cs;simp only[VM.bnd];clear h;induction cs<;>grind[VM.bndL]|tuple h ih=>rename_i cs;simp only[VM.bnd];clear h;induction cs<;>grind[VM.bndL]|slice hl h ih=>grind[VM.bnd]
theorem AOW{n:Nat} (h:n<=Bg):IntKind.i64.wrap (n:Int)=n:=by grind[Bg,IntKind.wrap,IntKind.bits,IntKind.signed]
theorem ADI{n:Nat} (h:n<=Bg):IntKind.i64.wrap ((n:Int)+1)=((n+1:Nat):Int):=by grind[Bg,IntKind.wrap,IntKind.bits,IntKind.signed]
end Go.VM
set_option linter.unusedVariables false
namespace Go.VM
section
variable{E:Env}{mv:List Tmp}{ops:Array Oper}{K:List AVal->St->Prop}{af:List AVal}{st:St}
def Rc (x:Option AVal) (d:Option Tmp) (K:List AVal->St->Prop) (af:List AVal) (st:St):Prop:=match x with|some r=>K (Ab af d r) st|none=>False
def NG (x:Option AVal) (d:Option Tmp) (K:List AVal->St->Prop) (af:List AVal) (st:St):Prop:=match x with|some r=>K (Ab af d r.strip) st|none=>False
def P6 (x:Option (AVal×St)) (d:Option Tmp) (K:List AVal->St->Prop) (af:List AVal):Prop:=match x with|some p=>K (Ab af d p.1) p.2|none=>False
def Ad7 (b:Bool) (x:AVal) (d:Option Tmp) (K:List AVal->St->Prop) (af:List AVal) (st:St):Prop:=if b=true then K (Ab af d (.ptr st.next 0)) {m:=(st.next,AX x)::st.m,next:=st.next+1}else False
def Zk (x:Option (List AVal)) (d:Option Tmp) (K:List AVal->St->Prop) (af:List AVal) (st:St):Prop:=match x with|some cs=>K (Ab af d (.ptr st.next 0)) {m:=(st.next,cs)::st.m,next:=st.next+1}|none=>False
def AWA (x u:Option AVal) (y:Option (AVal×St)) (st:St):Option (AVal×St):=match x with|some r=>some (r.strip,st)|none=>match u with|some r=>some (r,st)|none=>y
def SB (x:Option St) (K:List AVal->St->Prop) (af:List AVal):Prop:=match x with|some st=>K af st|none=>False
def AWL (x:AVal) (n:Nat):Option AVal:=match x with|.tuple vs=>vs[n]?|_=>none
def AXS (x:AVal) (n:Nat):AVal:=match x with|.tuple vs=>.tuple (vs.set n ((vs.getD n .any).strip))|x=>x
def Ak3 (x:Option AVal) (y:Option St) (d:Option Tmp) (K:List AVal->St->Prop) (af:List AVal) (st:St):Prop:=match x with|some r=>K (Ab af d r) st|none=>match y with|some st'=>K (Ab af d (.sh st.next)) st'|none=>False
def ABQ (E:Env) (t:TypeId) (x:AVal) (lo hi mx:Option (Option Int)) (d:Option Tmp) (K:List AVal->St->Prop) (af:List AVal) (st:St):Prop:=match lo,hi,mx with|some l,some h,some m=>Ak3 (FW E t x l h m) (RD E t x l h m st) d K af st|_,_,_=>False
def AeG (d:Option Tmp) (K:List AVal->St->Prop) (af:List AVal):AVal->St->Prop:=λr st=>K (Ab af d r) st
def AOj (E:Env) (f:AVal) (xs:List AVal) (d:Option Tmp) (K:List AVal->St->Prop) (af:List AVal) (st:St):Prop:=match f with|.fn (.func g) p q=>CallX E g (stripL (p++xs++q)) st (AeG d K af)|_=>False
theorem Ac9{r:AVal}{d:Option Tmp}:Rc (some r) d K af st=K (Ab af d r) st:=rfl
theorem AUT{r:AVal}{d:Option Tmp}:NG (some r) d K af st=K (Ab af d r.strip) st:=rfl
theorem AVK{r:AVal}{s:St}{d:Option Tmp}:P6 (some (r,s)) d K af=K (Ab af d r) s:=rfl
def AbE{x:AVal}{d:Option Tmp}:Ad7 true x d K af st=K (Ab af d (.ptr st.next 0)) {m:=(st.next,AX x)::st.m,next:=st.next+1}:=by simp[Ad7]
theorem AQD{cs:List AVal}{d:Option Tmp}:Zk (some cs) d K af st=K (Ab af d (.ptr st.next 0)) {m:=(st.next,cs)::st.m,next:=st.next+1}:=rfl
theorem AsL{r:AVal}{u:Option AVal}{y:Option (AVal×St)}:AWA (some r) u y st=some (r.strip,st):=rfl
theorem AtE{r:AVal}{y:Option (AVal×St)}:AWA none (some r) y st=some (r,st):=rfl
theorem Asd{y:Option (AVal×St)}:AWA none none y st=y:=rfl
theorem ASz:SB (some st) K af=K af st:=rfl
theorem AL3{n:Nat}{vs:List AVal}:AWL (.tuple vs) n=vs[n]?:=rfl
theorem AIi{n:Nat}{vs:List AVal}:AXS (.tuple vs) n=.tuple (vs.set n ((vs.getD n .any).strip)):=rfl
theorem Aan{r:AVal}{y:Option St}{d:Option Tmp}:Ak3 (some r) y d K af st=K (Ab af d r) st:=rfl
theorem AZJ{s:St}{d:Option Tmp}:Ak3 none (some s) d K af st=K (Ab af d (.sh st.next)) s:=rfl
theorem APp{t:TypeId}{x:AVal}{lo hi mx:Option Int}{d:Option Tmp}:ABQ E t x (some lo) (some hi) (some mx) d K af st=Ak3 (FW E t x lo hi mx) (RD E t x lo hi mx st) d K af st:=rfl
theorem Agz{d:Option Tmp}{r:AVal}:AeG d K af r st=K (Ab af d r) st:=rfl
theorem Alz{g:FuncId}{p q xs:List AVal}{d:Option Tmp}:AOj E (.fn (.func g) p q) xs d K af st=if callable E.P g=true then ACall E g (stripL (p++xs++q)) st (AeG d K af)else Yj E g (stripL (p++xs++q)) st (AeG d K af):=rfl
def Afk{d:Option Tmp}:PG [] d=false:=by cases d<;>rfl
section ops
variable{d:Option Tmp}{ty:TypeId}{pos:String}{aft:Array Edge}{g:Option (Nat×Bool)}
def fzK (fz:Bool) (y:Option (Nat×Nat×List AVal)) (j:Tmp) (v:AVal) (d:Option Tmp) (K:List AVal->St->Prop) (af:List AVal) (st:St):Prop:=match fz,y with|true,some (i,w,xs)=>K (Ab (af.set j (.slice w xs false)) d (.slice w xs false)) {st with m:=Ar st.m i [.any]}|_,_=>K (Ab (stripAt af (.tmp j)) d v) st
theorem Au1{y:Option (Nat×Nat×List AVal)}{j:Tmp}{v:AVal}:fzK false y j v d K af st=K (Ab (stripAt af (.tmp j)) d v) st:=rfl
theorem Au7{i w:Nat}{xs:List AVal}{j:Tmp}{v:AVal}:fzK true (some (i,w,xs)) j v d K af st=K (Ab (af.set j (.slice w xs false)) d (.slice w xs false)) {st with m:=Ar st.m i [.any]}:=rfl
def AvY{fz:Bool}{j:Tmp}{v:AVal}:fzK fz none j v d K af st=K (Ab (stripAt af (.tmp j)) d v) st:=by cases fz<;>rfl
def nmK (fz:Bool) (v:AVal) (x:Operand) (d:Option Tmp) (K:List AVal->St->Prop) (af:List AVal) (st:St):Prop:=match v,x with|.vec w xs,.tmp i=>K (Ab (af.set i (.sh st.next)) d (.sh st.next)) {m:=(st.next,[.vec w xs])::st.m,next:=st.next+1}|.sh i,.tmp j=>fzK fz (Jv st (.sh i)) j (.sh i) d K af st|v,x=>K (Ab (stripAt af x) d v) st
def mvK (b fz:Bool) (x:Operand) (ty:TypeId) (E:Env) (d:Option Tmp) (K:List AVal->St->Prop) (af:List AVal) (st:St):Prop:=if b=true then nmK fz (rd E af ty x) x d K af st else K (Ab af d (rd E af ty x).strip) st
def Alt{fz:Bool}{x:Operand}:mvK true fz x ty E d K af st=nmK fz (rd E af ty x) x d K af st:=by simp[mvK]
theorem AuR{fz:Bool}{i w:Nat}{xs:List AVal}:nmK fz (.vec w xs) (.tmp i) d K af st=K (Ab (af.set i (.sh st.next)) d (.sh st.next)) {m:=(st.next,[.vec w xs])::st.m,next:=st.next+1}:=rfl
def Atg{fz:Bool}{x:Operand}:nmK fz .any x d K af st=K (Ab (stripAt af x) d .any) st:=by cases x<;>rfl
def AuI{fz:Bool}{x:Operand}{k:IntKind}{n:Int}:nmK fz (.int k n) x d K af st=K (Ab (stripAt af x) d (.int k n)) st:=by cases x<;>rfl
def AqP{fz:Bool}{x:Operand}{b:Bool}:nmK fz (.bool b) x d K af st=K (Ab (stripAt af x) d (.bool b)) st:=by cases x<;>rfl
def Atu{fz:Bool}{x:Operand}{s:B8}:nmK fz (.str s) x d K af st=K (Ab (stripAt af x) d (.str s)) st:=by cases x<;>rfl
def AsC{fz:Bool}{x:Operand}{c:List AVal}:nmK fz (.agg c) x d K af st=K (Ab (stripAt af x) d (.agg c)) st:=by cases x<;>rfl
def Afb{fz:Bool}{x:Operand}{c:List AVal}:nmK fz (.tuple c) x d K af st=K (Ab (stripAt af x) d (.tuple c)) st:=by cases x<;>rfl
def Agx{fz:Bool}{x:Operand}{w:Nat}{c:List AVal}{o:Bool}:nmK fz (.slice w c o) x d K af st=K (Ab (stripAt af x) d (.slice w c o)) st:=by cases x<;>rfl
def Att{fz:Bool}{x:Operand}{i f:Nat}:nmK fz (.ptr i f) x d K af st=K (Ab (stripAt af x) d (.ptr i f)) st:=by cases x<;>rfl
def AuB{fz:Bool}{x:Operand}{e:TypeId}{l:B8}{o:Bool}:nmK fz (.buf e l o) x d K af st=K (Ab (stripAt af x) d (.buf e l o)) st:=by cases x<;>rfl
def Aqb{fz:Bool}{x:Operand}{e:TypeId}{l:B8}{o:Bool}:nmK fz (.bufp e l o) x d K af st=K (Ab (stripAt af x) d (.bufp e l o)) st:=by cases x<;>rfl
theorem Aut{fz:Bool}{j:Tmp}{i:Nat}:nmK fz (.sh i) (.tmp j) d K af st=fzK fz (Jv st (.sh i)) j (.sh i) d K af st:=rfl
def AsG{fz:Bool}{x:Operand}{w i l:Nat}:nmK fz (.gsl w i l) x d K af st=K (Ab (stripAt af x) d (.gsl w i l)) st:=by cases x<;>rfl
def AtV{fz:Bool}{x:Operand}{w i o l:Nat}:nmK fz (.bsl w i o l) x d K af st=K (Ab (stripAt af x) d (.bsl w i o l)) st:=by cases x<;>rfl
def AoZ{fz:Bool}{x:Operand}{s:B8}{p:Nat}:nmK fz (.iter s p) x d K af st=K (Ab (stripAt af x) d (.iter s p)) st:=by cases x<;>rfl
def tkK (y:Option (Nat×Nat×List AVal)) (v:AVal) (x:Operand) (d:Option Tmp) (K:List AVal->St->Prop) (af:List AVal) (st:St):Prop:=match y with|some (i,w,xs)=>K (Ab af d (.vec w xs)) {st with m:=Ar st.m i [.any]}|none=>K (Ab (stripAt af x) d v) st
theorem Afy{i w:Nat}{xs:List AVal}{v:AVal}{x:Operand}:tkK (some (i,w,xs)) v x d K af st=K (Ab af d (.vec w xs)) {st with m:=Ar st.m i [.any]}:=rfl
theorem AhR{v:AVal}{x:Operand}:tkK none v x d K af st=K (Ab (stripAt af x) d v) st:=rfl
def vnK (y:Option Nat) (X:Prop) (d:Option Tmp) (K:List AVal->St->Prop) (af:List AVal) (st:St):Prop:=match y with|some w=>K (Ab af d (.vec w [])) st|none=>X
theorem Ahd{w:Nat}{X:Prop}:vnK (some w) X d K af st=K (Ab af d (.vec w [])) st:=rfl
theorem Ak9{X:Prop}:vnK none X d K af st=X:=rfl
theorem Afv{t:TypeId}:AXH E (.const (.slice none 0 0)) t=Bj E.P t:=rfl
theorem Ahx{i:Tmp}{t:TypeId}:AXH E (.tmp i) t=none:=rfl
def atK (x:Operand) (ty:TypeId) (E:Env) (d:Option Tmp) (K:List AVal->St->Prop) (af:List AVal) (st:St):Prop:=match x with|.tmp i=>tkK (Jv st (af.getD i .any)) (af.getD i .any) (.tmp i) d K af st|x=>K (Ab (stripAt af x) d (rd E af ty x)) st
theorem AoC{i:Tmp}:atK (.tmp i) ty E d K af st=tkK (Jv st (af.getD i .any)) (af.getD i .any) (.tmp i) d K af st:=rfl
def asT (x:Operand) (ty:TypeId) (E:Env) (d:Option Tmp) (K:List AVal->St->Prop) (af:List AVal) (st:St):Prop:=vnK (AXH E x ty) (atK x ty E d K af st) d K af st
theorem At3{x:Operand}:asT x ty E d K af st=vnK (AXH E x ty) (atK x ty E d K af st) d K af st:=rfl
def asK (b:Bool) (x:Operand) (ty:TypeId) (E:Env) (d:Option Tmp) (K:List AVal->St->Prop) (af:List AVal) (st:St):Prop:=if b=true then asT x ty E d K af st else K (Ab (stripAt af x) d (rd E af ty x)) st
def Alh{x:Operand}:asK true x ty E d K af st=asT x ty E d K af st:=by simp[asK]
def Aas{x:Operand}:asK false x ty E d K af st=K (Ab (stripAt af x) d (rd E af ty x)) st:=by simp[asK]
def vaR (i:Nat) (y:Option (List AVal)):Option (Nat×Nat×List AVal):=match y with|some [.vec w xs]=>some (i,w,xs)|_=>none
theorem AsA{w:Nat}{xs:List AVal}:Jv st (.vec w xs)=none:=rfl
def AvM{i:Nat}:Jv st (.sh i)=vaR i (Af st.m i):=by unfold vaR;rfl
theorem AjM{i w:Nat}{xs:List AVal}:vaR i (some [.vec w xs])=some (i,w,xs):=rfl
def Aa6{fz:Bool}{x:Operand}:mvK false fz x ty E d K af st=K (Ab af d (rd E af ty x).strip) st:=by simp[mvK]
def ldK (b:Bool) (t:TypeId) (x:AVal) (E:Env) (d:Option Tmp) (K:List AVal->St->Prop) (af:List AVal) (st:St):Prop:=if b=true then P6 (RO E t x st) d K af else NG (Rb E t x st) d K af st
def Ahl{t:TypeId}{x:AVal}:ldK true t x E d K af st=P6 (RO E t x st) d K af:=by simp[ldK]
def AcE{t:TypeId}{x:AVal}:ldK false t x E d K af st=NG (Rb E t x st) d K af st:=by simp[ldK]
theorem AeX{d:Tmp}:ABr mv (some d)=mv.contains (d+1000000):=rfl
theorem AcD:ABr mv none=false:=rfl
def AqK{x:Operand}:Cu E mv ⟨d,.move x,ty,pos,aft,g⟩ af st K=mvK (PG mv d) (ABr mv d) x ty E d K af st:=by
 simp only[Cu,D8,mvK];cases PG mv d;·simp
 ·simp only[aD];cases x with
  |tmp i=>
   have e:ACb (ABr mv d) af (.tmp i) st=if ABr mv d=true then(Jv st (af.getD i .any)).map λp=>(i,p.1,p.2.1,p.2.2)else none:=by cases ABr mv d<;>rfl
   rw[e];simp only[nameV,rd];generalize af.getD i .any=v;cases v<;>cases ABr mv d<;>try rfl
   rename_i j;simp only[nmK,fzK,aD];rcases Jv st (.sh j)with _|⟨i',w,xs⟩<;>simp
  |_=>simp only[nameV];cases ABr mv d<;>cases (rd E af ty _)<;>rfl
def Abk{x:Operand}:Cu E mv ⟨d,.assign x,ty,pos,aft,g⟩ af st K=asK (PG mv d) x ty E d K af st:=by
 simp only[Cu,D8,asK];cases PG mv d;·simp
 ·simp only[aD,Zq,asT,vnK];cases AXH E x ty with|some w=>rfl|none=>cases x with|tmp i=>simp only[Ya,rd,atK,tkK];cases Jv st (af.getD i .any)<;>rfl|_=>rfl
def alG{α:Type} (b:Bool) (x y:Option α):Option α:=if b=true then x else y
theorem Avw{α:Type}{x y:Option α}:alG false x y=y:=rfl
theorem Av5{α:Type}{x y:Option α}:alG true x y=x:=rfl
def Agf{t:TypeId}:Cu E mv ⟨d,.alloc t,ty,pos,aft,g⟩ af st K=Zk (alG (PG mv d) (VF E.P t st.next) (CX E.P t st.next)) d K af st:=by
 simp only[Cu,D8,Zk,alG];cases PG mv d<;>simp only[aD,aA,aj];·cases CX E.P t st.next<;>rfl
 grind
def AtO{t:TypeId}{x:Operand}:Cu E mv ⟨d,.box t x,ty,pos,aft,g⟩ af st K=Ad7 (CW (rd E af t x)) (rd E af t x) d K (stripAt af x) st:=by simp only[Cu,D8,Ad7];cases CW (rd E af t x)<;>simp
def Ag1{t:TypeId}{ps:List (Nat×Operand)}:Cu E mv ⟨d,.build t ⟨ps⟩,ty,pos,aft,g⟩ af st K=Rc (TG E t (BO E (AP E.P t) af ps).2) d K (BO E (AP E.P t) af ps).1 st:=by simp only[Cu,D8,Rc];cases TG E t (BO E (AP E.P t) af ps).2<;>rfl
def bsK (b:Bool) (u:Option (Nat×List AVal)) (v:Option AVal) (n:Nat) (d:Option Tmp) (K:List AVal->St->Prop) (af1 af:List AVal) (st:St):Prop:=if b=true then(match u with|some p=>K (Ab af1 d (.gsl p.1 st.next n)) {m:=(st.next,p.2)::st.m,next:=st.next+1}|none=>False)else Rc v d K af st
def AbS{u:Option (Nat×List AVal)}{v:Option AVal}{n:Nat}{af1:List AVal}:bsK false u v n d K af1 af st=Rc v d K af st:=by simp[bsK]
def AAh{v:Option AVal}{n w:Nat}{cs af1:List AVal}:bsK true (some (w,cs)) v n d K af1 af st=K (Ab af1 d (.gsl w st.next n)) {m:=(st.next,cs)::st.m,next:=st.next+1}:=by simp[bsK]
def ACa{t:TypeId}{n:Nat}{ps:List (Nat×Operand)}:Cu E mv ⟨d,.buildSlice t n ⟨ps⟩,ty,pos,aft,g⟩ af st K=bsK (PG mv d) (Ia E t n (BO E (λ_=>AP E.P t 0) af ps).2) (Gz E t n (BO E (λ_=>AP E.P t 0) af ps).2) n d K (BO E (λ_=>AP E.P t 0) af ps).1 af st:=by
 simp only[Cu,D8,Rc,bsK];cases PG mv d;·simp only[aj,aA];cases Gz E t n (BO E (λ_=>AP E.P t 0) af ps).2<;>rfl
 ·simp only[aD];cases Ia E t n (BO E (λ_=>AP E.P t 0) af ps).2<;>rfl
def An6{t:TypeId}{x:Operand}:Cu E mv ⟨d,.load t x,ty,pos,aft,g⟩ af st K=ldK (PG mv d) t (rd E af 0 x) E d K af st:=by
 simp only[Cu,D8,ldK,P6,NG];cases PG mv d;·simp only[aj,aA];cases Rb E t (rd E af 0 x) st<;>rfl
 ·simp only[aD];cases RO E t (rd E af 0 x) st<;>rfl
def Akz{t:TypeId}{x y:Operand}:Cu E mv ⟨none,.store t x y,ty,pos,aft,g⟩ af st K=SB (OP E t (rd E af 0 x) (rd E af t y) st) K (stripAt af y):=by simp only[Cu,D8,SB,c9,aD];cases OP E t (rd E af 0 x) (rd E af t y) st<;>rfl
def ATu{t n:Nat}:Cu E mv ⟨d,.extract (.tmp t) n,ty,pos,aft,g⟩ af st K=Rc (AWL (af.getD t .any) n) d K (af.set t (AXS (af.getD t .any) n)) st:=by grind[Cu,D8,AWL,AXS,Rc,List.getD]
def Afc{t:TypeId}{x:Operand}{lo hi mx:Option Operand}:Cu E mv ⟨d,.slice t x lo hi mx,ty,pos,aft,g⟩ af st K=ABQ E t (rd E af t x) (rdo E af lo) (rdo E af hi) (rdo E af mx) d K af st:=by simp only[Cu,D8,ABQ];cases rdo E af lo<;>cases rdo E af hi<;>cases rdo E af mx<;>(try rfl);simp only[Ak3];cases FW E t (rd E af t x) _ _ _ with|some r=>rfl|none=>simp only[];cases RD E t (rd E af t x) _ _ _ st<;>rfl
def AAD (g:Bool) (x:AVal) (d:Option Tmp) (K:List AVal->St->Prop) (af:List AVal) (st:St):Prop:=match x with|.str s=>if g=true then K (Ab af d (.iter s 0)) st else False|_=>False
def Ah8{t:TypeId}{x:Operand}:Cu E mv ⟨d,.range t x,ty,pos,aft,g⟩ af st K=AAD (C9 E.P t) (rd E af t x) d K af st:=by grind[Cu,D8,AAD,rd,C9]
theorem AXM{s:B8}:AAD true (.str s) d K af st=K (Ab af d (.iter s 0)) st:=rfl
def Zn (x:AVal) (t:Tmp) (d:Option Tmp) (K:List AVal->St->Prop) (af:List AVal) (st:St):Prop:=match x with|.iter s pos=>K (ADh s pos t d af) st|_=>False
def Apv{t:Tmp}:Cu E mv ⟨d,.next (.tmp t) true,ty,pos,aft,g⟩ af st K=Zn (af.getD t .any) t d K af st:=by simp only[Cu,D8,Zn];cases af.getD t .any<;>rfl
def AVL{t:Tmp}{s:B8}{p:Nat}:Zn (.iter s p) t d K af st=if decide (p<s.length)=true then K (Ab (af.set t (.iter s (p+(Cz s p).2))) d (.tuple [.bool true,.int .i64 p,.int .i32 (Cz s p).1])) st else K (Ab af d (.tuple [.bool false])) st:=by simp only[Zn,ADh];split<;>rfl
theorem ApG:LZ (.any)=false:=rfl
theorem AgT{b:Bool}:LZ (.bool b)=false:=rfl
theorem Ao1{k:IntKind}{n:Int}:LZ (.int k n)=false:=rfl
theorem ApO{s:B8}:LZ (.str s)=false:=rfl
theorem Apy{c:List AVal}:LZ (.agg c)=false:=rfl
theorem Ad5{c:List AVal}:LZ (.tuple c)=false:=rfl
theorem AcB{w:Nat}{c:List AVal}{o:Bool}:LZ (.slice w c o)=false:=rfl
theorem Apm{i f:Nat}:LZ (.ptr i f)=false:=rfl
theorem Ahu:LZ (.nilp)=false:=rfl
theorem Alk{c:List AVal}:LZ (.cptr c)=false:=rfl
theorem Atk{f:Fn}{p q:List AVal}:LZ (.fn f p q)=false:=rfl
theorem AZo:LZ (.nilFn)=false:=rfl
theorem AeO{t:TypeId}{v:AVal}:LZ (.iface t v)=false:=rfl
theorem AHv:LZ (.nilIface)=false:=rfl
theorem Aol{w i f n:Nat}:LZ (.bsl w i f n)=false:=rfl
theorem AaS{i:Nat}{T:TypeId}{n:Nat}:LZ (.nself i T n)=false:=rfl
theorem Aqi{e:TypeId}{l:B8}{o:Bool}:LZ (.buf e l o)=false:=rfl
theorem Afi{e:TypeId}{l:B8}{o:Bool}:LZ (.bufp e l o)=false:=rfl
def shS (b:Bool) (x y:Option St):Option St:=if b=true then x else y
def ArB{x y:Option St}:shS false x y=y:=by simp[shS]
def ArP{x y:Option St}:shS true x y=x:=by simp[shS]
def TF (E:Env) (t:TypeId) (addr v:AVal) (st:St):Option St:=match v with
 |.sh i=>match Af st.m i with|some [.slice w xs o]=>if LZ addr=false then Q9 E t addr (.slice w xs o) {st with m:=Ar st.m i [.slice w xs false]}else none|_=>Q9 E t addr (.sh i) st
 |v=>Q9 E t addr v st
def Xb{t:TypeId}{x v:AVal}:OP E t x v st=shS (LZ v) (TF E t x v st) (Q9 E t x v st):=by cases v<;>first|rfl|(simp only[shS,LZ,aD];rfl)
def AtJ{t:TypeId}{i f:Nat}{v:AVal}:OP E t (.ptr i f) v st=shS (LZ v) (TF E t (.ptr i f) v st) (X5 E t (.ptr i f) v st):=Xb
def AY2{t:TypeId}{i w n:Nat}{v:AVal}:OP E t (.sptr i w n) v st=shS (LZ v) (TF E t (.sptr i w n) v st) (AAf E t (.sptr i w n) v st):=Xb
def agK (b:Bool) (u:Option (Nat×Nat×List AVal×List (Nat×List AVal)×Option Nat)) (X:Prop) (d:Option Tmp) (K:List AVal->St->Prop) (af:List AVal) (st:St):Prop:=if b=true then(match u with|some (wd,l,cs,rest,jo)=>∀i,i=st.next\/jo=some i->K (Ab af d (.gsl wd i l)) {m:=(i,cs)::rest,next:=st.next+1}|none=>False)else X
def Acf{u:Option (Nat×Nat×List AVal×List (Nat×List AVal)×Option Nat)}{X:Prop}:agK false u X d K af st=X:=by simp[agK]
theorem AbY{w:Nat}{l:List AVal}{o:Bool}:Sl (.slice w l o)=false:=rfl
theorem ApK{l:B8}:Sl (.str l)=false:=rfl
theorem ApX{w i n:Nat}:Sl (.gsl w i n)=true:=rfl
def Afn{w:Nat}{l:List AVal}{o:Bool}{y:AVal}:AAG (.slice w l o) y=Sl y:=by simp[AAG,Sl]
def Ati{e:TypeId}{l:B8}{o:Bool}{y:AVal}:AAG (.buf e l o) y=Sl y:=by simp[AAG,Sl]
def AsQ{w i n:Nat}{y:AVal}:AAG (.gsl w i n) y=true:=by simp[AAG,Sl]
theorem Atv{t0 t1:TypeId}{x:AVal}{w i n:Nat}:appG E t0 t1 x (.gsl w i n) st=AOa E t0 t1 x (.gsl w i n) st:=rfl
def ApF{wd l:Nat}{cs:List AVal}{rest:List (Nat×List AVal)}{jo:Option Nat}{X:Prop}{d:Option Tmp}{K:List AVal->St->Prop}{af:List AVal}{st:St} (h: ∀i,i=st.next\/jo=some i->K (Ab af d (.gsl wd i l)) {m:=(i,cs)::rest,next:=st.next+1}):agK true (some (wd,l,cs,rest,jo)) X d K af st:=by grind[agK]
theorem Auh{t0 t1:TypeId}{x:AVal}{l:B8}:appG E t0 t1 x (.str l) st=Aap E t0 t1 x (.str l) st:=rfl
def vpK (v:Option AVal) (y:Option St) (d:Option Tmp) (K:List AVal->St->Prop) (af1 af:List AVal) (st:St):Prop:=match v with|some r=>K (Ab af1 d r) st|none=>match y with|some st'=>K (Ab af d (.sh st.next)) st'|none=>False
theorem Al0{r:AVal}{y:Option St}{af1:List AVal}:vpK (some r) y d K af1 af st=K (Ab af1 d r) st:=rfl
theorem Ag2{s:St}{af1:List AVal}:vpK none (some s) d K af1 af st=K (Ab af d (.sh st.next)) s:=rfl
def apK (b:Bool) (u v:Option AVal) (y:Option St) (f:Option (AVal×St)) (d:Option Tmp) (K:List AVal->St->Prop) (af af0:List AVal) (st:St):Prop:=if b=true then(match u with|some r=>K (Ab af d (.sh st.next)) {m:=(st.next,[r])::st.m,next:=st.next+1}|none=>P6 f d K af0)else vpK v y d K af af0 st
def AZG{u v:Option AVal}{y:Option St}{f:Option (AVal×St)}{af0:List AVal}:apK false u v y f d K af af0 st=vpK v y d K af af0 st:=by simp[apK]
def AvI{v:Option AVal}{y:Option St}{f:Option (AVal×St)}{af0:List AVal}:apK true none v y f d K af af0 st=P6 f d K af0:=by simp[apK]
def Akt{v:Option AVal}{r:AVal}{y:Option St}{f:Option (AVal×St)}{af0:List AVal}:apK true (some r) v y f d K af af0 st=K (Ab af d (.sh st.next)) {m:=(st.next,[r])::st.m,next:=st.next+1}:=by simp[apK]
theorem AUq{t:TypeId}:Cu E mv ⟨d,.makeMap t none,ty,pos,aft,g⟩ af st K=K (Ab af d (.sh st.next)) {m:=(st.next,[.map [] []])::st.m,next:=st.next+1}:=rfl
def Xj{t:TypeId}{m k:Operand}{ok:Bool}:Cu E mv ⟨d,.lookup t m k ok,ty,pos,aft,g⟩ af st K=Rc (TV E t (rd E af t m) (rd E af 0 k) ok st) d K af st:=by simp only[Cu,D8,Rc];cases TV E t (rd E af t m) (rd E af 0 k) ok st<;>rfl
def WT{t:TypeId}{m k x:Operand}:Cu E mv ⟨none,.mapUpdate t m k x,ty,pos,aft,g⟩ af st K=SB (Uo E t (rd E af t m) (rd E af 0 k) (rd E af 0 x) st) K af:=by simp only[Cu,D8,SB,c9,aD];cases Uo E t (rd E af t m) (rd E af 0 k) (rd E af 0 x) st<;>rfl
def Abv{t:TypeId}{m k x:Operand}:Cu E mv ⟨none,.insert t m k x,ty,pos,aft,g⟩ af st K=SB (Uo E t (rd E af t m) (rd E af 0 k) (rd E af 0 x) st) K af:=by simp only[Cu,D8,SB,c9,aD];cases Uo E t (rd E af t m) (rd E af 0 k) (rd E af 0 x) st<;>rfl
def AZ2{x y:Operand}{t0 t1:TypeId}{ts:List TypeId}:Cu E mv ⟨d,.call {callee:=.builtin .append,args:=⟨[x,y]⟩,argTypes:=⟨t0::t1::ts⟩},ty,pos,aft,g⟩ af st K=agK (AAG (rd E af t0 x) (rd E af t1 y)) (appG E t0 t1 (rd E af t0 x) (rd E af t1 y) st) (apK (PG mv d) (Pj E t0 t1 (rd E af t0 x) (rd E af t1 y)) (Il E t0 t1 (rd E af t0 x) (rd E af t1 y)) (ZO E t0 t1 (rd E af t0 x) (rd E af t1 y) st) (appW E x t0 t1 (rd E af t0 x) (rd E af t1 y) st) d K (stripAt af x) af st) d K af st:=by
 simp only[Cu,D8,Rc,apK,agK];cases AAG (rd E af t0 x) (rd E af t1 y);rotate_left;·first|rfl|(simp only[aD];done)|(simp only[aD];rfl)
 simp only[aj,aA];cases PG mv d;·simp only[aj,aA,vpK];cases Il E t0 t1 (rd E af t0 x) (rd E af t1 y)with|some r=>rfl|none=>simp only[];cases ZO E t0 t1 (rd E af t0 x) (rd E af t1 y) st<;>rfl
 ·simp only[aD,P6];cases Pj E t0 t1 (rd E af t0 x) (rd E af t1 y)with|some r=>rfl|none=>simp only[];cases appW E x t0 t1 (rd E af t0 x) (rd E af t1 y) st<;>rfl
def Anz{f:Operand}{xs:List Operand}{ts:List TypeId}:Cu E mv ⟨d,.call {callee:=.value f,args:=⟨xs⟩,argTypes:=⟨ts⟩},ty,pos,aft,g⟩ af st K=AOj E (rd E af 0 f) (rdL E af xs ts) d K af st:=by simp only[Cu,AOj];rfl
def NQ{o:Oper} (h:Cu E mv o af st K=(match(DX E o af).map λr=>(Ab af o.dst r.strip,st)with|some (af',st')=>K af' st'|none=>False)):Cu E mv o af st K=NG (DX E o af) o.dst K af st:=by rw[h];simp only[NG];cases DX E o af<;>rfl
def Afd (c x y:AVal):Option AVal:=match c with|.bool t=>some (if t=true then x else y)|_=>none
theorem AXX{b:Bool}{x y:AVal}:Afd (.bool b) x y=some (if b=true then x else y):=rfl
def AoF{c x y:Operand}:Cu E mv ⟨d,.pick c x y,ty,pos,aft,g⟩ af st K=NG (Afd (rd E af 0 c) (rd E af ty x) (rd E af ty y)) d K af st:=NQ rfl
def AOt{x:Operand}:Cu E mv ⟨d,.nilCheck x,ty,pos,aft,g⟩ af st K=NG (NC (rd E af 0 x)) d K af st:=NQ rfl
def bnK (c b:Bool) (v:AVal) (d:Option Tmp) (K:List AVal->St->Prop) (af:List AVal) (st:St) (X:Prop):Prop:=if c=true then AlV b v (λr=>K (Ab af d r) st)else X
def Avo{b:Bool}{v:AVal}{X:Prop}:bnK false b v d K af st X=X:=by simp[bnK]
def Auq{w:Nat}{xs:List AVal}{o:Bool}{X:Prop}:bnK true true (.slice w xs o) d K af st X= ∀c:Bool,(c=true->xs=[])->K (Ab af d (.bool c)) st:=by simp[bnK,AlV]
def Af6{op:BinOp}{k:Tmp}:Un op (.tmp k)=false:=by cases op<;>rfl
def AqT{op:BinOp}{k:FuncId}:Un op (.func k)=false:=by cases op<;>rfl
def Aro{op:BinOp}{k:Nat}:Un op (.global k)=false:=by cases op<;>rfl
def AjB{op:BinOp}{k:IntKind}{n:Int}:Un op (.const (.int k n))=false:=by cases op<;>rfl
def AhK{op:BinOp}{s:ByteArray}:Un op (.const (.string s))=false:=by cases op<;>rfl
def AZM{op:BinOp}{s:Bool}:Un op (.const (.bool s))=false:=by cases op<;>rfl
def Ako{op:BinOp}{s:Option Addr}:Un op (.const (.pointer s))=false:=by cases op<;>rfl
def Agr{op:BinOp}{s:Array Value}:Un op (.const (.agg s))=false:=by cases op<;>rfl
def AnM{op:BinOp}:Un op (.const .nilFunc)=false:=by cases op<;>rfl
def Aqs{op:BinOp}:Un op (.const .nilIface)=false:=by cases op<;>rfl
theorem Alb:Un .eql (.const (.slice none 0 0))=true:=rfl
theorem Ai9{op:BinOp}{t u:TypeId}{x y:Operand}:Cu E mv ⟨d,.binOp op t x y u,ty,pos,aft,g⟩ af st K=bnK (Un op y) (BP E.P t) (rd E af t x) d K af st (NG (En E op t (rd E af t x) (rd E af t y)) d K af st):=by
 have e:Cu E mv ⟨d,.binOp op t x y u,ty,pos,aft,g⟩ af st K=if Un op y=true then AlV (BP E.P t) (rd E af t x) (λv=>K (Ab af d v) st)else(match(En E op t (rd E af t x) (rd E af t y)).map (λr=>(Ab af d r.strip,st))with|some (af',st')=>K af' st'|none=>False):=rfl;rw[e];unfold bnK NG;split;·rfl
 ·cases En E op t (rd E af t x) (rd E af t y)<;>rfl
def An1{op:UnOp}{t:TypeId}{x:Operand}:Cu E mv ⟨d,.unOp op t x,ty,pos,aft,g⟩ af st K=NG (unA op (rd E af 0 x)) d K af st:=NQ rfl
theorem AUZ{s t:TypeId}{x:Operand}:Cu E mv ⟨d,.convert s t x,ty,pos,aft,g⟩ af st K=P6 (AWA (Ro E s t (rd E af s x)) (Tu E s t (rd E af s x) st) (Rv E s t (rd E af s x) st) st) d K af:=by have h:DX E ⟨d,.convert s t x,ty,pos,aft,g⟩ af=Ro E s t (rd E af s x):=rfl;simp only[Cu,D8,P6,h];grind[Ro,rd,AWA,Tu,Rv]
def AMR{t:TypeId}{x y:Operand}:Cu E mv ⟨d,.makeSlice t x y,ty,pos,aft,g⟩ af st K=P6 (alG (PG mv d) (Wu E t (rd E af 0 x) (rd E af 0 y) st) (WE E t (rd E af 0 x) (rd E af 0 y) st)) d K af:=by
 simp only[Cu,D8,P6,alG];cases PG mv d<;>simp only[aD,aA,aj];·cases WE E t (rd E af 0 x) (rd E af 0 y) st<;>rfl
 ·cases Wu E t (rd E af 0 x) (rd E af 0 y) st<;>rfl
def AlX{x:Operand}{t0:TypeId}{ts:List TypeId}:Cu E mv ⟨d,.call {callee:=.builtin .unsafeSliceData,args:=⟨[x]⟩,argTypes:=⟨t0::ts⟩},ty,pos,aft,g⟩ af st K=Rc (TM (rd E af t0 x)) d K (stripAt af x) st:=by simp only[Cu,D8,Rc];cases TM (rd E af t0 x)<;>rfl
def Anr{x y:Operand}{t0 t1:TypeId}:Cu E mv ⟨d,.call {callee:=.builtin .unsafeString,args:=⟨[x,y]⟩,argTypes:=⟨[t0,t1]⟩},ty,pos,aft,g⟩ af st K=Rc (XQ E t0 (rd E af t0 x) (rd E af t1 y)) d K (stripAt af x) st:=by simp only[Cu,D8,Rc];cases XQ E t0 (rd E af t0 x) (rd E af t1 y)<;>rfl
def ARB{f:Fn}{p q:List Operand}:Cu E mv ⟨d,.makeFunc f ⟨p⟩ ⟨q⟩,ty,pos,aft,g⟩ af st K=K (Ab af d (AVal.fn f (p.map (rd E af 0)) (q.map (rd E af 0))).strip) st:=NQ rfl
def AGn{s:TypeId}{x:Operand}{f:Nat}:Cu E mv ⟨d,.fieldAddr s x f,ty,pos,aft,g⟩ af st K=NG (OE E s (rd E af 0 x) f) d K af st:=NQ rfl
def AlW{s:TypeId}{x:Operand}{f:Nat}:Cu E mv ⟨d,.field s x f,ty,pos,aft,g⟩ af st K=NG (VB E s (rd E af s x) f) d K af st:=NQ rfl
def ixV (y:Option AVal) (st:St):Option (AVal×St):=match y with|some r=>some (r,st)|none=>none
theorem Ajp{r:AVal}:ixV (some r) st=some (r,st):=rfl
theorem AMi{t:TypeId}{x i:Operand}:Cu E mv ⟨d,.indexAddr t x i,ty,pos,aft,g⟩ af st K=P6 (AWA (Cx E t (rd E af t x) (rd E af 0 i)) (Gi E t (rd E af t x) (rd E af 0 i) st) (ixV (QK E t (rd E af t x) (rd E af 0 i) st) st) st) d K af:=by have h:DX E ⟨d,.indexAddr t x i,ty,pos,aft,g⟩ af=Cx E t (rd E af t x) (rd E af 0 i):=rfl;simp only[Cu,D8,P6,h];cases Cx E t (rd E af t x) (rd E af 0 i)with|some r=>rfl|none=>simp only[AWA];cases Gi E t (rd E af t x) (rd E af 0 i) st with|some r=>rfl|none=>simp only[ixV];cases QK E t (rd E af t x) (rd E af 0 i) st<;>rfl
def AjT{t:TypeId}{x i:Operand}:Cu E mv ⟨d,.index t x i,ty,pos,aft,g⟩ af st K=NG (Ta E t (rd E af t x) (rd E af 0 i)) d K af st:=NQ rfl
def lnK (x y:Option AVal) (d:Option Tmp) (K:List AVal->St->Prop) (af:List AVal) (st:St):Prop:=match x with|some r=>K (Ab af d r.strip) st|none=>Rc y d K af st
theorem Ajb{r:AVal}{y:Option AVal}:lnK (some r) y d K af st=K (Ab af d r.strip) st:=rfl
theorem AiL{y:Option AVal}:lnK none y d K af st=Rc y d K af st:=rfl
theorem Auc{x:Operand}{t:TypeId}{ts:List TypeId}:Cu E mv ⟨d,.call {callee:=.builtin .len,args:=⟨[x]⟩,argTypes:=⟨t::ts⟩},ty,pos,aft,g⟩ af st K=lnK (RZ E t (rd E af t x)) (Z6 E t (rd E af t x) st) d K af st:=by have h:DX E ⟨d,.call {callee:=.builtin .len,args:=⟨[x]⟩,argTypes:=⟨t::ts⟩},ty,pos,aft,g⟩ af=RZ E t (rd E af t x):=rfl;simp only[Cu,D8,lnK,h,Rc];cases RZ E t (rd E af t x)with|some r=>rfl|none=>simp only[];cases Z6 E t (rd E af t x) st<;>rfl
def lvR (b:Bool) (y:Option (Nat×Nat×List AVal)):Option AVal:=match y with|some (_,_,xs)=>if b=true then some (.int .i64 xs.length)else none|none=>none
def Aus{t:TypeId}{i:Nat}:Z6 E t (.sh i) st=lvR (BP E.P t) (Jv st (.sh i)):=by unfold lvR Z6;rfl
def Aja{i w:Nat}{xs:List AVal}:lvR true (some (i,w,xs))=some (.int .i64 xs.length):=by simp[lvR]
theorem AuF{t:TypeId}{i:Nat}:RZ E t (.sh i)=none:=rfl
def Atb{x:Operand}{t:TypeId}{ts:List TypeId}:Cu E mv ⟨d,.call {callee:=.builtin .cap,args:=⟨[x]⟩,argTypes:=⟨t::ts⟩},ty,pos,aft,g⟩ af st K=NG (AgZ E t (rd E af t x)) d K af st:=NQ rfl
def AoM{x y:Operand}{t s:TypeId}:Cu E mv ⟨d,.call {callee:=.builtin .copy,args:=⟨[x,y]⟩,argTypes:=⟨[t,s]⟩},ty,pos,aft,g⟩ af st K=NG (AX6 E t (rd E af t x) (rd E af s y)) d K af st:=NQ rfl
def AsE{x y:Operand}{ts:Array TypeId}:Cu E mv ⟨d,.call {callee:=.builtin .min,args:=⟨[x,y]⟩,argTypes:=ts},ty,pos,aft,g⟩ af st K=NG (AbI (rd E af 0 x) (rd E af 0 y)) d K af st:=NQ rfl
def AsM{x y:Operand}{ts:Array TypeId}:Cu E mv ⟨d,.call {callee:=.builtin .max,args:=⟨[x,y]⟩,argTypes:=ts},ty,pos,aft,g⟩ af st K=NG (Adp (rd E af 0 x) (rd E af 0 y)) d K af st:=NQ rfl
def gdD (d:Option Tmp) (af:List AVal) (want:Bool):Option Bool:=match d with|some i=>gd (af.getD i .any) want|none=>none
def PT:List Oper->Nat->Option Tmp|[],_=>none|o::_,0=>o.dst|_::os,n+1=>PT os n
def Afo (os:List Oper) (j:Nat):PT os j=((List.toArray os)[j]?).bind (·.dst):=by rw[dg];induction os generalizing j with|nil=>simp[PT]|cons o os ih=>cases j with|zero=>simp[PT]|succ j=>grind[PT]
theorem AWy (os:List Oper) (j:Nat) (want:Bool):gdA ⟨os⟩ af j want=gdD (PT os j) af want:=by rw[Afo];rfl
theorem AqN:Lt E mv ops [] K af st=K af st:=rfl
theorem Af1{op:Op}{os:List Oper}:Lt E mv ops (⟨d,op,ty,pos,aft,none⟩::os) K af st=Cu E mv ⟨d,op,ty,pos,aft,none⟩ af st (Lt E mv ops os K):=rfl
theorem AaH{op:Op}:Nl E ops ⟨d,op,ty,pos,aft,none⟩ af st=EH E ⟨d,op,ty,pos,aft,none⟩ af st:=rfl
def Aoa{op:Op}{os':List Oper}{j:Nat}{want:Bool}:Nl E ⟨os'⟩ ⟨d,op,ty,pos,aft,some (j,want)⟩ af st=if gdD (PT os' j) af want=some true then EH E ⟨d,op,ty,pos,aft,some (j,want)⟩ af st else if gdD (PT os' j) af want=some false then some (.tuple [])else none:=by grind[Nl,AWy,gdD,PT]
def N8 (x:Option AVal):Option AVal:=x.map AVal.strip
theorem AOS{r:AVal}:N8 (some r)=some r.strip:=rfl
theorem Anf{x:Operand}:EH E ⟨d,.move x,ty,pos,aft,g⟩ af st=some (rd E af ty x).strip:=rfl
theorem AqW{t:TypeId}{x:Operand}:EH E ⟨d,.load t x,ty,pos,aft,g⟩ af st=N8 (Rb E t (rd E af 0 x) st):=rfl
def ATv (E:Env) (t:TypeId) (x:AVal) (lo hi mx:Option (Option Int)):Option AVal:=match lo,hi,mx with|some l,some h,some m=>FW E t x l h m|_,_,_=>none
theorem ARy{t:TypeId}{x:AVal}{lo hi mx:Option Int}:ATv E t x (some lo) (some hi) (some mx)=FW E t x lo hi mx:=rfl
def AkQ{t:TypeId}{x:Operand}{lo hi mx:Option Operand}:EH E ⟨d,.slice t x lo hi mx,ty,pos,aft,g⟩ af st=ATv E t (rd E af t x) (rdo E af lo) (rdo E af hi) (rdo E af mx):=by grind[EH,ATv,rdo]
theorem ABs{t:TypeId}{n:Nat}{ps:List (Nat×Operand)}:EH E ⟨d,.buildSlice t n ⟨ps⟩,ty,pos,aft,g⟩ af st=Gz E t n (BO E (λ_=>AP E.P t 0) af ps).2:=rfl
theorem AoK{c x y:Operand}:EH E ⟨d,.pick c x y,ty,pos,aft,g⟩ af st=N8 (Afd (rd E af 0 c) (rd E af ty x) (rd E af ty y)):=rfl
theorem AS2{x:Operand}:EH E ⟨d,.nilCheck x,ty,pos,aft,g⟩ af st=N8 (NC (rd E af 0 x)):=rfl
theorem AkB{op:BinOp}{t u:TypeId}{x y:Operand}:EH E ⟨d,.binOp op t x y u,ty,pos,aft,g⟩ af st=N8 (En E op t (rd E af t x) (rd E af t y)):=rfl
theorem AoG{op:UnOp}{t:TypeId}{x:Operand}:EH E ⟨d,.unOp op t x,ty,pos,aft,g⟩ af st=N8 (unA op (rd E af 0 x)):=rfl
theorem AUH{s t:TypeId}{x:Operand}:EH E ⟨d,.convert s t x,ty,pos,aft,g⟩ af st=N8 (Ro E s t (rd E af s x)):=rfl
theorem ASt{f:Fn}{p q:List Operand}:EH E ⟨d,.makeFunc f ⟨p⟩ ⟨q⟩,ty,pos,aft,g⟩ af st=some (AVal.fn f (p.map (rd E af 0)) (q.map (rd E af 0))).strip:=rfl
theorem ALh{s:TypeId}{x:Operand}{f:Nat}:EH E ⟨d,.fieldAddr s x f,ty,pos,aft,g⟩ af st=N8 (OE E s (rd E af 0 x) f):=rfl
theorem Aiq{s:TypeId}{x:Operand}{f:Nat}:EH E ⟨d,.field s x f,ty,pos,aft,g⟩ af st=N8 (VB E s (rd E af s x) f):=rfl
def ixO (x y z:Option AVal):Option AVal:=match x with|some r=>some r.strip|none=>match y with|some _=>none|none=>z
theorem AkE{r:AVal}{y z:Option AVal}:ixO (some r) y z=some r.strip:=rfl
theorem AlF{z:Option AVal}:ixO none none z=z:=rfl
theorem AIn{t:TypeId}{x i:Operand}:EH E ⟨d,.indexAddr t x i,ty,pos,aft,g⟩ af st=ixO (Cx E t (rd E af t x) (rd E af 0 i)) (Gi E t (rd E af t x) (rd E af 0 i) st) (QK E t (rd E af t x) (rd E af 0 i) st):=rfl
theorem AgD{t:TypeId}{x i:Operand}:EH E ⟨d,.index t x i,ty,pos,aft,g⟩ af st=N8 (Ta E t (rd E af t x) (rd E af 0 i)):=rfl
def lnO (x y:Option AVal):Option AVal:=match x with|some r=>some r.strip|none=>y
theorem Aff{r:AVal}{y:Option AVal}:lnO (some r) y=some r.strip:=rfl
theorem Ajj{y:Option AVal}:lnO none y=y:=rfl
theorem Atd{x:Operand}{t:TypeId}{ts:List TypeId}:EH E ⟨d,.call {callee:=.builtin .len,args:=⟨[x]⟩,argTypes:=⟨t::ts⟩},ty,pos,aft,g⟩ af st=lnO (RZ E t (rd E af t x)) (Z6 E t (rd E af t x) st):=rfl
theorem Aue{x:Operand}{t:TypeId}{ts:List TypeId}:EH E ⟨d,.call {callee:=.builtin .cap,args:=⟨[x]⟩,argTypes:=⟨t::ts⟩},ty,pos,aft,g⟩ af st=N8 (AgZ E t (rd E af t x)):=rfl
theorem Asr{x y:Operand}{ts:Array TypeId}:EH E ⟨d,.call {callee:=.builtin .min,args:=⟨[x,y]⟩,argTypes:=ts},ty,pos,aft,g⟩ af st=N8 (AbI (rd E af 0 x) (rd E af 0 y)):=rfl
theorem Ass{x y:Operand}{ts:Array TypeId}:EH E ⟨d,.call {callee:=.builtin .max,args:=⟨[x,y]⟩,argTypes:=ts},ty,pos,aft,g⟩ af st=N8 (Adp (rd E af 0 x) (rd E af 0 y)):=rfl
theorem Asv{op:Op}:gWp E mv ops ⟨d,op,ty,pos,aft,none⟩ af st K=Cu E mv ⟨d,op,ty,pos,aft,none⟩ af st K:=rfl
theorem Avc:gd (.bool true) true=some true:=rfl
theorem Avh:gd (.bool true) false=some false:=rfl
theorem AvB:gd (.bool false) true=some false:=rfl
theorem Av7:gd (.bool false) false=some true:=rfl
theorem Ag9{want:Bool}:gd (.tuple []) want=some false:=rfl
theorem Aiu{i:Nat}{want:Bool}:gdD (some i) af want=gd (af.getD i .any) want:=rfl
def opAt:List Oper->Nat->Option Oper|[],_=>none|o::_,0=>some o|_::os,n+1=>opAt os n
def AKl (os:List Oper) (j:Nat):opAt os j=(List.toArray os)[j]?:=by rw[dg];induction os generalizing j with|nil=>simp[opAt]|cons o os ih=>cases j with|zero=>simp[opAt]|succ j=>grind[opAt]
def tkR (E:Env) (mv:List Tmp) (os:List Oper) (x:Option AVal) (i:Nat) (d:Option Tmp) (p:Plan) (tv:List (Nat×AVal)) (K:List AVal->St->Prop) (af:List AVal) (st:St):Prop:=match x with|some r=>Gw E mv ⟨os⟩ p ((i,r)::tv) K (Ab af d r) st|none=>False
def tkO (E:Env) (mv:List Tmp) (os:List Oper) (x:Option Oper) (i:Nat) (p:Plan) (tv:List (Nat×AVal)) (K:List AVal->St->Prop) (af:List AVal) (st:St):Prop:=match x with|some o=>tkR E mv os (Nl E ⟨os⟩ o af st) i o.dst p tv K af st|none=>False
def Aie (E:Env) (mv:List Tmp) (os:List Oper) (chk:List Nat) (p:Plan) (tv:List (Nat×AVal)) (K:List AVal->St->Prop) (af:List AVal) (st:St):Prop:=RU E ⟨os⟩ tv af st chk/\Gw E mv ⟨os⟩ p tv K af st
def AoB (E:Env) (mv:List Tmp) (os:List Oper) (x:Option Oper) (chk:List Nat) (p:Plan) (tv:List (Nat×AVal)) (K:List AVal->St->Prop) (af:List AVal) (st:St):Prop:=match x with|some o=>gWp E mv ⟨os⟩ o af st (Aie E mv os chk p tv K)|none=>False
def AwO (E:Env) (os:List Oper) (x:Option AVal) (o:Option Oper) (af:List AVal) (st:St):Prop:=match x,o with|some r,some o=>Nl E ⟨os⟩ o af st=some r|_,_=>False
variable{os:List Oper}{tv:List (Nat×AVal)}{p rest:Plan}{chk:List Nat}{i:Nat}
theorem Akv{op:Op}:tkO E mv os (some ⟨d,op,ty,pos,aft,g⟩) i p tv K af st=tkR E mv os (Nl E ⟨os⟩ ⟨d,op,ty,pos,aft,g⟩ af st) i d p tv K af st:=rfl
theorem Alc{r:AVal}:tkR E mv os (some r) i d p tv K af st=Gw E mv ⟨os⟩ p ((i,r)::tv) K (Ab af d r) st:=rfl
theorem AeS{o:Oper}:AoB E mv os (some o) chk p tv K af st=gWp E mv ⟨os⟩ o af st (Aie E mv os chk p tv K):=rfl
theorem Ah1:Aie E mv os chk p tv K af st=(RU E ⟨os⟩ tv af st chk/\Gw E mv ⟨os⟩ p tv K af st):=rfl
theorem Abg:Gw E mv ⟨os⟩ .done tv K af st=K af st:=rfl
theorem Ab7:Gw E mv ⟨os⟩ .stop tv K af st=True:=rfl
def AbM:Gw E mv ⟨os⟩ (.take i p) tv K af st=tkO E mv os (opAt os i) i p tv K af st:=by rw[AKl];rfl
def AjF:Gw E mv ⟨os⟩ (.alt i chk p rest) tv K af st=(AoB E mv os (opAt os i) chk p tv K af st/\Gw E mv ⟨os⟩ rest tv K af st):=by rw[AKl];rfl
theorem AoO:RU E ⟨os⟩ tv af st []=True:=rfl
def Agp{k:Nat}{ks:List Nat}:RU E ⟨os⟩ tv af st (k::ks)=(AwO E os (XH tv k) (opAt os k) af st/\RU E ⟨os⟩ tv af st ks):=by rw[AKl];rfl
theorem AZN{r:AVal}{o:Oper}:AwO E os (some r) (some o) af st=(Nl E ⟨os⟩ o af st=some r):=rfl
end ops
end
end Go.VM
set_option linter.unusedVariables false
namespace Go.VM
def grd{α:Type} (c:Prop) [Decidable c] (x:Option α):Option α:=if c then x else none
def ATw{α:Type} (x:Option α):Option α:=x
theorem AE2{α:Type}{x:Option α}:ATw x=x:=rfl
inductive PC where|k|w|v (x:AVal)
inductive BX where|k|d|s (c:List AVal)|t (c:Nat->List AVal)|p (ps:List PC)
inductive JD (α:Type) where|z|a (id:Nat×Nat) (js:List (Nat×Nat)) (cs:List Tmp) (V:α->List AVal)|b (id:Nat×Nat) (js:List (Nat×Nat)) (cs:List Tmp) (V:α->List AVal) (Ms:α->List BX)|n (id:Nat×Nat) (js:List (Nat×Nat)) (cs:List Tmp) (p:Tmp) (V:α->Nat->List AVal) (Ms:α->Nat->List BX) (C:α->Nat->List AVal)
def AA{α β:Type} (k:α->Option β) (body:(α->Option β)->Option β) (d:JD α:=.z):Option β:=body k
theorem AAv{α:Type}{c:Prop} [Decidable c]{x:Option α}{r:α} (h:grd c x=some r):c/\x=some r:=by grind[grd]
def bind_some{α β:Type}{x:Option α}{f:α->Option β}{r:β} (h:Option.bind x f=some r): ∃y,x=some y/\f y=some r:=by cases x with|none=>cases h|some y=>grind
def letL{α β:Type} (x:α) (f:α->Option β):Option β:=f x
def idx{α:Type} (l:List α) (i:Int):Option α:=if 0<=i then l[i.toNat]? else none
def sub{α:Type} (l:List α) (a b:Int):Option (List α):=if 0<=a/\a<=b/\b<=l.length then some ((l.drop a.toNat).take (b.toNat-a.toNat))else none
def AXn{α:Type}{l:List α}{n:Int}{x:α} (h:idx l n=some x):l[n.toNat]?=some x:=by unfold idx at h;split at h<;>simp_all
def Ao3{α β:Type} (f:α->β) (l:List α) (i:Int):idx (l.map f) i=(idx l i).map f:=by unfold idx;split<;>simp
class EO (α:Type) (f:outParam (α->AVal)):Prop
theorem Av0{α:Type}{f:α->AVal} [EO α f]{a b:List α} (c:a=b):List.map f a=List.map f b:=bu _ c
def AnF{α β:Type} (f:α->β) (l:List α) (a b:Int):sub (l.map f) a b=(sub l a b).map (List.map f):=by unfold sub;simp only[ck];split<;>simp[ft,List.map_drop]
def Ac (n b:Nat):Prop:=n * b<=140737488355328/\n<=4611686018427387904
instance (n b:Nat):Decidable (Ac n b):=by unfold Ac;infer_instance
def AL (n:Nat):Prop:=n<=4611686018427387904
instance (n:Nat):Decidable (AL n):=by unfold AL;infer_instance
def wr (k:IntKind) (n:Int):Int:=k.wrap n
def Oq (k:IntKind) (a b:Int):Int:=k.wrap (BitVec.ofInt k.bits a&&&BitVec.ofInt k.bits b).toNat
def O9 (k:IntKind) (a b:Int):Int:=k.wrap (BitVec.ofInt k.bits a|||BitVec.ofInt k.bits b).toNat
def AlT (k:IntKind) (a b:Int):Int:=k.wrap (BitVec.ofInt k.bits a^^^BitVec.ofInt k.bits b).toNat
def AAB (k:IntKind) (a b:Int):Int:=k.wrap (BitVec.ofInt k.bits a&&& ~~~ BitVec.ofInt k.bits b).toNat
def AD8 (k:IntKind) (x y:Int):Int:=k.wrap (x * 2^min y.toNat k.bits)
def AB1 (k:IntKind) (x y:Int):Int:=x.fdiv (2^min y.toNat k.bits)
section
variable{E:Env}{st:St}{af:List AVal}
def Atx (e:Option Nat) (w:Nat) (y:Option AVal):Option AVal:=match y with|some y=>if e=some w/\(AX y).length=w then some (.cptr (AX y))else none|none=>none
def Afa{t:TypeId}{w:Nat}{xs:List AVal}{o:Bool}{k:IntKind}{n:Int}:Cx E t (.slice w xs o) (.int k n)=Atx (Bj E.P t) w (idx xs n):=by simp only[Cx,Atx,idx];by_cases h1:Bj E.P t=some w<;>by_cases h2:0<=n<;>simp[h1,h2]<;>cases xs[n.toNat]?<;>simp
theorem AZh{e:Option Nat}{w:Nat}{y:AVal}:Atx e w (some y)=if e=some w/\(AX y).length=w then some (.cptr (AX y))else none:=rfl
def Atf (b:Bool) (x:Option UInt8):Option AVal:=match x with|some c=>if b=true then some (.int .u8 c.toNat)else none|none=>none
def Asf{t:TypeId}{s:B8}{k:IntKind}{n:Int}:Ta E t (.str s) (.int k n)=Atf (C9 E.P t) (idx s n):=by simp only[Ta,Atf,idx];cases C9 E.P t<;>by_cases h2:0<=n<;>simp[h2]<;>cases s[n.toNat]?<;>simp
theorem Ac5{c:UInt8}:Atf true (some c)=some (.int .u8 (AJ c)):=rfl
def AtG (b:Bool) (x:Option B8):Option AVal:=match x with|some s=>if b=true then some (.str s)else none|none=>none
def Ary{t:TypeId}{s:B8}{lo hi:Option Int}:FW E t (.str s) lo hi none=AtG (C9 E.P t) (sub s (lo.getD 0) (hi.getD s.length)):=by
 simp only[FW,AtG,sub];by_cases h:0<=lo.getD 0/\lo.getD 0<=hi.getD s.length/\hi.getD s.length<=s.length
 ·rw[aq h];cases C9 E.P t;·rw[an fy];rfl
  ·rw[aq ⟨rfl,trivial,h⟩];rfl
 ·rw[an h,an (λk=>h k.2.2)]
theorem Adl{s:B8}:AtG true (some s)=some (.str s):=rfl
def AKV (e:Option Nat) (w:Nat) (o:Bool) (x:Option (List AVal)):Option AVal:=match x with|some s=>if e=some w then some (.slice w s o)else none|none=>none
def AkV{t:TypeId}{w:Nat}{xs:List AVal}{o:Bool}{lo hi:Option Int}:FW E t (.slice w xs o) lo hi none=AKV (Bj E.P t) w false (sub xs (lo.getD 0) (hi.getD xs.length)):=by grind[FW,AKV,sub,Bj]
def AZe{t:TypeId}{w:Nat}{xs:List AVal}{o:Bool}{lo:Option Int}{h:Int}:FW E t (.slice w xs o) lo (some h) (some h)=AKV (Bj E.P t) w true (sub xs (lo.getD 0) h):=by grind[FW,AKV,sub,Bj]
def Aca{w:Nat}{o:Bool}{s:List AVal}:AKV (some w) w o (some s)=some (.slice w s o):=by simp[AKV]
def AVy (e:Option (Nat×Nat)) (i:Option IntKind) (b:Bool) (wd:Nat) (xs:List AVal) (ys:Option (List AVal)):Option AVal:=match e,ys with|some (z,by_),some ys=>if z=wd/\i=none/\b=true/\Ac (xs.length+ys.length) by_ then some (.slice wd (xs++ys) true)else none|_,_=>none
set_option linter.unusedSimpArgs false in theorem Aj8{t0 t1:TypeId}{wd:Nat}{xs:List AVal}{y:AVal}:Il E t0 t1 (.slice wd xs true) y=AVy (J4 E.P t0) (Hl E.P t1) (Ae E.P t1) wd xs (PW wd y):=by simp only[Il,NW,AVy];rcases J4 E.P t0 with _|⟨z,b⟩<;>rcases PW wd y with _|ys<;>try rfl
def Aa3{wd by_:Nat}{xs ys:List AVal}:AVy (some (wd,by_)) none true wd xs (some ys)=if Ac (xs.length+ys.length) by_ then some (.slice wd (xs++ys) true)else none:=by simp[AVy]
def AV6{wd:Nat}{ys:List AVal}{o:Bool}:PW wd (.slice wd ys o)=some ys:=by simp[PW]
def Ak6{l:B8}:PW 1 (.str l)=some ((l.map AJ).map (.int .u8)):=by simp[PW,AJ]
def apB (i:Bool) (e:Option (Nat×Nat)) (n:Option IntKind) (b:Bool) (el:TypeId) (l m:B8):Option AVal:=match i,e,n,b with|true,some (1,by_),none,true=>if Ac (l.length+m.length) by_ then some (.buf el (l++m) true)else none|_,_,_,_=>none
theorem Agu{by_:Nat}{el:TypeId}{l m:B8}:apB true (some (1,by_)) none true el l m=if Ac (l.length+m.length) by_ then some (.buf el (l++m) true)else none:=rfl
def Asa{t0 t1 el:TypeId}{l m:B8}:Il E t0 t1 (.buf el l true) (.str m)=apB (AAV E.P t0 el) (J4 E.P t0) (Hl E.P t1) (Ae E.P t1) el l m:=by
 have hl:(u8s l).length=l.length:=by simp[u8s]
 cases h1:AAV E.P t0 el;·grind[Il,apB]
 rcases h2:J4 E.P t0 with _|⟨z,by_⟩;·grind[Il,NW,apB]
 cases h3:Hl E.P t1
 ·cases h4:Ae E.P t1;·grind[Il,NW,PW,apB]
  ·by_cases hz:z=1
   ·subst hz;rw[Agu];by_cases hf:Ac (l.length+m.length) by_;·have hf':=hf;unfold Ac at hf';simp[Il,NW,h1,h2,h3,h4,PW,hl,hf,Bg];exact hf'
    ·have hf':=hf;unfold Ac at hf';simp[Il,NW,h1,h2,h3,h4,PW,hl,hf,Bg];intro k1;have:=λk2=>hf' ⟨k1,k2⟩;omega
   ·have:apB true (some (z,by_)) none true el l m=none:=by
     unfold apB;split;·rename_i e1 e2 e3 e4;cases e2;exact absurd rfl hz
     ·rfl
    rw[this];simp[Il,NW,h2,h3,h4,PW,hz]
 grind[Il,NW,PW,apB]
def An7{a b:B8}:Z8 .add a b=if AL (a.length+b.length)then some (.str (a++b))else none:=by simp only[Z8,Bg];by_cases h:a.length+b.length<=4611686018427387904<;>simp[h,AL]
def AJP{i:Nat}{c:List AVal}{m:List (Nat×List AVal)}:Af ((i,c)::m) i=some c:=by simp[Af]
def Wd{i j:Nat}{c:List AVal}{m:List (Nat×List AVal)} (h:i≠j):Af ((j,c)::m) i=Af m i:=by grind[Af]
def AYO{i:Nat}{c x:List AVal}{m:List (Nat×List AVal)}:Ar ((i,c)::m) i x=(i,x)::m:=by simp[Ar]
def AXq{i j:Nat}{c x:List AVal}{m:List (Nat×List AVal)} (h:i≠j):Ar ((j,c)::m) i x=(j,c)::Ar m i x:=by grind[Ar]
def ACall.of{f:FuncId}{args args':List AVal}{Q Q':AVal->St->Prop} (hc:ACall E f args' st Q') (ha:args=args') (hq: ∀r st',st.next<=st'.next->Q' r st'->Q r st'):ACall E f args st Q:=by subst ha;exact hc.mono hq
def Sv:List AVal->AVal|[r]=>r|rs=>.tuple rs
def KA{fn:Func}{Q:AVal->St->Prop}{xs:List AVal}{st':St}{m:List (Nat×List AVal)} (h:Qe E fn.results.toList af st=some (xs,st')) (hm:m.Sublist st'.m) (hq:Q (Sv xs) {st' with m:=m}):Jh E fn Q .ret af st:=by unfold Jh;rw[h];exact⟨m,hm,hq⟩
def KH{fn:Func}{Q:AVal->St->Prop}{xs:List AVal}{st':St}{m:List (Nat×List AVal)} (h:Qe E fn.results.toList af st=some (xs,st')) (hm:m.Sublist st'.m) (hq:Q (Sv xs) {st' with m:=m}):Jh E fn Q .normal af st:=by unfold Jh;rw[h];exact⟨m,hm,hq⟩
def AWp.congr{c:Code}{Q:APost}{af':List AVal} (h:af=af') (k:AWp E c Q af' st):AWp E c Q af st:=h▸k
def stripB:List Bool->List AVal->List AVal|true::bs,x::xs=>x.strip::stripB bs xs|false::bs,x::xs=>x::stripB bs xs|[],xs=>xs|_::_,[]=>[]
def SI: ∀(bs:List Bool) (xs:List AVal),(stripB bs xs).length=xs.length|[],xs=>by rw[stripB]|_::_,[]=>by rw[stripB]|true::bs,x::xs=>by rw[stripB,ag,ag,SI bs xs]|false::bs,x::xs=>by rw[stripB,ag,ag,SI bs xs]
def Qa{Γ:Ghost}: ∀(bs:List Bool) (xs:List AVal) (vs:List Value),RepL Γ xs vs->RepL Γ (stripB bs xs) vs
 |[],xs,vs,h=>by grind[stripB]
 |_::_,[],vs,h=>by grind[stripB]
 |true::bs,x::xs,vs,h=>by cases h with|cons h t=>rw[stripB];exact .cons h.strip (Qa bs _ _ t)
 |false::bs,x::xs,vs,h=>by cases h with|cons h t=>rw[stripB];exact .cons h (Qa bs _ _ t)
def QX{Γ:Ghost}{w:World}: ∀(bs:List Bool) (xs:List AVal) (vs:List Value),ownL Γ w xs vs->ownL Γ w (stripB bs xs) vs|[],xs,vs,h=>by grind[stripB]|_::_,[],vs,h=>by grind[stripB]|true::bs,x::xs,[],h=>by grind[stripB,ownL]|false::bs,x::xs,[],h=>by grind[stripB,ownL]|true::bs,x::xs,v::vs,h=>by rw[ownL]at h;rw[stripB,ownL];exact⟨La _ _ _ _,QX bs xs vs h.2⟩|false::bs,x::xs,v::vs,h=>by rw[ownL]at h;rw[stripB,ownL];exact⟨h.1,QX bs xs vs h.2⟩
def QD (b:Nat): ∀(bs:List Bool) (xs:List AVal) (vs:List Value),AO b (stripB bs xs) vs<=AO b xs vs|[],xs,vs=>by simp_all[stripB]|_::_,[],vs=>by simp_all[stripB]|true::bs,x::xs,[]=>by grind[stripB,AO]|false::bs,x::xs,[]=>by grind[stripB,AO]|true::bs,x::xs,v::vs=>by have:=QD b bs xs vs;grind[stripB,AO,IE]|false::bs,x::xs,v::vs=>by have:=QD b bs xs vs;grind[stripB,AO]
def Sim.stripCells{F:Nat->Nat}{Γ:Ghost}{w:World}{a:Act}{i:Nat}{cs:List AVal} (bs:List Bool) (hs:Sim E F Γ st w af a.tmps.toList) (hg:Af st.m i=some cs):Sim E F Γ {st with m:=Ar st.m i (stripB bs cs)} w af a.tmps.toList:=by
 rcases hs.box_ok _ (Kv hg)with⟨b,arr,e,hb⟩|⟨v,hv⟩;rotate_left;·exact hs.setSh hg hv (Qa bs _ _ hv.rep) (QX bs _ _ hv.own) λn=>by have h1:=QD n bs cs [v];have h2:=hs.tok n;omega
 obtain⟨lo,hi,hh,hf⟩:=hb.heap;exact(hs.setBox (w':=w) (cs':=stripB bs cs) (arr':=arr) (lo:=lo) (hi:=hi) hg hb hh hf (λ_ _=>rfl) rfl rfl rfl rfl (by rw[SI];exact Qa bs _ _ hb.rep) (QX bs _ _ hb.own) (by rw[SI];exact hb.one) (λn=>by have h1:=QD n bs cs arr.toList;have h2:=hs.tok n;omega)).1
def AHW{c:Code}{Q:APost}{i j p:Nat}{cs:List AVal}{x:AVal} (hij:j≠i) (hg:Af st.m j=some cs) (h2:2<=cs.length) (hc:cs[p]?=some (.sh i)) (hi:Af st.m i=some [x]) (h:AWp E c Q af {st with m:=Ar (Ar st.m i [x.strip]) j (cs.set p x)}):AWp E c Q af st:=⟨λF Γ w a hd hs=>h.go F Γ w a hd (hs.unshCell hij hg h2 hc hi)⟩
def Z5{c:Code}{Q:APost}{m m':List (Nat×List AVal)}{n:Nat} (hp:m.Perm m') (h:AWp E c Q af ⟨m',n⟩):AWp E c Q af ⟨m,n⟩:=⟨λF Γ w a hd hs=>h.go F Γ w a hd (hs.perm hp)⟩
def ACall.perm{f:FuncId}{args:List AVal}{Q:AVal->St->Prop}{m m':List (Nat×List AVal)}{n:Nat} (hp:m.Perm m') (h:ACall E f args ⟨m',n⟩ Q):ACall E f args ⟨m,n⟩ Q:=⟨λF Γ w cargs hs=>h.go F Γ w cargs (hs.perm hp)⟩
theorem AWp.nodup{c:Code}{Q:APost} (h:(st.m.map (·.1)).Nodup->AWp E c Q af st):AWp E c Q af st:=⟨λF Γ w a hd hs=>(h hs.keys).go F Γ w a hd hs⟩
def Rk: ∀ {m:List (Nat×List AVal)}{i:Nat}{c x:List AVal},Af m i=some c->((i,x)::DR m i).Perm (Ar m i x)
 |[],_,_,_,h=>by grind[Af]
 |(j,d)::m,i,c,x,h=>by
  simp only[Af]at h;simp only[DR,Ar];split at h;·simp_all
  ·rename_i e;rw[an e,an e];exact(cv _ _ _).trans ((Rk h).cons _)
theorem Xy: ∀ {m:List (Nat×List AVal)}{i j:Nat},i≠j->Af (DR m i) j=Af m j
 |[],_,_,_=>rfl
 |(k,d)::m,i,j,h=>by
  simp only[DR];split;·rename_i e;subst e;simp only[Af];rw[an (λe=>h e.symm)]
  ·simp only[Af];rw[Xy h]
def ADM: ∀ {m:List (Nat×List AVal)}{i j:Nat}{x:List AVal},i≠j->Ar (DR m i) j x=DR (Ar m j x) i
 |[],_,_,_,_=>rfl
 | (k,d)::m,i,j,x,h=>by
  by_cases e:i=k;·subst e;simp only[DR,aD,Ar];rw[an (λe=>h e.symm)];simp[DR]
  ·by_cases e2:j=k;·grind[DR,Ar]
   ·simp only[DR,Ar,an e,an e2];rw[ADM h]
def ACall.front{f:FuncId}{args:List AVal}{m:List (Nat×List AVal)}{n i:Nat}{c:List AVal}{Q:AVal->St->Prop} (hi:Af m i=some c) (h:i<n->ACall E f args ⟨(i,c)::DR m i,n⟩ λr st'=>∃c',st'.m=(i,c')::DR m i/\Q r ⟨Ar m i c',st'.next⟩):ACall E f args ⟨m,n⟩ Q:=by
 refine ACall.known λ_ hk=>?_;have hin:i<n:=by
  rcases aS i n with h'|h';·omega
  ·have:=hk i h';grind
 constructor;intro F Γ w cargs hs;refine((h hin).go F Γ w cargs (hs.perm (J5 hi))).mono ?_;rintro e w' ⟨v,he,Γ',r,⟨m',n'⟩,h1,h2,h3,c',hm,hq⟩;simp only at hm;subst hm;exact⟨v,he,Γ',r,⟨Ar m i c',n'⟩,h1,h2,h3.perm (Rk hi),hq⟩
end
end Go.VM
set_option linter.unusedVariables false
set_option linter.defProp false
set_option maxRecDepth 100000
namespace Go.VM
section
variable{E:Env}{t:TypeId}{k:IntKind}{a b:Int}
def Arx:En E .add t (.int k a) (.int k b)=some (.int k (wr k (a+b))):=by simp[En,KV,wr]
def AuM:En E .sub t (.int k a) (.int k b)=some (.int k (wr k (a-b))):=by simp[En,KV,wr]
def As9:En E .mul t (.int k a) (.int k b)=some (.int k (wr k (a * b))):=by simp[En,KV,wr]
def AsO:En E .quo t (.int k a) (.int k b)=if b=0 then none else some (.int k (wr k (a.tdiv b))):=by simp[En,KV,wr]
def Aru:En E .rem t (.int k a) (.int k b)=if b=0 then none else some (.int k (a.tmod b)):=by simp[En,KV]
def Asg:En E .and t (.int k a) (.int k b)=some (.int k (Oq k a b)):=by simp[En,KV,Oq]
def Avk:En E .or t (.int k a) (.int k b)=some (.int k (O9 k a b)):=by simp[En,KV,O9]
theorem Asn{n:Int}:unA .xor (.int .i64 n)=some (.int .i64 (AlT .i64 (-1) n)):=rfl
def AtM:En E .xor t (.int k a) (.int k b)=some (.int k (AlT k a b)):=by simp[En,KV,AlT]
def Abr:En E .andNot t (.int k a) (.int k b)=some (.int k (AAB k a b)):=by simp[En,KV,AAB]
def As4:En E .eql t (.int k a) (.int k b)=some (.bool (a==b)):=by simp[En,KV]
def AuO:En E .neq t (.int k a) (.int k b)=some (.bool (a !=b)):=by simp[En,KV]
def AtT:En E .lss t (.int k a) (.int k b)=some (.bool (decide (a<b))):=by simp[En,KV]
def Arp:En E .leq t (.int k a) (.int k b)=some (.bool (decide (a<=b))):=by simp[En,KV]
def Atp:En E .gtr t (.int k a) (.int k b)=some (.bool (decide (a>b))):=by simp[En,KV]
def AsS:En E .geq t (.int k a) (.int k b)=some (.bool (decide (a>=b))):=by simp[En,KV]
def AuP{j:IntKind}:En E .shl t (.int k a) (.int j b)=if b<0 then none else some (.int k (AD8 k a b)):=by simp[En,AAQ,AD8]
def Ato{j:IntKind}:En E .shr t (.int k a) (.int j b)=if b<0 then none else some (.int k (AB1 k a b)):=by simp[En,AAQ,AB1]
variable{x y:B8}{p q:Bool}
def Apt:En E .add t (.str x) (.str y)=if AL (x.length+y.length)then some (.str (x++y))else none:=An7
theorem An5:En E .eql t (.str x) (.str y)=some (.bool (x==y)):=rfl
theorem Aqn:En E .neq t (.str x) (.str y)=some (.bool (!(x==y))):=rfl
theorem Apq:En E .lss t (.str x) (.str y)=some (.bool (Op.bytesLess x y)):=rfl
theorem Apj:En E .leq t (.str x) (.str y)=some (.bool (Op.bytesLess x y||x==y)):=rfl
theorem Aqr:En E .gtr t (.str x) (.str y)=some (.bool (!(Op.bytesLess x y||x==y))):=rfl
theorem Ani:En E .geq t (.str x) (.str y)=some (.bool (!(Op.bytesLess x y))):=rfl
theorem AnR:En E .eql t (.bool p) (.bool q)=if WZ E.P t=true then some (.bool (p==q))else none:=rfl
theorem Ane:En E .neq t (.bool p) (.bool q)=if WZ E.P t=true then some (.bool (!(p==q)))else none:=rfl
def Ahi (op:BinOp) (g:Bool) (e:Option Bool):Option AVal:=if g=true then none else match op,e with|.eql,some b=>some (.bool b)|.neq,some b=>some (.bool (!b))|_,_=>none
theorem Aub{op:BinOp}{xs ys:List AVal}:En E op t (.agg xs) (.agg ys)=Ahi op (E.P.eqGuardType E.P.depth t) (eqA E.P 10000 t (.agg xs) (.agg ys)):=rfl
theorem AaM:Ahi .eql false (some p)=some (.bool p):=rfl
theorem AeK:Ahi .neq false (some p)=some (.bool (!p)):=rfl
def cvI (g:Bool) (st:Bool) (k:Option IntKind) (n:Int):Option AVal:=if(g&&st)=true then some (.str (H6 n))else if g=true then(match k with|some k=>some (.int k (wr k n))|none=>none)else none
theorem Arv{s d:TypeId}{n:Int}:Ro E s d (.int k n)=cvI (Ae E.P s) (C9 E.P d) (Hl E.P d) n:=rfl
theorem Af4{n:Int}:cvI true false (some k) n=some (.int k (wr k n)):=rfl
theorem AqJ{n:Int}{j:Option IntKind}:cvI true true j n=some (.str (H6 n)):=rfl
def cvS (g h:Bool) (l:B8):Option AVal:=if(g&&h)=true then some (.str l)else none
theorem AuW{s d:TypeId}{l:B8}:Ro E s d (.str l)=cvS (Ae E.P s) (C9 E.P d) l:=rfl
theorem AlI{l:B8}:cvS true true l=some (.str l):=rfl
theorem Agb{s d:TypeId}{w:Nat}{xs:List AVal}{o:Bool}:Ro E s d (.slice w xs o)=strOf (u8T E.P s&&C9 E.P d) (bytesOf xs):=rfl
theorem AT5{l:B8}:strOf true (some l)=some (.str l):=rfl
def bytesOf_map{l:List Int}:bytesOf (l.map (AVal.int .u8))=some (l.map FX):=by induction l<;>grind[bytesOf]
theorem SG{n:Int}{xs:List AVal}:bytesOf (.int .u8 n::xs)=(bytesOf xs).map (FX n:: ·):=rfl
theorem AOG:bytesOf []=some []:=rfl
def ARg{xs ys:List AVal}:bytesOf (xs++ys)=(bytesOf xs).bind λa=>(bytesOf ys).map (a++ ·):=by
 induction xs with
 |nil=>cases h:bytesOf ys<;>simp[bytesOf,h]
 | cons x xs ih=>
  rw[bm];cases x with
  |int k n=>
   cases k<;>try rfl
   rw[SG,SG,ih];cases bytesOf xs<;>cases bytesOf ys<;>simp
  |_=>rfl
theorem Ar5{l:B8}:cvS true false l=none:=rfl
theorem AsK{s d:TypeId}{w i l:Nat}:Ro E s d (.gsl w i l)=none:=rfl
theorem At1{s d:TypeId}{w i o l:Nat}:Ro E s d (.bsl w i o l)=none:=rfl
theorem As6{s d:TypeId}{i o:Nat}:Ro E s d (.ptr i o)=none:=rfl
section
variable{s d:TypeId}{st:St}
theorem Arm{l:B8}:Tu E s d (.str l) st=none:=rfl
theorem Arn{w i l:Nat}:Tu E s d (.gsl w i l) st=none:=rfl
theorem AsU{w i o l:Nat}:Tu E s d (.bsl w i o l) st=none:=rfl
def cuB (b:Bool) (i:Nat):Option AVal:=if b=true then some (.ptr i 0)else none
theorem Aic{i:Nat}:cuB true i=some (.ptr i 0):=rfl
def cuR (E:Env) (s d:TypeId) (i:Nat) (x:Option (List AVal)):Option AVal:=match x with|some (.nself j T n::_)=>if j=i then cuB (W9 E.P s d T n) i else none|_=>none
def Alg{i n:Nat}{T:TypeId}{cs:List AVal}:cuR E s d i (some (.nself i T n::cs))=cuB (W9 E.P s d T n) i:=by simp[cuR]
def AuE{i:Nat}:Tu E s d (.ptr i 0) st=cuR E s d i (Af st.m i):=by
 simp only[Tu];generalize Af st.m i=x;unfold cuR;split;·rename_i j T n rest;simp only[cuB];by_cases h1:j=i<;>by_cases h2:W9 E.P s d T n=true<;>simp[h1,h2]
 simp
def GR (i:Nat) (T:TypeId) (n:Nat) (b:Bool):AVal:=if b=true then .ptr i 0 else .nself i T n
theorem Aoy{i n:Nat}{T:TypeId}:GR i T n true=.ptr i 0:=rfl
theorem ApA{i n:Nat}{T:TypeId}:GR i T n false=.nself i T n:=rfl
def Acx{i n:Nat}{T:TypeId}{b:Bool}:(GR i T n b).strip=GR i T n b:=by cases b<;>simp[GR,AVal.strip]
def Ac6{i n:Nat}{T:TypeId}{b:Bool}:AX (GR i T n b)=[GR i T n b]:=by cases b<;>rfl
def AZq{i n:Nat}{T:TypeId}{b:Bool}:LZ (GR i T n b)=false:=by cases b<;>rfl
def AaB{i n:Nat}{T:TypeId}{b:Bool}:CW (GR i T n b)=true:=by cases b<;>rfl
def cmS (a b:Bool) (l:B8) (st:St):Option (AVal×St):=if a=true/\b=true then some (.bsl 1 st.next 0 l.length,{m:=(st.next,List.map (AVal.int .u8) (List.map AJ l))::st.m,next:=st.next+1})else none
def Ata{l:B8}:Rv E s d (.str l) st=cmS (u8T E.P d) (C9 E.P s) l st:=by simp only[Rv,cmS,List.map_map];rfl
def Ala{l:B8}:cmS true true l st=some (.bsl 1 st.next 0 l.length,{m:=(st.next,List.map (AVal.int .u8) (List.map AJ l))::st.m,next:=st.next+1}):=by simp[cmS]
def cmB (b:Bool) (off n:Nat) (st:St) (x:Option (List AVal)):Option (AVal×St):=match x with
 |some cs=>if b=true then(match bytesOf ((cs.drop off).take n)with|some l=>if l.length=n/\AL n then some (.str l,st)else none|none=>none)else none
 |none=>none
def As7{i off n:Nat}:Rv E s d (.bsl 1 i off n) st=cmB (u8T E.P s&&C9 E.P d) off n st (Af st.m i):=by simp only[Rv,cmB,dL,Bg,AL];cases (u8T E.P s&&C9 E.P d)<;>cases Af st.m i<;>simp;grind
def Ai6{q:List Int}{off n:Nat}:cmB true off n st (some (List.map (AVal.int .u8) q))=if n<=q.length-off/\AL n then some (.str (List.map FX (List.take n (List.drop off q))),st)else none:=by simp only[cmB,aD,<-ft,<-List.map_drop,bytesOf_map,ck,ba,aN];grind
def XR (n:Int) (b:Nat):Prop:=0<=n/\n<=4611686018427387904/\n * b<=140737488355328
instance (n:Int) (b:Nat):Decidable (XR n b):=by unfold XR;infer_instance
def mkR (e:Option (Nat×AVal)) (n:Int) (st:St):Option (AVal×St):=match e with|some (b,z)=>if 0<=n/\n<=Bg/\n * b<=140737488355328 then some (.bsl 1 st.next 0 n.toNat,{m:=(st.next,List.replicate n.toNat z)::st.m,next:=st.next+1})else none|none=>none
def AoI{b:Nat}{k:IntKind}{z n:Int}:mkR (some (b,.int k z)) n st=if XR n b then some (.bsl 1 st.next 0 n.toNat,{m:=(st.next,List.map (AVal.int k) (List.replicate n.toNat z))::st.m,next:=st.next+1})else none:=by grind[mkR,XR,Bg,List.map_replicate]
def Aot{b:Nat}{n:Int}:mkR (some (b,.str [])) n st=if XR n b then some (.bsl 1 st.next 0 n.toNat,{m:=(st.next,List.map AVal.str (List.replicate n.toNat []))::st.m,next:=st.next+1})else none:=by grind[mkR,XR,Bg,List.map_replicate]
def Sr (n n':Int) (b:Nat):Prop:=0<=n/\n<=n'/\n'<=4611686018427387904/\n' * b<=140737488355328
instance (n n':Int) (b:Nat):Decidable (Sr n n' b):=by unfold Sr;infer_instance
def mkV (a:Option (Nat×Nat)) (z:Option AVal) (n n':Int) (st:St):Option (AVal×St):=match a,z with|some (w,b),some z=>if Sr n n' b then some (.sh st.next,{m:=(st.next,[.vec w (List.replicate n.toNat z)])::st.m,next:=st.next+1})else none|_,_=>none
def mkG (e:Option (Nat×AVal)) (a:Option (Nat×Nat)) (y:Option AVal) (n n':Int) (st:St):Option (AVal×St):=match e with|some (b,.int k z)=>if Sr n n' b then some (.gsl 1 st.next n.toNat,{m:=(st.next,List.replicate n.toNat (.int k z))::st.m,next:=st.next+1})else mkV a y n n' st|_=>mkV a y n n' st
section
variable{a:Option (Nat×Nat)}{y:Option AVal}{n n':Int}
def AqD{b:Nat}{k:IntKind}{z:Int}:mkG (some (b,.int k z)) a y n n' st=if Sr n n' b then some (.gsl 1 st.next n.toNat,{m:=(st.next,List.map (AVal.int k) (List.replicate n.toNat z))::st.m,next:=st.next+1})else mkV a y n n' st:=by simp only[mkG,dH]
theorem AqG{b:Nat}{s:B8}:mkG (some (b,.str s)) a y n n' st=mkV a y n n' st:=rfl
theorem Arr:mkG none a y n n' st=mkV a y n n' st:=rfl
def AnA{w b:Nat}:mkV (some (w,b)) (some (.str [])) n n' st=if Sr n n' b then some (.sh st.next,{m:=(st.next,[.vec w (List.map AVal.str (List.replicate n.toNat []))])::st.m,next:=st.next+1})else none:=by simp only[mkV,dH]
theorem Aup{w b:Nat}{c:List AVal}:mkV (some (w,b)) (some (.agg c)) 0 n' st=if Sr 0 n' b then some (.sh st.next,{m:=(st.next,[.vec w []])::st.m,next:=st.next+1})else none:=rfl
def AxT{k k':IntKind}:Wu E t (.int k n) (.int k' n') st=mkG (U2 E.P t) (J4 E.P t) (XW E.P t) n n' st:=by
 have hv:ASQ E t (.int k n) (.int k' n') st=mkV (J4 E.P t) (XW E.P t) n n' st:=by unfold ASQ mkV Sr;rcases J4 E.P t with _|⟨_,_⟩<;>rcases XW E.P t with _|_<;>rfl
 unfold Wu;rw[hv];unfold AXx mkG;rcases U2 E.P t with _|⟨b,z⟩;·rfl
 ·cases z<;>try rfl
  simp only[];by_cases hc:Sr n n' b;·have hc':0<=n/\n<=n'/\n'<=(Bg:Int)/\n' * b<=140737488355328:=hc;rw[aq hc,aq hc']
  ·have hc': ¬(0<=n/\n<=n'/\n'<=(Bg:Int)/\n' * b<=140737488355328):=hc;rw[an hc,an hc']
end
def Asl{i n:Nat}:Rv E s d (.gsl 1 i n) st=cmB (u8T E.P s&&C9 E.P d) 0 n st (Af st.m i):=by simp only[Rv,cmB,dL,Bg,AL,aL];cases (u8T E.P s&&C9 E.P d)<;>cases Af st.m i<;>simp;grind
def Awb{k k':IntKind}{n:Int}:WE E t (.int k n) (.int k' n) st=mkR (U2 E.P t) n st:=by simp only[WE,mkR];rcases U2 E.P t with _|⟨b,z⟩<;>simp
end
theorem Arq{e:TypeId}{l:B8}{o:Bool}:TM (.buf e l o)=some (.bufp e l o):=rfl
def usB (b:Bool) (l:B8):Option AVal:=if b=true then some (.str l)else none
theorem Ajv{l:B8}:usB true l=some (.str l):=rfl
def AtP{t0 e:TypeId}{l:B8}:XQ E t0 (.bufp e l true) (.int .i64 (l.length:Int))=usB (ptrTo E.P t0 e) l:=by simp[XQ,usB]
theorem Asi{op:BinOp}:En E op t .nilp .nilp=RG op (SF E.P t) (some true):=rfl
theorem AsX{op:BinOp}{i n:Nat}{T:TypeId}:En E op t (.nself i T n) .nilp=RG op (SF E.P t) (some true):=rfl
theorem Asq{op:BinOp}{i o:Nat}:En E op t (.ptr i o) .nilp=RG op (SF E.P t) (some false):=rfl
def Ar3{op:BinOp}{i o:Nat}:En E op t (.ptr i o) (.ptr i o)=RG op (SF E.P t) (some true):=by simp[En,AD6]
theorem Asw:RG .eql true (some p)=some (.bool p):=rfl
theorem As2:RG .neq true (some p)=some (.bool (!p)):=rfl
theorem AiO{e:TypeId}:RZ E t (.nbuf e)=if BP E.P t=true then some (.int .i64 0)else none:=rfl
theorem AgN{e:TypeId}:AgZ E t (.nbuf e)=if BP E.P t=true then some (.int .i64 0)else none:=rfl
theorem ApC{T:TypeId}{i:Nat}{e:TypeId}:AX6 E t (.trow T i 0) (.nbuf e)=if Bj E.P t=some 1 then some (.int .i64 0)else none:=rfl
def Apr{T:TypeId}{i len:Nat}{h:Int}:FW E t (.trow T i len) none (some h) none=if Bj E.P t=some 1 then(if 0<=h/\h<=len then some (.trow T i h.toNat)else none)else none:=by simp only[FW];by_cases h1:Bj E.P t=some 1<;>by_cases h2:0<=h<;>by_cases h3:h<=len<;>simp[h1,h2,h3]
theorem Ahq{T:TypeId}{i l:Nat}:(AVal.trow T i l).strip=.trow T i l:=rfl
theorem Ake{T:TypeId}{i l:Nat}:AX (.trow T i l)=[.trow T i l]:=rfl
theorem Ale{T:TypeId}{i l:Nat}:CW (.trow T i l)=true:=rfl
theorem Akf{T:TypeId}{i l:Nat}:LZ (.trow T i l)=false:=rfl
theorem AhE{e:TypeId}:(AVal.nbuf e).strip=.nbuf e:=rfl
theorem Aip{e:TypeId}:AX (.nbuf e)=[.nbuf e]:=rfl
theorem Ahn{e:TypeId}:CW (.nbuf e)=true:=rfl
theorem AhH{e:TypeId}:LZ (.nbuf e)=false:=rfl
theorem Ap6{e:TypeId}{l:B8}{o:Bool}:RZ E t (.buf e l o)=if BP E.P t=true then some (.int .i64 l.length)else none:=rfl
theorem Ap0{w i o l:Nat}:RZ E t (.bsl w i o l)=if BP E.P t=true then some (.int .i64 l)else none:=rfl
def Bu{w i len:Nat}{k:IntKind}{n:Int}:Cx E t (.gsl w i len) (.int k n)=if Bj E.P t=some w then(if 0<=n/\n<len then some (.ptr i (n.toNat * w))else none)else none:=by simp only[Cx];by_cases h1:Bj E.P t=some w<;>by_cases h2:0<=n<;>by_cases h3:n<len<;>simp[h1,h2,h3]
def Bo{w i len:Nat}{h:Int}:FW E t (.gsl w i len) none (some h) none=if Bj E.P t=some w then(if 0<=h/\h<=len then some (.gsl w i h.toNat)else none)else none:=by simp only[FW];by_cases h1:Bj E.P t=some w<;>by_cases h2:0<=h<;>by_cases h3:h<=len<;>simp[h1,h2,h3]
def AtI{w i len:Nat}{h:Int}:FW E t (.bsl w i 0 len) none (some h) none=if Bj E.P t=some w then(if 0<=h/\h<=len then some (.bsl w i 0 h.toNat)else none)else none:=by simp only[FW];by_cases h1:Bj E.P t=some w<;>by_cases h2:0<=h<;>by_cases h3:h<=len<;>simp[h1,h2,h3]
def apT (e:Option (Nat×Nat)) (g:Bool) (x:Option (List AVal)) (m:List (Nat×List AVal)) (j len:Nat) (s:B8):Option (Nat×Nat×List AVal×List (Nat×List AVal)×Option Nat):=match x,e with|some cs,some (z,by_)=>if z=1/\len<=cs.length/\(len+s.length) * by_<=140737488355328/\len+s.length<=Bg/\g=true then some (1,len+s.length,cs.take len++u8s s,DR m j,some j)else none|_,_=>none
def Gn{t0 t1:TypeId}{j len:Nat}{s:B8}{st:St}:Aap E t0 t1 (.gsl 1 j len) (.str s) st=apT (J4 E.P t0) ((Hl E.P t1).isNone&&Ae E.P t1) (Af st.m j) st.m j len s:=by simp only[Aap,apT];rcases Af st.m j with _|cs<;>rcases J4 E.P t0 with _|⟨z,b⟩<;>simp
def Ap{b j len:Nat}{q:List Int}{m:List (Nat×List AVal)}{s:B8}:apT (some (1,b)) true (some (List.map (AVal.int .u8) q)) m j len s=if len<=q.length/\Ac (len+s.length) b then some (1,len+s.length,List.map (AVal.int .u8) (List.take len q++List.map AJ s),DR m j,some j)else none:=by
 have e:u8s s=List.map (AVal.int .u8) (List.map AJ s):=by simp[u8s,AJ]
 simp_all[apT,Ac,Bg]
theorem Ao{w i l:Nat}:(AVal.gsl w i l).strip=.gsl w i l:=rfl
def A9{i:Nat}{c:List AVal}{m:List (Nat×List AVal)}:DR ((i,c)::m) i=m:=by simp[DR]
def lkV:List B8->List AVal->B8->AVal->AVal|k::ks,v::vs,s,z=>if(s==k)=true then v.strip else lkV ks vs s z|_,_,_,z=>z.strip
theorem AgP{k s:B8}{ks:List B8}{v z:AVal}{vs:List AVal}:lkV (k::ks) (v::vs) s z=if(s==k)=true then v.strip else lkV ks vs s z:=rfl
theorem AoH{s:B8}{z:AVal}:lkV [] [] s z=z.strip:=rfl
def lkR (z:Option AVal) (x:Option (List AVal)) (s:B8):Option AVal:=match z,x with|some z,some [.map ks vs]=>some (lkV ks vs s z)|_,_=>none
theorem AV8{s:B8}{z:AVal}: ∀(ks:List B8) (vs:List AVal),(match K4 ks vs s with|some x=>x.strip|none=>z.strip)=lkV ks vs s z
 |[],_=>by simp[K4,lkV]
 |_::_,[]=>by simp[K4,lkV]
 | k::ks,v::vs=>by
  simp only[K4,lkV,bc];split
  ·rename_i x hx;split at hx;·simp_all
   ·rename_i e;rw[an e,<-AV8 ks vs,hx]
  ·rename_i hx;split at hx;·grind
   ·rename_i e;rw[an e,<-AV8 ks vs,hx]
def ArF{i:Nat}{s:B8}{st:St}:QB E t (.sh i) (.str s) false st=lkR ((Sy E.P t).bind (Cf E.P)) (Af st.m i) s:=by
 unfold QB U7 lkR;cases Sy E.P t with
 |none=>simp
 | some e=>
  simp only[aa];cases hm:Af st.m i with
  |none=>cases Cf E.P e<;>simp
  |some cs=>
   cases hz:Cf E.P e with
   |none=>match cs with|[]=>simp|[.map _ _]=>grind|x::y::_=>cases x<;>simp|[.any]|[.bool _]|[.int _ _]|[.str _]|[.agg _]|[.tuple _]|[.slice _ _ _]|[.ptr _ _]|[.nilp]|[.cptr _]|[.fn _ _ _]|[.nilFn]|[.iface _ _]|[.nilIface]|[.iter _ _]|[.bsl _ _ _ _]|[.nself _ _ _]|[.buf _ _ _]|[.bufp _ _ _]|[.slop _ _]|[.sh _]|[.sptr _ _ _]|[.gsl _ _ _]|[.nmap]|[.num _]|[.nbuf _]|[.trow _ _ _]|[.vec _ _]|[.vptr _ _ _ _]|[.hset _]=>simp
   |some z=>match cs with|[]=>simp|[.map ks vs]=>grind[AV8]|x::y::_=>cases x<;>simp|[.any]|[.bool _]|[.int _ _]|[.str _]|[.agg _]|[.tuple _]|[.slice _ _ _]|[.ptr _ _]|[.nilp]|[.cptr _]|[.fn _ _ _]|[.nilFn]|[.iface _ _]|[.nilIface]|[.iter _ _]|[.bsl _ _ _ _]|[.nself _ _ _]|[.buf _ _ _]|[.bufp _ _ _]|[.slop _ _]|[.sh _]|[.sptr _ _ _]|[.gsl _ _ _]|[.nmap]|[.num _]|[.nbuf _]|[.trow _ _ _]|[.vec _ _]|[.vptr _ _ _ _]|[.hset _]=>simp
theorem AgC{s:B8}{z:AVal}{ks:List B8}{vs:List AVal}:lkR (some z) (some [.map ks vs]) s=some (lkV ks vs s z):=rfl
def upR (b:Bool) (y:Option (List AVal)) (i:Nat) (s:B8) (x:AVal) (st:St):Option St:=match b,y with|true,some [.map ks vs]=>some {st with m:=Ar st.m i [.map (Gq ks s) (Ka ks vs s x)]}|_,_=>none
def Av4{i:Nat}{s:B8}{x:AVal}{st:St}:Z9 E t (.sh i) (.str s) x st=upR (Sy E.P t).isSome (Af st.m i) i s x st:=by simp only[Z9,U7,upR];grind[Sy,Af]
theorem AkU{i:Nat}{s:B8}{x:AVal}{st:St}{ks:List B8}{vs:List AVal}:upR true (some [.map ks vs]) i s x st=some {st with m:=Ar st.m i [.map (Gq ks s) (Ka ks vs s x)]}:=rfl
theorem AvU{op:BinOp}{f:Fn}{x y:List AVal}:En E op t (.fn f x y) .nilFn=Yi op (ABG E.P t) false:=rfl
theorem AvV{op:BinOp}:En E op t .nilFn .nilFn=Yi op (ABG E.P t) true:=rfl
theorem AuJ{b:Bool}:Yi .eql true b=some (.bool b):=rfl
theorem Asx{b:Bool}:Yi .neq true b=some (.bool (!b)):=rfl
def At2{w i off len:Nat}{k:IntKind}{n:Int}:Cx E t (.bsl w i off len) (.int k n)=if Bj E.P t=some w then(if 0<=n/\n<len then some (.ptr i (off+n.toNat * w))else none)else none:=by simp only[Cx];by_cases h1:Bj E.P t=some w<;>by_cases h2:0<=n<;>by_cases h3:n<len<;>simp[h1,h2,h3]
def iaP (e:Option (Nat×Nat×Bool)) (j o:Nat) (n:Int):Option AVal:=match e with|some (len,z,_)=>if 0<=n/\n<len then some (.ptr j (o+n.toNat * z))else none|none=>none
def AsW{j o:Nat}{k:IntKind}{n:Int}:Cx E t (.ptr j o) (.int k n)=iaP (Mh E.P t) j o n:=by simp only[Cx,iaP];rcases Mh E.P t with _|⟨len,z,g⟩<;>rfl
theorem AhZ{len z j o:Nat}{g:Bool}{n:Int}:iaP (some (len,z,g)) j o n=if 0<=n/\n<(len:Int)then some (.ptr j (o+n.toNat * z))else none:=rfl
def slP (e:Option (Nat×Nat×Bool)) (i o:Nat) (l:Int) (h:Option Int):Option AVal:=match e with|some (len,z,_)=>if 0<=l/\l<=h.getD len/\h.getD len<=len/\len<=Bg then some (.bsl z i (o+l.toNat * z) ((h.getD len).toNat-l.toNat))else none|none=>none
def AuX{i o:Nat}{lo hi:Option Int}:FW E t (.ptr i o) lo hi none=slP (Mh E.P t) i o (lo.getD 0) hi:=by simp only[FW,slP];rcases Mh E.P t with _|⟨len,z,g⟩<;>simp
def Ahv{len z i o:Nat}{g:Bool}{l:Int}:slP (some (len,z,g)) i o l none=if 0<=l/\l<=(len:Int)/\len<=Bg then some (.bsl z i (o+l.toNat * z) (len-l.toNat))else none:=by simp[slP]
def Aph{α:Type}{l:List α}{n:Int} (h:0<=n):l[n.toNat]?=idx l n:=by grind[idx]
def ApB{α β:Type}{f:α->β}{l:List α}{k:Nat}{v:α}:(List.map f l).set k (f v)=List.map f (l.set k v):=List.map_set.symm
theorem Atj:unA .not (.bool p)=some (.bool (!p)):=rfl
theorem Ase:unA .neg (.int k a)=some (.int k (wr k (0-a))):=rfl
end
def AMr (n:Nat):List Bool:=List.replicate n false
def AAq{n:Nat}:(AMr n).length=n:=by simp[AMr]
def AdM{l:List Bool}:stripL (List.map AVal.bool l)=List.map AVal.bool l:=by induction l<;>grind[stripL,AVal.strip]
def Acg{k:IntKind}{l:List Int}:stripL (List.map (AVal.int k) l)=List.map (AVal.int k) l:=by induction l<;>grind[stripL,AVal.strip]
def Acv{l:List Bool}{n:Nat} (h:l.length=n):List.take n (List.map AVal.bool l)=List.map AVal.bool l:=by grind[List.take_of_length_le]
def Adx{k:IntKind}{l:List Int}{n:Nat} (h:l.length=n):List.take n (List.map (AVal.int k) l)=List.map (AVal.int k) l:=by grind[List.take_of_length_le]
def SE: ∀(l q p:List AVal),q.length=l.length->putCells (p++q) p.length l=p++l|[],q,p,h=>by grind[putCells]|x::l,q,p,h=>by cases q with|nil=>grind|cons y q=>rw[putCells];have e:(p++y::q).set p.length x=(p++[x])++q:=fy;have e2:p.length+1=(p++[x]).length:=fy;rw[e,e2,SE l q (p++[x]) (by grind)];simp
def Ahr{l q:List Bool} (h:q.length=l.length):putCells (List.map AVal.bool q) 0 (List.map AVal.bool l)=List.map AVal.bool l:=by have:=SE (List.map AVal.bool l) (List.map AVal.bool q) [] (by grind);grind
def AlA{k:IntKind}{l q:List Int} (h:q.length=l.length):putCells (List.map (AVal.int k) q) 0 (List.map (AVal.int k) l)=List.map (AVal.int k) l:=by have:=SE (List.map (AVal.int k) l) (List.map (AVal.int k) q) [] (by grind);grind
def Aqc:AVal.strip (.any)=.any:=by simp[AVal.strip]
def Ait{b:Bool}:AVal.strip (.bool b)=.bool b:=by simp[AVal.strip]
def Aom{k:IntKind}{n:Int}:AVal.strip (.int k n)=.int k n:=by simp[AVal.strip]
def An2{l:B8}:AVal.strip (.str l)=.str l:=by simp[AVal.strip]
def AqH{w i o l:Nat}:AVal.strip (.bsl w i o l)=.bsl w i o l:=by simp[AVal.strip]
def Aa1{i n:Nat}{T:TypeId}:AVal.strip (.nself i T n)=.nself i T n:=by simp[AVal.strip]
def Ao2{e:TypeId}{l:B8}{o:Bool}:AVal.strip (.buf e l o)=.buf e l false:=by simp[AVal.strip]
def AfZ{e:TypeId}{l:B8}{o:Bool}:AVal.strip (.bufp e l o)=.bufp e l false:=by simp[AVal.strip]
theorem Anl{w i o l:Nat}:AX (.bsl w i o l)=[.bsl w i o l]:=rfl
theorem AdW{i n:Nat}{T:TypeId}:AX (.nself i T n)=[.nself i T n]:=rfl
theorem Am5{e:TypeId}{l:B8}{o:Bool}:AX (.buf e l o)=[.buf e l o]:=rfl
theorem AXV{i:Nat}:(AVal.sh i).strip=.sh i:=rfl
theorem Aiv{i w n:Nat}:(AVal.sptr i w n).strip=.sptr i w n:=rfl
theorem Ah9{i:Nat}:AX (.sh i)=[.sh i]:=rfl
theorem Aj6{i w n:Nat}:AX (.sptr i w n)=[.sptr i w n]:=rfl
theorem Agm{i:Nat}:CW (.sh i)=true:=rfl
theorem Aik{i w n:Nat}:CW (.sptr i w n)=true:=rfl
theorem AnU{w i o l:Nat}:CW (.bsl w i o l)=true:=rfl
theorem AZT{i n:Nat}{T:TypeId}:CW (.nself i T n)=true:=rfl
theorem Anp{e:TypeId}{l:B8}{o:Bool}:CW (.buf e l o)=true:=rfl
def AqQ{i o:Nat}:AVal.strip (.ptr i o)=.ptr i o:=by simp[AVal.strip]
def AkF:AVal.strip (.nilp)=.nilp:=by simp[AVal.strip]
def Alw{l:List AVal}:AVal.strip (.cptr l)=.cptr l:=by simp[AVal.strip]
def AuD{f:Fn}{p q:List AVal}:AVal.strip (.fn f p q)=.fn f p q:=by simp[AVal.strip]
def AcF:AVal.strip (.nilFn)=.nilFn:=by simp[AVal.strip]
def AbA{t:TypeId}{x:AVal}:AVal.strip (.iface t x)=.iface t x:=by simp[AVal.strip]
def AED:AVal.strip (.nilIface)=.nilIface:=by simp[AVal.strip]
theorem Aqg:AX (.any)=[.any]:=rfl
theorem Akh{b:Bool}:AX (.bool b)=[.bool b]:=rfl
theorem Aqj{k:IntKind}{n:Int}:AX (.int k n)=[.int k n]:=rfl
theorem Aoo{l:B8}:AX (.str l)=[.str l]:=rfl
theorem AnL{i o:Nat}:AX (.ptr i o)=[.ptr i o]:=rfl
theorem AiZ:AX (.nilp)=[.nilp]:=rfl
theorem Agv{l:List AVal}:AX (.cptr l)=[.cptr l]:=rfl
theorem Ate{f:Fn}{p q:List AVal}:AX (.fn f p q)=[.fn f p q]:=rfl
theorem AaP:AX (.nilFn)=[.nilFn]:=rfl
theorem Abp{t:TypeId}{x:AVal}:AX (.iface t x)=[.iface t x]:=rfl
theorem AGb:AX (.nilIface)=[.nilIface]:=rfl
theorem Acu{l:List AVal}:AX (.tuple l)=[.tuple l]:=rfl
theorem AZA{w:Nat}{l:List AVal}{o:Bool}:AX (.slice w l o)=[.slice w l o]:=rfl
theorem Aj9{b:Bool}:CW (.bool b)=true:=rfl
theorem AoQ{k:IntKind}{n:Int}:CW (.int k n)=true:=rfl
theorem Am6{l:B8}:CW (.str l)=true:=rfl
theorem ApQ{i o:Nat}:CW (.ptr i o)=true:=rfl
theorem Af8:CW (.nilp)=true:=rfl
theorem AiU{l:List AVal}:CW (.cptr l)=true:=rfl
theorem Ar8{f:Fn}{p q:List AVal}:CW (.fn f p q)=true:=rfl
theorem AZc:CW (.nilFn)=true:=rfl
theorem AbH{t:TypeId}{x:AVal}:CW (.iface t x)=true:=rfl
theorem AFW:CW (.nilIface)=true:=rfl
theorem Ann{l:List AVal}:CW (.agg l)=true:=rfl
theorem AZW{w:Nat}{l:List AVal}{o:Bool}:CW (.slice w l o)=true:=rfl
theorem AbK{af:List AVal}{v:Value}:stripAt af (.const v)=af:=rfl
theorem Ak4{af:List AVal}{v:Nat}:stripAt af (.global v)=af:=rfl
theorem Akb{af:List AVal}{v:FuncId}:stripAt af (.func v)=af:=rfl
end Go.VM
set_option linter.unusedVariables false
namespace Go.VM
section
variable{E:Env}{st:St}{t:TypeId}
def Ap3{w:Nat}{xs:List AVal}:AVal.strip (.vec w xs)=.any:=by rw[AVal.strip]
theorem AiQ{i w n k:Nat}:AVal.strip (.vptr i w n k)=.vptr i w n k:=rfl
theorem Ai3{i w n k:Nat}:LZ (.vptr i w n k)=false:=rfl
def Avs{i:Nat}{y:AVal}:AAG (.sh i) y=Sl y:=by simp[AAG,Sl]
def AwH{t0 t1:TypeId}{i:Nat}{y:AVal}:Il E t0 t1 (.sh i) y=none:=by cases y<;>rfl
def avS (i:Nat) (x:Option AVal) (st:St):Option St:=match x with|some (.slice w zs _)=>some {m:=(st.next,[.vec w zs])::Ar st.m i [.any],next:=st.next+1}|_=>none
theorem AjU{i w:Nat}{zs:List AVal}{o:Bool}:avS i (some (.slice w zs o)) st=some {m:=(st.next,[.vec w zs])::Ar st.m i [.any],next:=st.next+1}:=rfl
def avR (e:Option (Nat×Nat)) (k:Option IntKind) (b:Bool) (y:AVal) (x:Option (Nat×Nat×List AVal)) (st:St):Option St:=match x with|some (i,wd,xs)=>avS i (AVy e k b wd xs (PW wd y)) st|none=>none
theorem Av1{t0 t1:TypeId}{i:Nat}{y:AVal}:ZO E t0 t1 (.sh i) y st=avR (J4 E.P t0) (Hl E.P t1) (Ae E.P t1) y (Jv st (.sh i)) st:=by
 unfold ZO avR AVy avS;rcases Jv st (.sh i)with _|⟨i,wd,xs⟩;·rfl
 ·simp only;rcases J4 E.P t0 with _|⟨z,b⟩;·rfl
  ·rcases PW wd y with _|ys;·rfl
   ·simp only;have e:(z=wd/\Hl E.P t1=none/\Ae E.P t1=true/\(xs.length+ys.length) * b<=140737488355328/\xs.length+ys.length<=Bg)<->(z=wd/\Hl E.P t1=none/\Ae E.P t1=true/\Ac (xs.length+ys.length) b):=Iff.rfl;by_cases hc:z=wd/\Hl E.P t1=none/\Ae E.P t1=true/\Ac (xs.length+ys.length) b;·rw[aq (e.2 hc),aq hc]
    ·rw[an (λh=>hc (e.1 h)),an hc]
theorem Ahz{e:Option (Nat×Nat)}{k:Option IntKind}{b:Bool}{i wd:Nat}{xs:List AVal}{y:AVal}:avR e k b y (some (i,wd,xs)) st=avS i (AVy e k b wd xs (PW wd y)) st:=rfl
theorem AvT{i:Nat}{lo hi mx:Option Int}:FW E t (.sh i) lo hi mx=none:=rfl
def svR (e:Option Nat) (x:Option (Nat×Nat×List AVal)) (lo hi:Option Int) (st:St):Option St:=match x with|some (i,wd,xs)=>avS i (AKV e wd false (sub xs (lo.getD 0) (hi.getD xs.length))) st|none=>none
def Aur{i:Nat}{lo hi:Option Int}:RD E t (.sh i) lo hi none st=svR (Bj E.P t) (Jv st (.sh i)) lo hi st:=by
 unfold RD svR;rcases Jv st (.sh i)with _|⟨i,wd,xs⟩;·rfl
 ·simp only[AKV,sub,avS];by_cases h1:Bj E.P t=some wd<;>by_cases h2:0<=lo.getD 0/\lo.getD 0<=hi.getD xs.length/\hi.getD xs.length<=xs.length<;>simp[h1,h2]
theorem AiK{e:Option Nat}{i wd:Nat}{xs:List AVal}{lo hi:Option Int}:svR e (some (i,wd,xs)) lo hi st=avS i (AKV e wd false (sub xs (lo.getD 0) (hi.getD xs.length))) st:=rfl
theorem AwN{i:Nat}{k:IntKind}{n:Int}:Cx E t (.sh i) (.int k n)=none:=rfl
def ioR (e:Option Nat) (j:Nat) (n:Int) (y:Option (List AVal)):Option AVal:=match y with|some [.slop w xs]=>if e=some w/\n=xs.length then some (.sptr j w xs.length)else none|_=>none
def Auv{j:Nat}{k:IntKind}{n:Int}:Gi E t (.sh j) (.int k n) st=ioR (Bj E.P t) j n (Af st.m j):=by unfold Gi ioR VJ;grind
theorem ApU{e:Option Nat}{j w:Nat}{n:Int}{xs:List AVal}:ioR e j n (some [.vec w xs])=none:=rfl
def ivS (e:Option Nat) (j w:Nat) (n:Int) (y:Option AVal):Option AVal:=match y with|some _=>if e=some w then some (.vptr j w n.toNat 0)else none|none=>none
def ivR (e:Option Nat) (y:Option (Nat×Nat×List AVal)) (n:Int):Option AVal:=match y with|some (j,w,xs)=>ivS e j w n (idx xs n)|none=>none
def Avm{j:Nat}{k:IntKind}{n:Int}:QK E t (.sh j) (.int k n) st=ivR (Bj E.P t) (Jv st (.sh j)) n:=by
 unfold QK ivR ivS idx;rcases Jv st (.sh j)with _|⟨i,wd,xs⟩;·rfl
 ·simp only;by_cases h1:Bj E.P t=some wd<;>by_cases h2:0<=n<;>by_cases h3:n<xs.length<;>simp[h1,h2,h3]<;>grind
theorem Ai7{e:Option Nat}{j w:Nat}{n:Int}{xs:List AVal}:ivR e (some (j,w,xs)) n=ivS e j w n (idx xs n):=rfl
def Ahs{j w:Nat}{n:Int}{y:AVal}:ivS (some w) j w n (some y)=some (.vptr j w n.toNat 0):=by simp[ivS]
def caI (w w' k:Nat) (y:Option AVal):Option (List AVal):=match y with|some x=>if w'=w/\CW x=true then some ((AX x).drop k)else none|none=>none
def caR (w n k:Nat) (y:Option (List AVal)):Option (List AVal):=match y with|some [.vec w' xs]=>caI w w' k xs[n]?|_=>none
def Apz{i w n k:Nat}:SL st (.vptr i w n k)=caR w n k (Af st.m i):=by
 unfold SL caR caI;simp only;rcases Af st.m i with _|(_|⟨y,_|_⟩)<;>try rfl
 ·cases y<;>try rfl
  rename_i w' xs;simp only;by_cases h:n<xs.length;·rw[aQ h];simp[h,List.getD]
  ·rw[fg (dT h)];simp[h]
 ·cases y<;>rfl
theorem Aod{w w' n k:Nat}{xs:List AVal}:caR w n k (some [.vec w' xs])=caI w w' k xs[n]?:=rfl
def Afl{w k:Nat}{x:AVal}:caI w w k (some x)=if CW x=true then some ((AX x).drop k)else none:=by simp[caI]
def Aps{i w n k:Nat}{v:AVal}:OP E t (.vptr i w n k) v st=shS (LZ v) (TF E t (.vptr i w n k) v st) (Xz E t (.vptr i w n k) v st):=Xb
def seR (e:Option Nat) (i w n k:Nat) (v:AVal) (y:Option (List AVal)) (st:St):Option St:=match y with|some [.vec w' xs]=>if w'=w/\k=0/\n<xs.length/\CW v=true/\e=some w/\(AX v).length=w then some {st with m:=Ar st.m i [.vec w (xs.set n v.strip)]}else none|_=>none
def sfI (e:Option Nat) (i w:Nat) (xs:List AVal) (n k:Nat) (v:AVal) (x:Option AVal) (st:St):Option St:=match x with|some x=>if CW v=true/\CW x=true/\(AX x).length=w/\e=some (AX v).length/\k+(AX v).length<=w then some {st with m:=Ar st.m i [.vec w (xs.set n (.agg (putCells (AX x) k (stripL (AX v)))))]}else none|none=>none
def sfR (e:Option Nat) (i w n k:Nat) (v:AVal) (y:Option (List AVal)) (st:St):Option St:=match y with|some [.vec w' xs]=>if w'=w then sfI e i w xs n k v xs[n]? st else none|_=>none
def svK (x y:Option St):Option St:=match x with|some s=>some s|none=>y
theorem Ak5{s:St}{y:Option St}:svK (some s) y=some s:=rfl
theorem AjY{y:Option St}:svK none y=y:=rfl
def An4{i w n k:Nat}{v:AVal}:Xz E t (.vptr i w n k) v st=svK (seR (BK E.P t) i w n k v (Af st.m i) st) (sfR (BK E.P t) i w n k v (Af st.m i) st):=by
 have h1:AA8 E t (.vptr i w n k) v st=seR (BK E.P t) i w n k v (Af st.m i) st:=by unfold AA8 seR;simp only;rcases Af st.m i with _|(_|⟨y,_|_⟩)<;>first|rfl|(cases y<;>rfl)
 have h2:AAm E t (.vptr i w n k) v st=sfR (BK E.P t) i w n k v (Af st.m i) st:=by
  unfold AAm sfR sfI;simp only;rcases Af st.m i with _|(_|⟨y,_|_⟩)<;>first|rfl|(cases y<;>rfl)|skip
  cases y<;>try rfl
  rename_i w' xs;simp only[];by_cases hw:w'=w
  ·by_cases hn:n<xs.length;·simp[hw,hn,List.getD]
   ·simp[hw,hn]
  ·simp[hw]
 unfold Xz svK;rw[h1,h2];cases seR (BK E.P t) i w n k v (Af st.m i) st<;>rfl
def Au3{e:Option Nat}{i w n k:Nat}{v:AVal}{y:Option (List AVal)} (h:k≠0):seR e i w n k v y st=none:=by unfold seR;split<;>simp[h]
def Av9{z i w n k:Nat}{v:AVal}{y:Option (List AVal)} (h:z≠w):seR (some z) i w n k v y st=none:=by
 unfold seR;split;·rename_i w' xs;simp[h]
 ·rfl
def AqI{e:Option Nat}{i w n k:Nat}{v:AVal}{xs:List AVal}:sfR e i w n k v (some [.vec w xs]) st=sfI e i w xs n k v xs[n]? st:=by simp[sfR]
def Aiw{z i w n k:Nat}{v x:AVal}{xs:List AVal}:sfI (some z) i w xs n k v (some x) st=if CW v=true/\CW x=true/\(AX x).length=w/\z=(AX v).length/\k+(AX v).length<=w then some {st with m:=Ar st.m i [.vec w (xs.set n (.agg (putCells (AX x) k (stripL (AX v)))))]}else none:=by simp[sfI]
def seI (i w n:Nat) (v:AVal) (xs:List AVal) (x:Option AVal) (st:St):Option St:=match x with|some _=>if CW v=true/\(AX v).length=w then some {st with m:=Ar st.m i [.vec w (xs.set n v.strip)]}else none|none=>none
theorem AkM{i w n:Nat}{v x:AVal}{xs:List AVal}:seI i w n v xs (some x) st=if CW v=true/\(AX v).length=w then some {st with m:=Ar st.m i [.vec w (xs.set n v.strip)]}else none:=rfl
def AqM{α:Type}{f:α->AVal}{l:List α}{i w n:Nat}{v:AVal}:seR (some w) i w n 0 v (some [.vec w (List.map f l)]) st=seI i w n v (List.map f l) (List.map f l)[n]? st:=by
 by_cases h:n<l.length;·simp[seR,seI,h]
 ·simp[seR,seI,h]
theorem AvQ{t0 t1:TypeId}{i:Nat}{y:AVal}:Pj E t0 t1 (.sh i) y=none:=rfl
def afR (x:Option St):Option (AVal×St):=match x with|some ⟨(n,[.vec w zs])::m,k⟩=>some (.slice w zs false,⟨m,k⟩)|_=>none
def Auw{t0 t1:TypeId}{i:Nat}{y:AVal}:AP4 E t0 t1 (.sh i) y st=afR (ZO E t0 t1 (.sh i) y st):=by unfold AP4 afR;rfl
theorem Akk{n w k:Nat}{zs:List AVal}{m:List (Nat×List AVal)}:afR (some ⟨(n,[.vec w zs])::m,k⟩)=some (.slice w zs false,⟨m,k⟩):=rfl
def At6{m:AVal}{s:B8}{ok:Bool}{st:St}:TV E t m (.str s) ok st=QB E t m (.str s) ok st:=by
 have:Ym E t m (.str s) ok st=none:=by unfold Ym;split<;>simp_all
 unfold TV;rw[this];cases QB E t m (.str s) ok st<;>rfl
def AuQ{m:AVal}{c:List AVal}{ok:Bool}{st:St}:TV E t m (.agg c) ok st=Ym E t m (.agg c) ok st:=by
 have:QB E t m (.agg c) ok st=none:=by unfold QB;split<;>simp_all
 unfold TV;rw[this]
def Asz{m x:AVal}{s:B8}{st:St}:Uo E t m (.str s) x st=Z9 E t m (.str s) x st:=by
 have:AN7 E t m (.str s) x st=none:=by unfold AN7;split<;>simp_all
 unfold Uo;rw[this];cases Z9 E t m (.str s) x st<;>rfl
def AuV{m x:AVal}{c:List AVal}{st:St}:Uo E t m (.agg c) x st=AN7 E t m (.agg c) x st:=by
 have:Z9 E t m (.agg c) x st=none:=by unfold Z9;split<;>simp_all
 unfold Uo;rw[this]
def lhR (b ok:Bool) (x:Option (List (B8×Int))) (k:B8×Int):Option AVal:=if b=true then x.map λks=>U3 ok (ks.contains k)else none
def uhR (b:Bool) (i:Nat) (x:Option (List (B8×Int))) (k:B8×Int) (st:St):Option St:=if b=true then x.map λks=> {st with m:=Ar st.m i [.hset (ADP ks k)]}else none
def Avj{i:Nat}{s:B8}{p:Int}{ok:Bool}{st:St}:Ym E t (.sh i) (.agg [.str s,.int .i64 p]) ok st=lhR (hpT E.P t) ok (hsA (Af st.m i)) (s,p):=by unfold Ym lhR;cases hpT E.P t<;>rfl
def Au5{i:Nat}{s:B8}{p:Int}{st:St}:AN7 E t (.sh i) (.agg [.str s,.int .i64 p]) (.bool true) st=uhR (hpT E.P t) i (hsA (Af st.m i)) (s,p) st:=by unfold AN7 uhR;cases hpT E.P t<;>rfl
theorem Ahp{ok:Bool}{ks:List (B8×Int)}{k:B8×Int}:lhR true ok (some ks) k=some (U3 ok (ks.contains k)):=rfl
theorem Alo{i:Nat}{ks:List (B8×Int)}{k:B8×Int}{st:St}:uhR true i (some ks) k st=some {st with m:=Ar st.m i [.hset (ADP ks k)]}:=rfl
theorem Av2{ks:List (B8×Int)}:hsA (some [.hset ks])=some ks:=rfl
theorem Au6:hsA (some [.map [] []])=some []:=rfl
theorem Avx{b:Bool}:U3 false b=.bool b:=rfl
theorem Avq{b:Bool}:U3 true b=.tuple [.bool b,.bool b]:=rfl
def Arl{t0 t1:TypeId}{i:Tmp}{ax y:AVal}:appW E (.tmp i) t0 t1 ax y st=AP4 E t0 t1 ax y st:=by unfold appW Akq;cases AP4 E t0 t1 ax y st<;>rfl
def anR (a:Option (Nat×Nat)) (f:Nat->Option (List AVal)) (c:Bool) (st:St):Option (AVal×St):=match a with
 |some (z,b)=>match f z with|some ys=>if c=true then(if Ac ys.length b then some (.sh st.next,{m:=(st.next,[.vec z ys])::st.m,next:=st.next+1})else none)else none|none=>none
 |none=>none
theorem Aug{t0 t1:TypeId}{w:Nat}{xs ys:List AVal}{o p:Bool}:appW E (.const (.slice none 0 0)) t0 t1 (.slice w xs o) (.slice w ys p) st=anR (J4 E.P t0) (λz=>PW z (.slice w ys p)) (decide (Hl E.P t1=none)&&Ae E.P t1) st:=by
 have:AP4 E t0 t1 (.slice w xs o) (.slice w ys p) st=none:=rfl;unfold appW;rw[this];unfold Akq anR;rcases J4 E.P t0 with _|⟨z,b⟩;·rfl
 ·simp only[];cases PW z (.slice w ys p)with|none=>rfl|some ys=>simp only[Ac,Bg,av,aw];by_cases h1:Hl E.P t1=none<;>by_cases h2:Ae E.P t1=true<;>simp[h1,h2]<;>congr 1<;>simp[and_comm]
def AlS{z b:Nat}{f:Nat->Option (List AVal)}:anR (some (z,b)) f true st=match f z with|some ys=>(if Ac ys.length b then some (.sh st.next,{m:=(st.next,[.vec z ys])::st.m,next:=st.next+1})else none)|none=>none:=by simp[anR]
end
end Go.VM
set_option linter.unusedVariables false
namespace Go.VM
abbrev MS:=List (Nat×List AVal)
abbrev PQ:=AVal->St->Prop
structure Gl (P:Prop):Prop where go:P
inductive An where|z|q (a b:An)|c (a b:An)|r (mv:List Tmp)
def JV (F:List AVal->St->Prop) (K:APost):APost:=λe af st=>match e with|.normal=>F af st|e=>K e af st
def ZF (id:Nat) (K:APost):APost:=λe af st=>match e with|.exit id'=>if id'=id then K .normal af st else K (.exit id') af st|e=>K e af st
def nK (K:APost) (af:List AVal) (st:St):Prop:=K .normal af st
def Tk (x:AVal) (X Y:List AVal->St->Prop) (af:List AVal) (st:St):Prop:=match x with|.bool b=>if b=true then X af st else Y af st|_=>False
theorem ADn{E:Env}{c:Code}{Q:APost}{af:List AVal}{st:St} (h:AWp E c Q af st):AWp E (.scope c) Q af st:=⟨λF Γ w a hd hs=>wp_scope_straight (fb (h.go F Γ w a hd hs) λe a' w' q=>by cases e<;>first|exact q|exact q.1.elim)⟩
def wpc (E:Env):Code->An->APost->List AVal->St->Prop|.skip,_,K=>λaf st=>K .normal af st|.ret,_,K=>λaf st=>K .ret af st|.exit id,_,K=>λaf st=>K (.exit id) af st|.seq x y,.q a b,K=>wpc E x a (JV (wpc E y b K) K)|.cond c x y,.c a b,K=>λaf st=>Tk (rd E af 0 c) (wpc E x a K) (wpc E y b K) af st|.block id c,a,K=>wpc E c a (ZF id K)|.scope c,a,K=>wpc E c a K|.region _ os false,.r mv,K=>Lt E mv os os.toList (nK K)|c,_,K=>AWp E c K
section
variable{E:Env}{K:APost}{af:List AVal}{st:St}{x y:Code}{a b:An}{F:List AVal->St->Prop}
def Aks:wpc E .skip a K af st=K .normal af st:=by rw[wpc]
def Ank:wpc E .ret a K af st=K .ret af st:=by rw[wpc]
def Aju{id:Nat}:wpc E (.exit id) a K af st=K (.exit id) af st:=by rw[wpc]
def Apl:wpc E (.seq x y) (.q a b) K af st=wpc E x a (JV (wpc E y b K) K) af st:=by rw[wpc]
def Aj3{c:Operand}:wpc E (.cond c x y) (.c a b) K af st=Tk (rd E af 0 c) (wpc E x a K) (wpc E y b K) af st:=by rw[wpc]
def AZB{id:Nat}:wpc E (.block id x) a K af st=wpc E x a (ZF id K) af st:=by rw[wpc]
def AZa:wpc E (.scope x) a K af st=wpc E x a K af st:=by rw[wpc]
def AUi{id:Nat}{os:List Oper}{mv:List Tmp}:wpc E (.region id (List.toArray os) false) (.r mv) K af st=Lt E mv ⟨os⟩ os (nK K) af st:=by rw[wpc]
def Avf:wpc E (.seq x y) .z K af st=AWp E (.seq x y) K af st:=by rw[wpc]<;>simp
def AhU:wpc E (.loop x) a K af st=AWp E (.loop x) K af st:=by rw[wpc]<;>simp
def Ah3{id:Nat}{os:Array Oper}:wpc E (.region id os true) a K af st=AWp E (.region id os true) K af st:=by rw[wpc]<;>simp
theorem AnG:JV F K .normal af st=F af st:=rfl
theorem Ap7:JV F K .ret af st=K .ret af st:=rfl
theorem AqC{id:Nat}:JV F K (.exit id) af st=K (.exit id) af st:=rfl
theorem Asu{id:Nat}:ZF id K .normal af st=K .normal af st:=rfl
theorem Ars{id:Nat}:ZF id K .ret af st=K .ret af st:=rfl
def Atc{id:Nat}:ZF id K (.exit id) af st=K .normal af st:=by simp[ZF]
def AsB{id id':Nat} (h:id'≠id):ZF id K (.exit id') af st=K (.exit id') af st:=by grind[ZF]
theorem Ar6:nK K af st=K .normal af st:=rfl
theorem AYv{X Y:List AVal->St->Prop}:Tk (.bool true) X Y af st=X af st:=rfl
theorem AXi{X Y:List AVal->St->Prop}:Tk (.bool false) X Y af st=Y af st:=rfl
def Pv: ∀ {c:Code} (a:An){K:APost}{af:List AVal}{st:St},wpc E c a K af st->AWp E c K af st:=by
 intro c;induction c with
 |skip=>intro a K af st h;rw[wpc]at h;exact AOR h
 |ret=>intro a K af st h;rw[wpc]at h;exact AYo h
 |exit id=>intro a K af st h;rw[wpc]at h;exact APd h
 |seq x y ihx ihy=>
  intro a K af st h;cases a with
  |q a b=>rw[wpc]at h;refine UV ((ihx a h).mono λe af' st' _ q=>?_);cases e with|normal=>exact ihy b q|_=>exact q
  |_=>(rw[wpc]at h;exact h)<;>(intros;simp_all)
 | cond c x y ihx ihy=>
  intro a K af st h;cases a with
  |c a b=>
   rw[wpc]at h;unfold Tk at h;split at h;·rename_i b' hb;refine ARh b' hb ?_;cases b' with|true=>simp only[aD]at h⊢;grind|false=>simp only[aj,aA]at h⊢;grind
   grind
  |_=>(rw[wpc]at h;exact h)<;>(intros;simp_all)
 |block id c ih=>intro a K af st h;rw[wpc]at h;exact ADN ((ih a h).mono λe af' st' _ q=>by cases e<;>exact q)
 |region id os d=>intro a K af st h;cases d with|true=>(rw[wpc]at h;exact h)<;>(intros;simp_all)|false=>cases a with|r mv=>rw[wpc]at h;exact VX mv h|_=>(rw[wpc]at h;exact h)<;>(intros;simp_all)
 |loop c ih=>intro a K af st h;(rw[wpc]at h;exact h)<;>(intros;simp_all)
 |rangeFunc f ps x y ihx ihy=>intro a K af st h;(rw[wpc]at h;exact h)<;>(intros;simp_all)
 |scope c ih=>intro a K af st h;rw[wpc]at h;grind[ADn]
 |label l=>intro a K af st h;(rw[wpc]at h;exact h)<;>(intros;simp_all)
 |goto l=>intro a K af st h;(rw[wpc]at h;exact h)<;>(intros;simp_all)
 |refuse w=>intro a K af st h;(rw[wpc]at h;exact h)<;>(intros;simp_all)
end
inductive GTk (X Y:Prop):Type|mk
def gK (g:Option Bool) (X Y:Prop) (u:GTk X Y):Prop:=match g with|some true=>X|some false=>Y|none=>False
theorem Awg{X Y:Prop}{u:GTk X Y}:gK (some true) X Y u=X:=rfl
theorem Aw9{X Y:Prop}{u:GTk X Y}:gK (some false) X Y u=Y:=rfl
def nxK (b:Bool) (X Y:Prop) (u:GTk X Y):Prop:=if b=true then X else Y
def Auz{X Y:Prop}{u:GTk X Y}:nxK true X Y u=X:=by simp[nxK]
def Avy{X Y:Prop}{u:GTk X Y}:nxK false X Y u=Y:=by simp[nxK]
section
variable{E:Env}{mv:List Tmp}{ops:Array Oper}{K:List AVal->St->Prop}{af:List AVal}{st:St}{d:Option Tmp}{ty:TypeId}{pos:String}{aft:Array Edge}{g:Option (Nat×Bool)}
def AtN{op:Op}{os' os:List Oper}{j:Nat}{want:Bool}:Lt E mv ⟨os'⟩ (⟨d,op,ty,pos,aft,some (j,want)⟩::os) K af st=gK (gdD (PT os' j) af want) (Cu E mv ⟨d,op,ty,pos,aft,some (j,want)⟩ af st (Lt E mv ⟨os'⟩ os K)) (Lt E mv ⟨os'⟩ os K (Ab af d (.tuple [])) st) .mk:=by grind[Lt,AWy,gK,gdD,PT]
def Awj{op:Op}{os':List Oper}{j:Nat}{want:Bool}:gWp E mv ⟨os'⟩ ⟨d,op,ty,pos,aft,some (j,want)⟩ af st K=gK (gdD (PT os' j) af want) (Cu E mv ⟨d,op,ty,pos,aft,some (j,want)⟩ af st K) (K (Ab af d (.tuple [])) st) .mk:=by grind[gWp,AWy,gK,gdD,PT]
def Apf{t:Tmp}{s:B8}{p:Nat}:Zn (.iter s p) t d K af st=nxK (decide (p<s.length)) (K (Ab (af.set t (.iter s (p+(Cz s p).2))) d (.tuple [.bool true,.int .i64 p,.int .i32 (Cz s p).1])) st) (K (Ab af d (.tuple [.bool false])) st) .mk:=by rw[AVL];rfl
end
section cong
@[congr] theorem AvJ{E:Env}{mv:List Tmp}{ops:Array Oper}{os:List Oper}{K:List AVal->St->Prop}{af:List AVal}{st:St}{af':List AVal}{st':St} (h0:af=af') (h1:st=st'):Lt E mv ops os K af st=Lt E mv ops os K af' st':=by grind
@[congr] theorem AwX{E:Env}{mv:List Tmp}{o:Oper}{af:List AVal}{st:St}{K:List AVal->St->Prop}{af':List AVal}{st':St} (h0:af=af') (h1:st=st'):Cu E mv o af st K=Cu E mv o af' st' K:=by grind
@[congr] theorem AwS{x:Option AVal}{d:Option Tmp}{K:List AVal->St->Prop}{af:List AVal}{st:St}{x':Option AVal}{af':List AVal}{st':St} (h0:x=x') (h1:af=af') (h2:st=st'):Rc x d K af st=Rc x' d K af' st':=by grind
@[congr] theorem Avz{x:Option AVal}{d:Option Tmp}{K:List AVal->St->Prop}{af:List AVal}{st:St}{x':Option AVal}{af':List AVal}{st':St} (h0:x=x') (h1:af=af') (h2:st=st'):NG x d K af st=NG x' d K af' st':=by grind
@[congr] theorem Ave{z:Option (AVal×St)}{d:Option Tmp}{K:List AVal->St->Prop}{af:List AVal}{z':Option (AVal×St)}{af':List AVal} (h0:z=z') (h1:af=af'):P6 z d K af=P6 z' d K af':=by grind
@[congr] theorem AwR{b:Bool}{v:AVal}{d:Option Tmp}{K:List AVal->St->Prop}{af:List AVal}{st:St}{b':Bool}{v':AVal}{af':List AVal}{st':St} (h0:b=b') (h1:v=v') (h2:af=af') (h3:st=st'):Ad7 b v d K af st=Ad7 b' v' d K af' st':=by grind
@[congr] theorem Aum{x:Option (List AVal)}{d:Option Tmp}{K:List AVal->St->Prop}{af:List AVal}{st:St}{x':Option (List AVal)}{af':List AVal}{st':St} (h0:x=x') (h1:af=af') (h2:st=st'):Zk x d K af st=Zk x' d K af' st':=by grind
@[congr] theorem Aul{s:Option St}{K:List AVal->St->Prop}{af:List AVal}{s':Option St}{af':List AVal} (h0:s=s') (h1:af=af'):SB s K af=SB s' K af':=by grind
@[congr] theorem Aui{E:Env}{t:TypeId}{v:AVal}{lo:Option (Option Int)}{hi:Option (Option Int)}{mx:Option (Option Int)}{d:Option Tmp}{K:List AVal->St->Prop}{af:List AVal}{st:St}{v':AVal}{lo':Option (Option Int)}{hi':Option (Option Int)}{mx':Option (Option Int)}{af':List AVal}{st':St} (h0:v=v') (h1:lo=lo') (h2:hi=hi') (h3:mx=mx') (h4:af=af') (h5:st=st'):ABQ E t v lo hi mx d K af st=ABQ E t v' lo' hi' mx' d K af' st':=by grind
@[congr] theorem Auk{b:Bool}{v:AVal}{d:Option Tmp}{K:List AVal->St->Prop}{af:List AVal}{st:St}{b':Bool}{v':AVal}{af':List AVal}{st':St} (h0:b=b') (h1:v=v') (h2:af=af') (h3:st=st'):AAD b v d K af st=AAD b' v' d K af' st':=by grind
@[congr] theorem AvC{v:AVal}{tm:Tmp}{d:Option Tmp}{K:List AVal->St->Prop}{af:List AVal}{st:St}{v':AVal}{af':List AVal}{st':St} (h0:v=v') (h1:af=af') (h2:st=st'):Zn v tm d K af st=Zn v' tm d K af' st':=by grind
@[congr] theorem Avp{E:Env}{v:AVal}{l:List AVal}{d:Option Tmp}{K:List AVal->St->Prop}{af:List AVal}{st:St}{v':AVal}{l':List AVal}{af':List AVal}{st':St} (h0:v=v') (h1:l=l') (h2:af=af') (h3:st=st'):AOj E v l d K af st=AOj E v' l' d K af' st':=by grind
@[congr] theorem Awa{b z:Bool}{u:Operand}{t:TypeId}{E:Env}{d:Option Tmp}{K:List AVal->St->Prop}{af:List AVal}{st:St}{b' z':Bool}{af':List AVal}{st':St} (h0:b=b') (hz:z=z') (h1:af=af') (h2:st=st'):mvK b z u t E d K af st=mvK b' z' u t E d K af' st':=by grind
@[congr] theorem Awz{z:Bool}{y:Option (Nat×Nat×List AVal)}{j:Tmp}{v:AVal}{d:Option Tmp}{K:List AVal->St->Prop}{af:List AVal}{st:St}{z':Bool}{y':Option (Nat×Nat×List AVal)}{v':AVal}{af':List AVal}{st':St} (h0:z=z') (hy:y=y') (hv:v=v') (h1:af=af') (h2:st=st'):fzK z y j v d K af st=fzK z' y' j v' d K af' st':=by grind
@[congr] theorem AxO{b:Bool}{t:TypeId}{v:AVal}{E:Env}{d:Option Tmp}{K:List AVal->St->Prop}{af:List AVal}{st:St}{b':Bool}{v':AVal}{af':List AVal}{st':St} (h0:b=b') (h1:v=v') (h2:af=af') (h3:st=st'):ldK b t v E d K af st=ldK b' t v' E d K af' st':=by grind
@[congr] theorem Auo{F:List AVal->St->Prop}{L:APost}{e:Exit}{af:List AVal}{st:St}{e':Exit}{af':List AVal}{st':St} (h0:e=e') (h1:af=af') (h2:st=st'):JV F L e af st=JV F L e' af' st':=by grind
@[congr] theorem AwZ{id:Nat}{L:APost}{e:Exit}{af:List AVal}{st:St}{e':Exit}{af':List AVal}{st':St} (h0:e=e') (h1:af=af') (h2:st=st'):ZF id L e af st=ZF id L e' af' st':=by grind
@[congr] theorem Axf{L:APost}{af:List AVal}{st:St}{af':List AVal}{st':St} (h0:af=af') (h1:st=st'):nK L af st=nK L af' st':=by grind
@[congr] theorem Avg{v:AVal}{F:List AVal->St->Prop}{G:List AVal->St->Prop}{af:List AVal}{st:St}{v':AVal}{af':List AVal}{st':St} (h0:v=v') (h1:af=af') (h2:st=st'):Tk v F G af st=Tk v' F G af' st':=by grind
@[congr] theorem Awr{E:Env}{c:Code}{a:An}{L:APost}{af:List AVal}{st:St}{af':List AVal}{st':St} (h0:af=af') (h1:st=st'):wpc E c a L af st=wpc E c a L af' st':=by grind
@[congr] theorem Awo{E:Env}{c:Code}{L:APost}{af:List AVal}{st:St}{af':List AVal}{st':St} (h0:af=af') (h1:st=st'):AWp E c L af st=AWp E c L af' st':=by grind
@[congr] theorem AwP{E:Env}{f:FuncId}{l:List AVal}{st:St}{Q:AVal->St->Prop}{l':List AVal}{st':St} (h0:l=l') (h1:st=st'):ACall E f l st Q=ACall E f l' st' Q:=by grind
@[congr] theorem Auj{E:Env}{mv:List Tmp}{ops:Array Oper}{p:Plan}{tv:List (Nat×AVal)}{K:List AVal->St->Prop}{af:List AVal}{st:St}{tv':List (Nat×AVal)}{af':List AVal}{st':St} (h0:tv=tv') (h1:af=af') (h2:st=st'):Gw E mv ops p tv K af st=Gw E mv ops p tv' K af' st':=by grind
@[congr] theorem AxY{E:Env}{mv:List Tmp}{os:List Oper}{x:Option AVal}{i:Nat}{d:Option Tmp}{p:Plan}{tv:List (Nat×AVal)}{K:List AVal->St->Prop}{af:List AVal}{st:St}{x':Option AVal}{tv':List (Nat×AVal)}{af':List AVal}{st':St} (h0:x=x') (h1:tv=tv') (h2:af=af') (h3:st=st'):tkR E mv os x i d p tv K af st=tkR E mv os x' i d p tv' K af' st':=by grind
@[congr] theorem Awu{E:Env}{mv:List Tmp}{os:List Oper}{w:Option Oper}{i:Nat}{p:Plan}{tv:List (Nat×AVal)}{K:List AVal->St->Prop}{af:List AVal}{st:St}{w':Option Oper}{tv':List (Nat×AVal)}{af':List AVal}{st':St} (h0:w=w') (h1:tv=tv') (h2:af=af') (h3:st=st'):tkO E mv os w i p tv K af st=tkO E mv os w' i p tv' K af' st':=by grind
@[congr] theorem AwY{E:Env}{mv:List Tmp}{os:List Oper}{chk:List Nat}{p:Plan}{tv:List (Nat×AVal)}{K:List AVal->St->Prop}{af:List AVal}{st:St}{tv':List (Nat×AVal)}{af':List AVal}{st':St} (h0:tv=tv') (h1:af=af') (h2:st=st'):Aie E mv os chk p tv K af st=Aie E mv os chk p tv' K af' st':=by grind
@[congr] theorem AwT{E:Env}{mv:List Tmp}{os:List Oper}{w:Option Oper}{chk:List Nat}{p:Plan}{tv:List (Nat×AVal)}{K:List AVal->St->Prop}{af:List AVal}{st:St}{w':Option Oper}{tv':List (Nat×AVal)}{af':List AVal}{st':St} (h0:w=w') (h1:tv=tv') (h2:af=af') (h3:st=st'):AoB E mv os w chk p tv K af st=AoB E mv os w' chk p tv' K af' st':=by grind
@[congr] theorem AxX{E:Env}{mv:List Tmp}{ops:Array Oper}{o:Oper}{af:List AVal}{st:St}{K:List AVal->St->Prop}{af':List AVal}{st':St} (h0:af=af') (h1:st=st'):gWp E mv ops o af st K=gWp E mv ops o af' st' K:=by grind
@[congr] theorem Axg{g:Option Bool}{X:Prop}{Y:Prop}{u:GTk X Y}{g':Option Bool} (h0:g=g'):gK g X Y u=gK g' X Y u:=by grind
@[congr] theorem AwW{d:Option Tmp}{K:List AVal->St->Prop}{af:List AVal}{r:AVal}{sx:St}{af':List AVal}{r':AVal}{sx':St} (h0:af=af') (h1:r=r') (h2:sx=sx'):AeG d K af r sx=AeG d K af' r' sx':=by grind
@[congr] theorem AxA{b:Bool}{X:Prop}{Y:Prop}{u:GTk X Y}{b':Bool} (h0:b=b'):nxK b X Y u=nxK b' X Y u:=by grind
end cong
section rules
variable{E:Env}{K Q:APost}{af:List AVal}{st:St}{x y c:Code}
def ent{f:FuncId}{fn:Func}{nt:Nat}{rs:List ResultVar}{args:List AVal}{m m':MS}{n:Nat}{r':AVal}{Q:PQ} (hQ: ∀n',n<=n'->Gl (Q r' ⟨m',n'⟩)) (hf:E.P.funcs[f]?=some fn) (hb:fn.body=some c) (hn:fn.ntmps=nt) (hr:fn.results=rs.toArray) (a:An) (h: ∀R:APost,(∀af st xs m0 m1 n',Qe E rs af st=some (xs,⟨m1,n'⟩)->m0.Sublist m1->m0=m'->n<=n'->Sv xs=r'->R .ret af st/\R .normal af st)->Gl (wpc E c a R (args++List.replicate (nt-args.length) .any) ⟨m,n⟩)):ACall E f args ⟨m,n⟩ Q:=by
 refine MJ hf hb ?_;have hw:=Pv a (h (Jh E fn Q) ?_).go;·grind
 ·intro af st xs m0 m1 n' h1 h2 h0 h3 h4;subst h0;have e:fn.results.toList=rs:=by rw[hr]
  subst h4;exact⟨KA (by rw[e];omega) h2 (hQ n' h3).go,KH (by rw[e];omega) h2 (hQ n' h3).go⟩
def Aun{f:FuncId}{fn:Func}{nt:Nat}{rs:List ResultVar}{args:List AVal}{m m':MS}{n:Nat}{r':AVal}{Q:PQ} (hQ: ∀n',n<=n'->Gl (Q r' ⟨m',n'⟩)) (hf:E.P.funcs[f]?=some fn) (hb:fn.body=some c) (hn:fn.ntmps=nt) (hr:fn.results=rs.toArray) (a:An) (h: ∀R:APost,(∀af st xs m0 m1 n',Qe E rs af st=some (xs,⟨m1,n'⟩)->m0.Sublist m1->m0=m'->n<=n'->(Sv xs).strip=r'->R .ret af st/\R .normal af st)->Gl (wpc E c a R (args++List.replicate (nt-args.length) .any) ⟨m,n⟩)):ACall E f args ⟨m,n⟩ Q:=by
 refine ACall.strip (MJ hf hb ?_);have hw:=Pv a (h (Jh E fn λr st'=>Q r.strip st') ?_).go;·grind
 ·intro af st xs m0 m1 n' h1 h2 h0 h3 h4;subst h0;have e:fn.results.toList=rs:=by rw[hr]
  subst h4;exact⟨KA (by rw[e];omega) h2 (hQ n' h3).go,KH (by rw[e];omega) h2 (hQ n' h3).go⟩
def Pk{id:Nat}{os:List Oper} (mv:List Tmp) (plan:Plan) (hm:E.P.follows .mixedOrders=true) (hok:JK (List.toArray os) plan false (Array.replicate (List.toArray os).size false) []=true) (h:Gl (Gw E mv ⟨os⟩ plan [] (nK Q) af st)):AWp E (.region id (List.toArray os) true) Q af st:=Su mv plan hm hok h.go
def TJ{α β γ:Type}{k0:α->Option β}{body:(α->Option β)->Option β}{r:β}{m:MS}{n:Nat}{T:Prop}{d:JD α} (h:T/\AA k0 body d=some r) (js cs:List Tmp) (V:α->γ->List AVal) (M:α->γ->MS) (a:An) (rest: ∀j g n',n<=n'->keysLt n' (M j g)->((M j g).map (·.1)).Nodup->T/\k0 j=some r->AWp E y Q (setVals (Ag js af) cs (V j g)) ⟨M j g,n'⟩) (first: ∀(k:α->Option β) (J:List AVal->St->Prop),(∀j g af' m0 m1 n',k j=some r->m0.Sublist m1->m0=M j g->Ag cs (Ag js af')=Ag cs (Ag js af)->Cb (Ag js af') cs=V j g->n<=n'->J af' ⟨m1,n'⟩)->T/\body k=some r->Gl (wpc E x a (JV J Q) af ⟨m,n⟩)):AWp E (.seq x y) Q af ⟨m,n⟩:=by
 refine UV ?_;have key:=Pv a (first k0 (λaf' st'=>AWp E y Q af' ⟨st'.m,st'.next⟩) ?_ h).go;·exact key.mono λe af' st' _ q=>by cases e<;>exact q
 ·intro j g af' m0 m1 n' h1 h2 h3 h4 h5 h6;subst h3;refine Tf js (Aba (m:=M j g) h2 ?_);grind[AWp.known,AWp.nodup,Kk]
def AkY{σ β γ:Type}{r:β}{m:MS}{n:Nat}{T:Prop} (G:Nat->σ->Option β) (V:σ->γ->List AVal) (M:σ->γ->MS) (js cs:List Tmp) (s0:σ) (g0:γ){k0:Nat} (h:T/\G k0 s0=some r) (hz: ∀s,G 0 s=none) (hm:m=M s0 g0) (hv:Cb (Ag js af) cs=V s0 g0) (round: ∀k s g n',n<=n'->keysLt n' (M s g)->T/\G (k+1) s=some r->∀J:List AVal->St->Prop,(∀s' g' af' m0 m1 n'',G k s'=some r->m0.Sublist m1->m0=M s' g'->Ag cs (Ag js af')=Ag cs (Ag js af)->Cb (Ag js af') cs=V s' g'->n'<=n''->J af' ⟨m1,n''⟩)->AWp E c (JV J Q) (setVals (Ag js af) cs (V s g)) ⟨M s g,n'⟩):AWp E (.loop c) Q af ⟨m,n⟩:=by
 refine AAg js cs (λk vs st'=>∃s g,vs=V s g/\st'.m=M s g/\n<=st'.next/\G k s=some r) k0 ⟨s0,g0,hv,hm,au _,h.2⟩ ?_;rintro k vs ⟨m',n'⟩ ⟨s,g,rfl,hm',hn,hG⟩ J hJ;simp only at hm' hn;subst hm';cases k with
 |zero=>grind
 |succ k=>
  refine AWp.known λ_ hk=>?_;refine(round k s g n' hn hk ⟨h.1,hG⟩ J ?_).mono λe af' st' _ q=>by cases e<;>first|exact Nk q|exact .oth fy q
  intro s' g' af' m0 m1 n'' h1 h2 h3 h4 h5 h6;exact hJ k af' ⟨m1,n''⟩ m0 (Nat.lt_succ_self _) h2 h4 ⟨s',g',h5,h3,bG hn h6,h1⟩
def AaA{α:Type}{L pre suf:List α}{x:α} (h:L=pre++x::suf) (hL:AL L.length):decide ((pre.length:Int)<(L.length:Int))=true/\idx L (pre.length:Int)=some x/\wr .i64 ((pre.length:Int)+1)=(pre.length:Int)+1:=by subst h;unfold AL at hL;simp only[ah,ag]at hL;refine⟨by simp only[aw,ah,ag];omega,by simp[idx],?_⟩;grind[wr,IntKind.wrap,IntKind.bits,IntKind.signed]
def AhQ{σ β γ:Type}{r:β}{m:MS}{n:Nat}{T:Prop} (i0 b:Int) (hL: -4611686018427387904<=i0/\b<=4611686018427387904) (G:Nat->Int->σ->Option β) (V:Int->σ->γ->List AVal) (M:Int->σ->γ->MS) (js cs:List Tmp) (s0:σ) (g0:γ) (h:T/\G (b-i0).toNat i0 s0=some r) (hm:m=M i0 s0 g0) (hv:Cb (Ag js af) cs=V i0 s0 g0) (rnil: ∀i s g n',n<=n'->keysLt n' (M i s g)->(decide (i<b)=false/\T)/\G 0 i s=some r->AWp E c (JV (λ_ _=>False) Q) (setVals (Ag js af) cs (V i s g)) ⟨M i s g,n'⟩) (rcons: ∀k i s g n',n<=n'->keysLt n' (M i s g)->(decide (i<b)=true/\wr .i64 (i+1)=i+1/\T)/\G (k+1) i s=some r->∀J:List AVal->St->Prop,(∀s' g' af' m0 m1 n'',G k (i+1) s'=some r->m0.Sublist m1->m0=M (i+1) s' g'->Ag cs (Ag js af')=Ag cs (Ag js af)->Cb (Ag js af') cs=V (i+1) s' g'->n'<=n''->J af' ⟨m1,n''⟩)->AWp E c (JV J Q) (setVals (Ag js af) cs (V i s g)) ⟨M i s g,n'⟩):AWp E (.loop c) Q af ⟨m,n⟩:=by
 refine AAg js cs (λk vs st'=>∃i s g,i0<=i/\k=(b-i).toNat/\vs=V i s g/\st'.m=M i s g/\n<=st'.next/\G k i s=some r) (b-i0).toNat ⟨i0,s0,g0,br _,rfl,hv,hm,au _,h.2⟩ ?_;rintro k vs ⟨m',n'⟩ ⟨i,s,g,hi,hk',rfl,hm',hn,hG⟩ J hJ;simp only at hm' hn;subst hm';cases k with
 |zero=>refine AWp.known λ_ hk=>?_;refine(rnil _ s g n' hn hk ⟨⟨by grind,h.1⟩,hG⟩).mono λe af' st' _ q=>by cases e<;>first|exact q.elim|exact .oth fy q
 |succ k=>
  refine AWp.known λ_ hk=>?_;have hw:wr .i64 (i+1)=i+1:=by grind[wr,IntKind.wrap,IntKind.bits,IntKind.signed]
  refine(rcons k i s g n' hn hk ⟨⟨by simp only[aw];omega,hw,h.1⟩,hG⟩ J ?_).mono λe af' st' _ q=>by cases e<;>first|exact Nk q|exact .oth fy q
  intro s' g' af' m0 m1 n'' h1 h2 h3 h4 h5 h6;exact hJ k af' ⟨m1,n''⟩ m0 fy h2 h4 ⟨i+1,s',g',fx,fx,h5,h3,bG hn h6,h1⟩
def Cm (a:An) (h:Gl (wpc E c a K af st)):AWp E c K af st:=Pv a h.go
end rules
def AVg{A B:Prop} (a:Gl A) (b:Gl B):Gl (A/\B):=⟨a.go,b.go⟩
def KX{α:Type}{c:Bool}{x y:Option α}{r:α}{T:Prop} (h:T/\(if c=true then x else y)=some r):((c=true/\T)/\x=some r)\/((c=false/\T)/\y=some r):=by
 cases c;·exact .inr ⟨⟨rfl,h.1⟩,h.2⟩
 ·exact .inl ⟨⟨rfl,h.1⟩,h.2⟩
def FZ{α β:Type}{x:Option α}{f:α->Option β}{r:β}{T:Prop} (h:T/\Option.bind x f=some r): ∃y,(x=some y/\T)/\f y=some r:=by obtain⟨y,h1,h2⟩:=bind_some h.2;grind
def NE{α:Type}{c:Prop} [Decidable c]{x:Option α}{r:α}{T:Prop} (h:T/\grd c x=some r):c/\T/\x=some r:=by grind[AAv]
def KO{A B C:Prop} (a:A) (h:B/\C):(A/\B)/\C:=⟨⟨a,h.1⟩,h.2⟩
end Go.VM
set_option linter.unusedVariables false
set_option linter.defProp false
set_option maxRecDepth 100000
namespace Go.VM
section
variable{E:Env}{af:List AVal}{t:TypeId}
def fdA (r:Option (Nat×Nat×Bool)) (cs:List AVal):Option AVal:=match r with|some (off,z,g)=>Uv cs off z g|none=>none
def Ao5{s:TypeId}{cs:List AVal}{f:Nat}:VB E s (.agg cs) f=fdA (AR E.P s f) cs:=by unfold VB fdA;rcases AR E.P s f with _|⟨_,_,_⟩<;>rfl
theorem Afu{off z:Nat}{g:Bool}{cs:List AVal}:fdA (some (off,z,g)) cs=Uv cs off z g:=rfl
theorem AnD{r:AVal}:Sv [r]=r:=rfl
theorem Aqq:Sv []=.tuple []:=rfl
theorem Aog{a b:AVal}{l:List AVal}:Sv (a::b::l)=.tuple (a::b::l):=rfl
theorem Ai8:Ag [] af=af:=rfl
theorem AZQ{j:Tmp}{js:List Tmp}:Ag (j::js) af=Ag js (af.set j .any):=rfl
def Atl{vs:List AVal}:setVals af [] vs=af:=by cases vs<;>rfl
theorem AqU{c:Tmp}{cs:List Tmp}{v:AVal}{vs:List AVal}:setVals af (c::cs) (v::vs)=setVals (af.set c v) cs vs:=rfl
theorem AsP:Cb af []=[]:=rfl
theorem Apg{c:Tmp}{cs:List Tmp}:Cb af (c::cs)=af.getD c .any::Cb af cs:=rfl
theorem AjH{r:AVal}:Ab af none r=af:=rfl
theorem AkZ{d:Tmp}{r:AVal}:Ab af (some d) r=af.set d r:=rfl
theorem AqB{i:Tmp}:stripAt af (.tmp i)=af.set i (af.getD i .any).strip:=rfl
def Aox{l:List AVal}:AVal.strip (.agg l)=.agg (stripL l):=by rw[AVal.strip]
def AeE{l:List AVal}:AVal.strip (.tuple l)=.tuple (stripL l):=by rw[AVal.strip]
def AZx{w:Nat}{l:List AVal}{o:Bool}:AVal.strip (.slice w l o)=.slice w l false:=by rw[AVal.strip]
def AhN{s:B8}{p:Nat}:AVal.strip (.iter s p)=.any:=by rw[AVal.strip]
def AiC:stripL []=[]:=by rw[stripL]
def Ar0{x:AVal}{bs:List Bool}{xs:List AVal}:stripB (true::bs) (x::xs)=x.strip::stripB bs xs:=by rw[stripB]
def At7{x:AVal}{bs:List Bool}{xs:List AVal}:stripB (false::bs) (x::xs)=x::stripB bs xs:=by rw[stripB]
def AsZ{xs:List AVal}:stripB [] xs=xs:=by rw[stripB]
def AZp{x:AVal}{l:List AVal}:stripL (x::l)=x.strip::stripL l:=by rw[stripL]
theorem AtB{i:Tmp}:rd E af t (.tmp i)=af.getD i .any:=rfl
theorem AkG{v:Value}:rd E af t (.const v)=Jl (H9 E.P t) v:=rfl
theorem AoY{g:FuncId}:rd E af t (.func g)=.fn (.func g) [] []:=rfl
end
def vmC:=ac (ac (ac (ac (ac (ac (ac (ac (ac (@Ac9) (@AUT)) (ac (@AVK) (@AbE))) (ac (ac (@AQD) (@ASz)) (ac (@AL3) (ac (@AIi) (@APp))))) (ac (ac (ac (@Agz) (@Alz)) (ac (@Afk) (ac (@Alt) (@Aa6)))) (ac (ac (@Ahl) (@AcE)) (ac (@AqK) (ac (@Abk) (@Agf)))))) (ac (ac (ac (ac (@AtO) (@Ag1)) (ac (@ACa) (@An6))) (ac (ac (@Akz) (@ATu)) (ac (@Afc) (ac (@AZ2) (@Ah8))))) (ac (ac (ac (@AXM) (@Apv)) (ac (@Anz) (ac (@AXX) (@AoF)))) (ac (ac (@AOt) (@Ai9)) (ac (@An1) (ac (@AUZ) (@ARB))))))) (ac (ac (ac (ac (ac (@AGn) (@AlW)) (ac (@AMi) (@AjT))) (ac (ac (@Auc) (@AsE)) (ac (@AsM) (ac (@AqN) (@Af1))))) (ac (ac (ac (@AaH) (@Aoa)) (ac (@AOS) (ac (@Anf) (@AqW)))) (ac (ac (@ARy) (@AkQ)) (ac (@ABs) (ac (@AoK) (@AS2)))))) (ac (ac (ac (ac (@AkB) (@AoG)) (ac (@AUH) (@ASt))) (ac (ac (@ALh) (@Aiq)) (ac (@AIn) (ac (@AgD) (@Atd))))) (ac (ac (ac (@Asr) (@Ass)) (ac (@Asv) (ac (@Akv) (@Alc)))) (ac (ac (@AeS) (@Ah1)) (ac (@Abg) (ac (@Ab7) (@AbM)))))))) (ac (ac (ac (ac (ac (ac (@AjF) (@AoO)) (ac (@Agp) (@AZN))) (ac (ac (@Avc) (@Avh)) (ac (@AvB) (ac (@Av7) (@Ag9))))) (ac (ac (ac (@Aiu) (@Ao3)) (ac (@AnF) (ac (@Afa) (@AZh)))) (ac (ac (@Asf) (@Ac5)) (ac (@Ary) (ac (@Adl) (@AkV)))))) (ac (ac (ac (ac (@AZe) (@Aca)) (ac (@Aj8) (@Aa3))) (ac (ac (@AV6) (@Ak6)) (ac (@AJP) (ac (@Wd) (@AYO))))) (ac (ac (ac (@AXq) (@Py)) (ac (@Arx) (ac (@AuM) (@As9)))) (ac (ac (@AsO) (@Aru)) (ac (@Asg) (ac (@Avk) (@AtM))))))) (ac (ac (ac (ac (ac (@Abr) (@As4)) (ac (@AuO) (@AtT))) (ac (ac (@Arp) (@Atp)) (ac (@AsS) (ac (@AuP) (@Ato))))) (ac (ac (ac (@Apt) (@An5)) (ac (@Aqn) (ac (@Apq) (@Apj)))) (ac (ac (@Aqr) (@Ani)) (ac (@AnR) (ac (@Ane) (@Aub)))))) (ac (ac (ac (ac (@AaM) (@AeK)) (ac (@Arv) (ac (@Af4) (@AqJ)))) (ac (ac (@AuW) (@AlI)) (ac (@Agb) (ac (@AT5) (@bytesOf_map))))) (ac (ac (ac (@SG) (@AOG)) (ac (@ARg) (ac (@Atj) (ac (@Ase) (@Asn))))) (ac (ac (@List.append_eq.{0}) (@cB.{0,0})) (ac (@ah.{0}) (ac (@br) (@Int.natCast_nonneg))))))))) (ac (ac (ac (ac (ac (ac (ac (@cT.{0}) (@dM.{0})) (ac (@bo) (@eB))) (ac (ac (@cD) (@bL)) (ac (@bE) (ac (@ck.{0,0}) (@Nat.left_eq_add))))) (ac (ac (ac (@fd) (@Nat.one_ne_zero)) (ac (@Nat.succ_ne_self) (ac (@eW) (@cE)))) (ac (ac (@ag.{0}) (@ap.{0})) (ac (@dz.{0}) (ac (@List.replicate_zero.{0}) (@bm.{0})))))) (ac (ac (ac (ac (@bk.{0}) (@bz.{0})) (ac (@dA.{0}) (@cS.{0}))) (ac (ac (@ca.{0}) (@cF.{0})) (ac (@aK.{0,0}) (ac (@bR.{0,0}) (@aa.{0,0}))))) (ac (ac (ac (@Option.bind_none.{0,0}) (@eO.{0})) (ac (@bC.{0}) (ac (@List.elem_nil.{0}) (@List.elem_cons.{0})))) (ac (ac (@aD.{1}) (@aA.{1})) (ac (@aj) (ac (@eH) (@aL.{0}))))))) (ac (ac (ac (ac (ac (@List.drop_succ_cons.{0}) (@cj.{0})) (ac (@bV) (@bJ))) (ac (ac (@cx.{0}) (@eX.{0})) (ac (@dt.{0}) (ac (@fu) (@c7))))) (ac (ac (ac (@dV) (@bg)) (ac (@c9.{0}) (ac (@Option.isNone_some.{0}) (@dF.{0})))) (ac (ac (@cb.{0}) (@decide_true)) (ac (@ek) (ac (@and_self) (@dL)))))) (ac (ac (ac (ac (@cC) (@au)) (ac (@dg.{0}) (ac (@du.{0}) (@cc.{0})))) (ac (ac (@ite_self.{1}) (@aF.{0,0})) (ac (@cp.{0,0}) (ac (@List.range_succ) (@List.range_zero))))) (ac (ac (ac (@bl.{0}) (@e8.{0})) (ac (@dU) (ac (@dc) (@ae.{0})))) (ac (ac (@bF) (@true_or)) (ac (@or_true) (ac (@false_or) (@eT)))))))) (ac (ac (ac (ac (ac (ac (@cM) (@not_false_eq_true)) (ac (@eN.{1}) (@rdL.eq_1))) (ac (ac (@rdL.eq_2) (@rdL.eq_3)) (ac (@rdo.eq_1) (ac (@rdo.eq_2) (@BO.eq_1))))) (ac (ac (ac (@BO.eq_2) (@PG.eq_1)) (ac (@PG.eq_2) (ac (@PT.eq_1) (@PT.eq_2)))) (ac (ac (@PT.eq_3) (@opAt.eq_1)) (ac (@opAt.eq_2) (ac (@opAt.eq_3) (@XH.eq_1)))))) (ac (ac (ac (ac (@XH.eq_2) (@AX.eq_1)) (ac (@CW.eq_1) (@CW.eq_2))) (ac (ac (@CW.eq_3) (@putCells.eq_1)) (ac (@putCells.eq_2) (ac (@Uv.eq_1) (@Rb.eq_1))))) (ac (ac (ac (@RO.eq_1) (@RO.eq_2)) (ac (@SL.eq_1) (ac (@SL.eq_2) (@OE.eq_1)))) (ac (ac (@Ao5) (@Afu)) (ac (@NC.eq_1) (ac (@NC.eq_2) (@NC.eq_3))))))) (ac (ac (ac (ac (ac (@NC.eq_4) (@Jl.eq_1)) (ac (@Jl.eq_2) (@Jl.eq_3))) (ac (ac (@Jl.eq_4) (@Jl.eq_5)) (ac (@Jl.eq_6) (ac (@Jl.eq_7) (@Jl.eq_8))))) (ac (ac (ac (@TG.eq_1) (@Yn.eq_1)) (ac (@Yn.eq_2) (ac (@Gz.eq_1) (@RZ.eq_1)))) (ac (ac (@RZ.eq_2) (@AbI.eq_1)) (ac (@AbI.eq_2) (ac (@Adp.eq_1) (@Adp.eq_2)))))) (ac (ac (ac (ac (@Bg.eq_1) (@Qe.eq_1)) (ac (@Qe.eq_2) (ac (@Qe.eq_3) (@V9.eq_1)))) (ac (ac (@V9.eq_2) (@Aqg)) (ac (@Akh) (ac (@Aqj) (@Aoo))))) (ac (ac (ac (@AnL) (@AiZ)) (ac (@Agv) (ac (@Ate) (@AaP)))) (ac (ac (@Abp) (@AGb)) (ac (@Acu) (ac (@AZA) (@Aj9)))))))))) (ac (ac (ac (ac (ac (ac (ac (ac (@AoQ) (@Am6)) (ac (@ApQ) (@Af8))) (ac (ac (@AiU) (@Ar8)) (ac (@AZc) (ac (@AbH) (@AFW))))) (ac (ac (ac (@Ann) (@AZW)) (ac (@AtN) (ac (@Awj) (@Apf)))) (ac (ac (@Awg) (@Aw9)) (ac (@Auz) (ac (@Avy) (@Aks)))))) (ac (ac (ac (ac (@Ank) (@Aju)) (ac (@Apl) (@Aj3))) (ac (ac (@AZB) (@AZa)) (ac (@AUi) (ac (@Avf) (@AhU))))) (ac (ac (ac (@Ah3) (@AnG)) (ac (@Ap7) (ac (@AqC) (@Asu)))) (ac (ac (@Ars) (@Atc)) (ac (@AsB) (ac (@Ar6) (@AYv))))))) (ac (ac (ac (ac (ac (@AXi) (@AnD)) (ac (@Aqq) (@Aog))) (ac (ac (@Ai8) (@AZQ)) (ac (@Atl) (ac (@AqU) (@AsP))))) (ac (ac (ac (@Apg) (@AjH)) (ac (@AkZ) (ac (@AqB) (@AbK)))) (ac (ac (@Ak4) (@Akb)) (ac (@Aqc) (ac (@Ait) (@Aom)))))) (ac (ac (ac (ac (@An2) (@AqQ)) (ac (@AkF) (ac (@Alw) (@AuD)))) (ac (ac (@AcF) (@AbA)) (ac (@AED) (ac (@Aox) (@AeE))))) (ac (ac (ac (@AZx) (@AhN)) (ac (@AiC) (ac (@AZp) (@Ar0)))) (ac (ac (@At7) (@AsZ)) (ac (@AtB) (ac (@AkG) (@AoY)))))))) (ac (ac (ac (ac (ac (ac (@Aoy) (@ApA)) (ac (@Acx) (@Ac6))) (ac (ac (@AaB) (@AMR)) (ac (@AlX) (ac (@Anr) (@AsL))))) (ac (ac (ac (@AtE) (@Asd)) (ac (@Ar5) (ac (@At1) (@As6)))) (ac (ac (@Arm) (@AsU)) (ac (@AuE) (ac (@Alg) (@Aic)))))) (ac (ac (ac (ac (@Ata) (@Ala)) (ac (@As7) (@Ai6))) (ac (ac (@AoI) (@AsW)) (ac (@AhZ) (ac (@AuX) (@Ahv))))) (ac (ac (ac (@Awb) (@Arq)) (ac (@AtP) (ac (@Ajv) (@Asi)))) (ac (ac (@AsX) (@Asq)) (ac (@Ar3) (ac (@Asw) (@As2))))))) (ac (ac (ac (ac (ac (@Ap6) (@Ap0)) (ac (@At2) (@Aph))) (ac (ac (@ApB) (@Asa)) (ac (@Agu) (ac (@AqH) (@Aa1))))) (ac (ac (ac (@Ao2) (@AfZ)) (ac (@Anl) (ac (@AdW) (@Am5)))) (ac (ac (@AnU) (@AZT)) (ac (@Anp) (ac (@AAq) (@AdM)))))) (ac (ac (ac (ac (@Acg) (@Acv)) (ac (@Adx) (ac (@Ahr) (@AlA)))) (ac (ac (@AbS) (@AAh)) (ac (@Acf) (ac (@AbY) (@ApK))))) (ac (ac (ac (@ApX) (@AZG)) (ac (@Akt) (ac (@AUq) (@Xj)))) (ac (ac (@WT) (@Abv)) (ac (@ArB) (ac (@ArP) (@AtJ))))))))) (ac (ac (ac (ac (ac (ac (ac (@AY2) (@X5.eq_1)) (ac (@ApG) (@AgT))) (ac (ac (@Ao1) (@ApO)) (ac (@Apy) (ac (@Ad5) (@AcB))))) (ac (ac (ac (@Apm) (@Ahu)) (ac (@Alk) (ac (@Atk) (@AZo)))) (ac (ac (@AeO) (@AHv)) (ac (@Aol) (ac (@AaS) (@Aqi)))))) (ac (ac (ac (ac (@Afi) (@AZq)) (ac (@AXV) (@Aiv))) (ac (ac (@Ah9) (@Aj6)) (ac (@Agm) (ac (@Aik) (@Atb))))) (ac (ac (ac (@AoM) (@Aue)) (ac (@AgN) (ac (@AiO) (@ApC)))) (ac (ac (@Apr) (@Ahq)) (ac (@Ake) (ac (@Ale) (@Akf))))))) (ac (ac (ac (ac (ac (@AhE) (@Aip)) (ac (@Ahn) (@AhH))) (ac (ac (@ArF) (@AgC)) (ac (@AgP) (ac (@AoH) (@Av4))))) (ac (ac (ac (@AkU) (@AtI)) (ac (@AvU) (ac (@AvV) (@AuJ)))) (ac (ac (@Asx) (@Avw)) (ac (@Av5) (ac (@Afn) (@Ati)))))) (ac (ac (ac (ac (@AsQ) (@Atv)) (ac (@Auh) (ac (@AsK) (@Arn)))) (ac (ac (@Asl) (@Aot)) (ac (@AxT) (ac (ac (@AqD) (ac (@Arr) (@Aup))) (ac (@AnA) (@AqG)))))) (ac (ac (ac (@Avo) (@Auq)) (ac (@Af6) (ac (@AqT) (@Aro)))) (ac (ac (@AjB) (@AhK)) (ac (@AZM) (ac (@Ako) (@Agr)))))))) (ac (ac (ac (ac (ac (ac (@AnM) (@Aqs)) (ac (@Alb) (@AuR))) (ac (ac (@Atg) (@AuI)) (ac (@AqP) (ac (@Atu) (@AsC))))) (ac (ac (ac (@Afb) (@Agx)) (ac (@Att) (ac (@AuB) (@Aqb)))) (ac (ac (ac (@Aut) (ac (ac (@AeX) (@AcD)) (ac (@Au1) (ac (@Au7) (@AvY))))) (@AsG)) (ac (@AtV) (ac (@AoZ) (@Afy)))))) (ac (ac (ac (ac (@AhR) (@Ahd)) (ac (@Ak9) (@Afv))) (ac (ac (@Ahx) (@AoC)) (ac (@At3) (ac (@Alh) (@Aas))))) (ac (ac (ac (@AvM) (@AsA)) (ac (@AjM) (ac (@Aan) (@AZJ)))) (ac (ac (@Al0) (@Ag2)) (ac (@AvI) (ac (@Ajb) (@AiL))))))) (ac (ac (ac (ac (ac (@Aus) (@Aja)) (ac (@AuF) (@Ajp))) (ac (ac (@AkE) (@AlF)) (ac (@Aff) (ac (@Ajj) (@Ap3))))) (ac (ac (ac (@AiQ) (@Ai3)) (ac (@Avs) (ac (@AwH) (@Av1)))) (ac (ac (@AjU) (@Ahz)) (ac (@AvT) (ac (@Aur) (@AiK)))))) (ac (ac (ac (ac (@AwN) (@Auv)) (ac (@ApU) (ac (@Avm) (@Ai7)))) (ac (ac (@Ahs) (@Apz)) (ac (@Aod) (ac (@Afl) (@Aps))))) (ac (ac (ac (ac (@An4) (ac (@AqM) (@AkM))) (ac (ac (ac (@Ak5) (@AjY)) (ac (@Au3) (@Av9))) (ac (@AqI) (@Aiw)))) (ac (@AvQ) (ac (ac (ac (@Auw) (@Akk)) (ac (ac (@Arl) (@Aug)) (@AlS))) (ac (ac (ac (@At6) (@AuQ)) (ac (@Asz) (@AuV))) (ac (ac (ac (@Avj) (@Au5)) (ac (@Ahp) (@Alo))) (ac (ac (@Av2) (@Au6)) (ac (@Avx) (@Avq)))))))) (ac (ac (@bU.{0}) (@List.getElem?_map.{0,0})) (ac (@bX.{0}) (ac (@fr) (@cn.{0}))))))))))
def liE:=ac (ac (ac (ac (ac (ac (@List.append_eq.{0}) (@cB.{0,0})) (ac (@ah.{0}) (ac (@br) (@Int.natCast_nonneg)))) (ac (ac (@cT.{0}) (@dM.{0})) (ac (@bo) (ac (@eB) (@cD))))) (ac (ac (ac (@bL) (@bE)) (ac (@ck.{0,0}) (ac (@Nat.left_eq_add) (@fd)))) (ac (ac (@Nat.one_ne_zero) (ac (@Nat.succ_ne_self) (@eW))) (ac (@cE) (ac (@ag.{0}) (@ap.{0})))))) (ac (ac (ac (ac (@dz.{0}) (@List.replicate_zero.{0})) (ac (@bm.{0}) (ac (@bk.{0}) (@bz.{0})))) (ac (ac (@dA.{0}) (@cS.{0})) (ac (@ca.{0}) (ac (@cF.{0}) (@aK.{0,0}))))) (ac (ac (ac (@bR.{0,0}) (@aa.{0,0})) (ac (@Option.bind_none.{0,0}) (ac (@eO.{0}) (@bC.{0})))) (ac (ac (@List.elem_nil.{0}) (ac (@List.elem_cons.{0}) (@aD.{1}))) (ac (@aA.{1}) (ac (@aj) (@eH))))))) (ac (ac (ac (ac (ac (@aL.{0}) (@List.drop_succ_cons.{0})) (ac (@cj.{0}) (ac (@bV) (@bJ)))) (ac (ac (@cx.{0}) (@eX.{0})) (ac (@dt.{0}) (ac (@fu) (@c7))))) (ac (ac (ac (@dV) (@bg)) (ac (@c9.{0}) (ac (@Option.isNone_some.{0}) (@dF.{0})))) (ac (ac (@cb.{0}) (ac (@decide_true) (@ek))) (ac (@and_self) (ac (@dL) (@cC)))))) (ac (ac (ac (ac (@au) (@dg.{0})) (ac (@du.{0}) (ac (@cc.{0}) (@ite_self.{1})))) (ac (ac (@aF.{0,0}) (ac (@cp.{0,0}) (@List.range_succ))) (ac (@List.range_zero) (ac (@bl.{0}) (@e8.{0}))))) (ac (ac (ac (@dU) (@dc)) (ac (@ae.{0}) (ac (@bF) (@true_or)))) (ac (ac (@or_true) (ac (@false_or) (@eT))) (ac (@cM) (ac (@not_false_eq_true) (@eN.{1})))))))
end Go.VM
set_option linter.unusedVariables false
set_option linter.unusedSimpArgs false
namespace Go.VM
abbrev DT:=List (Nat×List Tmp×Plan)
def AA4:DT->Nat->List Tmp|[],_=>[]|(i,m,_)::D,j=>if i=j then m else AA4 D j
def AoR:DT->Nat->Plan|[],_=>.done|(i,_,p)::D,j=>if i=j then p else AoR D j
inductive DD (D:DT):Prop|mk
def AUc (l:List Tmp) (F:List Tmp->Prop):Prop:=F l
def R6:Plan->Bool|.stop=>true|_=>false
def AZk:DT->Nat->Bool|[],_=>false|(i,_,p)::D,j=>if i=j then R6 p else AZk D j
def ANA (b:Bool) (X Y:Prop):Prop:=if b=true then X else Y
def wpd (E:Env) (D:DT):Code->APost->List AVal->St->Prop|.skip,K=>λaf st=>K .normal af st|.label _,K=>λaf st=>K .normal af st|.ret,K=>λaf st=>K .ret af st|.exit id,K=>λaf st=>K (.exit id) af st|.seq (.region id os false) y,K=>λaf st=>ANA (AZk D id) (AWp E (.seq (.region id os false) y) K af st) (AUc (AA4 D id) λmv=>Lt E mv os os.toList (nK (JV (wpd E D y K) K)) af st)|.cond c x y,K=>λaf st=>Tk (rd E af 0 c) (wpd E D x K) (wpd E D y K) af st|.block id c,K=>wpd E D c (ZF id K)|.scope c,K=>wpd E D c K|.region id os false,K=>λaf st=>AUc (AA4 D id) λmv=>Lt E mv os os.toList (nK K) af st|c,K=>AWp E c K
section
variable{E:Env}{D:DT}{K:APost}{af:List AVal}{st:St}{x y:Code}{F:List AVal->St->Prop}
def AgK:wpd E D .skip K af st=K .normal af st:=by rw[wpd]
def Adh{l:Nat}:wpd E D (.label l) K af st=K .normal af st:=by rw[wpd]
def AoU:wpd E D .ret K af st=K .ret af st:=by rw[wpd]
def Ajk{id:Nat}:wpd E D (.exit id) K af st=K (.exit id) af st:=by rw[wpd]
def AiN{id:Nat}{os:List Oper}:wpd E D (.seq (.region id (List.toArray os) false) y) K af st=ANA (AZk D id) (AWp E (.seq (.region id (List.toArray os) false) y) K af st) (AUc (AA4 D id) λmv=>Lt E mv ⟨os⟩ os (nK (JV (wpd E D y K) K)) af st):=by rw[wpd]
def Art{X Y:Prop}:ANA true X Y=X:=by simp[ANA]
def Ar1{X Y:Prop}:ANA false X Y=Y:=by simp[ANA]
theorem Aio{j:Nat}:AZk [] j=false:=rfl
theorem AZl{i j:Nat}{m:List Tmp}{p:Plan}:AZk ((i,m,p)::D) j=if i=j then R6 p else AZk D j:=rfl
theorem Ai1:R6 .stop=true:=rfl
theorem Afr:R6 .done=false:=rfl
theorem AgX{i:Nat}{p:Plan}:R6 (.take i p)=false:=rfl
theorem AnI{i:Nat}{c:List Nat}{p q:Plan}:R6 (.alt i c p q)=false:=rfl
theorem AuZ{i k:Nat}{p:Plan}:R6 (.tk i (k+1) p)=false:=rfl
theorem As8{i:Nat}{c:List (Nat×Nat)}{p:Plan}:R6 (.al i c p)=false:=rfl
theorem AtQ{i:Nat}{c:List (Nat×Nat)}{p q:Plan}:R6 (.ar i c p q)=false:=rfl
@[congr] theorem AwU{b b':Bool}{X Y:Prop} (h:b=b'):ANA b X Y=ANA b' X Y:=by grind
def Af3{c:Operand}:wpd E D (.cond c x y) K af st=Tk (rd E af 0 c) (wpd E D x K) (wpd E D y K) af st:=by rw[wpd]
def Aby{id:Nat}:wpd E D (.block id x) K af st=wpd E D x (ZF id K) af st:=by rw[wpd]
def Aa2:wpd E D (.scope x) K af st=wpd E D x K af st:=by rw[wpd]
def AU4{id:Nat}{os:List Oper}:wpd E D (.region id (List.toArray os) false) K af st=AUc (AA4 D id) λmv=>Lt E mv ⟨os⟩ os (nK K) af st:=by rw[wpd]
theorem Ag7{l:List Tmp}{F:List Tmp->Prop}:AUc l F=F l:=rfl
def AgV{id:Nat}{os:Array Oper}:wpd E D (.region id os true) K af st=AWp E (.region id os true) K af st:=by rw[wpd]<;>simp
def AjX:wpd E D (.loop x) K af st=AWp E (.loop x) K af st:=by rw[wpd]<;>simp
def Asm{a b:Code}:wpd E D (.seq (.seq a b) y) K af st=AWp E (.seq (.seq a b) y) K af st:=by rw[wpd]<;>simp
def Atn{c:Operand}{a b:Code}:wpd E D (.seq (.cond c a b) y) K af st=AWp E (.seq (.cond c a b) y) K af st:=by rw[wpd]<;>simp
def Atm{id:Nat}{a:Code}:wpd E D (.seq (.block id a) y) K af st=AWp E (.seq (.block id a) y) K af st:=by rw[wpd]<;>simp
def Arz{l:Nat}:wpd E D (.seq (.label l) y) K af st=AWp E (.seq (.label l) y) K af st:=by rw[wpd]<;>simp
def AsN{a:Code}:wpd E D (.seq (.loop a) y) K af st=AWp E (.seq (.loop a) y) K af st:=by rw[wpd]<;>simp
def Ar4{id:Nat}{os:Array Oper}:wpd E D (.seq (.region id os true) y) K af st=AWp E (.seq (.region id os true) y) K af st:=by rw[wpd]<;>simp
def AuL{a:Code}:wpd E D (.seq (.scope a) y) K af st=AWp E (.seq (.scope a) y) K af st:=by rw[wpd]<;>simp
def Atz:wpd E D (.seq .skip y) K af st=AWp E (.seq .skip y) K af st:=by rw[wpd]<;>simp
theorem APw{j:Nat}:AA4 [] j=[]:=rfl
theorem AC6{i j:Nat}{m:List Tmp}{p:Plan}:AA4 ((i,m,p)::D) j=if i=j then m else AA4 D j:=rfl
theorem AbP{i j:Nat}{m:List Tmp}{p:Plan}:AoR ((i,m,p)::D) j=if i=j then p else AoR D j:=rfl
def EY: ∀ {c:Code}{K:APost}{af:List AVal}{st:St},wpd E D c K af st->AWp E c K af st:=by
 intro c;induction c with
 |skip=>intro K af st h;rw[wpd]at h;exact AOR h
 |ret=>intro K af st h;rw[wpd]at h;exact AYo h
 |exit id=>intro K af st h;rw[wpd]at h;exact APd h
 | seq x y ihx ihy=>
  intro K af st h;cases x with
  | region id os d=>
   cases d with
   |true=>(rw[wpd]at h;exact h)<;>(intros;simp_all)
   |false=>
    rw[wpd]at h;unfold ANA at h;split at h;·exact h
    refine UV ((VX (AA4 D id) h).mono λe af' st' _ q=>?_);cases e with|normal=>exact ihy q|_=>exact q
  |_=>(rw[wpd]at h;exact h)<;>(intros;simp_all)
 |cond c x y ihx ihy=>
  intro K af st h;rw[wpd]at h;unfold Tk at h;split at h;·rename_i b hb;refine ARh b hb ?_;cases b with|true=>simp_all|false=>simp_all
  grind
 |block id c ih=>intro K af st h;rw[wpd]at h;exact ADN ((ih h).mono λe af' st' _ q=>by cases e<;>exact q)
 |region id os d=>intro K af st h;cases d with|true=>(rw[wpd]at h;exact h)<;>(intros;simp_all)|false=>rw[wpd]at h;exact VX (AA4 D id) h
 |loop c ih=>intro K af st h;(rw[wpd]at h;exact h)<;>(intros;simp_all)
 |rangeFunc f ps x y ihx ihy=>intro K af st h;(rw[wpd]at h;exact h)<;>(intros;simp_all)
 |scope c ih=>intro K af st h;rw[wpd]at h;grind[ADn]
 |label l=>intro K af st h;rw[wpd]at h;exact Acn h
 |goto l=>intro K af st h;(rw[wpd]at h;exact h)<;>(intros;simp_all)
 |refuse w=>intro K af st h;(rw[wpd]at h;exact h)<;>(intros;simp_all)
@[congr] theorem AxG{c:Code}{L:APost}{af':List AVal}{st':St} (h0:af=af') (h1:st=st'):wpd E D c L af st=wpd E D c L af' st':=by grind
def rgs:List (Nat×Nat)->List Tmp|[]=>[]|(a,n)::l=>List.range' a n++rgs l
def AWt:Nat->List AVal->List AVal|n+1,_::l=>.any::AWt n l|_,l=>l
def maskN:Nat->Nat->List AVal->List AVal|0,n,l=>AWt n l|a+1,n,x::l=>x::maskN a n l|_+1,_,[]=>[]
def Ca:List (Nat×Nat)->List AVal->List AVal|[],af=>af|(a,n)::l,af=>Ca l (maskN a n af)
def ADS: ∀(js ks:List Tmp) (af:List AVal),Ag (js++ks) af=Ag ks (Ag js af)|[],_,_=>rfl|j::js,ks,af=>by rw[bm,Ag,Ag,ADS js]
def VL: ∀(js:List Tmp) (x:AVal) (l:List AVal),Ag (js.map (· +1)) (x::l)=x::Ag js l|[],_,_=>rfl|j::js,x,l=>by rw[aF,Ag,cF,VL js,Ag]
def Xc: ∀js:List Tmp,Ag js []=[]|[]=>rfl|j::js=>by rw[Ag,List.set_nil,Xc js]
def AAN: ∀(a n:Nat),List.range' (a+1) n=(List.range' a n).map (· +1)|a,0=>rfl|a,n+1=>by rw[cU,cU,aF,AAN (a+1) n]
def AAz: ∀(a n:Nat) (l:List AVal),maskN a n l=Ag (List.range' a n) l|0,0,l=>by rw[maskN];cases l<;>rfl|0,n+1,[]=>by rw[Xc];rfl|0,n+1,x::l=>by rw[maskN,AWt,cU,Ag,ca,show List.range' (0+1) n=(List.range' 0 n).map (· +1)from AAN _ _,VL,<-AAz 0 n l,maskN]|a+1,n,[]=>by rw[Xc];rfl|a+1,n,x::l=>by rw[maskN,show List.range' (a+1) n=(List.range' a n).map (· +1)from AAN _ _,VL,AAz a n l]
def DN: ∀(js:List (Nat×Nat)) (af:List AVal),Ca js af=Ag (rgs js) af|[],_=>rfl|(a,n)::js,af=>by rw[Ca,AAz,DN js,rgs,ADS]
theorem Atw:Ca [] af=af:=rfl
theorem AqZ{a n:Nat}{l:List (Nat×Nat)}:Ca ((a,n)::l) af=Ca l (maskN a n af):=rfl
theorem Aw4{a n:Nat}{v:AVal}{l:List AVal}:maskN (a+1) n (v::l)=v::maskN a n l:=rfl
def AxI{n:Nat}{l:List AVal}:maskN 0 n l=AWt n l:=by cases l<;>rfl
theorem AxM{n:Nat}{v:AVal}{l:List AVal}:AWt (n+1) (v::l)=.any::AWt n l:=rfl
def AxD{l:List AVal}:AWt 0 l=l:=by cases l<;>rfl
def ZA:List PC->List AVal->List AVal|.k::l,x::xs=>x::ZA l xs|.w::l,x::xs=>x.strip::ZA l xs|.v y::l,_::xs=>y::ZA l xs|_,xs=>xs
def reB:List BX->MS->MS|.k::l,p::m=>p::reB l m|.d::l,_::m=>reB l m|.s c::l,p::m=>(p.1,c)::reB l m|.t c::l,p::m=>(p.1,c p.1)::reB l m|.p ps::l,p::m=>(p.1,ZA ps p.2)::reB l m|_,m=>m
def AxQ{m:MS}:reB [] m=m:=by cases m<;>rfl
theorem AxH{l:List BX}{p:Nat×List AVal}{m:MS}:reB (.k::l) (p::m)=p::reB l m:=rfl
theorem Axa{l:List BX}{p:Nat×List AVal}{m:MS}:reB (.d::l) (p::m)=reB l m:=rfl
theorem Awp{l:List BX}{c x:List AVal}{i:Nat}{m:MS}:reB (.s c::l) ((i,x)::m)=(i,c)::reB l m:=rfl
theorem AxR{l:List BX}{c:Nat->List AVal}{x:List AVal}{i:Nat}{m:MS}:reB (.t c::l) ((i,x)::m)=(i,c i)::reB l m:=rfl
theorem Aw0{l:List BX}{ps:List PC}{x:List AVal}{i:Nat}{m:MS}:reB (.p ps::l) ((i,x)::m)=(i,ZA ps x)::reB l m:=rfl
def Awx{xs:List AVal}:ZA [] xs=xs:=by cases xs<;>rfl
theorem Aww{l:List PC}{x:AVal}{xs:List AVal}:ZA (.k::l) (x::xs)=x::ZA l xs:=rfl
theorem Awi{l:List PC}{x:AVal}{xs:List AVal}:ZA (.w::l) (x::xs)=x.strip::ZA l xs:=rfl
theorem Axc{l:List PC}{x y:AVal}{xs:List AVal}:ZA (.v y::l) (x::xs)=y::ZA l xs:=rfl
def XN:Code->Nat×Nat|.seq x y=>((XN x).1,(XN x).2+(XN y).2+1)|.cond _ x y=>((XN x).1,(XN x).2+(XN y).2+1)|.block id x=>(id,(XN x).2+1)|.loop x=>((XN x).1,(XN x).2+1)|.scope x=>((XN x).1,(XN x).2+1)|.region id _ _=>(id,1)|_=>(0,1)
end
inductive Wk:AVal->AVal->Prop|same (x:AVal):Wk x x|strip (x:AVal):Wk x x.strip
inductive WkL:List AVal->List AVal->Prop|nil:WkL [] []|cons{x y:AVal}{xs ys:List AVal} (h:Wk x y) (t:WkL xs ys):WkL (x::xs) (y::ys)
inductive SubW:MS->MS->Prop|refl (m:MS):SubW m m|keep{m0 m1:MS}{i:Nat}{cs cs':List AVal} (h:WkL cs cs') (t:SubW m0 m1):SubW ((i,cs')::m0) ((i,cs)::m1)|drop{m0 m1:MS}{p:Nat×List AVal} (t:SubW m0 m1):SubW m0 (p::m1)
def WkL.refl: ∀xs:List AVal,WkL xs xs|[]=>.nil|x::xs=>.cons (.same x) (WkL.refl xs)
theorem WkL.stripB{xs ys:List AVal} (h:WkL xs ys): ∃bs,VM.stripB bs xs=ys:=by induction h with|nil=>exact⟨[],rfl⟩|cons h t ih=>obtain⟨bs,rfl⟩:=ih;cases h with|same=>exact⟨false::bs,by rw[VM.stripB]⟩|strip=>exact⟨true::bs,by rw[VM.stripB]⟩
def WkL.set{v u:AVal} (h:Wk u v): ∀ {xs ys:List AVal} (c:Nat),WkL xs ys->WkL (xs.set c u) (ys.set c v)|_,_,_,.nil=>by simpa using WkL.nil|_,_,0,.cons _ t=>.cons h t|_,_,c+1,.cons k t=>.cons k (WkL.set h c t)
theorem WkL.setVals: ∀ {cs:List Tmp}{us vs xs ys:List AVal},WkL xs ys->WkL us vs->WkL (VM.setVals xs cs us) (VM.setVals ys cs vs)|[],us,vs,xs,ys,h,k=>by cases k<;>(rw[VM.setVals,VM.setVals];exact h)<;>simp|c::cs,_,_,xs,ys,h,.nil=>by grind[VM.setVals]|c::cs,_,_,xs,ys,h,.cons h1 t=>by rw[VM.setVals,VM.setVals];exact WkL.setVals (WkL.set h1 c h) t
section
variable{E:Env}{F:Nat->Nat}{Γ:Ghost}{st:St}{w:World}{af af2:List AVal}{a:Act}{Q:APost}{c:Code}{n:Nat}
def Sim.wkF (hs:Sim E F Γ st w af a.tmps.toList) (h:WkL af af2):Sim E F Γ st w af2 a.tmps.toList:=by obtain⟨bs,rfl⟩:=h.stripB;exact {hs with rep:=Qa bs _ _ hs.rep,own:=QX bs _ _ hs.own,tok:=λb=>by have:=QD b bs af a.tmps.toList;have:=hs.tok b;omega}
def AYL: ∀ {pre m:MS}{i:Nat}{cs:List AVal},((pre++(i,cs)::m).map (·.1)).Nodup->Af (pre++(i,cs)::m) i=some cs/\∀x,Ar (pre++(i,cs)::m) i x=pre++(i,x)::m
 |[],m,i,cs,_=>⟨AJP,λx=>AYO⟩
 |(j,d)::pre,m,i,cs,h=>by
  rw[bm,aF,bW]at h;have hne:i≠j:=by rintro rfl;grind
  have:=AYL (pre:=pre) h.2;rw[bm,Wd hne];exact⟨this.1,λx=>by rw[AXq hne,this.2 x,bm]⟩
def Sim.wkM{m0 m1:MS} (h:SubW m0 m1): ∀ {pre:MS},Sim E F Γ ⟨pre++m1,n⟩ w af a.tmps.toList->Sim E F Γ ⟨pre++m0,n⟩ w af a.tmps.toList:=by
 induction h with
 |refl m=>simp
 | @drop m0 m1 p t ih=>intro pre hs;exact ih (hs.fewer (m:=pre++m1) (List.Sublist.append (bT _) (cy _ (bT _))))
 | @keep m0 m1 i cs cs' h t ih=>
  intro pre hs;obtain⟨bs,rfl⟩:=h.stripB;obtain⟨h1,h2⟩:=AYL hs.keys;have:=hs.stripCells bs h1;rw[h2]at this;have e: ∀m:MS,pre++(i,VM.stripB bs cs)::m=(pre++[(i,VM.stripB bs cs)])++m:=λm=>by simp
  grind
def AWp.wk{m m2:MS} (h:AWp E c Q af2 ⟨m2,n⟩) (h1:WkL af af2) (h2:SubW m2 m):AWp E c Q af ⟨m,n⟩:=⟨λF Γ w a hd hs=>h.go F Γ w a hd ((Sim.wkM (pre:=[]) h2 hs).wkF h1)⟩
def VR (js cs:List Tmp) (I:Nat->List AVal->St->Prop) (n₀:Nat){vs0:List AVal}{m m0:MS} (hv:WkL (Cb (Ag js af) cs) vs0) (hm:SubW m0 m) (h₀:I n₀ vs0 ⟨m0,n⟩) (round: ∀k vs st',I k vs st'->∀J:List AVal->St->Prop,(∀k' af' st' m vs',k'<k->SubW m st'.m->Ag cs (Ag js af')=Ag cs (Ag js af)->WkL (Cb (Ag js af') cs) vs'->I k' vs' {st' with m:=m}->J af' st')->AWp E c (kPost J Q) (setVals (Ag js af) cs vs) st'):AWp E (.loop c) Q af ⟨m,n⟩:=by
 refine Tf js ?_;constructor;intro F Γ w a hd hs;have hs0:Sim E F Γ ⟨m0,n⟩ w (setVals (Ag js af) cs vs0) a.tmps.toList:=by have h1:=Sim.wkM (pre:=[]) hm hs;rw[Kk cs _ _ (rfl:Ag cs (Ag js af)=Ag cs (Ag js af))]at h1;exact h1.wkF (WkL.setVals (WkL.refl _) hv)
 refine wp_loop_ghost (λk a' w'=>a'.defers=[]/\∃Γ' vs st',Ext F Γ w Γ' w'/\n<=st'.next/\Sim E F Γ' st' w' (setVals (Ag js af) cs vs) a'.tmps.toList/\I k vs st') n₀ ⟨hd,Γ,vs0,⟨m0,n⟩,Ext.refl _ _ _,au _,hs0,h₀⟩ ?_;intro k a₁ w₁ ⟨hd1,Γ₁,vs₁,st₁,h2,h3,h4,h5⟩;refine fb ((round k vs₁ st₁ h5 (λaf' st'=>∃k' m vs',k'<k/\SubW m st'.m/\Ag cs (Ag js af')=Ag cs (Ag js af)/\WkL (Cb (Ag js af') cs) vs'/\I k' vs' {st' with m:=m}) (λk' af' st' m vs' k1 k2 k3 k4 k5=>⟨k',m,vs',k1,k2,k3,k4,k5⟩)).go F Γ₁ w₁ a₁ hd1 h4) ?_;intro e a' w' hq;have hq:=Vd h2 h3 hq;cases e with|normal=>obtain⟨_,k1,Γ',af',st',k2,k3,k4,kk⟩:=hq;obtain⟨k',m,vs',k5,k6,k7,k9,k8⟩:=kk.get;refine⟨k',k5,k1,Γ',vs',{st' with m:=m},k2,k3,?_,k8⟩;have h1:=Sim.wkM (pre:=[]) k6 (k4.mask js);rw[Kk cs _ _ k7]at h1;exact h1.wkF (WkL.setVals (WkL.refl _) k9)|_=>obtain⟨k0,k1,Γ',af',st',k2,k3,k4,kk⟩:=hq;exact⟨k0,k1,Γ',af',st',k2,k3,k4,kk.out fy⟩
end
@[congr] theorem AwV{l l':List Tmp}{F:List Tmp->Prop} (h:l=l'):AUc l F=AUc l' F:=by grind
def stp (b:Bool) (v:AVal):AVal:=if b=true then v.strip else v
theorem AYG{v:AVal}:stp true v=v.strip:=rfl
theorem AXd{v:AVal}:stp false v=v:=rfl
structure RH (E:Env) (rs:List ResultVar) (R:APost) (b:Bool) (m':MS) (n:Nat) (r':AVal):Prop where go: ∀af st xs m0 m1 n',Qe E rs af st=some (xs,⟨m1,n'⟩)->m0.Sublist m1->m0=m'->n<=n'->stp b (Sv xs)=r'->R .ret af st/\R .normal af st
structure JOK{α β:Type} (k:α->Option β) (r:β) (js:List (Nat×Nat)) (cs:List Tmp) (V:α->List AVal) (Ms:α->List BX) (af0:List AVal) (m:MS) (n:Nat) (J:List AVal->St->Prop):Prop where go: ∀j af' m0 m1 n',k j=some r->SubW m0 m1->m0=reB (Ms j) m->Ag cs (Ca js af')=Ag cs (Ca js af0)->WkL (Cb (Ca js af') cs) (V j)->n<=n'->J af' ⟨m1,n'⟩
def AQf:AVal->Nat|.ptr i _=>i|.sh i=>i|_=>0
theorem AqX{i:Nat}:AQf (.sh i)=i:=rfl
theorem AiS{i o:Nat}:AQf (.ptr i o)=i:=rfl
structure JNK{α β:Type} (k:α->Option β) (r:β) (js:List (Nat×Nat)) (cs:List Tmp) (p:Tmp) (V:α->Nat->List AVal) (Ms:α->Nat->List BX) (C:α->Nat->List AVal) (af0:List AVal) (m:MS) (n:Nat) (J:List AVal->St->Prop):Prop where go: ∀j g af' m0 m1 n',k j=some r->SubW m0 m1->m0=(g,C j g)::reB (Ms j g) m->Ag cs (Ca js af')=Ag cs (Ca js af0)->WkL (Cb (Ca js af') cs) (V j g)->n<=g/\g<n'->J af' ⟨m1,n'⟩
structure LOK{σ β:Type} (G:Nat->σ->Option β) (r:β) (k:Nat) (js:List (Nat×Nat)) (cs:List Tmp) (V:σ->List AVal) (Ms:σ->List BX) (af0:List AVal) (m:MS) (n:Nat) (J:List AVal->St->Prop):Prop where go: ∀s af' m0 m1 n',G k s=some r->SubW m0 m1->m0=reB (Ms s) m->Ag cs (Ca js af')=Ag cs (Ca js af0)->WkL (Cb (Ca js af') cs) (V s)->n<=n'->J af' ⟨m1,n'⟩
structure ROK{α σ β:Type} (G:List α->Int->σ->Option β) (r:β) (xs:List α) (i:Int) (js:List (Nat×Nat)) (cs:List Tmp) (V:Int->σ->List AVal) (Ms:Int->σ->List BX) (af0:List AVal) (m:MS) (n:Nat) (J:List AVal->St->Prop):Prop where go: ∀s af' m0 m1 n',G xs i s=some r->SubW m0 m1->m0=reB (Ms i s) m->Ag cs (Ca js af')=Ag cs (Ca js af0)->WkL (Cb (Ca js af') cs) (V i s)->n<=n'->J af' ⟨m1,n'⟩
structure COK{σ β:Type} (G:Nat->Int->σ->Option β) (r:β) (k:Nat) (i:Int) (js:List (Nat×Nat)) (cs:List Tmp) (V:Int->σ->List AVal) (Ms:Int->σ->List BX) (af0:List AVal) (m:MS) (n:Nat) (J:List AVal->St->Prop):Prop where go: ∀s af' m0 m1 n',G k i s=some r->SubW m0 m1->m0=reB (Ms i s) m->Ag cs (Ca js af')=Ag cs (Ca js af0)->WkL (Cb (Ca js af') cs) (V i s)->n<=n'->J af' ⟨m1,n'⟩
class CF (E:Env){ρ:Type} (X:Option ρ) (f:outParam FuncId) (args:outParam (List AVal)) (er:outParam (ρ->AVal)):Prop where go: ∀ {r:ρ}{n:Nat}{m:MS}{Q:PQ},X=some r->(∀n',n<=n'->Gl (Q (er r) ⟨m,n'⟩))->ACall E f args ⟨m,n⟩ Q
theorem CF.freeze{E:Env}{ρ:Type}{X:Option ρ}{f:FuncId}{args:List AVal}{w:Nat}{g:ρ->List AVal} (h:CF E (ATw X) f args λr=>.vec w (g r)):CF E X f args λr=>.slice w (g r) false:=⟨λhx hQ=>ACall.giveS (h.go hx λn' hn=>⟨⟨w,_,rfl,λk hk=>(hQ k (bG hn hk)).go⟩⟩)⟩
class CB (E:Env){ρ:Type} (X:Option ρ) (f:outParam FuncId) (args:outParam (Nat->List AVal)) (pre:outParam (Nat->List AVal)) (er:outParam (ρ->AVal)) (post:outParam (Nat->ρ->List AVal)):Prop where go: ∀ {r:ρ}{n i:Nat}{m:MS}{Q:PQ},X=some r->Af m i=some (pre i)->(∀n',n<=n'->Gl (Q (er r) ⟨Ar m i (post i r),n'⟩))->ACall E f (args i) ⟨m,n⟩ Q
class CT (E:Env){ρ:Type} (X:Option ρ) (f:outParam FuncId) (pre:outParam (Nat->List AVal)) (er:outParam (ρ->AVal)) (post:outParam (Nat->ρ->List AVal)):Prop where go: ∀ {r:ρ}{n i j:Nat}{m:MS}{Q:PQ},X=some r->Af m j=some [.ptr i 0]->Af m i=some (pre i)->i≠j->(∀n',n<=n'->Gl (Q (er r) ⟨Ar m i (post i r),n'⟩))->ACall E f [.ptr j 0] ⟨m,n⟩ Q
class XC (E:Env) (f:FuncId) (args:List AVal) (r:outParam AVal):Prop where go: ∀ {st:St}{Q:PQ},Gl (Q r st)->Yj E f args st Q
class CN (E:Env){ρ:Type} (X:Option ρ) (f:outParam FuncId) (args:outParam (List AVal)) (rv:outParam (Nat->AVal)) (cells:outParam (ρ->Nat->List AVal)):Prop where go: ∀ {r:ρ}{n:Nat}{m:MS}{Q:PQ},X=some r->(∀i n',n<=i->i<n'->Gl (Q (rv i) ⟨(i,cells r i)::m,n'⟩))->ACall E f args ⟨m,n⟩ Q
class LF{β:Type} (X:Option β){σ:outParam Type} (G B:outParam (Nat->σ->Option β)) (k:outParam Nat) (s:outParam σ) (js:outParam (List (Nat×Nat))) (cs:outParam (List Tmp)) (V:outParam (σ->List AVal)) (Ms:outParam (σ->List BX)):Prop where
  eq:X=G k s
  z: ∀s,G 0 s=none
  u: ∀k s,G (k+1) s=B k s
class LR{β:Type} (X:Option β){α σ:outParam Type} (G:outParam (List α->Int->σ->Option β)) (Bn:outParam (Int->σ->Option β)) (Bc:outParam (α->List α->Int->σ->Option β)) (L:outParam (List α)) (i:outParam Int) (s:outParam σ) (js:outParam (List (Nat×Nat))) (cs:outParam (List Tmp)) (V:outParam (Int->σ->List AVal)) (Ms:outParam (Int->σ->List BX)):Prop where
  eq:X=G L i s
  un: ∀i s,G [] i s=Bn i s
  uc: ∀x xs i s,G (x::xs) i s=Bc x xs i s
class LQ{β:Type} (X:Option β){α σ:outParam Type} (G:outParam (List α->Int->σ->Option β)) (Bn:outParam (Int->σ->Option β)) (Bc:outParam (α->List α->Int->σ->Option β)) (L:outParam (List α)) (s:outParam σ) (js:outParam (List (Nat×Nat))) (cs:outParam (List Tmp)) (V:outParam (Int->σ->List AVal)) (Ms:outParam (Int->σ->List BX)):Prop where
  eq: ∀i,X=G L i s
  un: ∀i s,G [] i s=Bn i s
  uc: ∀x xs i s,G (x::xs) i s=Bc x xs i s
class LC{β:Type} (X:Option β){σ:outParam Type} (G:outParam (Nat->Int->σ->Option β)) (Bn:outParam (Int->σ->Option β)) (Bc:outParam (Nat->Int->σ->Option β)) (k:outParam Nat) (i:outParam Int) (s:outParam σ) (js:outParam (List (Nat×Nat))) (cs:outParam (List Tmp)) (V:outParam (Int->σ->List AVal)) (Ms:outParam (Int->σ->List BX)):Prop where
  eq:X=G k i s
  un: ∀i s,G 0 i s=Bn i s
  uc: ∀k i s,G (k+1) i s=Bc k i s
class LU{β:Type} (X:Option β){σ:outParam Type} (G:outParam (Nat->Int->σ->Option β)) (Bn:outParam (Int->σ->Option β)) (Bc:outParam (Nat->Int->σ->Option β)) (k:outParam Nat) (s:outParam σ) (js:outParam (List (Nat×Nat))) (cs:outParam (List Tmp)) (V:outParam (Int->σ->List AVal)) (Ms:outParam (Int->σ->List BX)):Prop where
  eq: ∀i,X=G k i s
  un: ∀i s,G 0 i s=Bn i s
  uc: ∀k i s,G (k+1) i s=Bc k i s
section loops
variable{β α σ:Type}
theorem lq (G:List α->Int->σ->Option β) (L:List α) (s:σ) (js:List (Nat×Nat)) (cs:List Tmp){Bn:Int->σ->Option β}{Bc:α->List α->Int->σ->Option β} (e: ∀i s,G [] i s=Bn i s) (f: ∀x xs i s,G (x::xs) i s=Bc x xs i s) (V:Int->σ->List AVal:=λi _=>[.int .i64 i]) (Ms:Int->σ->List BX:=λ_ _=>[]) (X:Option β:=G L 0 s) (h: ∀i,X=G L i s:=by exact λ_=>rfl):LQ X G Bn Bc L s js cs V Ms:=⟨h,e,f⟩
theorem lr (G:List α->Int->σ->Option β) (L:List α) (i:Int) (s:σ) (js:List (Nat×Nat)) (cs:List Tmp){Bn:Int->σ->Option β}{Bc:α->List α->Int->σ->Option β} (e: ∀i s,G [] i s=Bn i s) (f: ∀x xs i s,G (x::xs) i s=Bc x xs i s) (V:Int->σ->List AVal:=λi _=>[.int .i64 i]) (Ms:Int->σ->List BX:=λ_ _=>[]) (X:Option β:=G L i s) (h:X=G L i s:=by exact rfl):LR X G Bn Bc L i s js cs V Ms:=⟨h,e,f⟩
theorem lc (G:Nat->Int->σ->Option β) (k:Nat) (i:Int) (s:σ) (js:List (Nat×Nat)) (cs:List Tmp){Bn:Int->σ->Option β}{Bc:Nat->Int->σ->Option β} (e: ∀i s,G 0 i s=Bn i s) (f: ∀k i s,G (k+1) i s=Bc k i s) (V:Int->σ->List AVal:=λi _=>[.int .i64 i]) (Ms:Int->σ->List BX:=λ_ _=>[]) (X:Option β:=G k i s) (h:X=G k i s:=by exact rfl):LC X G Bn Bc k i s js cs V Ms:=⟨h,e,f⟩
theorem lu (G:Nat->Int->σ->Option β) (k:Nat) (s:σ) (js:List (Nat×Nat)) (cs:List Tmp){Bn:Int->σ->Option β}{Bc:Nat->Int->σ->Option β} (e: ∀i s,G 0 i s=Bn i s) (f: ∀k i s,G (k+1) i s=Bc k i s) (V:Int->σ->List AVal:=λi _=>[.int .i64 i]) (Ms:Int->σ->List BX:=λ_ _=>[]) (X:Option β:=G k 0 s) (h: ∀i,X=G k i s:=by exact λ_=>rfl):LU X G Bn Bc k s js cs V Ms:=⟨h,e,f⟩
theorem lf (G:Nat->σ->Option β) (k:Nat) (s:σ) (js:List (Nat×Nat)) (cs:List Tmp) (V:σ->List AVal){B:Nat->σ->Option β} (e: ∀s,G 0 s=none) (f: ∀k s,G (k+1) s=B k s) (Ms:σ->List BX:=λ_=>[]) (X:Option β:=G k s) (h:X=G k s:=by exact rfl):LF X G B k s js cs V Ms:=⟨h,e,f⟩
end loops
class MX (E:Env):Prop where ok:E.P.follows .mixedOrders=true
section rules
variable{E:Env}{D:DT}{β ρ:Type}{r:β}{T:Prop}{n n':Nat}{m m0 m1:MS}{af af0:List AVal}{st:St}{Q K:APost}{x y c:Code}{js:List (Nat×Nat)}{cs:List Tmp}{J:List AVal->St->Prop}
theorem mkF{X B:Option ρ}{f:FuncId}{fn:Func}{nt:Nat}{rs:List ResultVar}{args:List AVal}{er:ρ->AVal} (hx:X=B) (hf:E.P.funcs[f]?=some fn) (hb:fn.body=some c) (hn:fn.ntmps=nt) (hr:fn.results=rs.toArray) (D:DT) (b:Bool) (w: ∀(r:ρ) (n:Nat) (m:MS) (R:APost),RH E rs R b m n (er r)->True/\B=some r->DD D->Gl (wpd E D c R (args++List.replicate (nt-args.length) .any) ⟨m,n⟩)):CF E X f args er:=by
 constructor;intro r n m Q h hQ;subst hn;have e:fn.results.toList=rs:=by rw[hr]
 cases b with|false=>refine MJ hf hb (EY (w r n m (Jh E fn Q) ⟨?_⟩ ⟨trivial,hx▸h⟩ ⟨⟩).go);intro af st xs m0 m1 n' h1 h2 h0 h3 h4;subst h0;rw[AXd]at h4;exact⟨KA (by rw[e];omega) h2 (h4▸(hQ n' h3).go),KH (by rw[e];omega) h2 (h4▸(hQ n' h3).go)⟩|true=>refine ACall.strip (MJ hf hb (EY (w r n m (Jh E fn λr st'=>Q r.strip st') ⟨?_⟩ ⟨trivial,hx▸h⟩ ⟨⟩).go));intro af st xs m0 m1 n' h1 h2 h0 h3 h4;subst h0;rw[AYG]at h4;exact⟨KA (by rw[e];omega) h2 (by rw[h4];exact(hQ n' h3).go),KH (by rw[e];omega) h2 (by rw[h4];exact(hQ n' h3).go)⟩
theorem mkB{X B:Option ρ}{f:FuncId}{fn:Func}{nt:Nat}{rs:List ResultVar}{args:Nat->List AVal}{pre:Nat->List AVal}{er:ρ->AVal}{post:Nat->ρ->List AVal} (hx:X=B) (hf:E.P.funcs[f]?=some fn) (hb:fn.body=some c) (hn:fn.ntmps=nt) (hr:fn.results=rs.toArray) (D:DT) (b:Bool) (w: ∀(r:ρ) (n i:Nat) (m:MS) (R:APost),i<n->RH E rs R b ((i,post i r)::m) n (er r)->True/\B=some r->DD D->Gl (wpd E D c R (args i++List.replicate (nt-(args i).length) .any) ⟨(i,pre i)::m,n⟩)):CB E X f args pre er post:=by
 constructor;intro r n i m Q h hi hQ;subst hn;have e:fn.results.toList=rs:=by rw[hr]
 refine ACall.front hi λhin=>?_;cases b with|false=>refine MJ hf hb (EY (w r n i _ (Jh E fn _) hin ⟨?_⟩ ⟨trivial,hx▸h⟩ ⟨⟩).go);intro af st xs m0 m1 n' h1 h2 h0 h3 h4;subst h0;rw[AXd]at h4;exact⟨KA (by rw[e];omega) h2 ⟨_,rfl,h4▸(hQ n' h3).go⟩,KH (by rw[e];omega) h2 ⟨_,rfl,h4▸(hQ n' h3).go⟩⟩|true=>refine ACall.strip (MJ hf hb (EY (w r n i _ (Jh E fn λr st'=>_) hin ⟨?_⟩ ⟨trivial,hx▸h⟩ ⟨⟩).go));intro af st xs m0 m1 n' h1 h2 h0 h3 h4;subst h0;rw[AYG]at h4;exact⟨KA (by rw[e];omega) h2 ⟨_,rfl,by rw[h4];exact(hQ n' h3).go⟩,KH (by rw[e];omega) h2 ⟨_,rfl,by rw[h4];exact(hQ n' h3).go⟩⟩
def AvR{b:Bool}{u v:Option β}{A B:List AVal->St->Prop} (h:T/\(if b=true then u else v)=some r) (a:(b=true/\T)/\u=some r->Gl (A af st)) (a':(b=false/\T)/\v=some r->Gl (B af st)):Gl (Tk (.bool b) A B af st):=by
 rcases KX h with h|h;·grind[AYv]
 grind[AXi]
theorem XE{X:Option ρ}{f:FuncId}{args args':List AVal}{er:ρ->AVal}{y:ρ}{Q:PQ} [i:CF E X f args er] (h:X=some y) (ha:args'=args) (k: ∀n',n<=n'->Gl (Q (er y) ⟨m,n'⟩)):Gl (ACall E f args' ⟨m,n⟩ Q):=⟨ha▸i.go h k⟩
theorem AP2{X:Option ρ}{f:FuncId}{args:Nat->List AVal}{tl:List AVal}{pre:Nat->List AVal}{er:ρ->AVal}{post:Nat->ρ->List AVal}{y:ρ}{Q:PQ}{j:Nat} [i:CB E X f args pre er post] (h:X=some y) (ha: .ptr j 0::tl=args j) (hm:Af m j=some (pre j)) (k: ∀n',n<=n'->Gl (Q (er y) ⟨Ar m j (post j y),n'⟩)):Gl (ACall E f (.ptr j 0::tl) ⟨m,n⟩ Q):=⟨ha▸i.go h hm k⟩
theorem AV7{X:Option ρ}{f:FuncId}{args:Nat->List AVal}{x:AVal}{g:Fn}{pre:Nat->List AVal}{er:ρ->AVal}{post:Nat->ρ->List AVal}{y:ρ}{Q:PQ}{j:Nat} [i:CB E X f args pre er post] (h:X=some y) (ha:[x,.fn g [] [.ptr j 0]]=args j) (hm:Af m j=some (pre j)) (k: ∀n',n<=n'->Gl (Q (er y) ⟨Ar m j (post j y),n'⟩)):Gl (ACall E f [x,.fn g [] [.ptr j 0]] ⟨m,n⟩ Q):=⟨ha▸i.go h hm k⟩
theorem AW5{X:Option ρ}{f:FuncId}{args:Nat->List AVal}{x:AVal}{g:Fn}{pre:Nat->List AVal}{er:ρ->AVal}{post:Nat->ρ->List AVal}{y:ρ}{Q:PQ}{j:Nat} [i:CB E X f args pre er post] (h:X=some y) (ha:[x,.fn g [.ptr j 0] []]=args j) (hm:Af m j=some (pre j)) (k: ∀n',n<=n'->Gl (Q (er y) ⟨Ar m j (post j y),n'⟩)):Gl (ACall E f [x,.fn g [.ptr j 0] []] ⟨m,n⟩ Q):=⟨ha▸i.go h hm k⟩
theorem Auy{f:FuncId}{args:List AVal}{x:AVal}{Q:PQ} [i:XC E f args x] (h:Gl (Q x st)):Gl (Yj E f args st Q):=⟨i.go h⟩
theorem Agt{X:Option ρ}{f:FuncId}{args args':List AVal}{rv:Nat->AVal}{cells:ρ->Nat->List AVal}{y:ρ}{Q:PQ} [i:CN E X f args rv cells] (h:X=some y) (ha:args'=args) (k: ∀i n',n<=i->i<n'->Gl (Q (rv i) ⟨(i,cells y i)::m,n'⟩)):Gl (ACall E f args' ⟨m,n⟩ Q):=⟨ha▸i.go h k⟩
theorem Agy{X:Option ρ}{f:FuncId}{pre:Nat->List AVal}{er:ρ->AVal}{post:Nat->ρ->List AVal}{y:ρ}{Q:PQ}{i j:Nat} [c:CT E X f pre er post] (h:X=some y) (hj:Af m j=some [.ptr i 0]) (hm:Af m i=some (pre i)) (hne:i≠j) (k: ∀n',n<=n'->Gl (Q (er y) ⟨Ar m i (post i y),n'⟩)):Gl (ACall E f [.ptr j 0] ⟨m,n⟩ Q):=⟨c.go h hj hm hne k⟩
theorem AVi{X:Option ρ}{f:FuncId}{args:Nat->List AVal}{x:AVal}{tl:List AVal}{pre:Nat->List AVal}{er:ρ->AVal}{post:Nat->ρ->List AVal}{y:ρ}{Q:PQ}{j:Nat} [i:CB E X f args pre er post] (h:X=some y) (ha:x:: .ptr j 0::tl=args j) (hm:Af m j=some (pre j)) (k: ∀n',n<=n'->Gl (Q (er y) ⟨Ar m j (post j y),n'⟩)):Gl (ACall E f (x:: .ptr j 0::tl) ⟨m,n⟩ Q):=⟨ha▸i.go h hm k⟩
theorem ATr{X:Option ρ}{f:FuncId}{args:Nat->List AVal}{x y:AVal}{pre:Nat->List AVal}{er:ρ->AVal}{post:Nat->ρ->List AVal}{yy:ρ}{Q:PQ}{j:Nat} [i:CB E X f args pre er post] (h:X=some yy) (ha:[x,y,.ptr j 0]=args j) (hm:Af m j=some (pre j)) (k: ∀n',n<=n'->Gl (Q (er yy) ⟨Ar m j (post j yy),n'⟩)):Gl (ACall E f [x,y,.ptr j 0] ⟨m,n⟩ Q):=⟨ha▸i.go h hm k⟩
theorem AxL{id:Nat}{os:List Oper}{mv:List Tmp}{p:Plan} (hD:DD D) [i:MX E] (hm:AA4 D id=mv) (hp:AoR D id=p) (hok:JK (List.toArray os) p false (Array.replicate (List.toArray os).size false) []=true) (h:Gl (Gw E mv ⟨os⟩ p [] (nK Q) af st)):Gl (AWp E (.region id (List.toArray os) true) Q af st):=⟨Su mv p i.ok hok h.go⟩
def AxZ (hD:DD D) (h:Gl (wpd E D x (JV (wpd E D y Q) Q) af st)):Gl (AWp E (.seq x y) Q af st):=⟨UV ((EY h.go).mono λe af' st' _ q=>by cases e<;>first|exact EY q|exact q)⟩
def ArV{α:Type}{id:Nat×Nat}{V:α->List AVal}{Ms:α->List BX}{k0:α->Option β}{body:(α->Option β)->Option β} (h:T/\AA k0 body (.b id js cs V Ms)=some r) (hD:DD D) (hid:XN x=id) (rest: ∀j n',n<=n'->T/\k0 j=some r->Gl (wpd E D y Q (setVals (Ca js af) cs (V j)) ⟨reB (Ms j) m,n'⟩)) (first: ∀(k:α->Option β) (J:List AVal->St->Prop),JOK k r js cs V Ms af m n J->T/\body k=some r->Gl (wpd E D x (JV J Q) af ⟨m,n⟩)):Gl (AWp E (.seq x y) Q af ⟨m,n⟩):=by
 refine⟨UV ?_⟩;have key:=EY (first k0 (λaf' st'=>AWp E y Q af' ⟨st'.m,st'.next⟩) ⟨?_⟩ h).go;·exact key.mono λe af' st' _ q=>by cases e<;>exact q
 ·intro j af' m0 m1 n' h1 h2 h3 h4 h5 h6;subst h3;refine Tf (rgs js) ?_;have:=EY (rest j n' h6 ⟨h.1,h1⟩).go;rw[DN,DN]at h4;rw[DN]at h5 this;rw[Kk cs _ _ h4];exact this.wk (WkL.setVals (WkL.refl _) h5) h2
def AvP{α:Type}{id:Nat×Nat}{V:α->List AVal}{k0:α->Option β}{body:(α->Option β)->Option β} (h:T/\AA k0 body (.a id js cs V)=some r) (hD:DD D) (hid:XN x=id) (rest: ∀j n',n<=n'->T/\k0 j=some r->Gl (wpd E D y Q (setVals (Ca js af) cs (V j)) ⟨m,n'⟩)) (first: ∀(k:α->Option β) (J:List AVal->St->Prop),JOK k r js cs V (λ_=>[]) af m n J->T/\body k=some r->Gl (wpd E D x (JV J Q) af ⟨m,n⟩)):Gl (AWp E (.seq x y) Q af ⟨m,n⟩):=by refine ArV (Ms:=λ_=>[]) (k0:=k0) (body:=body) h hD hid (λj n' hn h=>?_) first;grind[reB]
def AvG{α:Type}{id:Nat×Nat}{p:Tmp}{V:α->Nat->List AVal}{Ms:α->Nat->List BX}{C:α->Nat->List AVal}{k0:α->Option β}{body:(α->Option β)->Option β} (h:T/\AA k0 body (.n id js cs p V Ms C)=some r) (hD:DD D) (hid:XN x=id) (rest: ∀j n' g,n<=g/\g<n'->T/\k0 j=some r->Gl (wpd E D y Q (setVals (Ca js af) cs (V j g)) ⟨(g,C j g)::reB (Ms j g) m,n'⟩)) (first: ∀(k:α->Option β) (J:List AVal->St->Prop),JNK k r js cs p V Ms C af m n J->True->T/\body k=some r->Gl (wpd E D x (JV J Q) af ⟨m,n⟩)):Gl (AWp E (.seq x y) Q af ⟨m,n⟩):=by
 refine⟨UV ?_⟩;have key:=EY (first k0 (λaf' st'=>AWp E y Q af' ⟨st'.m,st'.next⟩) ⟨?_⟩ trivial h).go;·exact key.mono λe af' st' _ q=>by cases e<;>exact q
 ·intro j g af' m0 m1 n' h1 h2 h3 h4 h5 h6;subst h3;refine Tf (rgs js) ?_;have:=EY (rest j n' g h6 ⟨h.1,h1⟩).go;rw[DN,DN]at h4;rw[DN]at h5 this;rw[Kk cs _ _ h4];exact this.wk (WkL.setVals (WkL.refl _) h5) h2
def AxE{α:Type}{p:Tmp}{V:α->Nat->List AVal}{Ms:α->Nat->List BX}{C:α->Nat->List AVal}{k:α->Option β}{v:α} (hj:JNK k r js cs p V Ms C af0 m n J) (h:T/\k v=some r) (h2:SubW ((AQf (af.getD p .any),C v (AQf (af.getD p .any)))::reB (Ms v (AQf (af.getD p .any))) m) m1) (h4:Ag cs (Ca js af)=Ag cs (Ca js af0)) (h5:WkL (Cb (Ca js af) cs) (V v (AQf (af.getD p .any)))) (h6:n<=AQf (af.getD p .any)/\AQf (af.getD p .any)<n'):Gl (J af ⟨m1,n'⟩):=⟨hj.go v _ af _ m1 n' h.2 h2 rfl h4 h5 h6⟩
def Axb{α:Type}{V:α->List AVal}{Ms:α->List BX}{k:α->Option β}{v:α} (hj:JOK k r js cs V Ms af0 m n J) (h:T/\k v=some r) (h2:SubW (reB (Ms v) m) m1) (h4:Ag cs (Ca js af)=Ag cs (Ca js af0)) (h5:WkL (Cb (Ca js af) cs) (V v)) (h6:n<=n'):Gl (J af ⟨m1,n'⟩):=⟨hj.go v af _ m1 n' h.2 h2 rfl h4 h5 h6⟩
theorem AwF{σ:Type}{V:σ->List AVal}{Ms:σ->List BX}{X:Option β}{G B:Nat->σ->Option β}{k:Nat}{s:σ} [i:LF X G B k s js cs V Ms] (h:T/\X=some r) (hj:LOK G r k js cs V Ms af0 m n J) (h2:SubW (reB (Ms s) m) m1) (h4:Ag cs (Ca js af)=Ag cs (Ca js af0)) (h5:WkL (Cb (Ca js af) cs) (V s)) (h6:n<=n'):Gl (J af ⟨m1,n'⟩):=⟨hj.go s af _ m1 n' (i.eq▸h.2) h2 rfl h4 h5 h6⟩
theorem AvN{α σ:Type}{V:Int->σ->List AVal}{Ms:Int->σ->List BX}{X:Option β}{G:List α->Int->σ->Option β}{Bn:Int->σ->Option β}{Bc:α->List α->Int->σ->Option β}{L:List α}{i:Int}{s:σ} [ii:LR X G Bn Bc L i s js cs V Ms] (h:T/\X=some r) (hj:ROK G r L i js cs V Ms af0 m n J) (h2:SubW (reB (Ms i s) m) m1) (h4:Ag cs (Ca js af)=Ag cs (Ca js af0)) (h5:WkL (Cb (Ca js af) cs) (V i s)) (h6:n<=n'):Gl (J af ⟨m1,n'⟩):=⟨hj.go s af _ m1 n' (ii.eq▸h.2) h2 rfl h4 h5 h6⟩
def AxS{R:APost}{rs:List ResultVar}{b:Bool}{r':AVal}{xs:List AVal} (hR:RH E rs R b m n r') (h1:Qe E rs af st=some (xs,⟨m1,n'⟩)) (h2:m.Sublist m1) (h4:n<=n') (h5:stp b (Sv xs)=r'):Gl (R .ret af st):=⟨(hR.go af st xs m m1 n' h1 h2 rfl h4 h5).1⟩
def AxC{R:APost}{rs:List ResultVar}{b:Bool}{r':AVal}{xs:List AVal} (hR:RH E rs R b m n r') (h1:Qe E rs af st=some (xs,⟨m1,n'⟩)) (h2:m.Sublist m1) (h4:n<=n') (h5:stp b (Sv xs)=r'):Gl (R .normal af st):=⟨(hR.go af st xs m m1 n' h1 h2 rfl h4 h5).2⟩
def AsT{v:β} (h:T/\some v=some r):T/\v=r:=⟨h.1,cA h.2⟩
theorem Au9{σ:Type}{V:σ->List AVal}{Ms:σ->List BX}{X:Option β}{G B:Nat->σ->Option β}{k:Nat}{s:σ} [i:LF X G B k s js cs V Ms] (h:T/\X=some r) (hD:DD D) (hm:SubW (reB (Ms s) m) m) (hv:WkL (Cb (Ca js af) cs) (V s)) (round: ∀k s n',n<=n'->T/\B k s=some r->∀J,LOK G r k js cs V Ms af m n' J->Gl (wpd E D c (JV J Q) (setVals (Ca js af) cs (V s)) ⟨reB (Ms s) m,n'⟩)):Gl (AWp E (.loop c) Q af ⟨m,n⟩):=by
 rw[DN]at hv;refine⟨VR (rgs js) cs (λk vs st'=>∃s,vs=V s/\st'.m=reB (Ms s) m/\n<=st'.next/\G k s=some r) k hv hm ⟨s,rfl,rfl,au _,i.eq▸h.2⟩ ?_⟩;rintro k vs ⟨m',n'⟩ ⟨s,rfl,hm',hn,hG⟩ J hJ;simp only at hm' hn;subst hm';cases k with
 |zero=>rw[i.z]at hG;grind
 |succ k=>
  have key:=λhJ'=>EY (round k s n' hn ⟨h.1,i.u k s▸hG⟩ J hJ').go;rw[DN]at key;refine(key ⟨λs' af' m0 m1 n'' h1 h2 h3 h4 h5 h6=>?_⟩).mono λe af' st' _ q=>by cases e<;>first|exact Nk q|exact .oth fy q
  subst h3;rw[DN,DN]at h4;rw[DN]at h5;exact hJ k af' ⟨m1,n''⟩ _ _ (Nat.lt_succ_self _) h2 h4 h5 ⟨s',rfl,rfl,bG hn h6,h1⟩
theorem Akj{α σ:Type}{V:Int->σ->List AVal}{Ms:Int->σ->List BX}{X:Option β}{G:List α->Int->σ->Option β}{Bn:Int->σ->Option β}{Bc:α->List α->Int->σ->Option β}{L:List α}{s:σ} [ii:LR X G Bn Bc L 0 s js cs V Ms] (h:T/\X=some r) (hD:DD D) (hL:AL L.length) (hm:SubW (reB (Ms 0 s) m) m) (hv:WkL (Cb (Ca js af) cs) (V 0 s)) (rnil: ∀i s n',n<=n'->(decide (i<(L.length:Int))=false/\T)/\Bn i s=some r->Gl (wpd E D c (JV (λ_ _=>False) Q) (setVals (Ca js af) cs (V i s)) ⟨reB (Ms i s) m,n'⟩)) (rcons: ∀x xs i s n',n<=n'->(decide (i<(L.length:Int))=true/\(idx L i=some x/\L[i.toNat]?=some x)/\wr .i64 (i+1)=i+1/\T)/\Bc x xs i s=some r->∀J,ROK G r xs (i+1) js cs V Ms af m n' J->Gl (wpd E D c (JV J Q) (setVals (Ca js af) cs (V i s)) ⟨reB (Ms i s) m,n'⟩)):Gl (AWp E (.loop c) Q af ⟨m,n⟩):=by
 rw[DN]at hv;refine⟨VR (rgs js) cs (λk vs st'=>∃pre suf s,L=pre++suf/\k=suf.length/\vs=V pre.length s/\st'.m=reB (Ms pre.length s) m/\n<=st'.next/\G suf pre.length s=some r) L.length hv hm ⟨[],L,s,rfl,rfl,rfl,rfl,au _,ii.eq▸h.2⟩ ?_⟩;rintro k vs ⟨m',n'⟩ ⟨pre,suf,s,hp,rfl,rfl,hm',hn,hG⟩ J hJ;simp only at hm' hn;subst hm';cases suf with
 |nil=>have key:=EY (rnil _ s n' hn ⟨⟨by grind,h.1⟩,ii.un _ s▸hG⟩).go;rw[DN]at key;exact key.mono λe af' st' _ q=>by cases e<;>first|exact q.elim|exact .oth fy q
 |cons x xs=>
  obtain⟨f1,f2,f3⟩:=AaA hp hL;have key:=λhJ'=>EY (rcons x xs _ s n' hn ⟨⟨f1,⟨f2,AXn f2⟩,f3,h.1⟩,ii.uc x xs _ s▸hG⟩ J hJ').go;rw[DN]at key;refine(key ⟨λs' af' m0 m1 n'' h1 h2 h3 h4 h5 h6=>?_⟩).mono λe af' st' _ q=>by cases e<;>first|exact Nk q|exact .oth fy q
  have e1:((pre.length:Int)+1)=((pre++[x]).length:Int):=fy;rw[e1]at h1 h3 h5;subst h3;rw[DN,DN]at h4;rw[DN]at h5;exact hJ xs.length af' ⟨m1,n''⟩ _ _ fy h2 h4 h5 ⟨pre++[x],xs,s',by grind,rfl,rfl,rfl,bG hn h6,h1⟩
theorem Au2{α σ:Type}{V:Int->σ->List AVal}{Ms:Int->σ->List BX}{X:Option β}{G:List α->Int->σ->Option β}{Bn:Int->σ->Option β}{Bc:α->List α->Int->σ->Option β}{L:List α}{i:Int}{s:σ} [ii:LQ X G Bn Bc L s js cs V Ms] (h:T/\X=some r) (hj:ROK G r L i js cs V Ms af0 m n J) (h2:SubW (reB (Ms i s) m) m1) (h4:Ag cs (Ca js af)=Ag cs (Ca js af0)) (h5:WkL (Cb (Ca js af) cs) (V i s)) (h6:n<=n'):Gl (J af ⟨m1,n'⟩):=⟨hj.go s af _ m1 n' (ii.eq i▸h.2) h2 rfl h4 h5 h6⟩
theorem Asj{α σ:Type}{V:Int->σ->List AVal}{Ms:Int->σ->List BX}{X:Option β}{G:List α->Int->σ->Option β}{Bn:Int->σ->Option β}{Bc:α->List α->Int->σ->Option β}{L:List α}{s:σ} [ii:LQ X G Bn Bc L s js cs V Ms] (h:T/\X=some r) (hD:DD D) (hL:AL L.length) (hm:SubW (reB (Ms 0 s) m) m) (hv:WkL (Cb (Ca js af) cs) (V 0 s))
    (rnil: ∀i s n',n<=n'->(decide (i<(L.length:Int))=false/\T)/\Bn i s=some r->Gl (wpd E D c (JV (λ_ _=>False) Q) (setVals (Ca js af) cs (V i s)) ⟨reB (Ms i s) m,n'⟩))
    (rcons: ∀x xs i s n',n<=n'->(decide (i<(L.length:Int))=true/\(idx L i=some x/\L[i.toNat]?=some x)/\wr .i64 (i+1)=i+1/\T)/\Bc x xs i s=some r-> ∀J,ROK G r xs (i+1) js cs V Ms af m n' J->Gl (wpd E D c (JV J Q) (setVals (Ca js af) cs (V i s)) ⟨reB (Ms i s) m,n'⟩)):Gl (AWp E (.loop c) Q af ⟨m,n⟩):=
  haveI:LR X G Bn Bc L 0 s js cs V Ms:=⟨ii.eq 0,ii.un,ii.uc⟩
  Akj h hD hL hm hv rnil rcons
theorem AvX{σ:Type}{V:Int->σ->List AVal}{Ms:Int->σ->List BX}{X:Option β}{G:Nat->Int->σ->Option β}{Bn:Int->σ->Option β}{Bc:Nat->Int->σ->Option β}{k:Nat}{i:Int}{s:σ} [ii:LC X G Bn Bc k i s js cs V Ms] (h:T/\X=some r) (hj:COK G r k i js cs V Ms af0 m n J) (h2:SubW (reB (Ms i s) m) m1) (h4:Ag cs (Ca js af)=Ag cs (Ca js af0)) (h5:WkL (Cb (Ca js af) cs) (V i s)) (h6:n<=n'):Gl (J af ⟨m1,n'⟩):=⟨hj.go s af _ m1 n' (ii.eq▸h.2) h2 rfl h4 h5 h6⟩
theorem Avd{σ:Type}{V:Int->σ->List AVal}{Ms:Int->σ->List BX}{X:Option β}{G:Nat->Int->σ->Option β}{Bn:Int->σ->Option β}{Bc:Nat->Int->σ->Option β}{k:Nat}{i:Int}{s:σ} [ii:LU X G Bn Bc k s js cs V Ms] (h:T/\X=some r) (hj:COK G r k i js cs V Ms af0 m n J) (h2:SubW (reB (Ms i s) m) m1) (h4:Ag cs (Ca js af)=Ag cs (Ca js af0)) (h5:WkL (Cb (Ca js af) cs) (V i s)) (h6:n<=n'):Gl (J af ⟨m1,n'⟩):=⟨hj.go s af _ m1 n' (ii.eq i▸h.2) h2 rfl h4 h5 h6⟩
theorem Aii{σ:Type}{V:Int->σ->List AVal}{Ms:Int->σ->List BX}{X:Option β}{G:Nat->Int->σ->Option β}{Bn:Int->σ->Option β}{Bc:Nat->Int->σ->Option β}{i0 b:Int}{s:σ} [ii:LC X G Bn Bc (b-i0).toNat i0 s js cs V Ms] (h:T/\X=some r) (hD:DD D) (hL: -4611686018427387904<=i0/\b<=4611686018427387904) (hm:SubW (reB (Ms i0 s) m) m) (hv:WkL (Cb (Ca js af) cs) (V i0 s)) (rnil: ∀i s n',n<=n'->(decide (i<b)=false/\T)/\Bn i s=some r->Gl (wpd E D c (JV (λ_ _=>False) Q) (setVals (Ca js af) cs (V i s)) ⟨reB (Ms i s) m,n'⟩)) (rcons: ∀k i s n',n<=n'->(decide (i<b)=true/\wr .i64 (i+1)=i+1/\T)/\Bc k i s=some r->∀J,COK G r k (i+1) js cs V Ms af m n' J->Gl (wpd E D c (JV J Q) (setVals (Ca js af) cs (V i s)) ⟨reB (Ms i s) m,n'⟩)):Gl (AWp E (.loop c) Q af ⟨m,n⟩):=by
 rw[DN]at hv;refine⟨VR (rgs js) cs (λk vs st'=>∃i s,i0<=i/\k=(b-i).toNat/\vs=V i s/\st'.m=reB (Ms i s) m/\n<=st'.next/\G k i s=some r) (b-i0).toNat hv hm ⟨i0,s,br _,rfl,rfl,rfl,au _,ii.eq▸h.2⟩ ?_⟩;rintro k vs ⟨m',n'⟩ ⟨i,s,hi,hk',rfl,hm',hn,hG⟩ J hJ;simp only at hm' hn;subst hm';cases k with
 |zero=>have key:=EY (rnil _ s n' hn ⟨⟨by grind,h.1⟩,ii.un _ s▸hG⟩).go;rw[DN]at key;exact key.mono λe af' st' _ q=>by cases e<;>first|exact q.elim|exact .oth fy q
 |succ k=>
  have hw:wr .i64 (i+1)=i+1:=by grind[wr,IntKind.wrap,IntKind.bits,IntKind.signed]
  have key:=λhJ'=>EY (rcons k i s n' hn ⟨⟨by simp only[aw];omega,hw,h.1⟩,ii.uc k i s▸hG⟩ J hJ').go;rw[DN]at key;refine(key ⟨λs' af' m0 m1 n'' h1 h2 h3 h4 h5 h6=>?_⟩).mono λe af' st' _ q=>by cases e<;>first|exact Nk q|exact .oth fy q
  subst h3;rw[DN,DN]at h4;rw[DN]at h5;exact hJ k af' ⟨m1,n''⟩ _ _ fy h2 h4 h5 ⟨i+1,s',fx,fx,rfl,rfl,bG hn h6,h1⟩
theorem Aso{σ:Type}{V:Int->σ->List AVal}{Ms:Int->σ->List BX}{X:Option β}{G:Nat->Int->σ->Option β}{Bn:Int->σ->Option β}{Bc:Nat->Int->σ->Option β}{i0 b:Int}{s:σ} [ii:LU X G Bn Bc (b-i0).toNat s js cs V Ms] (h:T/\X=some r) (hD:DD D) (hL: -4611686018427387904<=i0/\b<=4611686018427387904) (hm:SubW (reB (Ms i0 s) m) m) (hv:WkL (Cb (Ca js af) cs) (V i0 s))
    (rnil: ∀i s n',n<=n'->(decide (i<b)=false/\T)/\Bn i s=some r->Gl (wpd E D c (JV (λ_ _=>False) Q) (setVals (Ca js af) cs (V i s)) ⟨reB (Ms i s) m,n'⟩))
    (rcons: ∀k i s n',n<=n'->(decide (i<b)=true/\wr .i64 (i+1)=i+1/\T)/\Bc k i s=some r-> ∀J,COK G r k (i+1) js cs V Ms af m n' J->Gl (wpd E D c (JV J Q) (setVals (Ca js af) cs (V i s)) ⟨reB (Ms i s) m,n'⟩)):Gl (AWp E (.loop c) Q af ⟨m,n⟩):=
  haveI:LC X G Bn Bc (b-i0).toNat i0 s js cs V Ms:=⟨ii.eq i0,ii.un,ii.uc⟩
  Aii h hD hL hm hv rnil rcons
def AvO{G:Prop} (h:T/\(none:Option β)=some r):G:=by grind
def AxV{α:Type}{u:α}{f:α->Option β} (h:T/\letL u f=some r): ∃y,u=y/\T/\f y=some r:=⟨u,rfl,h⟩
def Arh{α:Type}{l:List α}{i:Int}{f:α->Option β} (h:T/\Option.bind (idx l i) f=some r): ∃y,((idx l i=some y/\l[i.toNat]?=some y)/\T)/\f y=some r:=by obtain⟨y,h1,h2⟩:=FZ h;exact⟨y,⟨⟨h1.1,AXn h1.1⟩,h1.2⟩,h2⟩
def AtX{α:Type}{l:List α}{f:α->Option β} (h:T/\Option.bind (idx l 0) f=some r): ∃y,((idx l 0=some y/\l[0]?=some y)/\T)/\f y=some r:=Arh h
def Av8{α:Type}{l:List α}{i j:Int}{f:List α->Option β} (h:T/\Option.bind (sub l i j) f=some r): ∃y,(sub l i j=some y/\T)/\f y=some r:=FZ h
def isW (x:Gl (wpd E D c K af st)):Gl (wpd E D c K af st):=x
def isC{f:FuncId}{args:List AVal}{Q:PQ} (x:Gl (ACall E f args st Q)):Gl (ACall E f args st Q):=x
def isA (x:Gl (AWp E c K af st)):Gl (AWp E c K af st):=x
end rules
end Go.VM
namespace Go.VM
def tD{G:Prop} (x:G:=by first|(simp(disch:=omega) only[vm,seval,h.1];done)|rfl):G:=x
def tR{G:Prop} (x:G:=by
 obtain⟨H,h⟩:=h;cases h;simp(disch:=omega) only[vm,seval,H];refine⟨(hR _ _ _ _ _ _ (by simp(disch:=omega) only[vm,seval,H];rfl) ?_ rfl fx ?_).1⟩;·first|((repeat (first|exact bT _|apply cy));done)|(simp(disch:=omega) only[vm,seval,H];(repeat (first|exact bT _|apply cy));done)
 ·first|(simp(disch:=omega) only[vm,seval,H];done)|rfl):G:=x
def tJ{A G:Prop} (a:A) (x:A->G:=by
  intro hz
  simp(disch:=omega) only[vm,seval,h.1]
  refine⟨hz _ _ _ _ h.2 ?_ rfl ?_ ?_ fx⟩
  . first|((repeat (first|exact bT _|apply cy));done)|(simp(disch:=omega) only[vm,seval,h.1];(repeat (first|exact bT _|apply cy));done)
  all_goals first|(simp(disch:=omega) only[vm,seval,h.1];done)|rfl):G:=x a
end Go.VM
