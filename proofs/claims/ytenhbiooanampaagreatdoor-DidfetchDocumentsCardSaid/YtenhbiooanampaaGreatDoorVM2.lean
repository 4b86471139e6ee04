import Derived.Laws.RangeString
import Derived.Laws.RangeAny
import Derived.Lib.OthersKept
import Derived.Lib.MakeNoZero
import Derived.Test.YtenhbiooanampaaGreatDoorVM4
import Derived.Scope
set_option linter.defProp false
set_option linter.unusedSimpArgs false
set_option linter.unusedVariables false
namespace Go.VM
def AEL (mv:List Tmp) (dst:Option Tmp):Bool:=match dst with|some d=>mv.contains (d+1000000)|none=>false
def QE (mv:List Tmp) (dst:Option Tmp):Bool:=match dst with|some d=>mv.contains d|none=>false
def Da (s:B8) (pos:Nat):Nat×Nat:=Utf8.decode ⟨s.toArray⟩ pos
def AE4 (s:B8) (pos:Nat) (t:Tmp) (d:Option Tmp) (af:List AVal):List AVal:=if decide (pos<s.length)=true then Ac (af.set t (.iter s (pos+(Da s pos).2))) d (.tuple [.bool true,.int .i64 pos,.int .i32 (Da s pos).1])else Ac af d (.tuple [.bool false])
def EQ (E:Env) (mv:List Tmp) (o:Oper) (af:List AVal) (st:St):Option (List AVal×St):=
  match o.op with
  | .move x=>
    if QE mv o.dst=true then
      match nameV af x with
      |some (d,w,xs)=>some (Ac (af.set d (.sh st.next)) o.dst (.sh st.next),{m:=(st.next,[.vec w xs])::st.m,next:=st.next+1})
      | none=>
        match ADK (AEL mv o.dst) af x st with
        |some (j,i,w,xs)=>some (Ac (af.set j (.slice w xs false)) o.dst (.slice w xs false),{st with m:=A7 st.m i [.any]})
        |none=>some (Ac (stripAt af x) o.dst (rd E af o.type x),st)
    else some (Ac af o.dst (rd E af o.type x).strip,st)
  | .assign x=>
    if QE mv o.dst=true then
      match AC0 E o with
      |some w=>some (Ac af o.dst (.vec w []),st)
      | none=>
        match Z0 E af x o.type st with
        |some p=>some (Ac af o.dst (.vec p.2.1 p.2.2),{st with m:=A7 st.m p.1 [.any]})
        |none=>some (Ac (stripAt af x) o.dst (rd E af o.type x),st)
    else some (Ac (stripAt af x) o.dst (rd E af o.type x),st)
  |.alloc t=>(if QE mv o.dst=true then WM E.P t st.next else Co E.P t st.next).map λcs=>(Ac af o.dst (.ptr st.next 0),{m:=(st.next,cs)::st.m,next:=st.next+1})
  |.box t x=>if Ce (rd E af t x)=true then some (Ac (stripAt af x) o.dst (.ptr st.next 0),{m:=(st.next,AZ (rd E af t x))::st.m,next:=st.next+1})else none
  |.build t ⟨ps⟩=>(Ur E t (Bb E (AR E.P t) af ps).2).map λr=>(Ac (Bb E (AR E.P t) af ps).1 o.dst r,st)
  | .buildSlice t len ⟨ps⟩=>
    if QE mv o.dst=true then(I4 E t len (Bb E (λ_=>AR E.P t 0) af ps).2).map λp=>(Ac (Bb E (λ_=>AR E.P t 0) af ps).1 o.dst (.gsl p.1 st.next len),{m:=(st.next,p.2)::st.m,next:=st.next+1})
    else(IB E t len (Bb E (λ_=>AR E.P t 0) af ps).2).map λr=>(Ac af o.dst r,st)
  | .load t x=>
    if QE mv o.dst=true then(R8 E t (rd E af 0 x) st).map λp=>(Ac af o.dst p.1,p.2)
    else(SL E t (rd E af 0 x) st).map λr=>(Ac af o.dst r.strip,st)
  |.store t x y=>if o.dst.isNone=true then(O3 E t (rd E af 0 x) (rd E af t y) st).map λst'=>(stripAt af y,st')else none
  | .extract (.tmp t) n=>
    match af.getD t .any with
    |.tuple vs=>(vs[n]?).map λr=>(Ac (af.set t (.tuple (vs.set n r.strip))) o.dst r,st)
    |_=>none
  | .range t x=>
    match rd E af t x with
    |.str s=>if DX E.P t=true then some (Ac af o.dst (.iter s 0),st)else none
    |_=>none
  | .next (.tmp t) true=>
    match af.getD t .any with
    |.iter s pos=>some (AE4 s pos t o.dst af,st)
    |_=>none
  | .slice t x lo hi mx=>
    match rdo E af lo,rdo E af hi,rdo E af mx with
    | some l,some h,some m=>
      match GD E t (rd E af t x) l h m with
      |some r=>some (Ac af o.dst r,st)
      |none=>(SB E t (rd E af t x) l h m st).map λst'=>(Ac af o.dst (.sh st.next),st')
    |_,_,_=>none
  | .call {callee:=.builtin .append,args:=⟨[x,y]⟩,argTypes:=⟨t0::t1::_⟩}=>
    if QE mv o.dst=true then
      match QS E t0 t1 (rd E af t0 x) (rd E af t1 y)with
      |some r=>some (Ac (stripAt af x) o.dst (.sh st.next),{m:=(st.next,[r])::st.m,next:=st.next+1})
      |none=>(appW E x t0 t1 (rd E af t0 x) (rd E af t1 y) st).map λp=>(Ac af o.dst p.1,p.2)
    else match JM E t0 t1 (rd E af t0 x) (rd E af t1 y)with
      |some r=>some (Ac (stripAt af x) o.dst r,st)
      |none=>(AAN E t0 t1 (rd E af t0 x) (rd E af t1 y) st).map λst'=>(Ac af o.dst (.sh st.next),st')
  | .call {callee:=.builtin .len,args:=⟨[x]⟩,argTypes:=⟨t::_⟩}=>
    match Dv E o af with
    |some r=>some (Ac af o.dst r.strip,st)
    |none=>(ABE E t (rd E af t x) st).map λr=>(Ac af o.dst r,st)
  |.makeMap t none=>some (Ac af o.dst (.sh st.next),{m:=(st.next,[.map [] []])::st.m,next:=st.next+1})
  |.lookup t m k ok=>(UT E t (rd E af t m) (rd E af 0 k) ok st).map λr=>(Ac af o.dst r,st)
  |.mapUpdate t m k x=>if o.dst.isNone=true then(Vh E t (rd E af t m) (rd E af 0 k) (rd E af 0 x) st).map λst'=>(af,st')else none
  |.insert t m k x=>if o.dst.isNone=true then(Vh E t (rd E af t m) (rd E af 0 k) (rd E af 0 x) st).map λst'=>(af,st')else none
  | .indexAddr t x i=>
    match Dv E o af with
    |some r=>some (Ac af o.dst r.strip,st)
    | none=>
      match G9 E t (rd E af t x) (rd E af 0 i) st with
      |some r=>some (Ac af o.dst r,st)
      |none=>(RB E t (rd E af t x) (rd E af 0 i) st).map λr=>(Ac af o.dst r,st)
  |.makeSlice t x y=>(if QE mv o.dst=true then Xu E t (rd E af 0 x) (rd E af 0 y) st else Xw E t (rd E af 0 x) (rd E af 0 y) st).map λp=>(Ac af o.dst p.1,p.2)
  | .convert s d x=>
    match Dv E o af with
    |some r=>some (Ac af o.dst r.strip,st)
    | none=>
      match UH E s d (rd E af s x) st with
      |some r=>some (Ac af o.dst r,st)
      |none=>(SQ E s d (rd E af s x) st).map λp=>(Ac af o.dst p.1,p.2)
  |.call {callee:=.builtin .unsafeSliceData,args:=⟨[x]⟩,argTypes:=⟨t0::_⟩}=>(UC (rd E af t0 x)).map λr=>(Ac (stripAt af x) o.dst r,st)
  |.call {callee:=.builtin .unsafeString,args:=⟨[x,y]⟩,argTypes:=⟨[t0,t1]⟩}=>(YG E t0 (rd E af t0 x) (rd E af t1 y)).map λr=>(Ac (stripAt af x) o.dst r,st)
  |_=>(Dv E o af).map λr=>(Ac af o.dst r.strip,st)
section
variable{E:Env}{F:Nat->Nat}{O:Ghost}{st:St}{w:World}{af:List AVal}{a:Act}
theorem Abo (vs:List Value) (t:Nat) (d:Value):vs.set t (vs.getD t d)=vs:=by apply cd;grind
def Sim.newIter (hs:Sim E F O st w af a.tmps.toList) (sb:ByteArray) (p:Nat):Sim E F O st (w.iter sb p) af a.tmps.toList/\Ext F O w O (w.iter sb p):=by
 have hold: ∀n,n<w.heap.size->(w.iter sb p).heap[n]?=w.heap[n]?:=λn hn=>alloc_old (.stringIter sb p) hn;have hsz:(w.iter sb p).heap.size=w.heap.size+1:=by simp[World.iter]
 refine⟨hs.elsewhere (b:=w.heap.size) (λn hn _=>hold n hn) fH (hs.com_none (av _)) (λi hi h=>?_) ?_ ?_,⟨O.le_refl,λn hn=>⟨hold n (hs.F_of hn),rfl⟩,fH,rfl,rfl,rfl⟩⟩;·have:=hs.bx_lt _ _ h;omega
 ·rcases bb 0 (AP w.heap.size af a.tmps.toList)with h|h;·have:=(Bw _ _ hs.own h).1;omega
  omega
 ·rcases bb 0 (Ap O w w.heap.size st.m)with h|h;·have:=AA2 hs h;omega
  omega
def Sim.iterTo (hs:Sim E F O st w af a.tmps.toList){t:Tmp}{s:B8}{pos:Nat} (hx:af.getD t .any=.iter s pos){b:Nat}{sb:ByteArray} (hv:a.tmps.toList.getD t undef=.pointer (some ⟨b,0,none⟩)) (hsb:sb.data.toList=s) (hh:w.heap[b]?=some (.stringIter sb pos)) (pos':Nat):Sim E F O st (w.iterAt b sb pos') (af.set t (.iter s pos')) a.tmps.toList/\Ext F O w O (w.iterAt b sb pos'):=by
 have e:=M4 b af a.tmps.toList t undef hs.rep.length;rw[hx,hv]at e;have e1:cnt b (.iter s pos) (.pointer (some ⟨b,0,none⟩))=1:=by simp[cnt,Rs]
 rw[e1]at e;have e2:(AVal.iter s pos).strip=.any:=by simp[AVal.strip]
 rw[e2]at e;have tk:=hs.tok b;have hlt:b<w.heap.size:=(aU.1 hh).1;have hold: ∀n,n≠b->(w.iterAt b sb pos').heap[n]?=w.heap[n]?:=λn hn=>by grind[World.iterAt]
 have hsz:(w.iterAt b sb pos').heap.size=w.heap.size:=by simp[World.iterAt]
 have hnew:(w.iterAt b sb pos').heap[b]?=some (.stringIter sb pos'):=by grind[World.iterAt]
 have hs0:Sim E F O st w (af.set t .any) a.tmps.toList:=by have:=hs.stripAt (.tmp t);grind[VM.stripAt]
 have hcom:O.com b=none:=by cases hc:O.com b with|none=>rfl|some cs=>obtain⟨ar,e',fz,q2,_⟩:=hs.com_ok b cs hc;grind
 have s1:Sim E F O st (w.iterAt b sb pos') (af.set t .any) a.tmps.toList:=hs0.elsewhere (b:=b) (λn _ hn=>hold n hn) fH hcom (λi hi h=>by
  obtain⟨p,hp,rfl⟩:=bk.1 hi;rcases hs.box_ok p hp with⟨k,ar,e',hb⟩|⟨v,hv⟩;rotate_left;·have:=hv.bx;grind
  obtain⟨lo,hh2,q3,_⟩:=hb.heap;have:=hb.bx;grind) fH fH;refine⟨?_,⟨O.le_refl,λn hn=>⟨hold n (λe=>by grind),rfl⟩,fH,rfl,rfl,rfl⟩⟩;have hset:a.tmps.toList=a.tmps.toList.set t (.pointer (some ⟨b,0,none⟩)):=by grind[Abo]
 have hss:af.set t (.iter s pos')=(af.set t .any).set t (.iter s pos'):=fI;rw[hss];have h5: ∀n,AP n ((af.set t .any).set t (.iter s pos')) a.tmps.toList<=AP n (af.set t .any) a.tmps.toList+cnt n (.iter s pos') (.pointer (some ⟨b,0,none⟩)):=λn=>by grind[H6]
 refine {s1 with rep:=?_,own:=?_,tok:=?_};·have:=s1.rep.set t (x:=.iter s pos') (v:=.pointer (some ⟨b,0,none⟩)) (.iter _ _ _);grind
 ·have:=s1.own.set t (x:=.iter s pos') (v:=.pointer (some ⟨b,0,none⟩)) (by simp only[VM.own];exact⟨b,sb,rfl,hsb,hnew⟩);grind
 ·intro n;have q1:=h5 n;have q2:=s1.tok n;by_cases hn:n=b
  ·subst hn;have q3:Ap O (w.iterAt n sb pos') n st.m=0:=by
    rw[Ff (w:=w) λp hp=>⟨rfl,λk hk=>hold k (λe=>by
     subst e;rcases hs.box_ok p hp with⟨k2,ar,e',hb⟩|⟨v,hv⟩;rotate_left;·have:=hv.bx;grind
     obtain⟨lo,hh2,q3,_⟩:=hb.heap;have:=hb.bx;grind)⟩];omega
   grind[cnt,Rs]
  grind[cnt,Rs]
def AAQ{b:ByteArray}{s:B8} (h:b.data.toList=s):b=⟨s.toArray⟩:=by subst h;simp
theorem AYo (hs:Sim E F O st w af a.tmps.toList){o:Oper}{t:TypeId}{x:Operand}{s:B8} (hop:o.op=.range t x) (hx:rd E af t x=.str s) (ht:DX E.P t=true):∃nx w' a' O',Stepped E F O st w a o (Ac af o.dst (.iter s 0)) st nx w' a' O':=by
 have hr:=hs.rd t x;rw[hx]at hr;generalize hv:a.eval x=v at hr;cases hr;rename_i sb hn;have hrun:=run_range_string (P:=E.P) w t sb (CW ht);refine⟨.value (.pointer (some ⟨w.heap.size,0,none⟩)),w.iter sb 0,a.put o.dst (.pointer (some ⟨w.heap.size,0,none⟩)),O,?_,λK Q hk=>hk,put_defers _ _ _,?_,av _,?_⟩;·simp_all[execOp]
 ·exact(hs.newIter sb 0).2
 ·refine(hs.newIter sb 0).1.put o.dst (.iter _ _ _) ?_ ?_;·simp only[VM.own];exact⟨_,sb,rfl,rfl,World.iter_heap w sb 0⟩
  ·intro b;have h1:=hs.tok b;have h2:=(hs.newIter sb 0).1.tok b;simp only[cnt,Rs];split
   ·rename_i e;have h3:F b=0:=hs.F_lt b fH;have h4:AP b af a.tmps.toList=0:=by
     rcases bb 0 (AP b af a.tmps.toList)with h|h;·have:=(Bw _ _ hs.own h).1;omega
     omega
    have h5:Ap O (w.iter sb 0) b st.m=0:=by
     rw[Ff (O:=O) (w:=w) (w':=w.iter sb 0) λp hp=>⟨rfl,λk hk=>alloc_old (.stringIter sb 0) (hs.bx_lt _ _ hk)⟩];rcases bb 0 (Ap O w b st.m)with h|h;·have:=AA2 hs h;omega
     omega
    omega
   omega
theorem AbY (hs:Sim E F O st w af a.tmps.toList){o:Oper}{t:Tmp}{s:B8}{pos:Nat} (hop:o.op=.next (.tmp t) true) (hx:af.getD t .any=.iter s pos):∃nx w' a' O',Stepped E F O st w a o (AE4 s pos t o.dst af) st nx w' a' O':=by
 have ho:=hs.own.get hs.rep.length t undef;rw[hx]at ho;simp only[VM.own]at ho;obtain⟨b,sb,hv,hsb,hh⟩:=ho;have hev:a.eval (.tmp t)=.pointer (some ⟨b,0,none⟩):=by grind[Act.eval,Array.getD_toList']
 have hlen:sb.size=s.length:=by rw[<-hsb,aD];rfl
 unfold AE4;split
 ·rename_i hlt;have hlt:pos<sb.size:=by grind
  have hrun:=Go.Lib.run_next_any_at (P:=E.P) w b sb pos o.type hh hlt;have hde:Utf8.decode sb pos=Da s pos:=by rw[AAQ hsb];rfl
  rw[hde]at hrun;obtain⟨s1,x1⟩:=hs.iterTo (t:=t) hx hv hsb hh (pos+(Da s pos).2);refine⟨.value (.tuple #[.bool true,.int .i64 pos,.int .i32 (Da s pos).1]),w.iterAt b sb (pos+(Da s pos).2),a.put o.dst (.tuple #[.bool true,.int .i64 pos,.int .i32 (Da s pos).1]),O,?_,λK Q hk=>hk,put_defers _ _ _,x1,av _,?_⟩;·simp_all[execOp]
  ·refine s1.put o.dst (r:=.tuple [.bool true,.int .i64 pos,.int .i32 (Da s pos).1]) (.tuple (.cons (.bool _) (.cons (.int _ _) (.cons (.int _ _) .nil)))) (by simp[VM.own,ownL]) λn=>?_;have:=s1.tok n;grind[cnt,AP]
 ·rename_i hlt;have hlt: ¬pos<sb.size:=by grind
  have hrun:=Go.Lib.run_next_end_at (P:=E.P) w b sb pos o.type hh hlt;refine⟨.value (.tuple #[.bool false]),w,a.put o.dst (.tuple #[.bool false]),O,?_,λK Q hk=>hk,put_defers _ _ _,Ext.refl _ _ _,av _,?_⟩;·simp_all[execOp]
  ·refine hs.put o.dst (r:=.tuple [.bool false]) (.tuple (.cons (.bool _) .nil)) (by simp[VM.own,ownL]) λn=>?_;have:=hs.tok n;grind[cnt,AP]
def Sr (hs:Sim E F O st w af a.tmps.toList){mv:List Tmp}{o:Oper}{af':List AVal}{st':St} (h:EQ E mv o af st=some (af',st')):∃nx w' a' O',Stepped E F O st w a o af' st' nx w' a' O':=by
 unfold EQ at h;split at h
 ·rename_i x hop;split at h
  ·split at h;·rename_i hz;simp only[ag,aA]at h;obtain⟨rfl,rfl⟩:=h;exact AWK hs hop hz
   ·split at h;·rename_i hz;simp only[ag,aA]at h;obtain⟨rfl,rfl⟩:=h;exact AdM hs hop hz
    ·simp only[ag,aA]at h;obtain⟨rfl,rfl⟩:=h;exact Y3 hs (.inl hop)
  ·simp only[ag,aA]at h;obtain⟨rfl,rfl⟩:=h;exact⟨.value (a.eval x),w,a.put o.dst (a.eval x),O,by simp[execOp,hop],λK Q hk=>hk,put_defers _ _ _,Ext.refl _ _ _,av _,hs.putStrip o.dst (hs.rd o.type x)⟩
 ·rename_i x hop;split at h
  ·split at h;·rename_i hz;simp only[ag,aA]at h;obtain⟨rfl,rfl⟩:=h;exact AQy hs hz
   ·split at h;·rename_i z hz;simp only[ag,aA]at h;obtain⟨rfl,rfl⟩:=h;exact AWe hs hop hz
    ·simp only[ag,aA]at h;obtain⟨rfl,rfl⟩:=h;exact Y3 hs (.inr hop)
  ·simp only[ag,aA]at h;obtain⟨rfl,rfl⟩:=h;exact Y3 hs (.inr hop)
 ·rename_i t hop;split at h;·cases hz:WM E.P t st.next with|none=>grind|some z=>simp only[hz,aN,ag,aA]at h;obtain⟨rfl,rfl⟩:=h;grind[AQW]
  ·cases hz:Co E.P t st.next with|none=>grind|some z=>simp only[hz,aN,ag,aA]at h;obtain⟨rfl,rfl⟩:=h;grind[AWo]
 ·rename_i t x hop;split at h;·rename_i hx;simp only[ag,aA]at h;obtain⟨rfl,rfl⟩:=h;grind[AXR]
  grind
 ·rename_i t ps hop;cases hz:Ur E t (Bb E (AR E.P t) af ps).2 with|none=>grind|some z=>simp only[hz,aN,ag,aA]at h;obtain⟨rfl,rfl⟩:=h;grind[AWf]
 ·rename_i t len ps hop;split at h;·cases hz:I4 E t len (Bb E (λ_=>AR E.P t 0) af ps).2 with|none=>grind|some z=>obtain⟨z,cs⟩:=z;simp only[hz,aN,ag,aA]at h;obtain⟨rfl,rfl⟩:=h;grind[ZM]
  cases hz:IB E t len (Bb E (λ_=>AR E.P t 0) af ps).2 with|none=>grind|some z=>simp only[hz,aN,ag,aA]at h;obtain⟨rfl,rfl⟩:=h;grind[AAU]
 ·rename_i t x hop;split at h;·cases hz:R8 E t (rd E af 0 x) st with|none=>grind|some z=>obtain⟨r,s⟩:=z;simp only[hz,aN,ag,aA]at h;obtain⟨rfl,rfl⟩:=h;grind[AUQ]
  ·cases hz:SL E t (rd E af 0 x) st with|none=>grind|some z=>simp only[hz,aN,ag,aA]at h;obtain⟨rfl,rfl⟩:=h;grind[Aez]
 ·rename_i t x y hop;split at h;·rename_i hd;cases hz:O3 E t (rd E af 0 x) (rd E af t y) st with|none=>grind|some z=>simp only[hz,aN,ag,aA]at h;obtain⟨rfl,rfl⟩:=h;exact AW4 hs hop (by simp_all) hz
  grind
 ·rename_i t n hop;split at h;·rename_i vs hv;cases hz:vs[n]? with|none=>grind|some z=>simp only[hz,aN,ag,aA]at h;obtain⟨rfl,rfl⟩:=h;exact AGC hs hop hv hz
  grind
 ·rename_i t x hop;split at h
  ·rename_i s hx;split at h;·rename_i ht;simp only[ag,aA]at h;obtain⟨rfl,rfl⟩:=h;grind[AYo]
   grind
  grind
 ·rename_i t hop;split at h;·rename_i s pos hx;simp only[ag,aA]at h;obtain⟨rfl,rfl⟩:=h;grind[AbY]
  grind
 ·rename_i t x lo hi mx hop;split at h
  ·rename_i l hh m h1 h2 h3;split at h;·rename_i r hz;simp only[ag,aA]at h;obtain⟨rfl,rfl⟩:=h;exact AYm hs hop h1 h2 h3 hz
   ·cases hz:SB E t (rd E af t x) l hh m st with|none=>rw[hz]at h;cases h|some z=>simp only[hz,aN,ag,aA]at h;obtain⟨rfl,rfl⟩:=h;exact ASF hs hop h1 h2 h3 hz
  grind
 ·rename_i x y t0 t1 ts hop;split at h
  ·split at h;·rename_i z hz;simp only[ag,aA]at h;obtain⟨rfl,rfl⟩:=h;grind[AJ7]
   ·cases hz:appW E x t0 t1 (rd E af t0 x) (rd E af t1 y) st with|none=>rw[hz]at h;cases h|some z=>obtain⟨r,s⟩:=z;simp only[hz,aN,ag,aA]at h;obtain⟨rfl,rfl⟩:=h;exact AgR hs hop hz
  split at h;·rename_i z hz;simp only[ag,aA]at h;obtain⟨rfl,rfl⟩:=h;grind[AUS]
  ·cases hz:AAN E t0 t1 (rd E af t0 x) (rd E af t1 y) st with|none=>rw[hz]at h;cases h|some z=>simp only[hz,aN,ag,aA]at h;obtain⟨rfl,rfl⟩:=h;exact AEx hs hop hz
 ·rename_i x t0 ts hop;split at h;·rename_i r hz;simp only[ag,aA]at h;obtain⟨rfl,rfl⟩:=h;grind[VP]
  ·cases hz:ABE E t0 (rd E af t0 x) st with|none=>rw[hz]at h;cases h|some z=>simp only[hz,aN,ag,aA]at h;obtain⟨rfl,rfl⟩:=h;exact AbX hs hop hz
 ·rename_i t hop;simp only[ag,aA]at h;obtain⟨rfl,rfl⟩:=h;grind[AOM]
 ·rename_i t m k ok hop;cases hz:UT E t (rd E af t m) (rd E af 0 k) ok st with|none=>grind|some z=>simp only[hz,aN,ag,aA]at h;obtain⟨rfl,rfl⟩:=h;grind[AWO]
 ·rename_i t m k x hop;split at h;·rename_i hd;cases hz:Vh E t (rd E af t m) (rd E af 0 k) (rd E af 0 x) st with|none=>grind|some z=>simp only[hz,aN,ag,aA]at h;obtain⟨rfl,rfl⟩:=h;exact AE6 hs (.inl hop) (by simp_all) hz
  grind
 ·rename_i t m k x hop;split at h;·rename_i hd;cases hz:Vh E t (rd E af t m) (rd E af 0 k) (rd E af 0 x) st with|none=>grind|some z=>simp only[hz,aN,ag,aA]at h;obtain⟨rfl,rfl⟩:=h;exact AE6 hs (.inr hop) (by simp_all) hz
  grind
 ·rename_i t x i hop;split at h;·rename_i r hz;simp only[ag,aA]at h;obtain⟨rfl,rfl⟩:=h;grind[VP]
  ·split at h;·rename_i r hz;simp only[ag,aA]at h;obtain⟨rfl,rfl⟩:=h;grind[AAO]
   ·cases hz:RB E t (rd E af t x) (rd E af 0 i) st with|none=>rw[hz]at h;cases h|some z=>simp only[hz,aN,ag,aA]at h;obtain⟨rfl,rfl⟩:=h;exact ARW hs hop hz
 ·rename_i t x y hop;split at h;·cases hz:Xu E t (rd E af 0 x) (rd E af 0 y) st with|none=>grind|some z=>simp only[hz,aN,ag,aA]at h;obtain⟨rfl,rfl⟩:=h;grind[AWX]
  ·cases hz:Xw E t (rd E af 0 x) (rd E af 0 y) st with|none=>grind|some z=>simp only[hz,aN,ag,aA]at h;obtain⟨rfl,rfl⟩:=h;grind[AbW]
 ·rename_i s d x hop;split at h;·rename_i r hz;simp only[ag,aA]at h;obtain⟨rfl,rfl⟩:=h;grind[VP]
  ·split at h;·rename_i r hz;simp only[ag,aA]at h;obtain⟨rfl,rfl⟩:=h;grind[AWU]
   ·cases hz:SQ E s d (rd E af s x) st with|none=>grind|some z=>simp only[hz,aN,ag,aA]at h;obtain⟨rfl,rfl⟩:=h;grind[AW8]
 ·rename_i x t0 ts hop;cases hz:UC (rd E af t0 x)with|none=>grind|some z=>simp only[hz,aN,ag,aA]at h;obtain⟨rfl,rfl⟩:=h;grind[AYh]
 ·rename_i x y t0 t1 hop;cases hz:YG E t0 (rd E af t0 x) (rd E af t1 y)with|none=>grind|some z=>simp only[hz,aN,ag,aA]at h;obtain⟨rfl,rfl⟩:=h;grind[Acb]
 ·cases hz:Dv E o af with|none=>grind|some z=>simp only[hz,aN,ag,aA]at h;obtain⟨rfl,rfl⟩:=h;grind[VP]
end
def rdL (E:Env) (af:List AVal):List Operand->List TypeId->List AVal|[],_=>[]|x::xs,[]=>rd E af 0 x::rdL E af xs []|x::xs,t::ts=>rd E af t x::rdL E af xs ts
def callable (P:Program) (g:FuncId):Bool:=match P.funcs[g]? with | some fn=>fn.name != "runtime.NumGoroutine" && fn.body.isSome|none=>false
def AwE (E:Env) (g:FuncId) (args:List AVal) (st:St) (Q:AVal->St->Prop):Prop:=∃ fn e r,E.P.funcs[g]? = some fn/\(fn.name == "runtime.NumGoroutine") = false/\fn.body.isNone = true/\Extern.findNext fn = none/\Extern.find fn = some e/\(∀O vs w,RepL O args vs->∃v,(e vs.toArray).run E.P w=.ok v w/\Rep O r v)/\Q r.strip st
def Avv (E:Env) (g:FuncId) (args:List AVal) (st:St) (Q:AVal->St->Prop):Prop:=∃ fn ps t el,∃ n : Nat,E.P.funcs[g]? = some fn/\(fn.name == "runtime.NumGoroutine") = false/\fn.body.isNone = true/\Extern.findNext fn = none/\Extern.find fn = some (Extern.BytealgMakeNoZero.makeNoZero ps #[t])/\E.P.underlying t=some (.slice el)/\1<=n/\n<=140737488355328/\args=[.int .i64 n]/\Q (.trow el st.next n) {m:=(st.next,[.any])::st.m,next:=st.next+1}
def Zv (E:Env) (g:FuncId) (args:List AVal) (st:St) (Q:AVal->St->Prop):Prop:=AwE E g args st Q\/Avv E g args st Q
def ABo: ∀(n t:Nat) (acc:Array Value),(∀v,v∈acc.toList->v.oneCell'=true)->∀v,v∈(Extern.BytealgMakeNoZero.digits n t acc).toList->v.oneCell'=true
 |0,_,_,h=>h
 |n+1,t,acc,h=>by
  rw[Extern.BytealgMakeNoZero.digits];refine ABo n _ _ λv hv=>?_;rw[Array.toList_push,aZ]at hv;rcases hv with hv|hv;·grind
  ·rw[aY]at hv;subst hv;rfl
def Apt{P:Program} (w:World) (ps:Array TypeId) (t e:TypeId) (ht:P.underlying t=some (.slice e)) (n:Nat) (hn:n<=281474976710656):
    ∃cs:Array Value,(Extern.BytealgMakeNoZero.makeNoZero ps #[t] #[.int .i64 n]).run P w=.ok (.slice (some ⟨w.heap.size,0,none⟩) n cs.size) (w.drew.drew.alloc (.cells cs e))/\n<=cs.size/\ ∀v,v∈cs.toList->v.oneCell'=true:=by
  have h1: ¬(n:Int)<0:=fH
  have h2: ¬(281474976710656:Int)<(n:Int):=fH
  refine ⟨Extern.BytealgMakeNoZero.digits (grownCap w n 0 e) ((Question.extern "internal/bytealg.MakeNoZero.bytes" 0).cut (w.tape (w.drawn + 1) (.extern "internal/bytealg.MakeNoZero.bytes" 0))) #[], ?_, ?_, ABo _ _ _ fI⟩
  . show Sem.run P (do
        let TypeDesc.slice el<-underlying t|stuck _
        if(n:Int)<0||(n:Int)>2^48 then runtimePanic _
        let c<-choose (.appendCap (n:Int).toNat 0 el)
        askRoom c
        let bs<-choose (.extern _ 0)
        let a<-newRow el (Extern.BytealgMakeNoZero.digits c bs #[])
        pure (Value.slice (some a) (n:Int).toNat c):Sem Value) w=_
    simp[aG ht,h1,h2,Question.forced,newRow,Go.Lib.size_digits,grownCap]
  grind[Go.Lib.size_digits,grownCap_ge]
def CallX (E:Env) (g:FuncId) (args:List AVal) (st:St) (Q:AVal->St->Prop):Prop:=if callable E.P g=true then ACall E g args st Q else Zv E g args st Q
def CallX.mono{E:Env}{st:St}{g:FuncId}{args:List AVal}{Q Q':AVal->St->Prop} (h:CallX E g args st Q) (k: ∀r st',st.next<=st'.next->Q r st'->Q' r st'):CallX E g args st Q':=by
 unfold CallX at *;split;·rename_i hc;rw[an hc]at h;exact h.mono k
 ·rename_i hc;rw[aj hc]at h;rcases h with h|h;·obtain⟨fn,e,r,h1,h2,h3,h4,h5,h6,h7⟩:=h;exact .inl ⟨fn,e,r,h1,h2,h3,h4,h5,h6,k _ _ (av _) h7⟩
  ·obtain⟨fn,ps,t,el,n,h1,h2,h3,h4,h5,h6,h7,h8,h9,h10⟩:=h;exact .inr ⟨fn,ps,t,el,n,h1,h2,h3,h4,h5,h6,h7,h8,h9,k _ _ (Nat.le_succ _) h10⟩
def Td:AVal->Bool|.gsl _ _ _=>true|_=>false
def ABS (x y:AVal):Bool:=Td y||Td x
def Vj:BinOp->Operand->Bool|.eql,.const (.slice none 0 0)=>true|_,_=>false
def Aiw (b:Bool) (v:AVal) (K:AVal->Prop):Prop:=match b,v with|true,.slice _ xs _=>∀c:Bool,(c=true->xs=[])->K (.bool c)|_,_=>False
def DJ (E:Env) (mv:List Tmp) (o:Oper) (af:List AVal) (st:St) (K:List AVal->St->Prop):Prop:=match o.op with
 |.call {callee:=.value f,args,argTypes}=>match rd E af 0 f with|.fn (.func g) p q=>CallX E g (stripL (p++rdL E af args.toList argTypes.toList++q)) st λr st'=>K (Ac af o.dst r) st'|_=>False
 |.call {callee:=.builtin .append,args:=⟨[x,y]⟩,argTypes:=⟨t0::t1::_⟩}=>if ABS (rd E af t0 x) (rd E af t1 y)=true then match appG E t0 t1 (rd E af t0 x) (rd E af t1 y) st with|some (wd,l,cs,rest,jo)=>∀i,i=st.next\/jo=some i->K (Ac af o.dst (.gsl wd i l)) {m:=(i,cs)::rest,next:=st.next+1}|none=>False else match EQ E mv o af st with|some (af',st')=>K af' st'|none=>False
 |.binOp op t x y _=>if Vj op y=true then Aiw (BZ E.P t) (rd E af t x) λv=>K (Ac af o.dst v) st else match EQ E mv o af st with|some (af',st')=>K af' st'|none=>False
 |_=>match EQ E mv o af st with|some (af',st')=>K af' st'|none=>False
def Azf (E:Env) (o:Oper) (af:List AVal) (st:St) (K:List AVal->St->Prop):Prop:=∀(F:Nat->Nat) (O:Ghost) (w:World) (a:Act),a.defers=[]->Sim E F O st w af a.tmps.toList->∀(K':Act->World->Prop) (Qx:Exit->Act->World->Prop),(∀O' af' st' a' w',Ext F O w O' w'->st.next<=st'.next->a'.defers=[]->Sim E F O' st' w' af' a'.tmps.toList->K af' st'->K' a' w')->o.wp E.P a w K' Qx
section
variable{E:Env}{F:Nat->Nat}{O:Ghost}{st:St}{w:World}{af:List AVal}{a:Act}
def RepL.append{xs ys:List AVal}{us vs:List Value} (h:RepL O xs us) (k:RepL O ys vs):RepL O (xs++ys) (us++vs):=by induction xs generalizing us with|nil=>cases h;exact k|cons x xs ih=>cases h with|cons h t=>exact .cons h (ih t)
def ANl (hs:Sim E F O st w af a.tmps.toList): ∀(xs:List Operand) (ts:List TypeId),RepL O (rdL E af xs ts) (xs.map a.eval)|[],_=>.nil|x::xs,[]=>.cons (hs.rd _ x) (ANl hs xs [])|x::xs,t::ts=>.cons (hs.rd _ x) (ANl hs xs ts)
def Sim.aside (hs:Sim E F O st w af a.tmps.toList){xs:List AVal}{vs:List Value} (hr:RepL O xs vs):Sim E (λb=>F b+AP b af a.tmps.toList) O st w (stripL xs) vs:=by
 refine {hs with bx_F:=?_,F_lt:=?_,rep:=hr.strip,own:=J8 _ _ _ _,tok:=?_}
 ·intro p b hp hb;have h1:=hs.bx_F p b hp hb;have h2:AP b af a.tmps.toList=0:=by
   rcases bb 0 (AP b af a.tmps.toList)with h|h
   ·rcases hs.box_ok p hp with⟨b',arr,e,hk⟩|⟨v,hv⟩;rotate_left;·have:=hv.bx;grind
    have:=hk.bx;rw[hb]at this;cases this;rcases (Bw _ _ hs.own h).2 with⟨c,hc⟩|⟨s0,p0,hc⟩|⟨s0,p0,hc⟩;·rw[hk.com]at hc;grind
    ·obtain⟨lo,hi,hh,_⟩:=hk.heap;grind
    ·obtain⟨lo,hi,hh,_⟩:=hk.heap;grind
   omega
  omega
 ·intro b hb;have h1:=hs.F_lt b hb;have h2:AP b af a.tmps.toList=0:=by
   rcases bb 0 (AP b af a.tmps.toList)with h|h;·have:=(Bw _ _ hs.own h).1;omega
   omega
  omega
 ·intro b;have:=hs.tok b;grind[Ig]
def Sim.back (hs:Sim E F O st w af a.tmps.toList){O':Ghost}{st':St}{w':World}{r:AVal}{v:Value} (hx:Ext (λb=>F b+AP b af a.tmps.toList) O w O' w') (h:Sim E (λb=>F b+AP b af a.tmps.toList) O' st' w' [r] [v]) (dst:Option Tmp):Sim E F O' st' w' (Ac af dst r) (a.put dst v).tmps.toList:=by
 have hown:ownL O' w' af a.tmps.toList:=Bv hx.le _ _ hs.own λb hb=>hx.keep b fH;have hmid:Sim E F O' st' w' af a.tmps.toList:=by
  refine {h with bx_F:=?_,F_lt:=?_,rep:=hs.rep.mono hx.le,own:=hown,tok:=?_};·intro p b hp hb;have:=h.bx_F p b hp hb;omega
  ·intro b hb;have:=h.F_lt b hb;omega
  ·intro b;have:=h.tok b;omega
 have hr:Rep O' r v:=by have:=h.rep;cases this;omega
 have ho:VM.own O' w' r v:=by have:=h.own;grind[ownL]
 refine hmid.put dst hr ho λb=>?_;have:=h.tok b;grind[AP,cnt]
def ADs{P:Program}{w:World}{t e:TypeId} (h:P.underlying t=some (.slice e)) (p:Option Addr) (n k:Nat):(binOp .eql t (.slice p n k) (.slice none 0 0)).run P w=.ok (.bool p.isNone) w:=by
 have key: ∀d:Nat,(Op.equalIn (d+1) t (.slice p n k) (.slice none 0 0)).run P w=.ok p.isNone w:=λd=>by cases p<;>simp[Op.equalIn,aG h]
 simp_all[binOp,Op.equal,Op.maxDepth]
def Aan{op:BinOp}{y:Operand} (h:Vj op y=true):op=.eql/\y=.const (.slice none 0 0):=by
 unfold Vj at h;split at h;·exact⟨rfl,rfl⟩
 ·cases h
theorem Ws {mv:List Tmp}{o:Oper}{K:List AVal->St->Prop} (h:DJ E mv o af st K):Azf E o af st K:=by
 intro F O w a hd hs K' Qx hK;unfold DJ at h;split at h
 ·rename_i f args ts hop;have hf:=hs.rd 0 f;split at h
  ·rename_i g p q e;rw[e]at hf;generalize hfv:a.eval f=fv at hf;cases hf with
   | fn hp hq=>
    rename_i vp vq;have hargs:=ANl hs args.toList ts.toList;have hall:=hp.append (hargs.append hq);rw[<-aH]at hall;unfold CallX at h;split at h;rotate_left
    ·rcases h with h|h
     ·obtain⟨fn,e2,r,h1,h2,h3,h4,h5,h6,h7⟩:=h;obtain⟨v,hv,hr⟩:=h6 O (vp.toList++args.toList.map a.eval++vq.toList) w (by have:=hall.strip;grind);have harr:(vp.toList++args.toList.map a.eval++vq.toList).toArray=vp++args.map a.eval++vq:=by simp
      rw[harr]at hv;have hrun:(execOp a.eval o).run E.P w=.ok (.value v) w:=by grind[run_callFunc_extern,execOp,resolve,Deferred.ofValue,Sem.run_bind,Sem.run_pure,Result.andThen_ok,invoke]
      unfold Oper.wp;rw[hrun];exact hK O _ st (a.put o.dst v) w (Ext.refl _ _ _) (av _) (by grind[put_defers]) (hs.putStrip o.dst hr) h7
     ·obtain⟨fn,ps,t,el,n,h1,h2,h3,h4,h5,h6,h7,h8,h9,h10⟩:=h;have hst:=hall.strip;have harr:(vp.toList++args.toList.map a.eval++vq.toList).toArray=vp++args.map a.eval++vq:=by simp
      obtain⟨v0,hv0,hrv⟩: ∃v0,vp.toList++args.toList.map a.eval++vq.toList=[v0]/\Rep O (.int .i64 n) v0:=by
       have hst':RepL O [.int .i64 n] (vp.toList++args.toList.map a.eval++vq.toList):=by grind
       generalize vp.toList++args.toList.map a.eval++vq.toList=vs at hst';cases hst' with|cons q t=>cases t;grind
      cases hrv;rw[hv0]at harr;obtain⟨cs,r1,r2,r3⟩:=Apt (P:=E.P) w ps t el h6 n fH;have hrun:(execOp a.eval o).run E.P w=.ok (.value (.slice (some ⟨w.drew.drew.heap.size,0,none⟩) n cs.size)) (w.drew.drew.alloc (.cells cs el (0,0))):=by have hcf:=run_callFunc_extern (P:=E.P) h1 h2 h3 h4 h5 (vp++args.map a.eval++vq) w;rw[<-harr]at hcf;rw[r1]at hcf;simp only[execOp,hop,resolve,hfv,Deferred.ofValue,aI,bu,aC,invoke];rw[<-harr,hcf];rfl
      have hx:Ext F O w O w.drew.drew:=⟨O.le_refl,λ_ _=>⟨rfl,rfl⟩,av _,rfl,rfl,rfl⟩;obtain⟨nx,w',a',O',hp⟩:=AAA (o:=o) (r:=.trow el st.next n) (w1:=w.drew.drew) (cells:=cs) (e:=el) (cs:=[.any]) (fz:=(0,0)) (cap:=cs.size) (len:=n) hs hs.drew.drew hx fI (by
       have hl:1<=cs.toList.length:=by grind
       match hc:cs.toList,hl with|v::vs,_=>exact .cons (.any v) .nil) (λv hv=>r3 v (dp hv)) (λx hx=>by grind[VM.own,cnt]) (λO' q1 q2=>.trow q1 q2 ⟨r2,by grind[CX]⟩ rfl) (λ_ _ _=>by simp[VM.own]) (λ_ _=>by simp[cnt]) hrun;unfold Oper.wp;rw[hp.run];exact hp.upon _ _ (hK O' _ _ a' w' hp.ext hp.next (by rw[hp.defers];omega) hp.sim h10)
    rename_i hcall;have hac:=h;have hrun:(execOp a.eval o).run E.P w=.ok (.enter g (vp++args.map a.eval++vq)) w:=by
     unfold callable at hcall;split at hcall
     ·rename_i fn hfn;simp only[aw,fe,ek]at hcall;have hb:fn.body.isNone=false:=by have:=hcall.2;cases hfb:fn.body<;>simp_all
      simp only[execOp,hop,resolve,hfv,Deferred.ofValue,aI,bu,aC,invoke,callFunc,run_program,hfn];have hname : (fn.name == "runtime.NumGoroutine") = false:=by grind
      simp only[hname,hb,aq,az];rfl
     grind
    have key:=hac.go (λb=>F b+AP b af a.tmps.toList) O w (vp++args.map a.eval++vq) (by have e2:(vp++args.map a.eval++vq).toList=vp.toList++(args.toList.map a.eval++vq.toList):=fI;rw[e2,<-aH];refine hs.aside ?_;grind);unfold Oper.wp;rw[hrun,Oper.upon_enter];refine key.mono ?_;rintro e' w' ⟨v,rfl,O',r,st',x1,n1,s1,q1⟩;exact hK O' _ st' (a.put o.dst v) w' (x1.less λb=>by omega) n1 (by grind[put_defers]) (hs.back x1 s1 o.dst) q1
  grind
 ·rename_i x y t0 t1 ts hop;split at h
  ·split at h;·rename_i wd l cs rest jo hab;obtain⟨i,hi,nx,w',a',O',hp⟩:=Aey hs hop hab;unfold Oper.wp;rw[hp.run];exact hp.upon _ _ (hK O' _ _ a' w' hp.ext hp.next (by rw[hp.defers];omega) hp.sim (h i hi))
   grind
  ·split at h;·rename_i af' st' hst;obtain⟨nx,w',a',O',hp⟩:=Sr hs hst;unfold Oper.wp;rw[hp.run];exact hp.upon _ _ (hK O' af' st' a' w' hp.ext hp.next (by rw[hp.defers];omega) hp.sim h)
   grind
 ·rename_i op t x y _ hop;split at h
  ·rename_i hn;obtain⟨rfl,rfl⟩:=Aan hn;have hx:=hs.rd t x;unfold Aiw at h;split at h
   ·rename_i xs ow ht hr;rw[hr]at hx;obtain⟨e,hu⟩: ∃e,E.P.underlying t=some (.slice e):=by grind[BZ]
    have main: ∀(p:Option Addr) (n k:Nat),a.eval x=.slice p n k->(p.isNone=true->xs=[])->o.wp E.P a w K' Qx:=by
     intro p n k hv hc;have hrun:(execOp a.eval o).run E.P w=.ok (.value (.bool p.isNone)) w:=by simp only[execOp,hop];have hc:a.eval (.const (.slice none 0 0))=.slice none 0 0:=rfl;simp[hv,hc,eqGuard,ADs hu]
     unfold Oper.wp;rw[hrun];exact hK O _ st (a.put o.dst (.bool p.isNone)) w (Ext.refl _ _ _) (av _) (by grind[put_defers]) (hs.putStrip o.dst (.bool _)) (h _ hc)
    generalize hv:a.eval x=v at hx;cases hx with|snil w o a=>simp_all|slice=>grind
   grind
  ·split at h;·rename_i af' st' hst;obtain⟨nx,w',a',O',hp⟩:=Sr hs hst;unfold Oper.wp;rw[hp.run];exact hp.upon _ _ (hK O' af' st' a' w' hp.ext hp.next (by rw[hp.defers];omega) hp.sim h)
   grind
 ·split at h;·rename_i af' st' hst;obtain⟨nx,w',a',O',hp⟩:=Sr hs hst;unfold Oper.wp;rw[hp.run];exact hp.upon _ _ (hK O' af' st' a' w' hp.ext hp.next (by rw[hp.defers];omega) hp.sim h)
  grind
def gd (x:AVal) (want:Bool):Option Bool:=match x with|.bool b=>some (b==want)|.tuple []=>some false|_=>none
def gdA (ops:Array Oper) (af:List AVal) (j:Nat) (want:Bool):Option Bool:=match(ops[j]?).bind (·.dst)with|some d=>gd (af.getD d .any) want|none=>none
def Mc (E:Env) (mv:List Tmp) (ops:Array Oper):List Oper->(List AVal->St->Prop)->List AVal->St->Prop|[],K,af,st=>K af st|o::rest,K,af,st=>match o.guard with|none=>DJ E mv o af st (Mc E mv ops rest K)|some (j,want)=>match gdA ops af j want with|some true=>DJ E mv o af st (Mc E mv ops rest K)|some false=>Mc E mv ops rest K (Ac af o.dst (.tuple [])) st|none=>False
def VR (hs:Sim E F O st w af a.tmps.toList){ops:Array Oper}{j:Nat}{want t:Bool} (h:gdA ops af j want=some t):(yielded ops a.tmps j==some want)=t:=by
 unfold gdA at h;split at h
 ·rename_i d hd;have hr:=hs.rep.get d undef;unfold yielded;rw[hd];simp only[aa];unfold gd at h;have hlt:d<a.tmps.size:=by
   rcases bb d a.tmps.size with h'|h';·omega
   ·have:af.length=a.tmps.size:=by rw[hs.rep.length,aD]
    grind
  have e:a.tmps.toList.getD d undef=a.tmps[d]:=by grind
  rw[e]at hr;rw[cK hlt];generalize a.tmps[d]=v at hr;split at h;·rename_i b hb;rw[hb]at hr;cases hr;grind[Option.some.injEq]
  ·rename_i hb;rw[hb]at hr;cases hr;grind
  grind
 grind
def QU{ops:Array Oper}{o:Oper}{tmps:Array Value}{j:Nat}{want:Bool} (hg:o.guard=some (j,want)):Region.wanted o (yielded ops tmps)=(yielded ops tmps j==some want):=by grind[Region.wanted]
def Sim.skipped (hs:Sim E F O st w af a.tmps.toList) (d:Option Tmp):Sim E F O st w (Ac af d (.tuple [])) (a.put d undef).tmps.toList:=hs.put d (r:=.tuple []) (v:=undef) (.tuple .nil) (by simp[VM.own,undef,ownL]) λn=>by have:=hs.tok n;grind[cnt,undef,AP]
def AU2{mv:List Tmp}{ops:Array Oper}{Qc:Exit->Act->World->Prop}: ∀(rest:List Oper) (i:Nat),ops.toList.drop i=rest->∀ {K:List AVal->St->Prop}{F:Nat->Nat}{O:Ghost}{st:St}{w:World}{af:List AVal}{a:Act},a.defers=[]->Sim E F O st w af a.tmps.toList->Mc E mv ops rest K af st->(∀O' af' st' a' w',Ext F O w O' w'->st.next<=st'.next->a'.defers=[]->Sim E F O' st' w' af' a'.tmps.toList->K af' st'->Qc .normal a' w')->wpOps E.P ops Qc (List.range' i rest.length) a w:=by
 intro rest;induction rest with
 |nil=>intro i hi K F O st w af a hd hs h hK;exact hK O af st a w (Ext.refl _ _ _) (av _) hd hs h
 | cons o rest ih=>
  intro i hi K F O st w af a hd hs h hK;have hoi:ops[i]?=some o:=by
   have:ops.toList[i]?=some o:=by have:=br (·[0]?) hi;grind
   grind
  have hi':ops.toList.drop (i+1)=rest:=by grind[List.tail_drop]
  rw[ae,c8];simp only[wpOps,hoi];have go:DJ E mv o af st (Mc E mv ops rest K)->o.wp E.P a w (wpOps E.P ops Qc (List.range' (i+1) rest.length)) Qc:=λh=>Ws h F O w a hd hs _ _ λO' af' st' a' w' x1 n1 d1 s1 k1=>ih (i+1) hi' d1 s1 k1 λO2 af2 st2 a2 w2 x2 n2 d2 s2 k2=>hK O2 af2 st2 a2 w2 (x1.trans x2) (bJ n1 n2) d2 s2 k2;simp only[Mc]at h;split at h;·simp_all[Region.wanted]
  ·rename_i j want hg;split at h;·rename_i hgd;rw[an (by rw[QU hg,VR hs hgd])];grind
   ·rename_i hgd;rw[aj (by rw[QU hg,VR hs hgd];simp)];exact ih (i+1) hi' (by grind[put_defers]) (hs.skipped o.dst) h λO2 af2 st2 a2 w2 x2 n2 d2 s2 k2=>hK O2 af2 st2 a2 w2 x2 n2 d2 s2 k2
   grind
def Wl{Q:APost}{id:Nat}{ops:Array Oper} (mv:List Tmp) (h:Mc E mv ops ops.toList (λaf st=>Q .normal af st) af st):AWp E (.region id ops false) Q af st:=by constructor;intro F O w a hd hs;refine wp_region ?_;have key:=AU2 (Qc:=lift E F O w st.next Q) ops.toList 0 rfl hd hs h λO' af' st' a' w' x1 n1 d1 s1 k1=>⟨trivial,d1,O',af',st',x1,n1,s1,k1⟩;grind[Array.length_toList,List.range_eq_range']
def AQ4{Q:APost}{c:Operand}{x y:Code} (b:Bool) (hb:rd E af 0 c=.bool b) (h:if b=true then AWp E x Q af st else AWp E y Q af st):AWp E (.cond c x y) Q af st:=by
 constructor;intro F O w a hd hs;have hr:=hs.rd 0 c;rw[hb]at hr;generalize hv:a.eval c=v at hr;cases hr;refine wp_cond hv ?_;cases b;·exact h.go F O w a hd hs
 ·exact h.go F O w a hd hs
def Aef{Q:APost}{c:Code}{m:List (Nat×List AVal)} (hm:m.Sublist st.m) (h:AWp E c Q af {st with m:=m}):AWp E c Q af st:=⟨λF O w a hd hs=>h.go F O w a hd (hs.fewer hm)⟩
def YV (E:Env) (t:TypeId) (addr:AVal) (st:St):Option (AVal×St):=
  match addr with
  | .ptr i 0=>
    match Ag st.m i with
    | some cs=>
      if Ah E.P t=true then
        if BN E.P t=true then(if BS E.P t=some cs.length then some (.agg cs,{st with m:=A7 st.m i (stripL cs)})else none)
        else match cs with
          |[c]=>some (c,{st with m:=A7 st.m i (stripL cs)})
          |_=>none
      else none
    |none=>none
  |_=>none
def RX (E:Env):List ResultVar->List AVal->St->Option (List AVal×St)|[],af,st=>some ([],st)|.tmp t::rs,af,st=>(RX E rs (stripAt af (.tmp t)) st).map λp=>(af.getD t .any::p.1,p.2)|.cell i t::rs,af,st=>match YV E t (af.getD i .any) st with|some (r,st')=>(RX E rs af st').map λp=>(r::p.1,p.2)|none=>none
def KH (E:Env) (fn:Func) (Q:AVal->St->Prop):APost:=λe af st=>
  match e with
  | .normal|.ret=>
    match RX E fn.results.toList af st with
    |some (rs,st')=> ∃m,m.Sublist st'.m/\Q (match rs with|[r]=>r|rs=>.tuple rs) {st' with m:=m}
    |none=>False
  |_=>False
end
end Go.VM
namespace Go.VM
section
variable{E:Env}{F:Nat->Nat}{O:Ghost}{st:St}{w:World}{af:List AVal}{a:Act}
def ADi (hs:Sim E F O st w af a.tmps.toList){t:TypeId}{x:AVal}{v:Value}{r:AVal}{st':St} (hx:Rep O x v) (h:YV E t x st=some (r,st')):∃u,(do loadVar t (<-asAddr v):Sem Value).run E.P w=.ok u w/\Rep O r u/\VM.own O w r u/\Sim E F O st' w af a.tmps.toList/\st'.next=st.next/\∀b,cnt b r u+Ap O w b st'.m=Ap O w b st.m:=by
 unfold YV at h;split at h
 ·rename_i i;cases hx with
  |ptr hbx=>
   rename_i b;split at h
   ·rename_i cs hg;split at h
    ·rename_i hk;obtain⟨b',arr,e,hb⟩:=hs.box hg hbx;have:b'=b:=by have:=hb.bx;grind
     subst this;obtain⟨lo,hi,hh,hf⟩:=hb.heap;obtain⟨L,hL⟩: ∃L,L=arr.toList.take cs.length:=⟨_,rfl⟩;have hrepL:RepL O cs L:=by rw[hL];exact hb.rep
     have hone: ∀v,v∈L->v.oneCell'=true:=by rw[hL];exact hb.one
     have hownL:VM.ownL O w cs L:=by rw[hL];exact(Nt O w cs arr.toList).2 hb.own
     have hcntL: ∀n,AP n cs L=AP n cs arr.toList:=λn=>by grind[Nq]
     obtain⟨s1,x1⟩:=hs.setBox (w':=w) (cs':=stripL cs) (arr':=arr) (lo:=lo) (hi:=hi) hg hb hh hf (λ_ _=>rfl) rfl rfl rfl rfl (by rw[M6];exact hb.rep.strip) (J8 _ _ _ _) (by grind[M6]) (λn=>by rw[Ig];have:=hs.tok n;omega);have hcnt: ∀n,AP n cs arr.toList+Ap O w n (A7 st.m i (stripL cs))=Ap O w n st.m:=by intro n;have e1:=Ir (O:=O) (O':=O) (w:=w) (w':=w) (b:=n) (x:=stripL cs) hs.keys hg (λp hp hne=>rfl);grind[DK,AP,hcells,stripL,Ig]
     have hcell: ∀j u,L[j]?=some u->w.cell? ⟨b',0+j,none⟩=some u:=by intro j u hj;rw[hL]at hj;have hj:=List.getElem?_take_some hj;simp_all[World.cell?]
     have ha:=Q8 (w:=w) hk;split at h
     ·rename_i hag;rw[hag]at ha;split at h;·rename_i hz;simp only[ag,aA]at h;obtain⟨rfl,rfl⟩:=h;have key:=dM (P:=E.P) w ⟨b',0,none⟩ L (λj v hj=>by grind[addr_add]);rw[<-hrepL.length]at key;refine⟨.agg L.toArray,?_,.agg fH fH,by grind[VM.own],s1,rfl,λn=>by grind[cnt]⟩;simp[asAddr,loadVar,ha,DN hz,key]
      grind
     ·rename_i hag;rw[eZ]at hag;rw[hag]at ha;split at h
      ·rename_i c;simp only[ag,aA]at h;obtain⟨rfl,rfl⟩:=h;obtain⟨u,hu,hrep⟩:=hrepL.get? (i:=0) (x:=c) rfl;have h1:L=[u]:=by
        have:L.length=1:=by grind
        clear hL hcell;match L,this,hu with|[x],_,hu=>grind
       refine⟨u,?_,hrep,?_,s1,rfl,λn=>?_⟩;·simp_all[asAddr,loadVar]
       ·grind[VM.ownL]
       grind[AP]
      grind
    grind
   grind
 grind
def AUU{m m':List (Nat×List AVal)} (h:m.Sublist m') (n:Nat):Ap O w n m<=Ap O w n m':=by induction h with|slnil=>omega|cons p _ ih=>grind[Ap]|cons_cons p _ ih=>grind[Ap]
def ALn (tmps:Array Value) (r:ResultVar):Sem Value:=match r with|.tmp t=>pure (tmps.getD t undef)|.cell i t=>do loadVar t (<-asAddr (tmps.getD i undef))
def AXI (rs:List ResultVar): ∀ {af:List AVal}{st:St}{xs:List AVal}{st':St},Sim E F O st w af a.tmps.toList->RX E rs af st=some (xs,st')->∃vs,(rs.mapM (ALn a.tmps)).run E.P w=.ok vs w/\RepL O xs vs/\ownL O w xs vs/\st'.next=st.next/\∃af',Sim E F O st' w af' a.tmps.toList/\∀b,AP b af' a.tmps.toList+AP b xs vs+Ap O w b st'.m=AP b af a.tmps.toList+Ap O w b st.m:=by
 induction rs with
 |nil=>intro af st xs st' hs h;simp only[RX,ag,aA]at h;obtain⟨rfl,rfl⟩:=h;exact⟨[],fI,.nil,by simp[ownL],rfl,af,hs,λb=>by simp[AP]⟩
 | cons x rs ih=>
  intro af st xs st' hs h;cases x with
  | tmp t=>
   simp only[RX]at h;cases hr:RX E rs (stripAt af (.tmp t)) st with
   |none=>grind
   |some p=>
    simp only[hr,aN,ag,aA]at h;obtain⟨rfl,rfl⟩:=h;obtain⟨vs,r1,r2,r3,r4,af',r5,r6⟩:=ih (hs.stripAt (.tmp t)) hr;refine⟨a.tmps.getD t undef::vs,?_,.cons (hs.rd 0 (.tmp t)) r2,?_,r4,af',r5,λb=>?_⟩;·rw[List.mapM_cons,aI];simp only[ALn,bu,aC];rw[aI,r1];rfl
    ·rw[ownL];exact⟨hs.rd_own 0 (.tmp t),r3⟩
    ·have:=r6 b;have:=hs.rd_cnt 0 (.tmp t) b;grind[rd,Act.eval,AP]
  | cell i t=>
   simp only[RX]at h;split at h
   ·rename_i r st1 hc;cases hr:RX E rs af st1 with
    |none=>grind
    |some p=>
     simp only[hr,aN,ag,aA]at h;obtain⟨rfl,rfl⟩:=h;obtain⟨u,c1,c2,c3,c4,c5,c6⟩:=ADi hs (hs.rd 0 (.tmp i)) hc;obtain⟨vs,r1,r2,r3,r4,af',r5,r6⟩:=ih c4 hr;refine⟨u::vs,?_,.cons c2 r2,by grind[ownL],fH,af',r5,λb=>?_⟩;·rw[List.mapM_cons,aI];simp_all[Act.eval,ALn]
     grind[AP]
   grind
theorem NG {f:FuncId}{fn:Func}{c:Code}{args:List AVal}{Q:AVal->St->Prop} (hf:E.P.funcs[f]?=some fn) (hb:fn.body=some c)
    (h:AWp E c (KH E fn Q) (args++List.replicate (fn.ntmps-args.length) .any) st):ACall E f args st Q:=by
  constructor
  intro F O w cargs hs
  have hlen:args.length=cargs.size:=by rw[hs.rep.length,aD]
  have hrepl: ∀n,RepL O (List.replicate n .any) (List.replicate n undef)/\ownL O w (List.replicate n .any) (List.replicate n undef)/\ ∀b,AP b (List.replicate n .any) (List.replicate n undef)=0:=by
    intro n
    induction n with
    |zero=>exact⟨.nil,by simp[ownL],λb=>by simp[AP]⟩
    |succ n ih=>exact⟨.cons (.any _) ih.1,by grind[ownL,VM.own],λb=>by grind[AP,cnt]⟩
  have happ: ∀(xs:List AVal) (vs:List Value),xs.length=vs.length->ownL O w xs vs-> ∀n,ownL O w (xs++List.replicate n .any) (vs++List.replicate n undef)/\ ∀b,AP b (xs++List.replicate n .any) (vs++List.replicate n undef)=AP b xs vs:=by
    intro xs
    induction xs with
    |nil=>grind[AP]
    | cons x xs ih=>intro vs hl ho n;cases vs with
      |nil=>grind
      | cons v vs=>
        grind[ownL,AP]
  have htm:(cargs++Array.replicate (fn.ntmps-cargs.size) undef).toList=cargs.toList++List.replicate (fn.ntmps-args.length) undef:=by
    grind[Array.toList_append,Array.toList_replicate]
  refine calls_of_wp hf hb (fg (h.go F O w {tmps:=cargs++Array.replicate (fn.ntmps-cargs.size) undef,defers:=[]} rfl ?_) ?_)
  . simp only
    rw[htm]
    obtain⟨o1,o2⟩:=happ args cargs.toList hs.rep.length hs.own (fn.ntmps-args.length)
    exact {hs with rep:=hs.rep.append (hrepl _).1,own:=o1,tok:=λb=>by rw[o2 b];exact hs.tok b}
  . intro e a' w' hq
    obtain⟨h0,hd,O',af',st',x1,n1,s1,q1⟩:=hq
    have fin:(match RX E fn.results.toList af' st' with
        |some (rs,st')=> ∃m,m.Sublist st'.m/\Q (match rs with|[r]=>r|rs=>.tuple rs) {st' with m:=m}
        |none=>False)-> ∃v,(results fn a'.tmps).run E.P w'=.ok v w'/\ ∃v1,Ending.returned v=.returned v1/\ ∃O' r st',Ext F O w O' w'/\st.next<=st'.next/\Sim E F O' st' w' [r] [v1]/\Q r st':=by
      intro q
      split at q
      . rename_i rs st2 hres
        obtain⟨m,hm,hQ⟩:=q
        obtain⟨vs,r1,r2,r3,r4,af2,r5,r6⟩:=AXI fn.results.toList s1 hres
        have hrun:(results fn a'.tmps).run E.P w'=.ok (if h:vs.toArray.size=1 then vs.toArray[0]else .tuple vs.toArray) w':=by
          have e:results fn a'.tmps=(do
            let vs<-fn.results.mapM (ALn a'.tmps)
            pure (if h:vs.size=1 then vs[0]else .tuple vs)):=rfl
          rw[e,Array.mapM_eq_mapM_toList,aI,Sem.run_map,r1]
          rfl
        refine⟨_,hrun,_,rfl,O',_,{st2 with m:=m},x1,by grind,?_,hQ⟩
        have s2:=r5.fewer hm
        have hcm: ∀n,Ap O' w' n m<=Ap O' w' n st2.m:=λn=>AUU hm n
        have htok: ∀b,F b+AP b rs vs+Ap O' w' b m<=1:=by
          intro b
          have:=r6 b
          have:=s1.tok b
          grind
        cases r2 with
        | nil=>
          simp only[dn,ap]
          exact {s2 with rep:=.cons (.tuple .nil) .nil,own:=by simp[ownL,VM.own],tok:=λb=>by grind[AP,cnt]}
        | cons hr t=>
          cases t with
          | nil=>
            simp only[dn,ae,ap,bI,dite_true]
            exact {s2 with rep:=.cons hr .nil,own:=r3,tok:=htok}
          | cons hy t=>
            rename_i x v y u xs us
            have hne: ¬((v::u::us:List Value).toArray.size=1):=fI
            rw[dif_neg hne]
            have hrp:RepL O' (x::y::xs) (v::u::us):=.cons hr (.cons hy t)
            exact {s2 with rep:=.cons (.tuple fH) .nil,own:=by grind[ownL,VM.own],tok:=λb=>by grind[AP,cnt]}
      grind
    cases e with
    |normal=>obtain⟨v,hr,hR⟩:=fin q1;exact⟨hd,v,hr,hR⟩
    |ret=>obtain⟨v,hr,hR⟩:=fin q1;exact⟨hd,v,hr,hR⟩
    |exit id=>exact q1.elim
    |goto l=>grind
    |panic c=>grind
    |outgrown=>grind
end
end Go.VM
namespace Go.VM
section
variable{E:Env}{st:St}{af:List AVal}{Q:APost}
inductive kPost (K:List AVal->St->Prop) (Q:APost):APost|nrm{af:List AVal}{st:St} (h:K af st):kPost K Q .normal af st|oth{e:Exit}{af:List AVal}{st:St} (hne:e≠ .normal) (h:Q e af st):kPost K Q e af st
def kPost.get{K:List AVal->St->Prop} (h:kPost K Q .normal af st):K af st:=by cases h with|nrm h=>exact h|oth hne h=>grind
def kPost.out{K:List AVal->St->Prop}{e:Exit} (h:kPost K Q e af st) (hne:e≠ .normal):Q e af st:=by cases h with|nrm h=>grind|oth hne h=>exact h
def Oj{K:List AVal->St->Prop} (h:K af st):kPost K Q .normal af st:=.nrm h
end
end Go.VM
namespace Go.VM
def slots (o:Oper):List Tmp:=o.op.operands.toList.filterMap λ|.tmp t=>some t|_=>none
def Rc{o:Oper}{d:Tmp} (h:d∉slots o){x:Operand} (hx:x∈o.op.operands):x≠ .tmp d:=by intro e;subst e;exact h (List.mem_filterMap.2 ⟨.tmp d,by grind,rfl⟩)
section
variable{E:Env}{af:List AVal}{st:St}{d:Tmp}{v:AVal}
theorem BR{t:TypeId}{x:Operand} (h:x≠ .tmp d):rd E (af.set d v) t x=rd E af t x:=by cases x with|tmp i=>grind[rd,List.getD]|_=>rfl
def I7{x:Operand} (h:x≠ .tmp d):stripAt (af.set d v) x=(stripAt af x).set d v:=by cases x with|tmp i=>grind[stripAt,List.set_comm,List.getD,List.getElem?_set_ne]|_=>rfl
theorem BC{dst:Option Tmp} (h:dst≠some d) (r:AVal):Ac (af.set d v) dst r=(Ac af dst r).set d v:=by cases dst with|none=>rfl|some e=>grind[Ac,List.set_comm]
theorem AAw{x:Option Operand} (h: ∀y,x=some y->y≠ .tmp d):rdo E (af.set d v) x=rdo E af x:=by cases x with|none=>rfl|some y=>simp only[rdo,BR (h y rfl)]
theorem APL: ∀(xs:List Operand) (ts:List TypeId),(∀x,x∈xs->x≠ .tmp d)->rdL E (af.set d v) xs ts=rdL E af xs ts|[],_,_=>rfl|x::xs,[],h=>by simp only[rdL,BR (h x fI),APL xs [] (λy hy=>h y (aX _ hy))]|x::xs,t::ts,h=>by simp only[rdL,BR (h x fI),APL xs ts (λy hy=>h y (aX _ hy))]
theorem Rn{ty:Nat->TypeId}: ∀(ps:List (Nat×Operand)){af:List AVal},(∀p,p∈ps->p.2≠ .tmp d)->(Bb E ty (af.set d v) ps).1=(Bb E ty af ps).1.set d v/\(Bb E ty (af.set d v) ps).2=(Bb E ty af ps).2|[],_,_=>⟨rfl,rfl⟩|(i,x)::ps,af,h=>by have hx:=h (i,x) fI;obtain⟨h1,h2⟩:=Rn ps (af:=stripAt af x) (λp hp=>h p (aX _ hp));simp only[Bb,I7 hx,BR hx];exact⟨h1,by rw[h2]⟩
def LP{o:Oper} (h:d∉slots o):Dv E o (af.set d v)=Dv E o af:=by
 have hx:=λx=>Rc h (x:=x);unfold Dv;split;·grind[Op.operands,BR]
 ·grind[Op.operands,BR]
 ·grind[Op.operands,BR]
 ·grind[Op.operands,BR]
 ·grind[Op.operands,BR]
 ·grind[Op.operands,rd,List.map_congr_left,BR]
 ·grind[Op.operands,BR]
 ·grind[Op.operands,BR]
 ·grind[Op.operands,BR]
 ·grind[Op.operands,BR]
 ·grind[Op.operands,Call.operands,BR]
 ·rename_i x y ts hop;simp only[hop,Op.operands,Call.operands]at hx;grind[BR]
 ·rename_i x y ts hop;simp only[hop,Op.operands,Call.operands]at hx;grind[BR]
 ·grind[Op.operands,Call.operands,BR]
 ·rename_i x y t s hop;simp only[hop,Op.operands,Call.operands]at hx;grind[BR]
 ·rfl
def AcI{x:Operand} (h:x≠ .tmp d):nameV (af.set d v) x=nameV af x:=by cases x with|tmp i=>have:d≠i:=λe=>h (by rw[e]);simp[nameV,List.getD,cP this]|_=>rfl
def Al1{b:Bool}{x:Operand} (h:x≠ .tmp d):ADK b (af.set d v) x st=ADK b af x st:=by
 cases b<;>cases x<;>try rfl
 rename_i j;have:j≠d:=λe=>h (by rw[e]);simp[ADK,List.getD,cP (dI this)]
def Ajg{b:Bool}{x:Operand}{j i w:Nat}{xs:List AVal} (h:ADK b af x st=some (j,i,w,xs)):x=.tmp j:=by
 unfold ADK at h;split at h;·obtain⟨p,_,e⟩:=aV.1 h;cases e;rfl
 ·cases h
def AdU{x:Operand}{i w:Nat}{xs:List AVal} (h:nameV af x=some (i,w,xs)):x=.tmp i:=by
 unfold nameV at h;split at h
 ·split at h;·cases h;rfl
  ·cases h
 ·cases h
def AdR{x:Operand}{t:TypeId} (h:x≠ .tmp d):Z0 E (af.set d v) x t st=Z0 E af x t st:=by cases x with|tmp i=>simp only[Z0,BR h]|_=>rfl
theorem WK{mv:List Tmp}{o:Oper} (h:d∉slots o) (hd:o.dst≠some d):EQ E mv o (af.set d v) st=(EQ E mv o af st).map λp=>(p.1.set d v,p.2):=by
 have hx:=λx=>Rc h (x:=x);unfold EQ;split
 ·rename_i x hop;simp only[hop,Op.operands]at hx;split
  ·rw[AcI (hx x fI)];cases hn:nameV af x with
   |none=>rw[Al1 (hx x fI)];cases hf:ADK (AEL mv o.dst) af x st with|none=>simp[BR (hx x fI),I7 (hx x fI),BC hd]|some p=>obtain⟨j,i,w,xs⟩:=p;have hi:j≠d:=λe=>hx x fI (by rw[Ajg hf,e]);simp only[aN];rw[cT _ _ (dI hi)];simp[BC hd]
   |some p=>obtain⟨i,w,xs⟩:=p;have hi:i≠d:=λe=>hx x fI (by rw[AdU hn,e]);simp only[aN];rw[cT _ _ (dI hi)];simp[BC hd]
  ·simp[BR (hx x fI),BC hd]
 ·rename_i x hop;simp only[hop,Op.operands]at hx;split;·rw[AdR (hx x fI)];cases AC0 E o with|some w=>simp[BC hd]|none=>cases Z0 E af x o.type st<;>simp[BR (hx x fI),I7 (hx x fI),BC hd]
  ·simp[BR (hx x fI),I7 (hx x fI),BC hd]
 ·rename_i t hop;split;·cases WM E.P t st.next<;>simp[BC hd]
  ·cases Co E.P t st.next<;>simp[BC hd]
 ·rename_i t x hop;simp only[hop,Op.operands]at hx;rw[BR (hx x fI),I7 (hx x fI)];split<;>simp[BC hd]
 ·rename_i t ps hop;simp only[hop,Op.operands]at hx;obtain⟨h1,h2⟩:=Rn (E:=E) (v:=v) (ty:=AR E.P t) ps (af:=af) (λp hp=>hx p.2 (by grind));rw[h1,h2];cases Ur E t (Bb E (AR E.P t) af ps).2<;>simp[BC hd]
 ·rename_i t len ps hop;simp only[hop,Op.operands]at hx;obtain⟨h1,h2⟩:=Rn (E:=E) (v:=v) (ty:=λ_=>AR E.P t 0) ps (af:=af) (λp hp=>hx p.2 (by grind));rw[h2,h1];split;·cases I4 E t len (Bb E (λ_=>AR E.P t 0) af ps).2<;>simp[BC hd]
  ·cases IB E t len (Bb E (λ_=>AR E.P t 0) af ps).2<;>simp[BC hd]
 ·rename_i t x hop;simp only[hop,Op.operands]at hx;rw[BR (hx x fI)];split;·cases R8 E t (rd E af 0 x) st<;>simp[BC hd]
  ·cases SL E t (rd E af 0 x) st<;>simp[BC hd]
 ·rename_i t x y hop;simp only[hop,Op.operands]at hx;rw[BR (hx x fI),BR (hx y fI),I7 (hx y fI)];split;·cases O3 E t (rd E af 0 x) (rd E af t y) st<;>simp
  ·simp
 ·rename_i t n hop;simp only[hop,Op.operands]at hx;have ht:d≠t:=λe=>hx (.tmp t) fI (by rw[e]);have hg:(af.set d v).getD t .any=af.getD t .any:=by grind
  rw[hg];split;·rename_i vs hvs;cases vs[n]? with|none=>simp|some r=>grind[List.set_comm,BC]
  ·simp
 ·rename_i t x hop;simp only[hop,Op.operands]at hx;rw[BR (hx x fI)];split<;>grind[BC]
 ·grind[Op.operands,List.getD,List.getElem?_set_ne,AE4,List.set_comm,BC]
 ·rename_i t x lo hi mx hop;simp only[hop,Op.operands]at hx;rw[BR (hx x fI),AAw (λy hy=>hx y (by grind)),AAw (λy hy=>hx y (by grind)),AAw (λy hy=>hx y (by grind))];split;·rename_i l hh m h1 h2 h3;cases GD E t (rd E af t x) l hh m with|some r=>simp[BC hd]|none=>cases SB E t (rd E af t x) l hh m st<;>simp[BC hd]
  ·simp
 ·rename_i x y t0 t1 ts hop;simp only[hop,Op.operands,Call.operands]at hx;rw[BR (hx x fI),BR (hx y fI),I7 (hx x fI)];split;·cases QS E t0 t1 (rd E af t0 x) (rd E af t1 y)with|some r=>simp[BC hd]|none=>cases appW E x t0 t1 (rd E af t0 x) (rd E af t1 y) st<;>simp[BC hd]
  ·cases JM E t0 t1 (rd E af t0 x) (rd E af t1 y)with|some r=>simp[BC hd]|none=>cases AAN E t0 t1 (rd E af t0 x) (rd E af t1 y) st<;>simp[BC hd]
 ·rename_i x t0 ts hop;simp only[hop,Op.operands,Call.operands]at hx;rw[LP h];cases Dv E o af with|some r=>simp[BC hd]|none=>rw[BR (hx x fI)];cases ABE E t0 (rd E af t0 x) st<;>simp[BC hd]
 ·grind[BC]
 ·rename_i t m k ok hop;simp only[hop,Op.operands]at hx;rw[BR (hx m fI),BR (hx k fI)];cases UT E t (rd E af t m) (rd E af 0 k) ok st<;>simp[BC hd]
 ·rename_i t m k x hop;simp only[hop,Op.operands]at hx;rw[BR (hx m fI),BR (hx k fI),BR (hx x fI)];split;·cases Vh E t (rd E af t m) (rd E af 0 k) (rd E af 0 x) st<;>simp
  ·simp
 ·rename_i t m k x hop;simp only[hop,Op.operands]at hx;rw[BR (hx m fI),BR (hx k fI),BR (hx x fI)];split;·cases Vh E t (rd E af t m) (rd E af 0 k) (rd E af 0 x) st<;>simp
  ·simp
 ·rename_i t x i hop;simp only[hop,Op.operands]at hx;rw[LP h];cases Dv E o af with|some r=>grind[BC]|none=>rw[BR (hx x fI),BR (hx i fI)];cases G9 E t (rd E af t x) (rd E af 0 i) st with|some r=>simp[BC hd]|none=>cases RB E t (rd E af t x) (rd E af 0 i) st<;>simp[BC hd]
 ·rename_i t x y hop;simp only[hop,Op.operands]at hx;rw[BR (hx x fI),BR (hx y fI)];split;·cases Xu E t (rd E af 0 x) (rd E af 0 y) st<;>simp[BC hd]
  ·cases Xw E t (rd E af 0 x) (rd E af 0 y) st<;>simp[BC hd]
 ·rename_i s e x hop;simp only[hop,Op.operands]at hx;rw[LP h];cases Dv E o af with|some r=>grind[BC]|none=>rw[BR (hx x fI)];cases UH E s e (rd E af s x) st with|some r=>grind[BC]|none=>cases SQ E s e (rd E af s x) st<;>simp[BC hd]
 ·rename_i x t0 ts hop;simp only[hop,Op.operands,Call.operands]at hx;rw[BR (hx x fI),I7 (hx x fI)];cases UC (rd E af t0 x)<;>simp[BC hd]
 ·rename_i x y t0 t1 hop;simp only[hop,Op.operands,Call.operands]at hx;rw[BR (hx x fI),BR (hx y fI),I7 (hx x fI)];cases YG E t0 (rd E af t0 x) (rd E af t1 y)<;>simp[BC hd]
 ·rw[LP h];cases Dv E o af<;>simp[BC hd]
def ATA{mv:List Tmp}{o:Oper}{K:List AVal->St->Prop} (h:d∉slots o) (hd:o.dst≠some d) (hw:DJ E mv o (af.set d v) st K):DJ E mv o af st λaf' st'=>K (af'.set d v) st':=by
 have hx:=λx=>Rc h (x:=x);unfold DJ at *;split at hw;·grind[Op.operands,Call.operands,BR,APL,BC]
 ·rename_i x y t0 t1 ts hop;simp only[hop,Op.operands,Call.operands]at hx;rw[BR (hx x fI),BR (hx y fI),WK h hd]at hw;split at hw
  ·split at hw;·rename_i wd l cs rest jo hab;rw[an fH];grind[BC]
   grind
  ·rw[aj fH];grind
 ·rename_i op t x y _ hop;simp only[hop,Op.operands]at hx;rw[WK h hd,BR (hx x fI)]at hw;split at hw;·rename_i hn;rw[an hn];grind[BC]
  ·rename_i hn;rw[aj hn];grind
 grind[WK,EQ]
end
def Ei (E:Env) (o:Oper) (af:List AVal) (st:St):Option AVal:=match o.op with
 |.move x=>some (rd E af o.type x).strip
 |.load t x=>(SL E t (rd E af 0 x) st).map AVal.strip
 |.slice t x lo hi mx=>match rdo E af lo,rdo E af hi,rdo E af mx with|some l,some h,some m=>GD E t (rd E af t x) l h m|_,_,_=>none
 |.buildSlice t len ⟨ps⟩=>IB E t len (Bb E (λ_=>AR E.P t 0) af ps).2
 |.assign _=>none
 |.alloc _=>none
 |.box _ _=>none
 |.build _ _=>none
 |.store _ _ _=>none
 |.extract _ _=>none
 |.range _ _=>none
 |.next _ _=>none
 |.call {callee:=.builtin .append,args:=_,argTypes:=_}=>none
 |.indexAddr t x i=>match Dv E o af with|some r=>some r.strip|none=>match G9 E t (rd E af t x) (rd E af 0 i) st with|some _=>none|none=>RB E t (rd E af t x) (rd E af 0 i) st
 |.call {callee:=.builtin .len,args:=⟨[x]⟩,argTypes:=⟨t::_⟩}=>match Dv E o af with|some r=>some r.strip|none=>ABE E t (rd E af t x) st
 |_=>(Dv E o af).map AVal.strip
def ARP{E:Env}{o:Oper}{af:List AVal}{st:St}{r:AVal} (h:Ei E o af st=some r):EQ E [] o af st=some (Ac af o.dst r,st):=by
 have hm: ∀dst,QE [] dst=false:=λdst=>by cases dst<;>rfl
 unfold Ei at h;unfold EQ;split at h;·grind
 ·rename_i t x hop;simp only[hop,hm,aq,az];cases hl:SL E t (rd E af 0 x) st with|none=>grind|some z=>grind
 ·grind
 ·grind
 all_goals (try (cases h;done))
 ·rename_i t x i hop;simp only[hop];split at h;·rename_i z hz;cases h;simp only[hz]
  ·rename_i hz;split at h;·cases h
   ·rename_i hz2;simp only[hz,hz2,h,aN]
 ·rename_i x t ts hop;simp only[hop];split at h;·rename_i z hz;cases h;simp only[hz]
  ·rename_i hz;simp only[hz,h,aN]
 ·split;all_goals first|grind|grind[Dv]|(cases hp:Dv E o af with|none=>grind|some z=>grind)
theorem AZG{E:Env}{o:Oper}{af:List AVal}{st:St}{d:Tmp}{v:AVal} (h:d∉slots o):Ei E o (af.set d v) st=Ei E o af st:=by
 have hx:=λx=>Rc h (x:=x);unfold Ei;split;·grind[Op.operands,BR]
 ·grind[Op.operands,BR]
 ·grind[Op.operands,BR,AAw]
 ·grind[Op.operands,Rn,AR]
 all_goals (try (first|rfl|(rw[LP h];done)))
 ·rename_i t x i hop;simp only[hop,Op.operands]at hx;rw[LP h,BR (hx x fI),BR (hx i fI)]
 ·rename_i x t ts hop;simp only[hop,Op.operands,Call.operands]at hx;rw[LP h,BR (hx x fI)]
def Ot (E:Env) (ops:Array Oper) (o:Oper) (af:List AVal) (st:St):Option AVal:=match o.guard with|none=>Ei E o af st|some (j,want)=>match gdA ops af j want with|some true=>Ei E o af st|some false=>some (.tuple [])|none=>none
def gWp (E:Env) (mv:List Tmp) (ops:Array Oper) (o:Oper) (af:List AVal) (st:St) (K:List AVal->St->Prop):Prop:=match o.guard with|none=>DJ E mv o af st K|some (j,want)=>match gdA ops af j want with|some true=>DJ E mv o af st K|some false=>K (Ac af o.dst (.tuple [])) st|none=>False
theorem UW{ops:Array Oper}{o:Oper}{d:Tmp} (h:d∉o.looksAt ops):d∉slots o:=λhm=>h (cQ _ hm)
theorem guard_looks{ops:Array Oper}{o:Oper}{d g j:Nat}{want:Bool} (h:d∉o.looksAt ops) (hg:o.guard=some (j,want)) (hd:(ops[j]?).bind (·.dst)=some g):d≠g:=λe=>by subst e;exact h (cJ _ (by grind))
theorem AZq{ops:Array Oper}{o:Oper}{af:List AVal}{d j:Nat}{want:Bool}{v:AVal} (h:d∉o.looksAt ops) (hg:o.guard=some (j,want)):gdA ops (af.set d v) j want=gdA ops af j want:=by grind[gdA,guard_looks,List.getD,List.getElem?_set_ne]
def Yk{E:Env}{ops:Array Oper}{o:Oper}{af:List AVal}{st:St}{d:Tmp}{v:AVal} (h:d∉o.looksAt ops):Ot E ops o (af.set d v) st=Ot E ops o af st:=by grind[Ot,AZG,UW,AZq]
def AsN{E:Env}{mv:List Tmp}{ops:Array Oper}{o:Oper}{af:List AVal}{st:St}{d:Tmp}{v:AVal}{K:List AVal->St->Prop} (h:d∉o.looksAt ops) (hd:o.dst≠some d) (hw:gWp E mv ops o (af.set d v) st K):gWp E mv ops o af st λaf' st'=>K (af'.set d v) st':=by
 unfold gWp at *;split at hw;·exact ATA (UW h) hd hw
 ·rename_i j want hg;rw[AZq h hg]at hw;split at hw;·exact ATA (UW h) hd hw
  ·grind[BC]
  omega
section
variable{E:Env}{F:Nat->Nat}{O:Ghost}{st:St}{w:World}{af:List AVal}{a:Act}
def AFh{mv:List Tmp}{ops:Array Oper}{i:Nat}{o:Oper} (ho:ops[i]?=some o){K:List AVal->St->Prop}{K':Act->World->Prop}{Qc:Exit->Act->World->Prop} (hd:a.defers=[]) (hs:Sim E F O st w af a.tmps.toList) (h:gWp E mv ops o af st K) (hK: ∀O' af' st' a' w',Ext F O w O' w'->st.next<=st'.next->a'.defers=[]->Sim E F O' st' w' af' a'.tmps.toList->K af' st'->K' a' w'):wpOp E.P ops Qc i K' a w:=by
 unfold wpOp;simp only[ho];unfold gWp at h;split at h;·rename_i hg;rw[an (by grind[Region.wanted])];exact .inl (Ws h F O w a hd hs K' Qc hK)
 ·rename_i j want hg;split at h;·rename_i hgd;rw[an (by rw[QU hg,VR hs hgd])];exact .inl (Ws h F O w a hd hs K' Qc hK)
  ·rename_i hgd;rw[aj (by rw[QU hg,VR hs hgd];simp)];exact hK O _ st _ w (Ext.refl _ _ _) (av _) (by grind[put_defers]) (hs.skipped o.dst) h
  grind
theorem AnD{E:Env}{t:TypeId}{w:Nat}{x:AVal}:FO E .eql t x (.slice w [] true)=none:=by cases x<;>simp[FO,Rz,AEa]
def Aev{mv:List Tmp}{ops:Array Oper}{o:Oper}{r:AVal} (h:Ot E ops o af st=some r):gWp E [] ops o af st λaf' st'=>af'=Ac af o.dst r/\st'=st:=by
 have key: ∀r,Ei E o af st=some r->DJ E [] o af st λaf' st'=>af'=Ac af o.dst r/\st'=st:=by
  intro r hr;have hst:=ARP hr;unfold DJ;split;·grind[Ei,Dv]
  ·grind[Ei]
  ·rename_i op t x y _ hop;split;·rename_i hn;obtain⟨rfl,rfl⟩:=Aan hn;grind[Ei,Dv,rd,KJ,AnD]
   simp_all
  simp_all
 unfold Ot at h;unfold gWp;split at h;·grind
 ·split at h;·exact key r h
  ·simp only[ag]at h;subst h;exact⟨rfl,rfl⟩
  ·cases h
end
end Go.VM
namespace Go.VM
inductive Plan where|done|take (i:Nat) (p:Plan)|alt (i:Nat) (chk:List Nat) (p rest:Plan)|stop
def Plan.tk:Nat->Nat->Plan->Plan|_,0,p=>p|n,k+1,p=>.take n (Plan.tk (n+1) k p)
def dnL:Nat->Nat->List Nat->List Nat|_,0,l=>l|a,k+1,l=>a::dnL (a-1) k l
def exL:List (Nat×Nat)->List Nat|[]=>[]|(a,k)::l=>dnL a k (exL l)
def Plan.ar (n:Nat) (l:List (Nat×Nat)) (p r:Plan):Plan:=.alt n (exL l) p r
def Plan.al (n:Nat) (l:List (Nat×Nat)) (p:Plan):Plan:=.alt n (exL l) p .stop
theorem AzY{n:Nat}{p:Plan}:Plan.tk n 0 p=p:=rfl
theorem Azj{n k:Nat}{p:Plan}:Plan.tk n (k+1) p=.take n (Plan.tk (n+1) k p):=rfl
theorem Axw{a:Nat}{l:List Nat}:dnL a 0 l=l:=rfl
theorem Axi{a k:Nat}{l:List Nat}:dnL a (k+1) l=a::dnL (a-1) k l:=rfl
theorem Ay0:exL []=[]:=rfl
theorem AyI{a k:Nat}{l:List (Nat×Nat)}:exL ((a,k)::l)=dnL a k (exL l):=rfl
theorem Azu{n:Nat}{l:List (Nat×Nat)}{p r:Plan}:Plan.ar n l p r=.alt n (exL l) p r:=rfl
theorem Azx{n:Nat}{l:List (Nat×Nat)}{p:Plan}:Plan.al n l p=.alt n (exL l) p .stop:=rfl
def plE:=ac (@AzY) (ac (@Azj) (ac (@Axw) (ac (@Axi) (ac Ay0 (ac (@AyI) (ac (@Azu) (@Azx)))))))
def Plan.alts:Plan->List Nat|.alt i _ _ rest=>i::rest.alts|_=>[]
def Plan.sub (j:Nat):Plan->Option (List Nat×Plan)|.alt i chk p rest=>if i=j then some (chk,p)else rest.sub j|_=>none
def Awu (o:Oper) (k:Nat):Bool:=o.after.any λe=>Region.binds .any e&&e.on==k
def AVn (ops:Array Oper) (listed:Array Bool) (taken:List Nat) (i:Nat):Bool:=
  match ops[i]? with
  | some o=>
    match o.dst with
    |some d=>Region.free .any ops listed i&&!(o.looksAt ops).contains d&&taken.all λj=>match ops[j]? with|some oj=>!(oj.looksAt ops).contains d&&oj.dst !=some d|none=>false
    |none=>false
  |none=>false
def AaL (ops:Array Oper) (taken:List Nat) (i:Nat) (chk:List Nat):Bool:=match ops[i]? with|some o=>taken.all λk=>chk.contains k||Awu o k|none=>false
def Jr (ops:Array Oper):Plan->Bool->Array Bool->List Nat->Bool|.done,mode,listed,_=>!mode&&(Region.ready .any ops listed).isEmpty|.take i p,mode,listed,taken=>!mode&&(Region.ready .any ops listed).contains i&&AVn ops listed taken i&&Jr ops p false (listed.setIfInBounds i true) (i::taken)|.alt i chk p rest,mode,listed,taken=>(mode||(Region.ready .any ops listed).all λj=>(i::rest.alts).contains j)&&(Region.ready .any ops listed).contains i&&AaL ops taken i chk&&Jr ops p false (listed.setIfInBounds i true) taken&&Jr ops rest true listed taken|.stop,mode,_,_=>mode
def YB:List (Nat×AVal)->Nat->Option AVal|[],_=>none|(j,r)::tv,k=>if k=j then some r else YB tv k
def R4 (E:Env) (ops:Array Oper) (tv:List (Nat×AVal)) (af:List AVal) (st:St):List Nat->Prop|[]=>True|k::ks=>(match YB tv k,ops[k]? with|some r,some o=>Ot E ops o af st=some r|_,_=>False)/\R4 E ops tv af st ks
def Ho (E:Env) (mv:List Tmp) (ops:Array Oper):Plan->List (Nat×AVal)->(List AVal->St->Prop)->List AVal->St->Prop
  |.done,_,K,af,st=>K af st
  | .take i p,tv,K,af,st=>
    match ops[i]? with
    | some o=>
      match Ot E ops o af st with
      |some r=>Ho E mv ops p ((i,r)::tv) K (Ac af o.dst r) st
      |none=>False
    |none=>False
  | .alt i chk p rest,tv,K,af,st=>
    (match ops[i]? with
      |some o=>gWp E mv ops o af st λaf' st'=>R4 E ops tv af' st' chk/\Ho E mv ops p tv K af' st'
      |none=>False)/\Ho E mv ops rest tv K af st
  |.stop,_,_,_,_=>True
def Kz (ops:Array Oper) (i:Nat):Option Tmp:=(ops[i]?).bind (·.dst)
def Io (ops:Array Oper) (af:List AVal):List (Nat×AVal)->List AVal|[]=>af|(i,r)::pend=>Io ops (Ac af (Kz ops i) r) pend
theorem Ue (ops:Array Oper) (pend:List (Nat×AVal)) (i:Nat) (r:AVal): ∀af,Io ops af (pend++[(i,r)])=Ac (Io ops af pend) (Kz ops i) r:=by induction pend with|nil=>intro af;rfl|cons p pend ih=>intro af;exact ih _
def AKk{E:Env}{ops:Array Oper}{o:Oper}{st:St} (pend:List (Nat×AVal)): ∀af,(∀p,p∈pend->∀d,Kz ops p.1=some d->d∉o.looksAt ops)->Ot E ops o (Io ops af pend) st=Ot E ops o af st:=by induction pend with|nil=>intro af _;rfl|cons p pend ih=>intro af h;obtain⟨i,r⟩:=p;simp only[Io];rw[ih _ (λq hq=>h q (aX _ hq))];cases hd:Kz ops i with|none=>rfl|some d=>exact Yk (h (i,r) fI d hd)
def AVo{E:Env}{mv:List Tmp}{ops:Array Oper}{o:Oper}{st:St} (pend:List (Nat×AVal)): ∀ {af:List AVal}{K:List AVal->St->Prop},(∀p,p∈pend->∀d,Kz ops p.1=some d->d∉o.looksAt ops/\o.dst≠some d)->gWp E mv ops o (Io ops af pend) st K->gWp E mv ops o af st λaf' st'=>K (Io ops af' pend) st':=by induction pend with|nil=>intro af K _ h;exact h|cons p pend ih=>intro af K h hw;obtain⟨i,r⟩:=p;simp only[Io]at hw⊢;have h1:=ih (λq hq=>h q (aX _ hq)) hw;cases hd:Kz ops i with|none=>rw[hd]at h1;exact h1|some d=>rw[hd]at h1;obtain⟨a1,a2⟩:=h (i,r) fI d hd;exact AsN (K:=λaf' st'=>K (Io ops af' pend) st') a1 a2 h1
def Ae5{af:List AVal}{d e:Option Tmp}{x y:AVal} (h: ∀t,d=some t->e≠some t):Ac (Ac af d x) e y=Ac (Ac af e y) d x:=by cases d with|none=>rfl|some d=>cases e with|none=>rfl|some e=>have:d≠e:=λhe=>h d rfl (by rw[he]);grind[Ac,List.set_comm]
def XN{ops:Array Oper}{i:Nat}{r:AVal} (pend:List (Nat×AVal)): ∀af,(i,r)∈pend->(pend.map (·.1)).Nodup->(∀p q,p∈pend->q∈pend->p.1≠q.1->∀t,Kz ops p.1=some t->Kz ops q.1≠some t)->Io ops af pend=Io ops (Ac af (Kz ops i) r) (pend.filter λp=>p.1 !=i):=by
 induction pend with
 |nil=>simp
 | cons p pend ih=>
  intro af h hn hd;obtain⟨j,s⟩:=p;simp only[aF,bY]at hn;by_cases hij:j=i
  ·subst hij;have hsr:s=r:=by
    rcases aM.1 h with e|e;·grind
    ·exact absurd (bk.2 ⟨(j,r),e,rfl⟩) hn.1
   subst hsr;have hf:pend.filter (λp=>p.1 !=j)=pend:=List.filter_eq_self.2 λq hq=>by simp only[fe,ek];grind
   grind[Io]
  ·have hm:(i,r)∈pend:=by
    rcases aM.1 h with e|e;·cases e;omega
    omega
   have hne:(j !=i)=true:=by grind
   rw[dx,an hne];simp only[Io];rw[ih _ hm hn.2 (λp q hp hq=>hd p q (aX _ hp) (aX _ hq))];rw[Ae5 (λt ht=>hd (j,s) (i,r) fI h fH t ht)]
def OrdP (ops:Array Oper):(Nat->Prop)->List (Nat×AVal)->Prop|_,[]=>True|P,(i,_)::rest=>(∀o,ops[i]?=some o->∀e,e∈o.after->Region.binds .any e=true->P e.on)/\OrdP ops (λk=>P k\/k=i) rest
def OrdP.mono{ops:Array Oper}: ∀ {pend:List (Nat×AVal)}{P P':Nat->Prop},(∀k,P k->P' k)->OrdP ops P pend->OrdP ops P' pend|[],_,_,_,_=>trivial|(i,_)::rest,_,_,h,⟨h1,h2⟩=>⟨λo ho e he hb=>h _ (h1 o ho e he hb),OrdP.mono (λk hk=>hk.imp (h k) id) h2⟩
def OrdP.snoc{ops:Array Oper}{i:Nat}{r:AVal}: ∀ {pend:List (Nat×AVal)}{P:Nat->Prop},OrdP ops P pend->(∀o,ops[i]?=some o->∀e,e∈o.after->Region.binds .any e=true->P e.on\/e.on∈pend.map (·.1))->OrdP ops P (pend++[(i,r)])|[],P,_,h=>⟨λo ho e he hb=>(h o ho e he hb).resolve_right fI,trivial⟩|(j,_)::rest,P,⟨h1,h2⟩,h=>⟨h1,OrdP.snoc h2 λo ho e he hb=>by grind⟩
def OrdP.erase{ops:Array Oper}{k:Nat}: ∀ {pend:List (Nat×AVal)}{P:Nat->Prop},OrdP ops P pend->OrdP ops (λj=>P j\/j=k) (pend.filter λp=>p.1 !=k)
 |[],_,_=>trivial
 | (i,s)::rest,P,⟨h1,h2⟩=>by
  have ih:=OrdP.erase (k:=k) h2;by_cases hik:i=k;·grind
  ·have hne:(i !=k)=true:=by grind
   rw[dx,an hne];exact⟨λo ho e he hb=>.inl (h1 o ho e he hb),ih.mono λj hj=>by grind⟩
def Px (n:Nat) (listed:Array Bool):Nat:=(List.range n).countP λk=>!listed.getD k true
def ACi{i:Nat}{f g:Nat->Bool} (hf:f i=false) (hg:g i=true) (h: ∀k,k≠i->f k=g k): ∀l:List Nat,l.countP f+l.count i=l.countP g|[]=>rfl|k::l=>by have ih:=ACi hf hg h l;grind
def XQ{n i:Nat}{listed:Array Bool} (hi:listed.getD i true=false) (hn:i<n):Px n (listed.setIfInBounds i true)+1<=Px n listed:=by
 have hlt:i<listed.size:=by grind
 have hset:(listed.setIfInBounds i true).getD i true=true:=fI;have hother: ∀k,k≠i->(listed.setIfInBounds i true).getD k true=listed.getD k true:=λk hk=>fy true (dI hk);unfold Px;have key:=λl=>ACi (i:=i) (f:=λk=>!(listed.setIfInBounds i true).getD k true) (g:=λk=>!listed.getD k true) fI (by grind) (λk hk=>by grind) l;grind
def Vv{n:Nat}{listed:Array Bool} (h:Px n listed=0){k:Nat} (hk:k<n):listed.getD k true=true:=by have:=List.countP_eq_zero.1 h k (eB.2 hk);grind
structure Inv (E:Env) (ops:Array Oper) (act asap:Array Bool) (taken:List Nat) (pend tv:List (Nat×AVal)) (af:List AVal) (st:St):Prop where
  sz1:act.size=ops.size
  sz2:asap.size=ops.size
  list: ∀k,k<ops.size->(asap.getD k true=true<->act.getD k true=true\/k∈pend.map (·.1))
  notin: ∀p,p∈pend->act.getD p.1 true=false/\p.1<ops.size/\p.1∈taken
  nodup:(pend.map (·.1)).Nodup
  tvl: ∀p,p∈pend->YB tv p.1=some p.2
  val: ∀p,p∈pend-> ∀o,ops[p.1]?=some o->Ot E ops o (Io ops af pend) st=some p.2
  free: ∀p,p∈pend-> ∀d,Kz ops p.1=some d-> ∀j oj,ops[j]?=some oj->asap.getD j true=false->(∀e,e∈oj.after->Region.binds .any e=true->e.on≠p.1)->d∉oj.looksAt ops/\oj.dst≠some d
  self: ∀p,p∈pend-> ∀d o,Kz ops p.1=some d->ops[p.1]?=some o->d∉o.looksAt ops
  pair: ∀p q,p∈pend->q∈pend->p.1≠q.1-> ∀d,Kz ops p.1=some d->Kz ops q.1≠some d/\ ∀oq,ops[q.1]?=some oq->(∀e,e∈oq.after->Region.binds .any e=true->e.on≠p.1)->d∉oq.looksAt ops
  ord:OrdP ops (λk=>act.getD k false=true) pend
def TP{l:Array Bool}{k:Nat} (h:k<l.size):l.getD k false=l.getD k true:=by grind
section
variable{E:Env}{ops:Array Oper}
def Inv.ready_sub{act asap:Array Bool}{taken:List Nat}{pend tv:List (Nat×AVal)}{af:List AVal}{st:St} (I:Inv E ops act asap taken pend tv af st){j:Nat} (hj:j∈Region.ready .any ops act) (hp:j∉pend.map (·.1)):j∈Region.ready .any ops asap:=by
 obtain⟨h0,o,ho,h1⟩:=c9.1 hj;have hlt:j<ops.size:=(aU.1 ho).1;refine c9.2 ⟨?_,o,ho,λe he hb=>?_⟩;·cases h:asap.getD j true with|false=>rfl|true=>rcases (I.list j hlt).1 h with h|h<;>grind[absurd]
 ·have:=h1 e he hb;have hlt':e.on<act.size:=by grind
  rw[TP hlt']at this;rw[TP (by rw[I.sz2,<-I.sz1];omega)];exact(I.list e.on (by rw[<-I.sz1];omega)).2 (.inl this)
def Inv.some_ready{act asap:Array Bool}{taken:List Nat}{pend tv:List (Nat×AVal)}{af:List AVal}{st:St} (I:Inv E ops act asap taken pend tv af st) (h:Region.ready .any ops act=[]):pend=[]:=by
 cases hp:pend with
 |nil=>rfl
 |cons p rest=>
  exfalso;obtain⟨i,r⟩:=p;have hm:(i,r)∈pend:=by grind
  obtain⟨h0,hlt,_⟩:=I.notin _ hm;have hord:=I.ord;rw[hp]at hord;obtain⟨o,ho⟩: ∃o,ops[i]?=some o:=⟨ops[i],cK hlt⟩;have:i∈Region.ready .any ops act:=c9.2 ⟨h0,o,ho,λe he hb=>hord.1 o ho e he hb⟩;grind
def Inv.asap_ready{act asap:Array Bool}{taken:List Nat}{tv:List (Nat×AVal)}{af:List AVal}{st:St} (I:Inv E ops act asap taken [] tv af st){j:Nat} (hj:j∈Region.ready .any ops asap):j∈Region.ready .any ops act:=by
 obtain⟨h0,o,ho,h1⟩:=c9.1 hj;have hlt:j<ops.size:=(aU.1 ho).1;refine c9.2 ⟨?_,o,ho,λe he hb=>?_⟩;·cases h:act.getD j true with|false=>rfl|true=>have:=(I.list j hlt).2 (.inl h);grind
 ·have:=h1 e he hb;have hlt':e.on<asap.size:=by grind
  rw[TP hlt']at this;rw[TP (by rw[I.sz1,<-I.sz2];omega)];rcases (I.list e.on (by rw[<-I.sz2];exact hlt')).1 this with h|h<;>grind
def AC1{tv:List (Nat×AVal)}{af:List AVal}{st:St}: ∀ {chk:List Nat},R4 E ops tv af st chk->∀ {k:Nat},k∈chk->∃r o,YB tv k=some r/\ops[k]?=some o/\Ot E ops o af st=some r
 |[],_,_,h=>by cases h
 |x::xs,⟨h1,h2⟩,k,h=>by
  rcases aM.1 h with rfl|h;·grind
  ·exact AC1 h2 h
def ARy{mv:List Tmp}{listed:Array Bool}{taken:List Nat}{tv:List (Nat×AVal)}{K:List AVal->St->Prop}{af:List AVal}{st:St}: ∀ {p:Plan},Jr ops p true listed taken=true->Ho E mv ops p tv K af st->∀ {j:Nat},j∈p.alts->∃chk q o,ops[j]?=some o/\AaL ops taken j chk=true/\Jr ops q false (listed.setIfInBounds j true) taken=true/\gWp E mv ops o af st λaf' st'=>R4 E ops tv af' st' chk/\Ho E mv ops q tv K af' st'
 |.alt i chk p rest,hok,hw,j,hj=>by
  simp only[Jr,aw]at hok;simp only[Ho]at hw;rcases aM.1 hj with rfl|hj;·grind
  ·exact ARy hok.2 hw.2 hj
 |.done,_,_,_,h=>by cases h
 |.take _ _,_,_,_,h=>by cases h
 |.stop,_,_,_,h=>by cases h
def Inv.take{act asap:Array Bool}{taken:List Nat}{pend tv:List (Nat×AVal)}{af:List AVal}{st:St} (I:Inv E ops act asap taken pend tv af st){i:Nat}{o:Oper}{r:AVal} (hr:i∈Region.ready .any ops asap) (hok:AVn ops asap taken i=true) (ho:ops[i]?=some o) (hv:Ot E ops o (Io ops af pend) st=some r):Inv E ops act (asap.setIfInBounds i true) (i::taken) (pend++[(i,r)]) ((i,r)::tv) af st:=by
 obtain⟨h0,o',ho',hw⟩:=c9.1 hr;rw[ho]at ho';cases ho';have hlt:i<ops.size:=(aU.1 ho).1;have hact:act.getD i true=false:=by cases h:act.getD i true with|false=>rfl|true=>have:=(I.list i hlt).2 (.inl h);grind
 have hnp:i∉pend.map (·.1):=λh=>by have:=(I.list i hlt).2 (.inr h);grind
 unfold AVn at hok;rw[ho]at hok;simp only at hok;split at hok
 ·rename_i d hd;simp only[aw,eS,aL]at hok;obtain⟨⟨hfree,hself⟩,htk⟩:=hok;have hself':d∉o.looksAt ops:=by grind
  have hdst:Kz ops i=some d:=by grind[Kz]
  have hfr:=λj oj hj hne hun hno=>Oper.apart_spec (Region.free_spec ho hfree j oj hj hne hun hno);have htk': ∀j,j∈taken->∀oj,ops[j]?=some oj->d∉oj.looksAt ops/\oj.dst≠some d:=by intro j hj oj hoj;have:=htk j hj;simp_all
  have hset: ∀k,k≠i->(asap.setIfInBounds i true).getD k true=asap.getD k true:=λk hk=>fy true (dI hk);have hseti:(asap.setIfInBounds i true).getD i true=true:=fI;have hpne: ∀p,p∈pend->p.1≠i:=λp hp e=>hnp (bk.2 ⟨p,hp,e⟩);refine {sz1:=I.sz1,sz2:=by simp[I.sz2],list:=?_,notin:=?_,nodup:=?_,tvl:=?_,val:=?_,free:=?_,self:=?_,pair:=?_,ord:=?_}
  ·intro k hk;rw[cE,aZ];by_cases hki:k=i;·grind
   ·rw[hset k hki,I.list k hk];grind
  ·intro p hp;rcases aZ.1 hp with hp|hp;·obtain⟨a,b,c⟩:=I.notin p hp;grind
   grind
  ·rw[cE,List.nodup_append];refine⟨I.nodup,fI,?_⟩;grind
  ·intro p hp;rcases aZ.1 hp with hp|hp;·simp only[YB];rw[aj (hpne p hp)];exact I.tvl p hp
   grind[YB]
  ·intro p hp op hop;rw[Ue,hdst];rcases aZ.1 hp with hp|hp;·rw[show Ac (Io ops af pend) (some d) r=(Io ops af pend).set d r from rfl,Yk (htk' p.1 (I.notin p hp).2.2 op hop).1];exact I.val p hp op hop
   ·simp only[aY]at hp;subst hp;rw[ho]at hop;cases hop;rw[show Ac (Io ops af pend) (some d) r=(Io ops af pend).set d r from rfl,Yk hself'];omega
  ·intro p hp dd hdd j oj hoj hun hno;have hji:j≠i:=λe=>by grind
   rw[hset j hji]at hun;rcases aZ.1 hp with hp|hp;·exact I.free p hp dd hdd j oj hoj hun hno
   grind
  ·intro p hp dd op hdd hop;rcases aZ.1 hp with hp|hp;·exact I.self p hp dd op hdd hop
   grind
  ·intro p q hp hq hne dd hdd;rcases aZ.1 hp with hp|hp<;>rcases aZ.1 hq with hq|hq;·exact I.pair p q hp hq hne dd hdd
   ·simp only[aY]at hq;subst hq;simp only at hne⊢;refine⟨?_,λoq hoq hno=>?_⟩
    ·rw[hdst];intro e;simp only[ag]at e;have hpo: ∃op,ops[p.1]?=some op:=⟨_,cK (I.notin p hp).2.1⟩;obtain⟨op,hop⟩:=hpo;have:=(htk' p.1 (I.notin p hp).2.2 op hop).2;have hdd':op.dst=some dd:=by grind[Kz]
     rw[hdd',e]at this;grind
    ·rw[ho]at hoq;cases hoq;exact(I.free p hp dd hdd i o ho h0 hno).1
   ·simp only[aY]at hp;subst hp;simp only at hne hdd⊢;rw[hdst]at hdd;cases hdd;obtain⟨oq,hoq⟩: ∃oq,ops[q.1]?=some oq:=⟨_,cK (I.notin q hq).2.1⟩;have hh:=htk' q.1 (I.notin q hq).2.2;grind[Kz]
   ·simp only[aY]at hp hq;subst hp;subst hq;omega
  ·refine I.ord.snoc λo'' ho'' e he hb=>?_;rw[ho]at ho'';cases ho'';have:=hw e he hb;have hlt':e.on<asap.size:=by grind
   rw[TP hlt']at this;rcases (I.list e.on (by rw[<-I.sz2];omega)).1 this with h|h;·exact .inl (by rw[TP (by rw[I.sz1,<-I.sz2];omega)];exact h)
   grind
 grind
def Inv.come{act asap:Array Bool}{taken:List Nat}{pend tv:List (Nat×AVal)}{af:List AVal}{st:St} (I:Inv E ops act asap taken pend tv af st){i:Nat}{r:AVal} (hm:(i,r)∈pend):Inv E ops (act.setIfInBounds i true) asap taken (pend.filter λp=>p.1 !=i) tv (Ac af (Kz ops i) r) st:=by
 obtain⟨h0,hlt,htk⟩:=I.notin _ hm;have hmem: ∀p,p∈pend.filter (λp=>p.1 !=i)->p∈pend/\p.1≠i:=λp hp=>by grind
 have hset: ∀k,k≠i->(act.setIfInBounds i true).getD k true=act.getD k true:=λk hk=>fy true (dI hk);have hseti:(act.setIfInBounds i true).getD i true=true:=fI;have herase:=XN pend af hm I.nodup (λp q hp hq hne t ht=>(I.pair p q hp hq hne t ht).1);refine {sz1:=by simp[I.sz1],sz2:=I.sz2,list:=?_,notin:=?_,nodup:=?_,tvl:=λp hp=>I.tvl p (hmem p hp).1,val:=?_,free:=λp hp=>I.free p (hmem p hp).1,self:=λp hp=>I.self p (hmem p hp).1,pair:=λp q hp hq=>I.pair p q (hmem p hp).1 (hmem q hq).1,ord:=?_}
 ·intro k hk;by_cases hki:k=i;·subst hki;rw[hseti];simp only[true_or,iff_true];exact(I.list k hk).2 (.inr (bk.2 ⟨_,hm,rfl⟩))
  ·rw[hset k hki,I.list k hk];simp_all
 ·intro p hp;obtain⟨a,b⟩:=hmem p hp;obtain⟨c,d,e⟩:=I.notin p a;grind
 ·exact(List.filter_sublist.map _).nodup I.nodup
 ·intro p hp o ho;rw[<-herase];exact I.val p (hmem p hp).1 o ho
 ·refine(I.ord.erase (k:=i)).mono λk hk=>?_;grind
def Inv.step{act asap:Array Bool}{taken:List Nat}{pend tv:List (Nat×AVal)}{af af':List AVal}{st st':St} (I:Inv E ops act asap taken pend tv af st){i:Nat}{chk:List Nat}{o:Oper} (hr:i∈Region.ready .any ops act) (hp:i∉pend.map (·.1)) (ho:ops[i]?=some o) (hchk:AaL ops taken i chk=true) (hall:R4 E ops tv (Io ops af' pend) st' chk):Inv E ops (act.setIfInBounds i true) (asap.setIfInBounds i true) taken pend tv af' st':=by
 obtain⟨h0,o',ho',hw⟩:=c9.1 hr;rw[ho]at ho';cases ho';have hlt:i<ops.size:=(aU.1 ho).1;have hset: ∀(l:Array Bool) k,k≠i->(l.setIfInBounds i true).getD k true=l.getD k true:=λl k hk=>fy true (dI hk);have hseti: ∀(l:Array Bool),l.size=ops.size->(l.setIfInBounds i true).getD i true=true:=λl hl=>by simp
 have hpne: ∀p,p∈pend->p.1≠i:=λp hpm e=>hp (bk.2 ⟨p,hpm,e⟩);refine {sz1:=by simp[I.sz1],sz2:=by simp[I.sz2],list:=?_,notin:=?_,nodup:=I.nodup,tvl:=I.tvl,val:=?_,free:=?_,self:=I.self,pair:=I.pair,ord:=?_}
 ·intro k hk;by_cases hki:k=i;·simp_all
  ·rw[hset act k hki,hset asap k hki];exact I.list k hk
 ·intro p hpm;obtain⟨a,b,c⟩:=I.notin p hpm;grind
 ·intro p hpm op hop;unfold AaL at hchk;rw[ho]at hchk;simp only[aL,ce]at hchk;obtain⟨a,b,c⟩:=I.notin p hpm;rcases hchk p.1 c with h|h;·obtain⟨r,o2,e1,e2,e3⟩:=AC1 hall (by simpa using h);rw[I.tvl p hpm]at e1;grind
  ·exfalso;obtain⟨e,he,hb⟩:=Array.any_eq_true'.1 h;simp only[aw,bf]at hb;have:=hw e he hb.1;rw[hb.2,TP (by grind),a]at this;grind
 ·intro p hpm d hd j oj hoj hun hno;have hji:j≠i:=λe=>by simp_all
  rw[hset asap j hji]at hun;exact I.free p hpm d hd j oj hoj hun hno
 ·exact I.ord.mono λk hk=>getD_set_true hk
def AYa{mv:List Tmp}{K:List AVal->St->Prop}{Qc:Exit->Act->World->Prop}{F:Nat->Nat} (fuel:Nat): ∀(plan:Plan){act asap:Array Bool}{taken:List Nat}{pend tv:List (Nat×AVal)}{af:List AVal}{st:St}{a:Act}{w:World}{O:Ghost},Jr ops plan false asap taken=true->Px ops.size act<=fuel->Inv E ops act asap taken pend tv af st->a.defers=[]->Sim E F O st w af a.tmps.toList->Ho E mv ops plan tv K (Io ops af pend) st->(∀O' af' st' a' w',Ext F O w O' w'->st.next<=st'.next->a'.defers=[]->Sim E F O' st' w' af' a'.tmps.toList->K af' st'->Qc .normal a' w')->wpAny E.P .any ops Qc fuel act a w:=by
 induction fuel with
 | zero=>
  intro plan;induction plan with
  |done=>
   intro act asap taken pend tv af st a w O hok hn I hd hs hw hK;have hrd:Region.ready .any ops act=[]:=List.eq_nil_iff_forall_not_mem.2 λj hj=>by obtain⟨h0,o,ho,_⟩:=c9.1 hj;rw[Vv (Nat.le_zero.1 hn) (aU.1 ho).1]at h0;grind
   have:=I.some_ready hrd;subst this;exact⟨hrd,hK O af st a w (Ext.refl _ _ _) (av _) hd hs hw⟩
  | take i p ih=>
   intro act asap taken pend tv af st a w O hok hn I hd hs hw hK;simp only[Jr,aw]at hok;simp only[Ho]at hw;split at hw
   ·rename_i o ho;split at hw;·rename_i r hr;have I2:=I.take (by grind) hok.1.2 ho hr;grind[Ue,Kz]
    grind
   grind
  |alt i chk p rest _ _=>
   intro act asap taken pend tv af st a w O hok hn I hd hs hw hK;exfalso;simp only[Jr,aw]at hok;have hi:i∈Region.ready .any ops asap:=by grind
   obtain⟨h0,o,ho,_⟩:=c9.1 hi;have hlt:=(aU.1 ho).1;have:=(I.list i hlt).2 (.inl (Vv (Nat.le_zero.1 hn) hlt));grind
  |stop=>grind[Jr]
 | succ fuel ihf=>
  have come: ∀(plan:Plan){act asap:Array Bool}{taken:List Nat}{pend tv:List (Nat×AVal)}{af:List AVal}{st:St}{a:Act}{w:World}{O:Ghost},Jr ops plan false asap taken=true->Px ops.size act<=fuel+1->Inv E ops act asap taken pend tv af st->a.defers=[]->Sim E F O st w af a.tmps.toList->Ho E mv ops plan tv K (Io ops af pend) st->(∀O' af' st' a' w',Ext F O w O' w'->st.next<=st'.next->a'.defers=[]->Sim E F O' st' w' af' a'.tmps.toList->K af' st'->Qc .normal a' w')->∀j,j∈Region.ready .any ops act->j∈pend.map (·.1)->wpOp E.P ops Qc j (wpAny E.P .any ops Qc fuel (act.setIfInBounds j true)) a w:=by
   intro plan act asap taken pend tv af st a w O hok hn I hd hs hw hK j hj hjp;obtain⟨p,hp,rfl⟩:=bk.1 hjp;obtain⟨h0,o,ho,hwt⟩:=c9.1 hj;have hlt:=(aU.1 ho).1;have hlooks: ∀q,q∈pend->∀d,Kz ops q.1=some d->d∉o.looksAt ops:=by
    intro q hq d hdd;by_cases hqp:q.1=p.1;·exact I.self q hq d o hdd (by grind)
    ·refine(I.pair q p hq hp hqp d hdd).2 o ho λe he hb heq=>?_;have:=hwt e he hb;obtain⟨a1,b1,_⟩:=I.notin q hq;grind
   have hval:=I.val p hp o ho;rw[AKk pend af hlooks]at hval;refine AFh ho hd hs (Aev (mv:=mv) hval) λO' af' st' a' w' x1 n1 d1 s1 k1=>?_;obtain⟨rfl,rfl⟩:=k1;have hdst:Kz ops p.1=o.dst:=by grind[Kz]
   have hpm:(p.1,p.2)∈pend:=hp;have I2:=I.come hpm;rw[hdst]at I2;refine ihf plan hok (by have:=XQ h0 hlt;omega) I2 d1 s1 ?_ λO2 af2 st2 a2 w2 x2 n2 d2 s2 k2=>hK O2 af2 st2 a2 w2 (x1.trans x2) (bJ n1 n2) d2 s2 k2;rw[XN pend af hpm I.nodup (λp q hp hq hne t ht=>(I.pair p q hp hq hne t ht).1),hdst]at hw;omega
  intro plan;induction plan with
  | done=>
   intro act asap taken pend tv af st a w O hok hn I hd hs hw hK;refine⟨λhrd=>?_,λj hj=>?_⟩;·have:=I.some_ready hrd;subst this;exact hK O af st a w (Ext.refl _ _ _) (av _) hd hs hw
   ·by_cases hjp:j∈pend.map (·.1);·grind
    ·exfalso;have:=I.ready_sub hj hjp;simp only[Jr,bA,bQ,dZ]at hok;grind
  | take i p ih=>
   intro act asap taken pend tv af st a w O hok hn I hd hs hw hK;simp only[Jr,aw]at hok;simp only[Ho]at hw;split at hw
   ·rename_i o ho;split at hw;·rename_i r hr;have I2:=I.take (by grind) hok.1.2 ho hr;grind[Ue,Kz]
    grind
   grind
  | alt i chk p rest _ _=>
   intro act asap taken pend tv af st a w O hok hn I hd hs hw hK;have hok0:=hok;simp only[Jr,aw]at hok;have hi:i∈Region.ready .any ops asap:=by grind
   refine⟨λhrd=>?_,λj hj=>?_⟩;·exfalso;have:=I.some_ready hrd;subst this;have:=I.asap_ready hi;grind
   ·by_cases hjp:j∈pend.map (·.1);·grind
    ·have hja:=I.ready_sub hj hjp;have hall:=hok.1.1.1.1;simp only[be,aL]at hall;have hjm:j∈(Plan.alt i chk p rest).alts:=by grind[Plan.alts]
     have hok':Jr ops (.alt i chk p rest) true asap taken=true:=by simp only[Jr,cN,bQ,aw];grind
     obtain⟨chk',q,o,ho,hc,hq,hg⟩:=ARy hok' hw hjm;obtain⟨h0,o',ho',hwt⟩:=c9.1 hj;rw[ho]at ho';cases ho';have hlt:=(aU.1 ho).1;have hun:asap.getD j true=false:=(c9.1 hja).1;have hlooks: ∀p,p∈pend->∀d,Kz ops p.1=some d->d∉o.looksAt ops/\o.dst≠some d:=by intro p hp d hdd;refine I.free p hp d hdd j o ho hun λe he hb heq=>?_;have:=hwt e he hb;obtain⟨a1,b1,_⟩:=I.notin p hp;grind
     refine AFh ho hd hs (AVo pend hlooks hg) λO' af' st' a' w' x1 n1 d1 s1 k1=>?_;have I2:=I.step hj hjp ho hc k1.1;exact ihf q hq (by have:=XQ h0 hlt;omega) I2 d1 s1 k1.2 λO2 af2 st2 a2 w2 x2 n2 d2 s2 k2=>hK O2 af2 st2 a2 w2 (x1.trans x2) (bJ n1 n2) d2 s2 k2
  |stop=>grind[Jr]
end
def Tk{E:Env}{Q:APost}{af:List AVal}{st:St}{id:Nat}{ops:Array Oper} (mv:List Tmp) (plan:Plan) (hm:E.P.follows .mixedOrders=true) (hok:Jr ops plan false (Array.replicate ops.size false) []=true) (h:Ho E mv ops plan [] (λaf st=>Q .normal af st) af st):AWp E (.region id ops true) Q af st:=by
 constructor;intro F O w a hd hs;refine wp_region_any hm ?_;have I:Inv E ops (Array.replicate ops.size false) (Array.replicate ops.size false) [] [] [] af st:=by
  have hno: ∀p:Nat×AVal,p∈([]:List (Nat×AVal))->False:=λp hp=>by grind
  exact {sz1:=fI,sz2:=fI,list:=(λk hk=>by simp),notin:=(λp hp=>(hno p hp).elim),nodup:=fI,tvl:=(λp hp=>(hno p hp).elim),val:=(λp hp=>(hno p hp).elim),free:=(λp hp=>(hno p hp).elim),self:=(λp hp=>(hno p hp).elim),pair:=(λp q hp=>(hno p hp).elim),ord:=trivial}
 have hun:Px ops.size (Array.replicate ops.size false)<=ops.size:=by grind[Px,List.countP_le_length,Array.replicate,List.range]
 exact AYa ops.size plan hok hun I hd hs.drew h λO' af' st' a' w' x1 n1 d1 s1 k1=>⟨trivial,d1,O',af',st',⟨x1.le,x1.keep,x1.size,x1.os,x1.output,x1.tape⟩,n1,s1,k1⟩
end Go.VM
namespace Go.VM
def Ak:List Tmp->List AVal->List AVal|[],af=>af|j::js,af=>Ak js (af.set j .any)
def setVals:List AVal->List Tmp->List AVal->List AVal|af,c::cs,v::vs=>setVals (af.set c v) cs vs|af,_,_=>af
def Cg (af:List AVal) (cs:List Tmp):List AVal:=cs.map λc=>af.getD c .any
section
variable{E:Env}{F:Nat->Nat}{O:Ghost}{st:St}{w:World}{af:List AVal}{a:Act}{Q:APost}
def Sim.setAny (hs:Sim E F O st w af a.tmps.toList) (j:Tmp):Sim E F O st w (af.set j .any) a.tmps.toList:=by
 have key: ∀ {xs:List AVal}{vs:List Value} (j:Nat),RepL O xs vs->RepL O (xs.set j .any) vs:=by intro xs;induction xs with|nil=>simp|cons x xs ih=>intro vs j h;cases h with|cons h t=>cases j with|zero=>exact .cons (.any _) t|succ j=>exact .cons h (ih j t)
 have keyo: ∀ {xs:List AVal}{vs:List Value} (j:Nat),ownL O w xs vs->ownL O w (xs.set j .any) vs:=by intro xs;induction xs with|nil=>simp|cons x xs ih=>intro vs j h;cases vs with|nil=>cases j<;>simp[ownL]|cons v vs=>rw[ownL]at h;cases j with|zero=>grind[ownL,VM.own]|succ j=>grind[ownL]
 have keyc: ∀(xs:List AVal) (vs:List Value) (j b:Nat),AP b (xs.set j .any) vs<=AP b xs vs:=by intro xs;induction xs with|nil=>simp|cons x xs ih=>intro vs j b;cases vs with|nil=>cases j<;>simp[AP]|cons v vs=>cases j with|zero=>grind[AP,cnt]|succ j=>grind[AP]
 exact {hs with rep:=key j hs.rep,own:=keyo j hs.own,tok:=λb=>by have:=keyc af a.tmps.toList j b;have:=hs.tok b;omega}
def Sim.mask (js:List Tmp): ∀ {af:List AVal},Sim E F O st w af a.tmps.toList->Sim E F O st w (Ak js af) a.tmps.toList:=by induction js with|nil=>intro af hs;exact hs|cons j js ih=>intro af hs;exact ih (hs.setAny j)
def UV{c:Code} (js:List Tmp) (h:AWp E c Q (Ak js af) st):AWp E c Q af st:=⟨λF O w a hd hs=>h.go F O w a hd (hs.mask js)⟩
def UX (js:List Tmp): ∀(af:List AVal) (j:Tmp),Ak js (af.set j .any)=(Ak js af).set j .any:=by induction js<;>grind[Ak,List.set_set,List.set_comm]
theorem Lt: ∀(cs:List Tmp) (af af0:List AVal),Ak cs af=Ak cs af0->af=setVals af0 cs (Cg af cs):=by
 intro cs;induction cs with
 |nil=>intro af af0 h;exact h
 | cons c cs ih=>
  intro af af0 h;simp only[Ak]at h;simp only[Cg,aF,setVals];have h2:Ak cs af=Ak cs (af0.set c (af.getD c .any)):=by
   have hl:af.length=af0.length:=by
    have hlen: ∀(l:List Tmp) (x:List AVal),(Ak l x).length=x.length:=by intro l;induction l<;>grind[Ak]
    have:=br List.length h;grind
   rw[UX,UX]at h;apply cd;intro i;have hi:=br (·[i]?) h;simp only[dm]at hi;have hmask: ∀(l:List Tmp) (x:List AVal) (k:Nat),(Ak l x)[k]?=if k∈l then(if k<x.length then some .any else none)else x[k]?:=by
    intro l;induction l with
    |nil=>grind[Ak]
    | cons j l ih=>
     intro x k;simp only[Ak,ih,bZ,aM];by_cases hkl:k∈l;·grind
     ·by_cases hkj:k=j;·subst hkj;simp only[hkl,az,true_or,aB,dm]
      ·simp only[hkl,az,hkj,eF,dm];rw[aj (λe=>hkj e.symm)]
   rw[hmask,hmask];rw[hmask,hmask]at hi;by_cases hic:i∈cs;·grind
   ·simp only[hic,az]at hi⊢;rw[dm];by_cases hci:c=i;·subst hci;simp only[aB];by_cases hlt:c<af.length<;>simp_all[List.getD]
    simp_all
  exact ih af _ h2
def ACz{c:Code} (js cs:List Tmp) (I:Nat->List AVal->St->Prop) (n₀:Nat) (h₀:I n₀ (Cg (Ak js af) cs) st) (round: ∀n vs st',I n vs st'->∀J:List AVal->St->Prop,(∀n' af' st' m,n'<n->m.Sublist st'.m->Ak cs (Ak js af')=Ak cs (Ak js af)->I n' (Cg (Ak js af') cs) {st' with m:=m}->J af' st')->AWp E c (kPost J Q) (setVals (Ak js af) cs vs) st'):AWp E (.loop c) Q af st:=by refine UV js ?_;constructor;intro F O w a hd hs;refine wp_loop_ghost (λn a' w'=>a'.defers=[]/\∃O' vs st',Ext F O w O' w'/\st.next<=st'.next/\Sim E F O' st' w' (setVals (Ak js af) cs vs) a'.tmps.toList/\I n vs st') n₀ ⟨hd,O,Cg (Ak js af) cs,st,Ext.refl _ _ _,av _,by rw[<-Lt cs _ _ rfl];omega,h₀⟩ ?_;intro n a₁ w₁ ⟨hd1,O₁,vs₁,st₁,h2,h3,h4,h5⟩;refine fg ((round n vs₁ st₁ h5 (λaf' st'=>∃n' m,n'<n/\m.Sublist st'.m/\Ak cs (Ak js af')=Ak cs (Ak js af)/\I n' (Cg (Ak js af') cs) {st' with m:=m}) (λn' af' st' m k1 k2 k3 k4=>⟨n',m,k1,k2,k3,k4⟩)).go F O₁ w₁ a₁ hd1 h4) ?_;intro e a' w' hq;have hq:=Wx h2 h3 hq;cases e with|normal=>obtain⟨_,k1,O',af',st',k2,k3,k4,kk⟩:=hq;obtain⟨n',m,k5,k6,k7,k8⟩:=kk.get;refine⟨n',k5,k1,O',Cg (Ak js af') cs,{st' with m:=m},k2,k3,?_,k8⟩;rw[<-Lt cs _ _ k7];exact(k4.mask js).fewer k6|_=>obtain⟨k0,k1,O',af',st',k2,k3,k4,kk⟩:=hq;exact⟨k0,k1,O',af',st',k2,k3,k4,kk.out fI⟩
theorem ACall.strip{f:FuncId}{args:List AVal}{Q:AVal->St->Prop} (h:ACall E f args st λr st'=>Q r.strip st'):ACall E f args st Q:=⟨λF O w cargs hs=>(h.go F O w cargs hs).mono λe w' ⟨v,he,O',r,st',h1,h2,h3,h4⟩=>⟨v,he,O',r.strip,st',h1,h2,by
 have hr:Rep O' r v:=by have:=h3.rep;cases this;omega
 have ht: ∀b,F b+AP b [r.strip] [v]+Ap O' w' b st'.m<=1:=λb=>by have:=h3.tok b;grind[AP,Iw]
 exact {h3 with rep:=.cons hr.strip .nil,own:=(by grind[ownL,MO]),tok:=ht},h4⟩⟩
end
end Go.VM
namespace Go.VM
mutual def bnd:AVal->Prop|.agg cs=>bndL cs|.tuple cs=>bndL cs|.slice _ xs _=>xs.length<=CX|.str s=>s.length<=CX|.buf _ l _=>l.length<=CX|_=>True def bndL:List AVal->Prop|[]=>True|x::xs=>bnd x/\bndL xs end
mutual theorem Rep.bnd{O:Ghost}: {x:AVal}->{v:Value}->Rep O x v->VM.bnd x|_,_,.any v=>by simp[VM.bnd]|_,_,.bool b=>by simp[VM.bnd]|_,_,.int k n=>by simp[VM.bnd]|_,_,.str b h=>by grind[VM.bnd]|_,_,.agg h o=>by simp only[VM.bnd];exact RepL.bndL h|_,_,.tuple h=>by simp only[VM.bnd];exact RepL.bndL h|_,_,.snil w o a=>by simp[VM.bnd]|_,_,.slice o hb hl hc h _=>by grind[VM.bnd]|_,_,.ptr h=>by simp[VM.bnd]|_,_,.nilp=>by simp[VM.bnd]|_,_,.cptr hb hd h _=>by simp[VM.bnd]|_,_,.fn h k=>by simp[VM.bnd]|_,_,.nilFn=>by simp[VM.bnd]|_,_,.iface h=>by simp[VM.bnd]|_,_,.nilIface=>by simp[VM.bnd]|_,_,.iter _ _ _=>by simp[VM.bnd]|_,_,.bsl _ _ _=>by simp[VM.bnd]|_,_,.nself _=>by simp[VM.bnd]|_,_,.buf _ h _=>by have:=Rep.bnd h;grind[VM.bnd,u8s]|_,_,.bnil _ _=>by simp[VM.bnd]|_,_,.bufp _ _ _ _ _=>by simp[VM.bnd]|_,_,.map _ _ _=>by simp[VM.bnd]|_,_,.slop _ _ _ _=>by simp[VM.bnd]|_,_,.sh _ _=>by simp[VM.bnd]|_,_,.sptr _=>by simp[VM.bnd]|_,_,.gsl _ _ _ _=>by simp[VM.bnd]|_,_,.nmap=>by simp[VM.bnd]|_,_,.vec _ _ _=>by simp[VM.bnd]|_,_,.hset _ _=>by simp[VM.bnd]|_,_,.vptr _=>by simp[VM.bnd]|_,_,.num _ _=>by simp[VM.bnd]|_,_,.nbuf _=>by simp[VM.bnd]|_,_,.trow _ _ _ _=>by simp[VM.bnd] theorem RepL.bndL{O:Ghost}: {xs:List AVal}->{vs:List Value}->RepL O xs vs->VM.bndL xs|_,_,.nil=>by simp[VM.bndL]|_,_,.cons h t=>by simp only[VM.bndL];exact⟨Rep.bnd h,RepL.bndL t⟩ end
theorem RepS.bndL{O:Ghost}{w:Nat}{xs:List AVal}{cs:List Value} (h:RepS O w xs cs):VM.bndL xs:=by induction xs generalizing cs with|nil=>simp[VM.bndL]|cons x xs ih=>cases h with|cons h hw t=>simp only[VM.bndL];exact⟨h.bnd,ih t⟩
def keysLt (n:Nat) (m:List (Nat×List AVal)):Prop:= ∀i,n<=i->Ag m i=none
theorem Sim.keysLt{E:Env}{F:Nat->Nat}{O:Ghost}{st:St}{w:World}{af:List AVal}{tm:List Value} (hs:Sim E F O st w af tm):keysLt st.next st.m:=by intro i hi;cases hm:Ag st.m i with|none=>rfl|some c=>have:=hs.key_lt (Lj hm);omega
theorem AWp.known{E:Env}{c:Code}{Q:APost}{af:List AVal}{st:St} (h:bndL af->keysLt st.next st.m->AWp E c Q af st):AWp E c Q af st:=⟨λF O w a hd hs=>(h hs.rep.bndL hs.keysLt).go F O w a hd hs⟩
theorem ACall.known{E:Env}{f:FuncId}{args:List AVal}{st:St}{Q:AVal->St->Prop} (h:bndL args->keysLt st.next st.m->ACall E f args st Q):ACall E f args st Q:=⟨λF O w cargs hs=>(h hs.rep.bndL hs.keysLt).go F O w cargs hs⟩
inductive Deep:AVal->Prop|leaf{x:AVal} (h:bnd x) (hc:match x with|.agg _|.tuple _|.slice _ _ _=>False|_=>True):Deep x|agg{cs:List AVal} (h: ∀x,x∈cs->Deep x):Deep (.agg cs)|tuple{cs:List AVal} (h: ∀x,x∈cs->Deep x):Deep (.tuple cs)|slice{w:Nat}{xs:List AVal}{o:Bool} (hl:xs.length<=CX) (h: ∀x,x∈xs->Deep x):Deep (.slice w xs o)
theorem Deep.bnd{x:AVal} (h:Deep x):VM.bnd x:=by induction h with|leaf h hc=>exact h|agg h ih=>rename_i cs;simp only[VM.bnd];clear h;induction cs<;>grind[VM.bndL]|tuple h ih=>rename_i cs;simp only[VM.bnd];clear h;induction cs<;>grind[VM.bndL]|slice hl h ih=>grind[VM.bnd]
theorem ARL{n:Nat} (h:n<=CX):IntKind.i64.wrap (n:Int)=n:=by grind[CX,IntKind.wrap,IntKind.bits,IntKind.signed]
theorem AEw{n:Nat} (h:n<=CX):IntKind.i64.wrap ((n:Int)+1)=((n+1:Nat):Int):=by grind[CX,IntKind.wrap,IntKind.bits,IntKind.signed]
end Go.VM
namespace Go.VM
section
variable{E:Env}{mv:List Tmp}{ops:Array Oper}{K:List AVal->St->Prop}{af:List AVal}{st:St}
def Sn (x:Option AVal) (d:Option Tmp) (K:List AVal->St->Prop) (af:List AVal) (st:St):Prop:=match x with|some r=>K (Ac af d r) st|none=>False
def Ni (x:Option AVal) (d:Option Tmp) (K:List AVal->St->Prop) (af:List AVal) (st:St):Prop:=match x with|some r=>K (Ac af d r.strip) st|none=>False
def RP (x:Option (AVal×St)) (d:Option Tmp) (K:List AVal->St->Prop) (af:List AVal):Prop:=match x with|some p=>K (Ac af d p.1) p.2|none=>False
def AcR (b:Bool) (x:AVal) (d:Option Tmp) (K:List AVal->St->Prop) (af:List AVal) (st:St):Prop:=if b=true then K (Ac af d (.ptr st.next 0)) {m:=(st.next,AZ x)::st.m,next:=st.next+1}else False
def ACF (x:Option (List AVal)) (d:Option Tmp) (K:List AVal->St->Prop) (af:List AVal) (st:St):Prop:=match x with|some cs=>K (Ac af d (.ptr st.next 0)) {m:=(st.next,cs)::st.m,next:=st.next+1}|none=>False
def AXq (x u:Option AVal) (y:Option (AVal×St)) (st:St):Option (AVal×St):=match x with|some r=>some (r.strip,st)|none=>match u with|some r=>some (r,st)|none=>y
def S9 (x:Option St) (K:List AVal->St->Prop) (af:List AVal):Prop:=match x with|some st=>K af st|none=>False
def AYH (x:AVal) (n:Nat):Option AVal:=match x with|.tuple vs=>vs[n]?|_=>none
def AYw (x:AVal) (n:Nat):AVal:=match x with|.tuple vs=>.tuple (vs.set n ((vs.getD n .any).strip))|x=>x
def AiO (x:Option AVal) (y:Option St) (d:Option Tmp) (K:List AVal->St->Prop) (af:List AVal) (st:St):Prop:=match x with|some r=>K (Ac af d r) st|none=>match y with|some st'=>K (Ac af d (.sh st.next)) st'|none=>False
def ABH (E:Env) (t:TypeId) (x:AVal) (lo hi mx:Option (Option Int)) (d:Option Tmp) (K:List AVal->St->Prop) (af:List AVal) (st:St):Prop:=match lo,hi,mx with|some l,some h,some m=>AiO (GD E t x l h m) (SB E t x l h m st) d K af st|_,_,_=>False
def Aeg (d:Option Tmp) (K:List AVal->St->Prop) (af:List AVal):AVal->St->Prop:=λr st=>K (Ac af d r) st
def AQD (E:Env) (f:AVal) (xs:List AVal) (d:Option Tmp) (K:List AVal->St->Prop) (af:List AVal) (st:St):Prop:=match f with|.fn (.func g) p q=>CallX E g (stripL (p++xs++q)) st (Aeg d K af)|_=>False
theorem Afu{r:AVal}{d:Option Tmp}:Sn (some r) d K af st=K (Ac af d r) st:=rfl
theorem AV8{r:AVal}{d:Option Tmp}:Ni (some r) d K af st=K (Ac af d r.strip) st:=rfl
theorem AXF{r:AVal}{s:St}{d:Option Tmp}:RP (some (r,s)) d K af=K (Ac af d r) s:=rfl
def Ab1{x:AVal}{d:Option Tmp}:AcR true x d K af st=K (Ac af d (.ptr st.next 0)) {m:=(st.next,AZ x)::st.m,next:=st.next+1}:=by simp[AcR]
theorem AT9{cs:List AVal}{d:Option Tmp}:ACF (some cs) d K af st=K (Ac af d (.ptr st.next 0)) {m:=(st.next,cs)::st.m,next:=st.next+1}:=rfl
theorem AxE{r:AVal}{u:Option AVal}{y:Option (AVal×St)}:AXq (some r) u y st=some (r.strip,st):=rfl
theorem AvP{r:AVal}{y:Option (AVal×St)}:AXq none (some r) y st=some (r,st):=rfl
theorem AuT{y:Option (AVal×St)}:AXq none none y st=y:=rfl
theorem ASL:S9 (some st) K af=K af st:=rfl
theorem AH3{n:Nat}{vs:List AVal}:AYH (.tuple vs) n=vs[n]?:=rfl
theorem AGH{n:Nat}{vs:List AVal}:AYw (.tuple vs) n=.tuple (vs.set n ((vs.getD n .any).strip)):=rfl
theorem Afe{r:AVal}{y:Option St}{d:Option Tmp}:AiO (some r) y d K af st=K (Ac af d r) st:=rfl
theorem Ae9{s:St}{d:Option Tmp}:AiO none (some s) d K af st=K (Ac af d (.sh st.next)) s:=rfl
theorem AUk{t:TypeId}{x:AVal}{lo hi mx:Option Int}{d:Option Tmp}:ABH E t x (some lo) (some hi) (some mx) d K af st=AiO (GD E t x lo hi mx) (SB E t x lo hi mx st) d K af st:=rfl
theorem AlI{d:Option Tmp}{r:AVal}:Aeg d K af r st=K (Ac af d r) st:=rfl
theorem Anb{g:FuncId}{p q xs:List AVal}{d:Option Tmp}:AQD E (.fn (.func g) p q) xs d K af st=if callable E.P g=true then ACall E g (stripL (p++xs++q)) st (Aeg d K af)else Zv E g (stripL (p++xs++q)) st (Aeg d K af):=rfl
def Air{d:Option Tmp}:QE [] d=false:=by cases d<;>rfl
section ops
variable{d:Option Tmp}{ty:TypeId}{pos:String}{aft:Array Edge}{g:Option (Nat×Bool)}
def fzK (fz:Bool) (y:Option (Nat×Nat×List AVal)) (j:Tmp) (v:AVal) (d:Option Tmp) (K:List AVal->St->Prop) (af:List AVal) (st:St):Prop:=match fz,y with|true,some (i,w,xs)=>K (Ac (af.set j (.slice w xs false)) d (.slice w xs false)) {st with m:=A7 st.m i [.any]}|_,_=>K (Ac (stripAt af (.tmp j)) d v) st
theorem Ayf{y:Option (Nat×Nat×List AVal)}{j:Tmp}{v:AVal}:fzK false y j v d K af st=K (Ac (stripAt af (.tmp j)) d v) st:=rfl
theorem Axj{i w:Nat}{xs:List AVal}{j:Tmp}{v:AVal}:fzK true (some (i,w,xs)) j v d K af st=K (Ac (af.set j (.slice w xs false)) d (.slice w xs false)) {st with m:=A7 st.m i [.any]}:=rfl
def AyU{fz:Bool}{j:Tmp}{v:AVal}:fzK fz none j v d K af st=K (Ac (stripAt af (.tmp j)) d v) st:=by cases fz<;>rfl
def nmK (fz:Bool) (v:AVal) (x:Operand) (d:Option Tmp) (K:List AVal->St->Prop) (af:List AVal) (st:St):Prop:=match v,x with|.vec w xs,.tmp i=>K (Ac (af.set i (.sh st.next)) d (.sh st.next)) {m:=(st.next,[.vec w xs])::st.m,next:=st.next+1}|.sh i,.tmp j=>fzK fz (KQ st (.sh i)) j (.sh i) d K af st|v,x=>K (Ac (stripAt af x) d v) st
def mvK (b fz:Bool) (x:Operand) (ty:TypeId) (E:Env) (d:Option Tmp) (K:List AVal->St->Prop) (af:List AVal) (st:St):Prop:=if b=true then nmK fz (rd E af ty x) x d K af st else K (Ac af d (rd E af ty x).strip) st
def Am2{fz:Bool}{x:Operand}:mvK true fz x ty E d K af st=nmK fz (rd E af ty x) x d K af st:=by simp[mvK]
theorem AwV{fz:Bool}{i w:Nat}{xs:List AVal}:nmK fz (.vec w xs) (.tmp i) d K af st=K (Ac (af.set i (.sh st.next)) d (.sh st.next)) {m:=(st.next,[.vec w xs])::st.m,next:=st.next+1}:=rfl
def Aw2{fz:Bool}{x:Operand}:nmK fz .any x d K af st=K (Ac (stripAt af x) d .any) st:=by cases x<;>rfl
def Aww{fz:Bool}{x:Operand}{k:IntKind}{n:Int}:nmK fz (.int k n) x d K af st=K (Ac (stripAt af x) d (.int k n)) st:=by cases x<;>rfl
def As6{fz:Bool}{x:Operand}{b:Bool}:nmK fz (.bool b) x d K af st=K (Ac (stripAt af x) d (.bool b)) st:=by cases x<;>rfl
def AwW{fz:Bool}{x:Operand}{s:B8}:nmK fz (.str s) x d K af st=K (Ac (stripAt af x) d (.str s)) st:=by cases x<;>rfl
def AuY{fz:Bool}{x:Operand}{c:List AVal}:nmK fz (.agg c) x d K af st=K (Ac (stripAt af x) d (.agg c)) st:=by cases x<;>rfl
def AnT{fz:Bool}{x:Operand}{c:List AVal}:nmK fz (.tuple c) x d K af st=K (Ac (stripAt af x) d (.tuple c)) st:=by cases x<;>rfl
def AjV{fz:Bool}{x:Operand}{w:Nat}{c:List AVal}{o:Bool}:nmK fz (.slice w c o) x d K af st=K (Ac (stripAt af x) d (.slice w c o)) st:=by cases x<;>rfl
def AwK{fz:Bool}{x:Operand}{i f:Nat}:nmK fz (.ptr i f) x d K af st=K (Ac (stripAt af x) d (.ptr i f)) st:=by cases x<;>rfl
def Awq{fz:Bool}{x:Operand}{e:TypeId}{l:B8}{o:Bool}:nmK fz (.buf e l o) x d K af st=K (Ac (stripAt af x) d (.buf e l o)) st:=by cases x<;>rfl
def Aqj{fz:Bool}{x:Operand}{e:TypeId}{l:B8}{o:Bool}:nmK fz (.bufp e l o) x d K af st=K (Ac (stripAt af x) d (.bufp e l o)) st:=by cases x<;>rfl
theorem Aye{fz:Bool}{j:Tmp}{i:Nat}:nmK fz (.sh i) (.tmp j) d K af st=fzK fz (KQ st (.sh i)) j (.sh i) d K af st:=rfl
def AvM{fz:Bool}{x:Operand}{w i l:Nat}:nmK fz (.gsl w i l) x d K af st=K (Ac (stripAt af x) d (.gsl w i l)) st:=by cases x<;>rfl
def AwS{fz:Bool}{x:Operand}{w i o l:Nat}:nmK fz (.bsl w i o l) x d K af st=K (Ac (stripAt af x) d (.bsl w i o l)) st:=by cases x<;>rfl
def Aq8{fz:Bool}{x:Operand}{s:B8}{p:Nat}:nmK fz (.iter s p) x d K af st=K (Ac (stripAt af x) d (.iter s p)) st:=by cases x<;>rfl
def tkK (y:Option (Nat×Nat×List AVal)) (v:AVal) (x:Operand) (d:Option Tmp) (K:List AVal->St->Prop) (af:List AVal) (st:St):Prop:=match y with|some (i,w,xs)=>K (Ac af d (.vec w xs)) {st with m:=A7 st.m i [.any]}|none=>K (Ac (stripAt af x) d v) st
theorem Anh{i w:Nat}{xs:List AVal}{v:AVal}{x:Operand}:tkK (some (i,w,xs)) v x d K af st=K (Ac af d (.vec w xs)) {st with m:=A7 st.m i [.any]}:=rfl
theorem AlH{v:AVal}{x:Operand}:tkK none v x d K af st=K (Ac (stripAt af x) d v) st:=rfl
def vnK (y:Option Nat) (X:Prop) (d:Option Tmp) (K:List AVal->St->Prop) (af:List AVal) (st:St):Prop:=match y with|some w=>K (Ac af d (.vec w [])) st|none=>X
theorem An4{w:Nat}{X:Prop}:vnK (some w) X d K af st=K (Ac af d (.vec w [])) st:=rfl
theorem Alz{X:Prop}:vnK none X d K af st=X:=rfl
theorem AnK{t:TypeId}:AWJ E (.const (.slice none 0 0)) t=Bj E.P t:=rfl
theorem Aho{i:Tmp}{t:TypeId}:AWJ E (.tmp i) t=none:=rfl
def atK (x:Operand) (ty:TypeId) (E:Env) (d:Option Tmp) (K:List AVal->St->Prop) (af:List AVal) (st:St):Prop:=match x with|.tmp i=>tkK (KQ st (af.getD i .any)) (af.getD i .any) (.tmp i) d K af st|x=>K (Ac (stripAt af x) d (rd E af ty x)) st
theorem Ape{i:Tmp}:atK (.tmp i) ty E d K af st=tkK (KQ st (af.getD i .any)) (af.getD i .any) (.tmp i) d K af st:=rfl
def asT (x:Operand) (ty:TypeId) (E:Env) (d:Option Tmp) (K:List AVal->St->Prop) (af:List AVal) (st:St):Prop:=vnK (AWJ E x ty) (atK x ty E d K af st) d K af st
theorem Avq{x:Operand}:asT x ty E d K af st=vnK (AWJ E x ty) (atK x ty E d K af st) d K af st:=rfl
def asK (b:Bool) (x:Operand) (ty:TypeId) (E:Env) (d:Option Tmp) (K:List AVal->St->Prop) (af:List AVal) (st:St):Prop:=if b=true then asT x ty E d K af st else K (Ac (stripAt af x) d (rd E af ty x)) st
def Aju{x:Operand}:asK true x ty E d K af st=asT x ty E d K af st:=by simp[asK]
def Ad1{x:Operand}:asK false x ty E d K af st=K (Ac (stripAt af x) d (rd E af ty x)) st:=by simp[asK]
def vaR (i:Nat) (y:Option (List AVal)):Option (Nat×Nat×List AVal):=match y with|some [.vec w xs]=>some (i,w,xs)|_=>none
theorem Av9{w:Nat}{xs:List AVal}:KQ st (.vec w xs)=none:=rfl
def Axo{i:Nat}:KQ st (.sh i)=vaR i (Ag st.m i):=by unfold vaR;rfl
theorem AnA{i w:Nat}{xs:List AVal}:vaR i (some [.vec w xs])=some (i,w,xs):=rfl
def Adp{fz:Bool}{x:Operand}:mvK false fz x ty E d K af st=K (Ac af d (rd E af ty x).strip) st:=by simp[mvK]
def ldK (b:Bool) (t:TypeId) (x:AVal) (E:Env) (d:Option Tmp) (K:List AVal->St->Prop) (af:List AVal) (st:St):Prop:=if b=true then RP (R8 E t x st) d K af else Ni (SL E t x st) d K af st
def Amh{t:TypeId}{x:AVal}:ldK true t x E d K af st=RP (R8 E t x st) d K af:=by simp[ldK]
def AeD{t:TypeId}{x:AVal}:ldK false t x E d K af st=Ni (SL E t x st) d K af st:=by simp[ldK]
theorem Af6{d:Tmp}:AEL mv (some d)=mv.contains (d+1000000):=rfl
theorem Af1:AEL mv none=false:=rfl
def AsT{x:Operand}:DJ E mv ⟨d,.move x,ty,pos,aft,g⟩ af st K=mvK (QE mv d) (AEL mv d) x ty E d K af st:=by
 simp only[DJ,EQ,mvK];cases QE mv d;·simp
 ·simp only[aB];cases x with
  |tmp i=>
   have e:ADK (AEL mv d) af (.tmp i) st=if AEL mv d=true then(KQ st (af.getD i .any)).map λp=>(i,p.1,p.2.1,p.2.2)else none:=by cases AEL mv d<;>rfl
   rw[e];simp only[nameV,rd];generalize af.getD i .any=v;cases v<;>cases AEL mv d<;>try rfl
   rename_i j;simp only[nmK,fzK,aB];rcases KQ st (.sh j)with _|⟨i',w,xs⟩<;>simp
  |_=>simp only[nameV];cases AEL mv d<;>cases (rd E af ty _)<;>rfl
def Abb{x:Operand}:DJ E mv ⟨d,.assign x,ty,pos,aft,g⟩ af st K=asK (QE mv d) x ty E d K af st:=by
 simp only[DJ,EQ,asK];cases QE mv d;·simp
 ·simp only[aB,AC0,asT,vnK];cases AWJ E x ty with|some w=>rfl|none=>cases x with|tmp i=>simp only[Z0,rd,atK,tkK];cases KQ st (af.getD i .any)<;>rfl|_=>rfl
def alG{α:Type} (b:Bool) (x y:Option α):Option α:=if b=true then x else y
theorem Ayz{α:Type}{x y:Option α}:alG false x y=y:=rfl
theorem AyP{α:Type}{x y:Option α}:alG true x y=x:=rfl
def Ah4{t:TypeId}:DJ E mv ⟨d,.alloc t,ty,pos,aft,g⟩ af st K=ACF (alG (QE mv d) (WM E.P t st.next) (Co E.P t st.next)) d K af st:=by
 simp only[DJ,EQ,ACF,alG];cases QE mv d<;>simp only[aB,az,aq];·cases Co E.P t st.next<;>rfl
 grind
def Av8{t:TypeId}{x:Operand}:DJ E mv ⟨d,.box t x,ty,pos,aft,g⟩ af st K=AcR (Ce (rd E af t x)) (rd E af t x) d K (stripAt af x) st:=by simp only[DJ,EQ,AcR];cases Ce (rd E af t x)<;>simp
def AmL{t:TypeId}{ps:List (Nat×Operand)}:DJ E mv ⟨d,.build t ⟨ps⟩,ty,pos,aft,g⟩ af st K=Sn (Ur E t (Bb E (AR E.P t) af ps).2) d K (Bb E (AR E.P t) af ps).1 st:=by simp only[DJ,EQ,Sn];cases Ur E t (Bb E (AR E.P t) af ps).2<;>rfl
def bsK (b:Bool) (u:Option (Nat×List AVal)) (v:Option AVal) (n:Nat) (d:Option Tmp) (K:List AVal->St->Prop) (af1 af:List AVal) (st:St):Prop:=if b=true then(match u with|some p=>K (Ac af1 d (.gsl p.1 st.next n)) {m:=(st.next,p.2)::st.m,next:=st.next+1}|none=>False)else Sn v d K af st
def AdP{u:Option (Nat×List AVal)}{v:Option AVal}{n:Nat}{af1:List AVal}:bsK false u v n d K af1 af st=Sn v d K af st:=by simp[bsK]
def ABB{v:Option AVal}{n w:Nat}{cs af1:List AVal}:bsK true (some (w,cs)) v n d K af1 af st=K (Ac af1 d (.gsl w st.next n)) {m:=(st.next,cs)::st.m,next:=st.next+1}:=by simp[bsK]
def ADo{t:TypeId}{n:Nat}{ps:List (Nat×Operand)}:DJ E mv ⟨d,.buildSlice t n ⟨ps⟩,ty,pos,aft,g⟩ af st K=bsK (QE mv d) (I4 E t n (Bb E (λ_=>AR E.P t 0) af ps).2) (IB E t n (Bb E (λ_=>AR E.P t 0) af ps).2) n d K (Bb E (λ_=>AR E.P t 0) af ps).1 af st:=by
 simp only[DJ,EQ,Sn,bsK];cases QE mv d;·simp only[aq,az];cases IB E t n (Bb E (λ_=>AR E.P t 0) af ps).2<;>rfl
 ·simp only[aB];cases I4 E t n (Bb E (λ_=>AR E.P t 0) af ps).2<;>rfl
def Aq1{t:TypeId}{x:Operand}:DJ E mv ⟨d,.load t x,ty,pos,aft,g⟩ af st K=ldK (QE mv d) t (rd E af 0 x) E d K af st:=by
 simp only[DJ,EQ,ldK,RP,Ni];cases QE mv d;·simp only[aq,az];cases SL E t (rd E af 0 x) st<;>rfl
 ·simp only[aB];cases R8 E t (rd E af 0 x) st<;>rfl
def Ali{t:TypeId}{x y:Operand}:DJ E mv ⟨none,.store t x y,ty,pos,aft,g⟩ af st K=S9 (O3 E t (rd E af 0 x) (rd E af t y) st) K (stripAt af y):=by simp only[DJ,EQ,S9,de,aB];cases O3 E t (rd E af 0 x) (rd E af t y) st<;>rfl
def AZL{t n:Nat}:DJ E mv ⟨d,.extract (.tmp t) n,ty,pos,aft,g⟩ af st K=Sn (AYH (af.getD t .any) n) d K (af.set t (AYw (af.getD t .any) n)) st:=by grind[DJ,EQ,AYH,AYw,Sn,List.getD]
def Anx{t:TypeId}{x:Operand}{lo hi mx:Option Operand}:DJ E mv ⟨d,.slice t x lo hi mx,ty,pos,aft,g⟩ af st K=ABH E t (rd E af t x) (rdo E af lo) (rdo E af hi) (rdo E af mx) d K af st:=by simp only[DJ,EQ,ABH];cases rdo E af lo<;>cases rdo E af hi<;>cases rdo E af mx<;>(try rfl);simp only[AiO];cases GD E t (rd E af t x) _ _ _ with|some r=>rfl|none=>simp only[];cases SB E t (rd E af t x) _ _ _ st<;>rfl
def ACN (g:Bool) (x:AVal) (d:Option Tmp) (K:List AVal->St->Prop) (af:List AVal) (st:St):Prop:=match x with|.str s=>if g=true then K (Ac af d (.iter s 0)) st else False|_=>False
def Amv{t:TypeId}{x:Operand}:DJ E mv ⟨d,.range t x,ty,pos,aft,g⟩ af st K=ACN (DX E.P t) (rd E af t x) d K af st:=by grind[DJ,EQ,ACN,rd,DX]
theorem AW9{s:B8}:ACN true (.str s) d K af st=K (Ac af d (.iter s 0)) st:=rfl
def ACI (x:AVal) (t:Tmp) (d:Option Tmp) (K:List AVal->St->Prop) (af:List AVal) (st:St):Prop:=match x with|.iter s pos=>K (AE4 s pos t d af) st|_=>False
def Arx{t:Tmp}:DJ E mv ⟨d,.next (.tmp t) true,ty,pos,aft,g⟩ af st K=ACI (af.getD t .any) t d K af st:=by simp only[DJ,EQ,ACI];cases af.getD t .any<;>rfl
def AYv{t:Tmp}{s:B8}{p:Nat}:ACI (.iter s p) t d K af st=if decide (p<s.length)=true then K (Ac (af.set t (.iter s (p+(Da s p).2))) d (.tuple [.bool true,.int .i64 p,.int .i32 (Da s p).1])) st else K (Ac af d (.tuple [.bool false])) st:=by simp only[ACI,AE4];split<;>rfl
theorem ArE:MJ (.any)=false:=rfl
theorem AiF{b:Bool}:MJ (.bool b)=false:=rfl
theorem Arb{k:IntKind}{n:Int}:MJ (.int k n)=false:=rfl
theorem AsG{s:B8}:MJ (.str s)=false:=rfl
theorem AqQ{c:List AVal}:MJ (.agg c)=false:=rfl
theorem Ad2{c:List AVal}:MJ (.tuple c)=false:=rfl
theorem AeW{w:Nat}{c:List AVal}{o:Bool}:MJ (.slice w c o)=false:=rfl
theorem As2{i f:Nat}:MJ (.ptr i f)=false:=rfl
theorem Akj:MJ (.nilp)=false:=rfl
theorem AjF{c:List AVal}:MJ (.cptr c)=false:=rfl
theorem Awf{f:Fn}{p q:List AVal}:MJ (.fn f p q)=false:=rfl
theorem AeI:MJ (.nilFn)=false:=rfl
theorem AeC{t:TypeId}{v:AVal}:MJ (.iface t v)=false:=rfl
theorem AKe:MJ (.nilIface)=false:=rfl
theorem Asf{w i f n:Nat}:MJ (.bsl w i f n)=false:=rfl
theorem AfB{i:Nat}{T:TypeId}{n:Nat}:MJ (.nself i T n)=false:=rfl
theorem ApX{e:TypeId}{l:B8}{o:Bool}:MJ (.buf e l o)=false:=rfl
theorem Ani{e:TypeId}{l:B8}{o:Bool}:MJ (.bufp e l o)=false:=rfl
def shS (b:Bool) (x y:Option St):Option St:=if b=true then x else y
def Ata{x y:Option St}:shS false x y=y:=by simp[shS]
def Ath{x y:Option St}:shS true x y=x:=by simp[shS]
def UG (E:Env) (t:TypeId) (addr v:AVal) (st:St):Option St:=match v with
 |.sh i=>match Ag st.m i with|some [.slice w xs o]=>if MJ addr=false then R6 E t addr (.slice w xs o) {st with m:=A7 st.m i [.slice w xs false]}else none|_=>R6 E t addr (.sh i) st
 |v=>R6 E t addr v st
def ZN{t:TypeId}{x v:AVal}:O3 E t x v st=shS (MJ v) (UG E t x v st) (R6 E t x v st):=by cases v<;>first|rfl|(simp only[shS,MJ,aB];rfl)
def Avo{t:TypeId}{i f:Nat}{v:AVal}:O3 E t (.ptr i f) v st=shS (MJ v) (UG E t (.ptr i f) v st) (ZW E t (.ptr i f) v st):=ZN
def AaU{t:TypeId}{i w n:Nat}{v:AVal}:O3 E t (.sptr i w n) v st=shS (MJ v) (UG E t (.sptr i w n) v st) (ABD E t (.sptr i w n) v st):=ZN
def agK (b:Bool) (u:Option (Nat×Nat×List AVal×List (Nat×List AVal)×Option Nat)) (X:Prop) (d:Option Tmp) (K:List AVal->St->Prop) (af:List AVal) (st:St):Prop:=if b=true then(match u with|some (wd,l,cs,rest,jo)=>∀i,i=st.next\/jo=some i->K (Ac af d (.gsl wd i l)) {m:=(i,cs)::rest,next:=st.next+1}|none=>False)else X
def Acl{u:Option (Nat×Nat×List AVal×List (Nat×List AVal)×Option Nat)}{X:Prop}:agK false u X d K af st=X:=by simp[agK]
theorem AeY{w:Nat}{l:List AVal}{o:Bool}:Td (.slice w l o)=false:=rfl
theorem Aqy{l:B8}:Td (.str l)=false:=rfl
theorem Aq3{w i n:Nat}:Td (.gsl w i n)=true:=rfl
def Ams{w:Nat}{l:List AVal}{o:Bool}{y:AVal}:ABS (.slice w l o) y=Td y:=by simp[ABS,Td]
def Avl{e:TypeId}{l:B8}{o:Bool}{y:AVal}:ABS (.buf e l o) y=Td y:=by simp[ABS,Td]
def Av1{w i n:Nat}{y:AVal}:ABS (.gsl w i n) y=true:=by simp[ABS,Td]
theorem Aul{t0 t1:TypeId}{x:AVal}{w i n:Nat}:appG E t0 t1 x (.gsl w i n) st=ARf E t0 t1 x (.gsl w i n) st:=rfl
def Arc{wd l:Nat}{cs:List AVal}{rest:List (Nat×List AVal)}{jo:Option Nat}{X:Prop}{d:Option Tmp}{K:List AVal->St->Prop}{af:List AVal}{st:St} (h: ∀i,i=st.next\/jo=some i->K (Ac af d (.gsl wd i l)) {m:=(i,cs)::rest,next:=st.next+1}):agK true (some (wd,l,cs,rest,jo)) X d K af st:=by grind[agK]
theorem Awm{t0 t1:TypeId}{x:AVal}{l:B8}:appG E t0 t1 x (.str l) st=Ae6 E t0 t1 x (.str l) st:=rfl
def vpK (v:Option AVal) (y:Option St) (d:Option Tmp) (K:List AVal->St->Prop) (af1 af:List AVal) (st:St):Prop:=match v with|some r=>K (Ac af1 d r) st|none=>match y with|some st'=>K (Ac af d (.sh st.next)) st'|none=>False
theorem AiN{r:AVal}{y:Option St}{af1:List AVal}:vpK (some r) y d K af1 af st=K (Ac af1 d r) st:=rfl
theorem Ai1{s:St}{af1:List AVal}:vpK none (some s) d K af1 af st=K (Ac af d (.sh st.next)) s:=rfl
def apK (b:Bool) (u v:Option AVal) (y:Option St) (f:Option (AVal×St)) (d:Option Tmp) (K:List AVal->St->Prop) (af af0:List AVal) (st:St):Prop:=if b=true then(match u with|some r=>K (Ac af d (.sh st.next)) {m:=(st.next,[r])::st.m,next:=st.next+1}|none=>RP f d K af0)else vpK v y d K af af0 st
def AeE{u v:Option AVal}{y:Option St}{f:Option (AVal×St)}{af0:List AVal}:apK false u v y f d K af af0 st=vpK v y d K af af0 st:=by simp[apK]
def Axr{v:Option AVal}{y:Option St}{f:Option (AVal×St)}{af0:List AVal}:apK true none v y f d K af af0 st=RP f d K af0:=by simp[apK]
def Ajq{v:Option AVal}{r:AVal}{y:Option St}{f:Option (AVal×St)}{af0:List AVal}:apK true (some r) v y f d K af af0 st=K (Ac af d (.sh st.next)) {m:=(st.next,[r])::st.m,next:=st.next+1}:=by simp[apK]
theorem AYR{t:TypeId}:DJ E mv ⟨d,.makeMap t none,ty,pos,aft,g⟩ af st K=K (Ac af d (.sh st.next)) {m:=(st.next,[.map [] []])::st.m,next:=st.next+1}:=rfl
def ZT{t:TypeId}{m k:Operand}{ok:Bool}:DJ E mv ⟨d,.lookup t m k ok,ty,pos,aft,g⟩ af st K=Sn (UT E t (rd E af t m) (rd E af 0 k) ok st) d K af st:=by simp only[DJ,EQ,Sn];cases UT E t (rd E af t m) (rd E af 0 k) ok st<;>rfl
def X7{t:TypeId}{m k x:Operand}:DJ E mv ⟨none,.mapUpdate t m k x,ty,pos,aft,g⟩ af st K=S9 (Vh E t (rd E af t m) (rd E af 0 k) (rd E af 0 x) st) K af:=by simp only[DJ,EQ,S9,de,aB];cases Vh E t (rd E af t m) (rd E af 0 k) (rd E af 0 x) st<;>rfl
def Af9{t:TypeId}{m k x:Operand}:DJ E mv ⟨none,.insert t m k x,ty,pos,aft,g⟩ af st K=S9 (Vh E t (rd E af t m) (rd E af 0 k) (rd E af 0 x) st) K af:=by simp only[DJ,EQ,S9,de,aB];cases Vh E t (rd E af t m) (rd E af 0 k) (rd E af 0 x) st<;>rfl
def AeV{x y:Operand}{t0 t1:TypeId}{ts:List TypeId}:DJ E mv ⟨d,.call {callee:=.builtin .append,args:=⟨[x,y]⟩,argTypes:=⟨t0::t1::ts⟩},ty,pos,aft,g⟩ af st K=agK (ABS (rd E af t0 x) (rd E af t1 y)) (appG E t0 t1 (rd E af t0 x) (rd E af t1 y) st) (apK (QE mv d) (QS E t0 t1 (rd E af t0 x) (rd E af t1 y)) (JM E t0 t1 (rd E af t0 x) (rd E af t1 y)) (AAN E t0 t1 (rd E af t0 x) (rd E af t1 y) st) (appW E x t0 t1 (rd E af t0 x) (rd E af t1 y) st) d K (stripAt af x) af st) d K af st:=by
 simp only[DJ,EQ,Sn,apK,agK];cases ABS (rd E af t0 x) (rd E af t1 y);rotate_left;·first|rfl|(simp only[aB];done)|(simp only[aB];rfl)
 simp only[aq,az];cases QE mv d;·simp only[aq,az,vpK];cases JM E t0 t1 (rd E af t0 x) (rd E af t1 y)with|some r=>rfl|none=>simp only[];cases AAN E t0 t1 (rd E af t0 x) (rd E af t1 y) st<;>rfl
 ·simp only[aB,RP];cases QS E t0 t1 (rd E af t0 x) (rd E af t1 y)with|some r=>rfl|none=>simp only[];cases appW E x t0 t1 (rd E af t0 x) (rd E af t1 y) st<;>rfl
def Aqh{f:Operand}{xs:List Operand}{ts:List TypeId}:DJ E mv ⟨d,.call {callee:=.value f,args:=⟨xs⟩,argTypes:=⟨ts⟩},ty,pos,aft,g⟩ af st K=AQD E (rd E af 0 f) (rdL E af xs ts) d K af st:=by simp only[DJ,AQD];rfl
def OW{o:Oper} (h:DJ E mv o af st K=(match(Dv E o af).map λr=>(Ac af o.dst r.strip,st)with|some (af',st')=>K af' st'|none=>False)):DJ E mv o af st K=Ni (Dv E o af) o.dst K af st:=by rw[h];simp only[Ni];cases Dv E o af<;>rfl
def Alt (c x y:AVal):Option AVal:=match c with|.bool t=>some (if t=true then x else y)|_=>none
theorem AWj{b:Bool}{x y:AVal}:Alt (.bool b) x y=some (if b=true then x else y):=rfl
def AtN{c x y:Operand}:DJ E mv ⟨d,.pick c x y,ty,pos,aft,g⟩ af st K=Ni (Alt (rd E af 0 c) (rd E af ty x) (rd E af ty y)) d K af st:=OW rfl
def AP0{x:Operand}:DJ E mv ⟨d,.nilCheck x,ty,pos,aft,g⟩ af st K=Ni (Nh (rd E af 0 x)) d K af st:=OW rfl
def bnK (c b:Bool) (v:AVal) (d:Option Tmp) (K:List AVal->St->Prop) (af:List AVal) (st:St) (X:Prop):Prop:=if c=true then Aiw b v (λr=>K (Ac af d r) st)else X
def Ax2{b:Bool}{v:AVal}{X:Prop}:bnK false b v d K af st X=X:=by simp[bnK]
def Axl{w:Nat}{xs:List AVal}{o:Bool}{X:Prop}:bnK true true (.slice w xs o) d K af st X= ∀c:Bool,(c=true->xs=[])->K (Ac af d (.bool c)) st:=by simp[bnK,Aiw]
def Ak9{op:BinOp}{k:Tmp}:Vj op (.tmp k)=false:=by cases op<;>rfl
def Aqn{op:BinOp}{k:FuncId}:Vj op (.func k)=false:=by cases op<;>rfl
def Aw1{op:BinOp}{k:Nat}:Vj op (.global k)=false:=by cases op<;>rfl
def AkT{op:BinOp}{k:IntKind}{n:Int}:Vj op (.const (.int k n))=false:=by cases op<;>rfl
def AnC{op:BinOp}{s:ByteArray}:Vj op (.const (.string s))=false:=by cases op<;>rfl
def Aew{op:BinOp}{s:Bool}:Vj op (.const (.bool s))=false:=by cases op<;>rfl
def Am9{op:BinOp}{s:Option Addr}:Vj op (.const (.pointer s))=false:=by cases op<;>rfl
def Aix{op:BinOp}{s:Array Value}:Vj op (.const (.agg s))=false:=by cases op<;>rfl
def ArF{op:BinOp}:Vj op (.const .nilFunc)=false:=by cases op<;>rfl
def As3{op:BinOp}:Vj op (.const .nilIface)=false:=by cases op<;>rfl
theorem An1:Vj .eql (.const (.slice none 0 0))=true:=rfl
theorem Akm{op:BinOp}{t u:TypeId}{x y:Operand}:DJ E mv ⟨d,.binOp op t x y u,ty,pos,aft,g⟩ af st K=bnK (Vj op y) (BZ E.P t) (rd E af t x) d K af st (Ni (FO E op t (rd E af t x) (rd E af t y)) d K af st):=by
 have e:DJ E mv ⟨d,.binOp op t x y u,ty,pos,aft,g⟩ af st K=if Vj op y=true then Aiw (BZ E.P t) (rd E af t x) (λv=>K (Ac af d v) st)else(match(FO E op t (rd E af t x) (rd E af t y)).map (λr=>(Ac af d r.strip,st))with|some (af',st')=>K af' st'|none=>False):=rfl;rw[e];unfold bnK Ni;split;·rfl
 ·cases FO E op t (rd E af t x) (rd E af t y)<;>rfl
def AqB{op:UnOp}{t:TypeId}{x:Operand}:DJ E mv ⟨d,.unOp op t x,ty,pos,aft,g⟩ af st K=Ni (unA op (rd E af 0 x)) d K af st:=OW rfl
theorem AX9{s t:TypeId}{x:Operand}:DJ E mv ⟨d,.convert s t x,ty,pos,aft,g⟩ af st K=RP (AXq (Sk E s t (rd E af s x)) (UH E s t (rd E af s x) st) (SQ E s t (rd E af s x) st) st) d K af:=by have h:Dv E ⟨d,.convert s t x,ty,pos,aft,g⟩ af=Sk E s t (rd E af s x):=rfl;simp only[DJ,EQ,RP,h];grind[Sk,rd,AXq,UH,SQ]
def AGn{t:TypeId}{x y:Operand}:DJ E mv ⟨d,.makeSlice t x y,ty,pos,aft,g⟩ af st K=RP (alG (QE mv d) (Xu E t (rd E af 0 x) (rd E af 0 y) st) (Xw E t (rd E af 0 x) (rd E af 0 y) st)) d K af:=by
 simp only[DJ,EQ,RP,alG];cases QE mv d<;>simp only[aB,az,aq];·cases Xw E t (rd E af 0 x) (rd E af 0 y) st<;>rfl
 ·cases Xu E t (rd E af 0 x) (rd E af 0 y) st<;>rfl
def Alk{x:Operand}{t0:TypeId}{ts:List TypeId}:DJ E mv ⟨d,.call {callee:=.builtin .unsafeSliceData,args:=⟨[x]⟩,argTypes:=⟨t0::ts⟩},ty,pos,aft,g⟩ af st K=Sn (UC (rd E af t0 x)) d K (stripAt af x) st:=by simp only[DJ,EQ,Sn];cases UC (rd E af t0 x)<;>rfl
def ArL{x y:Operand}{t0 t1:TypeId}:DJ E mv ⟨d,.call {callee:=.builtin .unsafeString,args:=⟨[x,y]⟩,argTypes:=⟨[t0,t1]⟩},ty,pos,aft,g⟩ af st K=Sn (YG E t0 (rd E af t0 x) (rd E af t1 y)) d K (stripAt af x) st:=by simp only[DJ,EQ,Sn];cases YG E t0 (rd E af t0 x) (rd E af t1 y)<;>rfl
def AU6{f:Fn}{p q:List Operand}:DJ E mv ⟨d,.makeFunc f ⟨p⟩ ⟨q⟩,ty,pos,aft,g⟩ af st K=K (Ac af d (AVal.fn f (p.map (rd E af 0)) (q.map (rd E af 0))).strip) st:=OW rfl
def AG2{s:TypeId}{x:Operand}{f:Nat}:DJ E mv ⟨d,.fieldAddr s x f,ty,pos,aft,g⟩ af st K=Ni (O4 E s (rd E af 0 x) f) d K af st:=OW rfl
def AlW{s:TypeId}{x:Operand}{f:Nat}:DJ E mv ⟨d,.field s x f,ty,pos,aft,g⟩ af st K=Ni (Wd E s (rd E af s x) f) d K af st:=OW rfl
def ixV (y:Option AVal) (st:St):Option (AVal×St):=match y with|some r=>some (r,st)|none=>none
theorem Ajx{r:AVal}:ixV (some r) st=some (r,st):=rfl
theorem AJg{t:TypeId}{x i:Operand}:DJ E mv ⟨d,.indexAddr t x i,ty,pos,aft,g⟩ af st K=RP (AXq (DR E t (rd E af t x) (rd E af 0 i)) (G9 E t (rd E af t x) (rd E af 0 i) st) (ixV (RB E t (rd E af t x) (rd E af 0 i) st) st) st) d K af:=by have h:Dv E ⟨d,.indexAddr t x i,ty,pos,aft,g⟩ af=DR E t (rd E af t x) (rd E af 0 i):=rfl;simp only[DJ,EQ,RP,h];cases DR E t (rd E af t x) (rd E af 0 i)with|some r=>rfl|none=>simp only[AXq];cases G9 E t (rd E af t x) (rd E af 0 i) st with|some r=>rfl|none=>simp only[ixV];cases RB E t (rd E af t x) (rd E af 0 i) st<;>rfl
def AnW{t:TypeId}{x i:Operand}:DJ E mv ⟨d,.index t x i,ty,pos,aft,g⟩ af st K=Ni (UU E t (rd E af t x) (rd E af 0 i)) d K af st:=OW rfl
def lnK (x y:Option AVal) (d:Option Tmp) (K:List AVal->St->Prop) (af:List AVal) (st:St):Prop:=match x with|some r=>K (Ac af d r.strip) st|none=>Sn y d K af st
theorem AjP{r:AVal}{y:Option AVal}:lnK (some r) y d K af st=K (Ac af d r.strip) st:=rfl
theorem Aiy{y:Option AVal}:lnK none y d K af st=Sn y d K af st:=rfl
theorem Aw6{x:Operand}{t:TypeId}{ts:List TypeId}:DJ E mv ⟨d,.call {callee:=.builtin .len,args:=⟨[x]⟩,argTypes:=⟨t::ts⟩},ty,pos,aft,g⟩ af st K=lnK (Rx E t (rd E af t x)) (ABE E t (rd E af t x) st) d K af st:=by have h:Dv E ⟨d,.call {callee:=.builtin .len,args:=⟨[x]⟩,argTypes:=⟨t::ts⟩},ty,pos,aft,g⟩ af=Rx E t (rd E af t x):=rfl;simp only[DJ,EQ,lnK,h,Sn];cases Rx E t (rd E af t x)with|some r=>rfl|none=>simp only[];cases ABE E t (rd E af t x) st<;>rfl
def lvR (b:Bool) (y:Option (Nat×Nat×List AVal)):Option AVal:=match y with|some (_,_,xs)=>if b=true then some (.int .i64 xs.length)else none|none=>none
def AyL{t:TypeId}{i:Nat}:ABE E t (.sh i) st=lvR (BZ E.P t) (KQ st (.sh i)):=by unfold lvR ABE;rfl
def Aii{i w:Nat}{xs:List AVal}:lvR true (some (i,w,xs))=some (.int .i64 xs.length):=by simp[lvR]
theorem Auq{t:TypeId}{i:Nat}:Rx E t (.sh i)=none:=rfl
def AwQ{x:Operand}{t:TypeId}{ts:List TypeId}:DJ E mv ⟨d,.call {callee:=.builtin .cap,args:=⟨[x]⟩,argTypes:=⟨t::ts⟩},ty,pos,aft,g⟩ af st K=Ni (AiE E t (rd E af t x)) d K af st:=OW rfl
def Asb{x y:Operand}{t s:TypeId}:DJ E mv ⟨d,.call {callee:=.builtin .copy,args:=⟨[x,y]⟩,argTypes:=⟨[t,s]⟩},ty,pos,aft,g⟩ af st K=Ni (Aau E t (rd E af t x) (rd E af s y)) d K af st:=OW rfl
def Awz{x y:Operand}{ts:Array TypeId}:DJ E mv ⟨d,.call {callee:=.builtin .min,args:=⟨[x,y]⟩,argTypes:=ts},ty,pos,aft,g⟩ af st K=Ni (Afm (rd E af 0 x) (rd E af 0 y)) d K af st:=OW rfl
def Awy{x y:Operand}{ts:Array TypeId}:DJ E mv ⟨d,.call {callee:=.builtin .max,args:=⟨[x,y]⟩,argTypes:=ts},ty,pos,aft,g⟩ af st K=Ni (AeL (rd E af 0 x) (rd E af 0 y)) d K af st:=OW rfl
def gdD (d:Option Tmp) (af:List AVal) (want:Bool):Option Bool:=match d with|some i=>gd (af.getD i .any) want|none=>none
def QI:List Oper->Nat->Option Tmp|[],_=>none|o::_,0=>o.dst|_::os,n+1=>QI os n
def AkA (os:List Oper) (j:Nat):QI os j=((List.toArray os)[j]?).bind (·.dst):=by rw[dl];induction os generalizing j with|nil=>simp[QI]|cons o os ih=>cases j with|zero=>simp[QI]|succ j=>grind[QI]
theorem AWY (os:List Oper) (j:Nat) (want:Bool):gdA ⟨os⟩ af j want=gdD (QI os j) af want:=by rw[AkA];rfl
theorem Art:Mc E mv ops [] K af st=K af st:=rfl
theorem AlD{op:Op}{os:List Oper}:Mc E mv ops (⟨d,op,ty,pos,aft,none⟩::os) K af st=DJ E mv ⟨d,op,ty,pos,aft,none⟩ af st (Mc E mv ops os K):=rfl
theorem Ac0{op:Op}:Ot E ops ⟨d,op,ty,pos,aft,none⟩ af st=Ei E ⟨d,op,ty,pos,aft,none⟩ af st:=rfl
def Ark{op:Op}{os':List Oper}{j:Nat}{want:Bool}:Ot E ⟨os'⟩ ⟨d,op,ty,pos,aft,some (j,want)⟩ af st=if gdD (QI os' j) af want=some true then Ei E ⟨d,op,ty,pos,aft,some (j,want)⟩ af st else if gdD (QI os' j) af want=some false then some (.tuple [])else none:=by grind[Ot,AWY,gdD,QI]
def PM (x:Option AVal):Option AVal:=x.map AVal.strip
theorem AUv{r:AVal}:PM (some r)=some r.strip:=rfl
theorem AsQ{x:Operand}:Ei E ⟨d,.move x,ty,pos,aft,g⟩ af st=some (rd E af ty x).strip:=rfl
theorem As9{t:TypeId}{x:Operand}:Ei E ⟨d,.load t x,ty,pos,aft,g⟩ af st=PM (SL E t (rd E af 0 x) st):=rfl
def AYO (E:Env) (t:TypeId) (x:AVal) (lo hi mx:Option (Option Int)):Option AVal:=match lo,hi,mx with|some l,some h,some m=>GD E t x l h m|_,_,_=>none
theorem ATa{t:TypeId}{x:AVal}{lo hi mx:Option Int}:AYO E t x (some lo) (some hi) (some mx)=GD E t x lo hi mx:=rfl
def Ahv{t:TypeId}{x:Operand}{lo hi mx:Option Operand}:Ei E ⟨d,.slice t x lo hi mx,ty,pos,aft,g⟩ af st=AYO E t (rd E af t x) (rdo E af lo) (rdo E af hi) (rdo E af mx):=by grind[Ei,AYO,rdo]
theorem AD2{t:TypeId}{n:Nat}{ps:List (Nat×Operand)}:Ei E ⟨d,.buildSlice t n ⟨ps⟩,ty,pos,aft,g⟩ af st=IB E t n (Bb E (λ_=>AR E.P t 0) af ps).2:=rfl
theorem Ap2{c x y:Operand}:Ei E ⟨d,.pick c x y,ty,pos,aft,g⟩ af st=PM (Alt (rd E af 0 c) (rd E af ty x) (rd E af ty y)):=rfl
theorem ARu{x:Operand}:Ei E ⟨d,.nilCheck x,ty,pos,aft,g⟩ af st=PM (Nh (rd E af 0 x)):=rfl
theorem Ak0{op:BinOp}{t u:TypeId}{x y:Operand}:Ei E ⟨d,.binOp op t x y u,ty,pos,aft,g⟩ af st=PM (FO E op t (rd E af t x) (rd E af t y)):=rfl
theorem ApP{op:UnOp}{t:TypeId}{x:Operand}:Ei E ⟨d,.unOp op t x,ty,pos,aft,g⟩ af st=PM (unA op (rd E af 0 x)):=rfl
theorem AYe{s t:TypeId}{x:Operand}:Ei E ⟨d,.convert s t x,ty,pos,aft,g⟩ af st=PM (Sk E s t (rd E af s x)):=rfl
theorem AQn{f:Fn}{p q:List Operand}:Ei E ⟨d,.makeFunc f ⟨p⟩ ⟨q⟩,ty,pos,aft,g⟩ af st=some (AVal.fn f (p.map (rd E af 0)) (q.map (rd E af 0))).strip:=rfl
theorem ALX{s:TypeId}{x:Operand}{f:Nat}:Ei E ⟨d,.fieldAddr s x f,ty,pos,aft,g⟩ af st=PM (O4 E s (rd E af 0 x) f):=rfl
theorem AiX{s:TypeId}{x:Operand}{f:Nat}:Ei E ⟨d,.field s x f,ty,pos,aft,g⟩ af st=PM (Wd E s (rd E af s x) f):=rfl
def ixO (x y z:Option AVal):Option AVal:=match x with|some r=>some r.strip|none=>match y with|some _=>none|none=>z
theorem AmS{r:AVal}{y z:Option AVal}:ixO (some r) y z=some r.strip:=rfl
theorem Ah3{z:Option AVal}:ixO none none z=z:=rfl
theorem ANQ{t:TypeId}{x i:Operand}:Ei E ⟨d,.indexAddr t x i,ty,pos,aft,g⟩ af st=ixO (DR E t (rd E af t x) (rd E af 0 i)) (G9 E t (rd E af t x) (rd E af 0 i) st) (RB E t (rd E af t x) (rd E af 0 i) st):=rfl
theorem Alq{t:TypeId}{x i:Operand}:Ei E ⟨d,.index t x i,ty,pos,aft,g⟩ af st=PM (UU E t (rd E af t x) (rd E af 0 i)):=rfl
def lnO (x y:Option AVal):Option AVal:=match x with|some r=>some r.strip|none=>y
theorem AjK{r:AVal}{y:Option AVal}:lnO (some r) y=some r.strip:=rfl
theorem Aig{y:Option AVal}:lnO none y=y:=rfl
theorem AuR{x:Operand}{t:TypeId}{ts:List TypeId}:Ei E ⟨d,.call {callee:=.builtin .len,args:=⟨[x]⟩,argTypes:=⟨t::ts⟩},ty,pos,aft,g⟩ af st=lnO (Rx E t (rd E af t x)) (ABE E t (rd E af t x) st):=rfl
theorem AwH{x:Operand}{t:TypeId}{ts:List TypeId}:Ei E ⟨d,.call {callee:=.builtin .cap,args:=⟨[x]⟩,argTypes:=⟨t::ts⟩},ty,pos,aft,g⟩ af st=PM (AiE E t (rd E af t x)):=rfl
theorem AxB{x y:Operand}{ts:Array TypeId}:Ei E ⟨d,.call {callee:=.builtin .min,args:=⟨[x,y]⟩,argTypes:=ts},ty,pos,aft,g⟩ af st=PM (Afm (rd E af 0 x) (rd E af 0 y)):=rfl
theorem Avw{x y:Operand}{ts:Array TypeId}:Ei E ⟨d,.call {callee:=.builtin .max,args:=⟨[x,y]⟩,argTypes:=ts},ty,pos,aft,g⟩ af st=PM (AeL (rd E af 0 x) (rd E af 0 y)):=rfl
theorem Aw3{op:Op}:gWp E mv ops ⟨d,op,ty,pos,aft,none⟩ af st K=DJ E mv ⟨d,op,ty,pos,aft,none⟩ af st K:=rfl
theorem Ax5:gd (.bool true) true=some true:=rfl
theorem AxW:gd (.bool true) false=some false:=rfl
theorem Axm:gd (.bool false) true=some false:=rfl
theorem Ax0:gd (.bool false) false=some true:=rfl
theorem Aiv{want:Bool}:gd (.tuple []) want=some false:=rfl
theorem Alx{i:Nat}{want:Bool}:gdD (some i) af want=gd (af.getD i .any) want:=rfl
def opAt:List Oper->Nat->Option Oper|[],_=>none|o::_,0=>some o|_::os,n+1=>opAt os n
def AI0 (os:List Oper) (j:Nat):opAt os j=(List.toArray os)[j]?:=by rw[dl];induction os generalizing j with|nil=>simp[opAt]|cons o os ih=>cases j with|zero=>simp[opAt]|succ j=>grind[opAt]
def tkR (E:Env) (mv:List Tmp) (os:List Oper) (x:Option AVal) (i:Nat) (d:Option Tmp) (p:Plan) (tv:List (Nat×AVal)) (K:List AVal->St->Prop) (af:List AVal) (st:St):Prop:=match x with|some r=>Ho E mv ⟨os⟩ p ((i,r)::tv) K (Ac af d r) st|none=>False
def tkO (E:Env) (mv:List Tmp) (os:List Oper) (x:Option Oper) (i:Nat) (p:Plan) (tv:List (Nat×AVal)) (K:List AVal->St->Prop) (af:List AVal) (st:St):Prop:=match x with|some o=>tkR E mv os (Ot E ⟨os⟩ o af st) i o.dst p tv K af st|none=>False
def Ak6 (E:Env) (mv:List Tmp) (os:List Oper) (chk:List Nat) (p:Plan) (tv:List (Nat×AVal)) (K:List AVal->St->Prop) (af:List AVal) (st:St):Prop:=R4 E ⟨os⟩ tv af st chk/\Ho E mv ⟨os⟩ p tv K af st
def AtP (E:Env) (mv:List Tmp) (os:List Oper) (x:Option Oper) (chk:List Nat) (p:Plan) (tv:List (Nat×AVal)) (K:List AVal->St->Prop) (af:List AVal) (st:St):Prop:=match x with|some o=>gWp E mv ⟨os⟩ o af st (Ak6 E mv os chk p tv K)|none=>False
def Axs (E:Env) (os:List Oper) (x:Option AVal) (o:Option Oper) (af:List AVal) (st:St):Prop:=match x,o with|some r,some o=>Ot E ⟨os⟩ o af st=some r|_,_=>False
variable{os:List Oper}{tv:List (Nat×AVal)}{p rest:Plan}{chk:List Nat}{i:Nat}
theorem Amt{op:Op}:tkO E mv os (some ⟨d,op,ty,pos,aft,g⟩) i p tv K af st=tkR E mv os (Ot E ⟨os⟩ ⟨d,op,ty,pos,aft,g⟩ af st) i d p tv K af st:=rfl
theorem Ak4{r:AVal}:tkR E mv os (some r) i d p tv K af st=Ho E mv ⟨os⟩ p ((i,r)::tv) K (Ac af d r) st:=rfl
theorem Adc{o:Oper}:AtP E mv os (some o) chk p tv K af st=gWp E mv ⟨os⟩ o af st (Ak6 E mv os chk p tv K):=rfl
theorem An7:Ak6 E mv os chk p tv K af st=(R4 E ⟨os⟩ tv af st chk/\Ho E mv ⟨os⟩ p tv K af st):=rfl
theorem Abx:Ho E mv ⟨os⟩ .done tv K af st=K af st:=rfl
theorem AfX:Ho E mv ⟨os⟩ .stop tv K af st=True:=rfl
def AcZ:Ho E mv ⟨os⟩ (.take i p) tv K af st=tkO E mv os (opAt os i) i p tv K af st:=by rw[AI0];rfl
def AiZ:Ho E mv ⟨os⟩ (.alt i chk p rest) tv K af st=(AtP E mv os (opAt os i) chk p tv K af st/\Ho E mv ⟨os⟩ rest tv K af st):=by rw[AI0];rfl
theorem AsK:R4 E ⟨os⟩ tv af st []=True:=rfl
def Ah8{k:Nat}{ks:List Nat}:R4 E ⟨os⟩ tv af st (k::ks)=(Axs E os (YB tv k) (opAt os k) af st/\R4 E ⟨os⟩ tv af st ks):=by rw[AI0];rfl
theorem AeG{r:AVal}{o:Oper}:Axs E os (some r) (some o) af st=(Ot E ⟨os⟩ o af st=some r):=rfl
end ops
end
end Go.VM
namespace Go.VM
def grd{α:Type} (c:Prop) [Decidable c] (x:Option α):Option α:=if c then x else none
def AXr{α:Type} (x:Option α):Option α:=x
theorem AIG{α:Type}{x:Option α}:AXr x=x:=rfl
inductive PC where|k|w|v (x:AVal)
inductive BX where|k|d|s (c:List AVal)|t (c:Nat->List AVal)|p (ps:List PC)
inductive JD (α:Type) where|z|a (id:Nat×Nat) (js:List (Nat×Nat)) (cs:List Tmp) (V:α->List AVal)|b (id:Nat×Nat) (js:List (Nat×Nat)) (cs:List Tmp) (V:α->List AVal) (Ms:α->List BX)|n (id:Nat×Nat) (js:List (Nat×Nat)) (cs:List Tmp) (p:Tmp) (V:α->Nat->List AVal) (Ms:α->Nat->List BX) (C:α->Nat->List AVal)
abbrev JD.o (i:Nat×Nat) (js:List (Nat×Nat)) (cs:List Tmp):JD Bool:=.a i js cs λj=>[.bool j]
abbrev JD.u (i:Nat×Nat) (js:List (Nat×Nat)):JD Unit:=.a i js [] λ_=>[]
def AA{α β:Type} (k:α->Option β) (body:(α->Option β)->Option β) (d:JD α:=.z):Option β:=body k
theorem ABg{α:Type}{c:Prop} [Decidable c]{x:Option α}{r:α} (h:grd c x=some r):c/\x=some r:=by grind[grd]
def bind_some{α β:Type}{x:Option α}{f:α->Option β}{r:β} (h:Option.bind x f=some r): ∃y,x=some y/\f y=some r:=by cases x with|none=>cases h|some y=>grind
def letL{α β:Type} (x:α) (f:α->Option β):Option β:=f x
def idx{α:Type} (l:List α) (i:Int):Option α:=if 0<=i then l[i.toNat]? else none
def sub{α:Type} (l:List α) (a b:Int):Option (List α):=if 0<=a/\a<=b/\b<=l.length then some ((l.drop a.toNat).take (b.toNat-a.toNat))else none
def AaC{α:Type}{l:List α}{n:Int}{x:α} (h:idx l n=some x):l[n.toNat]?=some x:=by unfold idx at h;split at h<;>simp_all
def Aq4{α β:Type} (f:α->β) (l:List α) (i:Int):idx (l.map f) i=(idx l i).map f:=by unfold idx;split<;>simp
class EO (α:Type) (f:outParam (α->AVal)):Prop
theorem Ayg{α:Type}{f:α->AVal} [EO α f]{a b:List α} (c:a=b):List.map f a=List.map f b:=br _ c
def AsD{α β:Type} (f:α->β) (l:List α) (a b:Int):sub (l.map f) a b=(sub l a b).map (List.map f):=by unfold sub;simp only[cp];split<;>simp[fB,List.map_drop]
def Ae (n b:Nat):Prop:=n * b<=140737488355328/\n<=4611686018427387904
instance (n b:Nat):Decidable (Ae n b):=by unfold Ae;infer_instance
def AL (n:Nat):Prop:=n<=4611686018427387904
instance (n:Nat):Decidable (AL n):=by unfold AL;infer_instance
def wr (k:IntKind) (n:Int):Int:=k.wrap n
def Pg (k:IntKind) (a b:Int):Int:=k.wrap (BitVec.ofInt k.bits a&&&BitVec.ofInt k.bits b).toNat
def Pm (k:IntKind) (a b:Int):Int:=k.wrap (BitVec.ofInt k.bits a|||BitVec.ofInt k.bits b).toNat
def Ajw (k:IntKind) (a b:Int):Int:=k.wrap (BitVec.ofInt k.bits a^^^BitVec.ofInt k.bits b).toNat
def ABa (k:IntKind) (a b:Int):Int:=k.wrap (BitVec.ofInt k.bits a&&& ~~~ BitVec.ofInt k.bits b).toNat
def AOW (k:IntKind) (x y:Int):Int:=k.wrap (x * 2^min y.toNat k.bits)
def ADg (k:IntKind) (x y:Int):Int:=x.fdiv (2^min y.toNat k.bits)
section
variable{E:Env}{st:St}{af:List AVal}
def Aun (e:Option Nat) (w:Nat) (y:Option AVal):Option AVal:=match y with|some y=>if e=some w/\(AZ y).length=w then some (.cptr (AZ y))else none|none=>none
def AlV{t:TypeId}{w:Nat}{xs:List AVal}{o:Bool}{k:IntKind}{n:Int}:DR E t (.slice w xs o) (.int k n)=Aun (Bj E.P t) w (idx xs n):=by simp only[DR,Aun,idx];by_cases h1:Bj E.P t=some w<;>by_cases h2:0<=n<;>simp[h1,h2]<;>cases xs[n.toNat]?<;>simp
theorem AdL{e:Option Nat}{w:Nat}{y:AVal}:Aun e w (some y)=if e=some w/\(AZ y).length=w then some (.cptr (AZ y))else none:=rfl
def AuV (b:Bool) (x:Option UInt8):Option AVal:=match x with|some c=>if b=true then some (.int .u8 c.toNat)else none|none=>none
def Auo{t:TypeId}{s:B8}{k:IntKind}{n:Int}:UU E t (.str s) (.int k n)=AuV (DX E.P t) (idx s n):=by simp only[UU,AuV,idx];cases DX E.P t<;>by_cases h2:0<=n<;>simp[h2]<;>cases s[n.toNat]?<;>simp
theorem AfN{c:UInt8}:AuV true (some c)=some (.int .u8 (AJ c)):=rfl
def Avp (b:Bool) (x:Option B8):Option AVal:=match x with|some s=>if b=true then some (.str s)else none|none=>none
def Auz{t:TypeId}{s:B8}{lo hi:Option Int}:GD E t (.str s) lo hi none=Avp (DX E.P t) (sub s (lo.getD 0) (hi.getD s.length)):=by
 simp only[GD,Avp,sub];by_cases h:0<=lo.getD 0/\lo.getD 0<=hi.getD s.length/\hi.getD s.length<=s.length
 ·rw[an h];cases DX E.P t;·rw[aj fI];rfl
  ·rw[an ⟨rfl,trivial,h⟩];rfl
 ·rw[aj h,aj (λk=>h k.2.2)]
theorem AgI{s:B8}:Avp true (some s)=some (.str s):=rfl
def AJt (e:Option Nat) (w:Nat) (o:Bool) (x:Option (List AVal)):Option AVal:=match x with|some s=>if e=some w then some (.slice w s o)else none|none=>none
def AmB{t:TypeId}{w:Nat}{xs:List AVal}{o:Bool}{lo hi:Option Int}:GD E t (.slice w xs o) lo hi none=AJt (Bj E.P t) w false (sub xs (lo.getD 0) (hi.getD xs.length)):=by grind[GD,AJt,sub,Bj]
def Afl{t:TypeId}{w:Nat}{xs:List AVal}{o:Bool}{lo:Option Int}{h:Int}:GD E t (.slice w xs o) lo (some h) (some h)=AJt (Bj E.P t) w true (sub xs (lo.getD 0) h):=by grind[GD,AJt,sub,Bj]
def AfE{w:Nat}{o:Bool}{s:List AVal}:AJt (some w) w o (some s)=some (.slice w s o):=by simp[AJt]
def AV5 (e:Option (Nat×Nat)) (i:Option IntKind) (b:Bool) (wd:Nat) (xs:List AVal) (ys:Option (List AVal)):Option AVal:=match e,ys with|some (z,by_),some ys=>if z=wd/\i=none/\b=true/\Ae (xs.length+ys.length) by_ then some (.slice wd (xs++ys) true)else none|_,_=>none
set_option linter.unusedSimpArgs false in theorem Alp{t0 t1:TypeId}{wd:Nat}{xs:List AVal}{y:AVal}:JM E t0 t1 (.slice wd xs true) y=AV5 (KI E.P t0) (Ih E.P t1) (Ah E.P t1) wd xs (QP wd y):=by simp only[JM,OL,AV5];rcases KI E.P t0 with _|⟨z,b⟩<;>rcases QP wd y with _|ys<;>try rfl
def Aeh{wd by_:Nat}{xs ys:List AVal}:AV5 (some (wd,by_)) none true wd xs (some ys)=if Ae (xs.length+ys.length) by_ then some (.slice wd (xs++ys) true)else none:=by simp[AV5]
def AY4{wd:Nat}{ys:List AVal}{o:Bool}:QP wd (.slice wd ys o)=some ys:=by simp[QP]
def Alu{l:B8}:QP 1 (.str l)=some ((l.map AJ).map (.int .u8)):=by simp[QP,AJ]
def apB (i:Bool) (e:Option (Nat×Nat)) (n:Option IntKind) (b:Bool) (el:TypeId) (l m:B8):Option AVal:=match i,e,n,b with|true,some (1,by_),none,true=>if Ae (l.length+m.length) by_ then some (.buf el (l++m) true)else none|_,_,_,_=>none
theorem Ahs{by_:Nat}{el:TypeId}{l m:B8}:apB true (some (1,by_)) none true el l m=if Ae (l.length+m.length) by_ then some (.buf el (l++m) true)else none:=rfl
def AuO{t0 t1 el:TypeId}{l m:B8}:JM E t0 t1 (.buf el l true) (.str m)=apB (AB7 E.P t0 el) (KI E.P t0) (Ih E.P t1) (Ah E.P t1) el l m:=by
 have hl:(u8s l).length=l.length:=by simp[u8s]
 cases h1:AB7 E.P t0 el;·grind[JM,apB]
 rcases h2:KI E.P t0 with _|⟨z,by_⟩;·grind[JM,OL,apB]
 cases h3:Ih E.P t1
 ·cases h4:Ah E.P t1;·grind[JM,OL,QP,apB]
  ·by_cases hz:z=1
   ·subst hz;rw[Ahs];by_cases hf:Ae (l.length+m.length) by_;·have hf':=hf;unfold Ae at hf';simp[JM,OL,h1,h2,h3,h4,QP,hl,hf,CX];exact hf'
    ·have hf':=hf;unfold Ae at hf';simp[JM,OL,h1,h2,h3,h4,QP,hl,hf,CX];intro k1;have:=λk2=>hf' ⟨k1,k2⟩;omega
   ·have:apB true (some (z,by_)) none true el l m=none:=by
     unfold apB;split;·rename_i e1 e2 e3 e4;cases e2;exact absurd rfl hz
     ·rfl
    rw[this];simp[JM,OL,h2,h3,h4,QP,hz]
 grind[JM,OL,QP,apB]
def Apj{a b:B8}:ABJ .add a b=if AL (a.length+b.length)then some (.str (a++b))else none:=by simp only[ABJ,CX];by_cases h:a.length+b.length<=4611686018427387904<;>simp[h,AL]
def AHD{i:Nat}{c:List AVal}{m:List (Nat×List AVal)}:Ag ((i,c)::m) i=some c:=by simp[Ag]
def YC{i j:Nat}{c:List AVal}{m:List (Nat×List AVal)} (h:i≠j):Ag ((j,c)::m) i=Ag m i:=by grind[Ag]
def AZr{i:Nat}{c x:List AVal}{m:List (Nat×List AVal)}:A7 ((i,c)::m) i x=(i,x)::m:=by simp[A7]
def AZ3{i j:Nat}{c x:List AVal}{m:List (Nat×List AVal)} (h:i≠j):A7 ((j,c)::m) i x=(j,c)::A7 m i x:=by grind[A7]
def ACall.of{f:FuncId}{args args':List AVal}{Q Q':AVal->St->Prop} (hc:ACall E f args' st Q') (ha:args=args') (hq: ∀r st',st.next<=st'.next->Q' r st'->Q r st'):ACall E f args st Q:=by subst ha;exact hc.mono hq
def Tf:List AVal->AVal|[r]=>r|rs=>.tuple rs
def KW{fn:Func}{Q:AVal->St->Prop}{xs:List AVal}{st':St}{m:List (Nat×List AVal)} (h:RX E fn.results.toList af st=some (xs,st')) (hm:m.Sublist st'.m) (hq:Q (Tf xs) {st' with m:=m}):KH E fn Q .ret af st:=by unfold KH;rw[h];exact⟨m,hm,hq⟩
def KY{fn:Func}{Q:AVal->St->Prop}{xs:List AVal}{st':St}{m:List (Nat×List AVal)} (h:RX E fn.results.toList af st=some (xs,st')) (hm:m.Sublist st'.m) (hq:Q (Tf xs) {st' with m:=m}):KH E fn Q .normal af st:=by unfold KH;rw[h];exact⟨m,hm,hq⟩
def AWp.congr{c:Code}{Q:APost}{af':List AVal} (h:af=af') (k:AWp E c Q af' st):AWp E c Q af st:=h▸k
def stripB:List Bool->List AVal->List AVal|true::bs,x::xs=>x.strip::stripB bs xs|false::bs,x::xs=>x::stripB bs xs|[],xs=>xs|_::_,[]=>[]
def TB: ∀(bs:List Bool) (xs:List AVal),(stripB bs xs).length=xs.length|[],xs=>by rw[stripB]|_::_,[]=>by rw[stripB]|true::bs,x::xs=>by rw[stripB,ae,ae,TB bs xs]|false::bs,x::xs=>by rw[stripB,ae,ae,TB bs xs]
def Qo{O:Ghost}: ∀(bs:List Bool) (xs:List AVal) (vs:List Value),RepL O xs vs->RepL O (stripB bs xs) vs
 |[],xs,vs,h=>by grind[stripB]
 |_::_,[],vs,h=>by grind[stripB]
 |true::bs,x::xs,vs,h=>by cases h with|cons h t=>rw[stripB];exact .cons h.strip (Qo bs _ _ t)
 |false::bs,x::xs,vs,h=>by cases h with|cons h t=>rw[stripB];exact .cons h (Qo bs _ _ t)
def Qp{O:Ghost}{w:World}: ∀(bs:List Bool) (xs:List AVal) (vs:List Value),ownL O w xs vs->ownL O w (stripB bs xs) vs|[],xs,vs,h=>by grind[stripB]|_::_,[],vs,h=>by grind[stripB]|true::bs,x::xs,[],h=>by grind[stripB,ownL]|false::bs,x::xs,[],h=>by grind[stripB,ownL]|true::bs,x::xs,v::vs,h=>by rw[ownL]at h;rw[stripB,ownL];exact⟨MO _ _ _ _,Qp bs xs vs h.2⟩|false::bs,x::xs,v::vs,h=>by rw[ownL]at h;rw[stripB,ownL];exact⟨h.1,Qp bs xs vs h.2⟩
def Qu (b:Nat): ∀(bs:List Bool) (xs:List AVal) (vs:List Value),AP b (stripB bs xs) vs<=AP b xs vs|[],xs,vs=>by simp_all[stripB]|_::_,[],vs=>by simp_all[stripB]|true::bs,x::xs,[]=>by grind[stripB,AP]|false::bs,x::xs,[]=>by grind[stripB,AP]|true::bs,x::xs,v::vs=>by have:=Qu b bs xs vs;grind[stripB,AP,Iw]|false::bs,x::xs,v::vs=>by have:=Qu b bs xs vs;grind[stripB,AP]
def Sim.stripCells{F:Nat->Nat}{O:Ghost}{w:World}{a:Act}{i:Nat}{cs:List AVal} (bs:List Bool) (hs:Sim E F O st w af a.tmps.toList) (hg:Ag st.m i=some cs):Sim E F O {st with m:=A7 st.m i (stripB bs cs)} w af a.tmps.toList:=by
 rcases hs.box_ok _ (Lj hg)with⟨b,arr,e,hb⟩|⟨v,hv⟩;rotate_left;·exact hs.setSh hg hv (Qo bs _ _ hv.rep) (Qp bs _ _ hv.own) λn=>by have h1:=Qu n bs cs [v];have h2:=hs.tok n;omega
 obtain⟨lo,hi,hh,hf⟩:=hb.heap;exact(hs.setBox (w':=w) (cs':=stripB bs cs) (arr':=arr) (lo:=lo) (hi:=hi) hg hb hh hf (λ_ _=>rfl) rfl rfl rfl rfl (by rw[TB];exact Qo bs _ _ hb.rep) (Qp bs _ _ hb.own) (by rw[TB];exact hb.one) (λn=>by have h1:=Qu n bs cs arr.toList;have h2:=hs.tok n;omega)).1
def AIM{c:Code}{Q:APost}{i j p:Nat}{cs:List AVal}{x:AVal} (hij:j≠i) (hg:Ag st.m j=some cs) (h2:2<=cs.length) (hc:cs[p]?=some (.sh i)) (hi:Ag st.m i=some [x]) (h:AWp E c Q af {st with m:=A7 (A7 st.m i [x.strip]) j (cs.set p x)}):AWp E c Q af st:=⟨λF O w a hd hs=>h.go F O w a hd (hs.unshCell hij hg h2 hc hi)⟩
def ABC{c:Code}{Q:APost}{m m':List (Nat×List AVal)}{n:Nat} (hp:m.Perm m') (h:AWp E c Q af ⟨m',n⟩):AWp E c Q af ⟨m,n⟩:=⟨λF O w a hd hs=>h.go F O w a hd (hs.perm hp)⟩
def ACall.perm{f:FuncId}{args:List AVal}{Q:AVal->St->Prop}{m m':List (Nat×List AVal)}{n:Nat} (hp:m.Perm m') (h:ACall E f args ⟨m',n⟩ Q):ACall E f args ⟨m,n⟩ Q:=⟨λF O w cargs hs=>h.go F O w cargs (hs.perm hp)⟩
theorem AWp.nodup{c:Code}{Q:APost} (h:(st.m.map (·.1)).Nodup->AWp E c Q af st):AWp E c Q af st:=⟨λF O w a hd hs=>(h hs.keys).go F O w a hd hs⟩
def SK: ∀ {m:List (Nat×List AVal)}{i:Nat}{c x:List AVal},Ag m i=some c->((i,x)::Dm m i).Perm (A7 m i x)
 |[],_,_,_,h=>by grind[Ag]
 |(j,d)::m,i,c,x,h=>by
  simp only[Ag]at h;simp only[Dm,A7];split at h;·simp_all
  ·rename_i e;rw[aj e,aj e];exact(cB _ _ _).trans ((SK h).cons _)
theorem Y6: ∀ {m:List (Nat×List AVal)}{i j:Nat},i≠j->Ag (Dm m i) j=Ag m j
 |[],_,_,_=>rfl
 |(k,d)::m,i,j,h=>by
  simp only[Dm];split;·rename_i e;subst e;simp only[Ag];rw[aj (λe=>h e.symm)]
  ·simp only[Ag];rw[Y6 h]
def AEt: ∀ {m:List (Nat×List AVal)}{i j:Nat}{x:List AVal},i≠j->A7 (Dm m i) j x=Dm (A7 m j x) i
 |[],_,_,_,_=>rfl
 | (k,d)::m,i,j,x,h=>by
  by_cases e:i=k;·subst e;simp only[Dm,aB,A7];rw[aj (λe=>h e.symm)];simp[Dm]
  ·by_cases e2:j=k;·grind[Dm,A7]
   ·simp only[Dm,A7,aj e,aj e2];rw[AEt h]
def ACall.front{f:FuncId}{args:List AVal}{m:List (Nat×List AVal)}{n i:Nat}{c:List AVal}{Q:AVal->St->Prop} (hi:Ag m i=some c) (h:i<n->ACall E f args ⟨(i,c)::Dm m i,n⟩ λr st'=>∃c',st'.m=(i,c')::Dm m i/\Q r ⟨A7 m i c',st'.next⟩):ACall E f args ⟨m,n⟩ Q:=by
 refine ACall.known λ_ hk=>?_;have hin:i<n:=by
  rcases bb i n with h'|h';·omega
  ·have:=hk i h';grind
 constructor;intro F O w cargs hs;refine((h hin).go F O w cargs (hs.perm (Kg hi))).mono ?_;rintro e w' ⟨v,he,O',r,⟨m',n'⟩,h1,h2,h3,c',hm,hq⟩;simp only at hm;subst hm;exact⟨v,he,O',r,⟨A7 m i c',n'⟩,h1,h2,h3.perm (SK hi),hq⟩
end
end Go.VM
set_option maxRecDepth 100000
namespace Go.VM
section
variable{E:Env}{t:TypeId}{k:IntKind}{a b:Int}
def Awa:FO E .add t (.int k a) (.int k b)=some (.int k (wr k (a+b))):=by simp[FO,Kt,wr]
def AwP:FO E .sub t (.int k a) (.int k b)=some (.int k (wr k (a-b))):=by simp[FO,Kt,wr]
def Au6:FO E .mul t (.int k a) (.int k b)=some (.int k (wr k (a * b))):=by simp[FO,Kt,wr]
def AvB:FO E .quo t (.int k a) (.int k b)=if b=0 then none else some (.int k (wr k (a.tdiv b))):=by simp[FO,Kt,wr]
def Awb:FO E .rem t (.int k a) (.int k b)=if b=0 then none else some (.int k (a.tmod b)):=by simp[FO,Kt]
def AuU:FO E .and t (.int k a) (.int k b)=some (.int k (Pg k a b)):=by simp[FO,Kt,Pg]
def Ax6:FO E .or t (.int k a) (.int k b)=some (.int k (Pm k a b)):=by simp[FO,Kt,Pm]
theorem Au9{n:Int}:unA .xor (.int .i64 n)=some (.int .i64 (Ajw .i64 (-1) n)):=rfl
def AwC:FO E .xor t (.int k a) (.int k b)=some (.int k (Ajw k a b)):=by simp[FO,Kt,Ajw]
def AfL:FO E .andNot t (.int k a) (.int k b)=some (.int k (ABa k a b)):=by simp[FO,Kt,ABa]
def Awn:FO E .eql t (.int k a) (.int k b)=some (.bool (a==b)):=by simp[FO,Kt]
def AwN:FO E .neq t (.int k a) (.int k b)=some (.bool (a !=b)):=by simp[FO,Kt]
def Awj:FO E .lss t (.int k a) (.int k b)=some (.bool (decide (a<b))):=by simp[FO,Kt]
def AvA:FO E .leq t (.int k a) (.int k b)=some (.bool (decide (a<=b))):=by simp[FO,Kt]
def AuL:FO E .gtr t (.int k a) (.int k b)=some (.bool (decide (a>b))):=by simp[FO,Kt]
def Aua:FO E .geq t (.int k a) (.int k b)=some (.bool (decide (a>=b))):=by simp[FO,Kt]
def AvS{j:IntKind}:FO E .shl t (.int k a) (.int j b)=if b<0 then none else some (.int k (AOW k a b)):=by simp[FO,ABp,AOW]
def AuG{j:IntKind}:FO E .shr t (.int k a) (.int j b)=if b<0 then none else some (.int k (ADg k a b)):=by simp[FO,ABp,ADg]
variable{x y:B8}{p q:Bool}
def Ap6:FO E .add t (.str x) (.str y)=if AL (x.length+y.length)then some (.str (x++y))else none:=Apj
theorem Aqz:FO E .eql t (.str x) (.str y)=some (.bool (x==y)):=rfl
theorem Apu:FO E .neq t (.str x) (.str y)=some (.bool (!(x==y))):=rfl
theorem As1:FO E .lss t (.str x) (.str y)=some (.bool (Op.bytesLess x y)):=rfl
theorem Asy:FO E .leq t (.str x) (.str y)=some (.bool (Op.bytesLess x y||x==y)):=rfl
theorem Asi:FO E .gtr t (.str x) (.str y)=some (.bool (!(Op.bytesLess x y||x==y))):=rfl
theorem Api:FO E .geq t (.str x) (.str y)=some (.bool (!(Op.bytesLess x y))):=rfl
theorem AtH:FO E .eql t (.bool p) (.bool q)=if Yc E.P t=true then some (.bool (p==q))else none:=rfl
theorem AtC:FO E .neq t (.bool p) (.bool q)=if Yc E.P t=true then some (.bool (!(p==q)))else none:=rfl
def Akz (op:BinOp) (g:Bool) (e:Option Bool):Option AVal:=if g=true then none else match op,e with|.eql,some b=>some (.bool b)|.neq,some b=>some (.bool (!b))|_,_=>none
theorem AwJ{op:BinOp}{xs ys:List AVal}:FO E op t (.agg xs) (.agg ys)=Akz op (E.P.eqGuardType E.P.depth t) (eqA E.P 10000 t (.agg xs) (.agg ys)):=rfl
theorem AdH:Akz .eql false (some p)=some (.bool p):=rfl
theorem Acc:Akz .neq false (some p)=some (.bool (!p)):=rfl
def cvI (g:Bool) (st:Bool) (k:Option IntKind) (n:Int):Option AVal:=if(g&&st)=true then some (.str (Ik n))else if g=true then(match k with|some k=>some (.int k (wr k n))|none=>none)else none
theorem Aud{s d:TypeId}{n:Int}:Sk E s d (.int k n)=cvI (Ah E.P s) (DX E.P d) (Ih E.P d) n:=rfl
theorem Ahm{n:Int}:cvI true false (some k) n=some (.int k (wr k n)):=rfl
theorem Ap5{n:Int}{j:Option IntKind}:cvI true true j n=some (.str (Ik n)):=rfl
def cvS (g h:Bool) (l:B8):Option AVal:=if(g&&h)=true then some (.str l)else none
theorem Avm{s d:TypeId}{l:B8}:Sk E s d (.str l)=cvS (Ah E.P s) (DX E.P d) l:=rfl
theorem AjI{l:B8}:cvS true true l=some (.str l):=rfl
theorem AjS{s d:TypeId}{w:Nat}{xs:List AVal}{o:Bool}:Sk E s d (.slice w xs o)=strOf (u8T E.P s&&DX E.P d) (bytesOf xs):=rfl
theorem AXz{l:B8}:strOf true (some l)=some (.str l):=rfl
def bytesOf_map{l:List Int}:bytesOf (l.map (AVal.int .u8))=some (l.map FQ):=by induction l<;>grind[bytesOf]
theorem Sq{n:Int}{xs:List AVal}:bytesOf (.int .u8 n::xs)=(bytesOf xs).map (FQ n:: ·):=rfl
theorem AUZ:bytesOf []=some []:=rfl
def AUc{xs ys:List AVal}:bytesOf (xs++ys)=(bytesOf xs).bind λa=>(bytesOf ys).map (a++ ·):=by
 induction xs with
 |nil=>cases h:bytesOf ys<;>simp[bytesOf,h]
 | cons x xs ih=>
  rw[bz];cases x with
  |int k n=>
   cases k<;>try rfl
   rw[Sq,Sq,ih];cases bytesOf xs<;>cases bytesOf ys<;>simp
  |_=>rfl
theorem AvC{l:B8}:cvS true false l=none:=rfl
theorem AvG{s d:TypeId}{w i l:Nat}:Sk E s d (.gsl w i l)=none:=rfl
theorem Avh{s d:TypeId}{w i o l:Nat}:Sk E s d (.bsl w i o l)=none:=rfl
theorem Aug{s d:TypeId}{i o:Nat}:Sk E s d (.ptr i o)=none:=rfl
section
variable{s d:TypeId}{st:St}
theorem Aw4{l:B8}:UH E s d (.str l) st=none:=rfl
theorem Awv{w i l:Nat}:UH E s d (.gsl w i l) st=none:=rfl
theorem Avr{w i o l:Nat}:UH E s d (.bsl w i o l) st=none:=rfl
def cuB (b:Bool) (i:Nat):Option AVal:=if b=true then some (.ptr i 0)else none
theorem AiD{i:Nat}:cuB true i=some (.ptr i 0):=rfl
def cuR (E:Env) (s d:TypeId) (i:Nat) (x:Option (List AVal)):Option AVal:=match x with|some (.nself j T n::_)=>if j=i then cuB (YK E.P s d T n) i else none|_=>none
def AnB{i n:Nat}{T:TypeId}{cs:List AVal}:cuR E s d i (some (.nself i T n::cs))=cuB (YK E.P s d T n) i:=by simp[cuR]
def Awe{i:Nat}:UH E s d (.ptr i 0) st=cuR E s d i (Ag st.m i):=by
 simp only[UH];generalize Ag st.m i=x;unfold cuR;split;·rename_i j T n rest;simp only[cuB];by_cases h1:j=i<;>by_cases h2:YK E.P s d T n=true<;>simp[h1,h2]
 simp
def Gs (i:Nat) (T:TypeId) (n:Nat) (b:Bool):AVal:=if b=true then .ptr i 0 else .nself i T n
theorem AsY{i n:Nat}{T:TypeId}:Gs i T n true=.ptr i 0:=rfl
theorem Arp{i n:Nat}{T:TypeId}:Gs i T n false=.nself i T n:=rfl
def Acx{i n:Nat}{T:TypeId}{b:Bool}:(Gs i T n b).strip=Gs i T n b:=by cases b<;>simp[Gs,AVal.strip]
def AfR{i n:Nat}{T:TypeId}{b:Bool}:AZ (Gs i T n b)=[Gs i T n b]:=by cases b<;>rfl
def Aby{i n:Nat}{T:TypeId}{b:Bool}:MJ (Gs i T n b)=false:=by cases b<;>rfl
def AfH{i n:Nat}{T:TypeId}{b:Bool}:Ce (Gs i T n b)=true:=by cases b<;>rfl
def cmS (a b:Bool) (l:B8) (st:St):Option (AVal×St):=if a=true/\b=true then some (.bsl 1 st.next 0 l.length,{m:=(st.next,List.map (AVal.int .u8) (List.map AJ l))::st.m,next:=st.next+1})else none
def Auc{l:B8}:SQ E s d (.str l) st=cmS (u8T E.P d) (DX E.P s) l st:=by simp only[SQ,cmS,fE];rfl
def AjO{l:B8}:cmS true true l st=some (.bsl 1 st.next 0 l.length,{m:=(st.next,List.map (AVal.int .u8) (List.map AJ l))::st.m,next:=st.next+1}):=by simp[cmS]
def cmB (b:Bool) (off n:Nat) (st:St) (x:Option (List AVal)):Option (AVal×St):=match x with
 |some cs=>if b=true then(match bytesOf ((cs.drop off).take n)with|some l=>if l.length=n/\AL n then some (.str l,st)else none|none=>none)else none
 |none=>none
def Aux{i off n:Nat}:SQ E s d (.bsl 1 i off n) st=cmB (u8T E.P s&&DX E.P d) off n st (Ag st.m i):=by simp only[SQ,cmB,dR,CX,AL];cases (u8T E.P s&&DX E.P d)<;>cases Ag st.m i<;>simp;grind
def AjX{q:List Int}{off n:Nat}:cmB true off n st (some (List.map (AVal.int .u8) q))=if n<=q.length-off/\AL n then some (.str (List.map FQ (List.take n (List.drop off q))),st)else none:=by simp only[cmB,aB,<-fB,<-List.map_drop,bytesOf_map,cp,bg,aP];grind
def YD (n:Int) (b:Nat):Prop:=0<=n/\n<=4611686018427387904/\n * b<=140737488355328
instance (n:Int) (b:Nat):Decidable (YD n b):=by unfold YD;infer_instance
def mkR (e:Option (Nat×AVal)) (n:Int) (st:St):Option (AVal×St):=match e with|some (b,z)=>if 0<=n/\n<=CX/\n * b<=140737488355328 then some (.bsl 1 st.next 0 n.toNat,{m:=(st.next,List.replicate n.toNat z)::st.m,next:=st.next+1})else none|none=>none
def Aqg{b:Nat}{k:IntKind}{z n:Int}:mkR (some (b,.int k z)) n st=if YD n b then some (.bsl 1 st.next 0 n.toNat,{m:=(st.next,List.map (AVal.int k) (List.replicate n.toNat z))::st.m,next:=st.next+1})else none:=by grind[mkR,YD,CX,List.map_replicate]
def Asq{b:Nat}{n:Int}:mkR (some (b,.str [])) n st=if YD n b then some (.bsl 1 st.next 0 n.toNat,{m:=(st.next,List.map AVal.str (List.replicate n.toNat []))::st.m,next:=st.next+1})else none:=by grind[mkR,YD,CX,List.map_replicate]
def Tq (n n':Int) (b:Nat):Prop:=0<=n/\n<=n'/\n'<=4611686018427387904/\n' * b<=140737488355328
instance (n n':Int) (b:Nat):Decidable (Tq n n' b):=by unfold Tq;infer_instance
def mkV (a:Option (Nat×Nat)) (z:Option AVal) (n n':Int) (st:St):Option (AVal×St):=match a,z with|some (w,b),some z=>if Tq n n' b then some (.sh st.next,{m:=(st.next,[.vec w (List.replicate n.toNat z)])::st.m,next:=st.next+1})else none|_,_=>none
def mkG (e:Option (Nat×AVal)) (a:Option (Nat×Nat)) (y:Option AVal) (n n':Int) (st:St):Option (AVal×St):=match e with|some (b,.int k z)=>if Tq n n' b then some (.gsl 1 st.next n.toNat,{m:=(st.next,List.replicate n.toNat (.int k z))::st.m,next:=st.next+1})else mkV a y n n' st|_=>mkV a y n n' st
section
variable{a:Option (Nat×Nat)}{y:Option AVal}{n n':Int}
def Aqp{b:Nat}{k:IntKind}{z:Int}:mkG (some (b,.int k z)) a y n n' st=if Tq n n' b then some (.gsl 1 st.next n.toNat,{m:=(st.next,List.map (AVal.int k) (List.replicate n.toNat z))::st.m,next:=st.next+1})else mkV a y n n' st:=by simp only[mkG,dN]
theorem Arm{b:Nat}{s:B8}:mkG (some (b,.str s)) a y n n' st=mkV a y n n' st:=rfl
theorem Aw5:mkG none a y n n' st=mkV a y n n' st:=rfl
def ApN{w b:Nat}:mkV (some (w,b)) (some (.str [])) n n' st=if Tq n n' b then some (.sh st.next,{m:=(st.next,[.vec w (List.map AVal.str (List.replicate n.toNat []))])::st.m,next:=st.next+1})else none:=by simp only[mkV,dN]
theorem Ayu{w b:Nat}{c:List AVal}:mkV (some (w,b)) (some (.agg c)) 0 n' st=if Tq 0 n' b then some (.sh st.next,{m:=(st.next,[.vec w []])::st.m,next:=st.next+1})else none:=rfl
def Azn{k k':IntKind}:Xu E t (.int k n) (.int k' n') st=mkG (V4 E.P t) (KI E.P t) (Yz E.P t) n n' st:=by
 have hv:ATT E t (.int k n) (.int k' n') st=mkV (KI E.P t) (Yz E.P t) n n' st:=by unfold ATT mkV Tq;rcases KI E.P t with _|⟨_,_⟩<;>rcases Yz E.P t with _|_<;>rfl
 unfold Xu;rw[hv];unfold AaS mkG;rcases V4 E.P t with _|⟨b,z⟩;·rfl
 ·cases z<;>try rfl
  simp only[];by_cases hc:Tq n n' b;·have hc':0<=n/\n<=n'/\n'<=(CX:Int)/\n' * b<=140737488355328:=hc;rw[an hc,an hc']
  ·have hc': ¬(0<=n/\n<=n'/\n'<=(CX:Int)/\n' * b<=140737488355328):=hc;rw[aj hc,aj hc']
end
def Auu{i n:Nat}:SQ E s d (.gsl 1 i n) st=cmB (u8T E.P s&&DX E.P d) 0 n st (Ag st.m i):=by simp only[SQ,cmB,dR,CX,AL,aO];cases (u8T E.P s&&DX E.P d)<;>cases Ag st.m i<;>simp;grind
def AzE{k k':IntKind}{n:Int}:Xw E t (.int k n) (.int k' n) st=mkR (V4 E.P t) n st:=by simp only[Xw,mkR];rcases V4 E.P t with _|⟨b,z⟩<;>simp
end
theorem Aus{e:TypeId}{l:B8}{o:Bool}:UC (.buf e l o)=some (.bufp e l o):=rfl
def usB (b:Bool) (l:B8):Option AVal:=if b=true then some (.str l)else none
theorem Alo{l:B8}:usB true l=some (.str l):=rfl
def AvD{t0 e:TypeId}{l:B8}:YG E t0 (.bufp e l true) (.int .i64 (l.length:Int))=usB (ptrTo E.P t0 e) l:=by simp[YG,usB]
theorem AvJ{op:BinOp}:FO E op t .nilp .nilp=Rz op (Su E.P t) (some true):=rfl
theorem AwM{op:BinOp}{i n:Nat}{T:TypeId}:FO E op t (.nself i T n) .nilp=Rz op (Su E.P t) (some true):=rfl
theorem Av3{op:BinOp}{i o:Nat}:FO E op t (.ptr i o) .nilp=Rz op (Su E.P t) (some false):=rfl
def Avy{op:BinOp}{i o:Nat}:FO E op t (.ptr i o) (.ptr i o)=Rz op (Su E.P t) (some true):=by simp[FO,AEa]
theorem Aub:Rz .eql true (some p)=some (.bool p):=rfl
theorem AvW:Rz .neq true (some p)=some (.bool (!p)):=rfl
theorem Anw{e:TypeId}:Rx E t (.nbuf e)=if BZ E.P t=true then some (.int .i64 0)else none:=rfl
theorem Anr{e:TypeId}:AiE E t (.nbuf e)=if BZ E.P t=true then some (.int .i64 0)else none:=rfl
theorem Aqd{T:TypeId}{i:Nat}{e:TypeId}:Aau E t (.trow T i 0) (.nbuf e)=if Bj E.P t=some 1 then some (.int .i64 0)else none:=rfl
def Arw{T:TypeId}{i len:Nat}{h:Int}:GD E t (.trow T i len) none (some h) none=if Bj E.P t=some 1 then(if 0<=h/\h<=len then some (.trow T i h.toNat)else none)else none:=by simp only[GD];by_cases h1:Bj E.P t=some 1<;>by_cases h2:0<=h<;>by_cases h3:h<=len<;>simp[h1,h2,h3]
theorem Amj{T:TypeId}{i l:Nat}:(AVal.trow T i l).strip=.trow T i l:=rfl
theorem AlM{T:TypeId}{i l:Nat}:AZ (.trow T i l)=[.trow T i l]:=rfl
theorem AlB{T:TypeId}{i l:Nat}:Ce (.trow T i l)=true:=rfl
theorem Akb{T:TypeId}{i l:Nat}:MJ (.trow T i l)=false:=rfl
theorem Akk{e:TypeId}:(AVal.nbuf e).strip=.nbuf e:=rfl
theorem AkM{e:TypeId}:AZ (.nbuf e)=[.nbuf e]:=rfl
theorem Ah0{e:TypeId}:Ce (.nbuf e)=true:=rfl
theorem Ah9{e:TypeId}:MJ (.nbuf e)=false:=rfl
theorem Aro{e:TypeId}{l:B8}{o:Bool}:Rx E t (.buf e l o)=if BZ E.P t=true then some (.int .i64 l.length)else none:=rfl
theorem AsS{w i o l:Nat}:Rx E t (.bsl w i o l)=if BZ E.P t=true then some (.int .i64 l)else none:=rfl
def CE{w i len:Nat}{k:IntKind}{n:Int}:DR E t (.gsl w i len) (.int k n)=if Bj E.P t=some w then(if 0<=n/\n<len then some (.ptr i (n.toNat * w))else none)else none:=by simp only[DR];by_cases h1:Bj E.P t=some w<;>by_cases h2:0<=n<;>by_cases h3:n<len<;>simp[h1,h2,h3]
def Br{w i len:Nat}{h:Int}:GD E t (.gsl w i len) none (some h) none=if Bj E.P t=some w then(if 0<=h/\h<=len then some (.gsl w i h.toNat)else none)else none:=by simp only[GD];by_cases h1:Bj E.P t=some w<;>by_cases h2:0<=h<;>by_cases h3:h<=len<;>simp[h1,h2,h3]
def Awk{w i len:Nat}{h:Int}:GD E t (.bsl w i 0 len) none (some h) none=if Bj E.P t=some w then(if 0<=h/\h<=len then some (.bsl w i 0 h.toNat)else none)else none:=by simp only[GD];by_cases h1:Bj E.P t=some w<;>by_cases h2:0<=h<;>by_cases h3:h<=len<;>simp[h1,h2,h3]
def apT (e:Option (Nat×Nat)) (g:Bool) (x:Option (List AVal)) (m:List (Nat×List AVal)) (j len:Nat) (s:B8):Option (Nat×Nat×List AVal×List (Nat×List AVal)×Option Nat):=match x,e with|some cs,some (z,by_)=>if z=1/\len<=cs.length/\(len+s.length) * by_<=140737488355328/\len+s.length<=CX/\g=true then some (1,len+s.length,cs.take len++u8s s,Dm m j,some j)else none|_,_=>none
def Hl{t0 t1:TypeId}{j len:Nat}{s:B8}{st:St}:Ae6 E t0 t1 (.gsl 1 j len) (.str s) st=apT (KI E.P t0) ((Ih E.P t1).isNone&&Ah E.P t1) (Ag st.m j) st.m j len s:=by simp only[Ae6,apT];rcases Ag st.m j with _|cs<;>rcases KI E.P t0 with _|⟨z,b⟩<;>simp
def Ay{b j len:Nat}{q:List Int}{m:List (Nat×List AVal)}{s:B8}:apT (some (1,b)) true (some (List.map (AVal.int .u8) q)) m j len s=if len<=q.length/\Ae (len+s.length) b then some (1,len+s.length,List.map (AVal.int .u8) (List.take len q++List.map AJ s),Dm m j,some j)else none:=by
 have e:u8s s=List.map (AVal.int .u8) (List.map AJ s):=by simp[u8s,AJ]
 simp_all[apT,Ae,CX]
theorem Aw{w i l:Nat}:(AVal.gsl w i l).strip=.gsl w i l:=rfl
def BH{i:Nat}{c:List AVal}{m:List (Nat×List AVal)}:Dm ((i,c)::m) i=m:=by simp[Dm]
def lkV:List B8->List AVal->B8->AVal->AVal|k::ks,v::vs,s,z=>if(s==k)=true then v.strip else lkV ks vs s z|_,_,_,z=>z.strip
theorem Ahl{k s:B8}{ks:List B8}{v z:AVal}{vs:List AVal}:lkV (k::ks) (v::vs) s z=if(s==k)=true then v.strip else lkV ks vs s z:=rfl
theorem AtQ{s:B8}{z:AVal}:lkV [] [] s z=z.strip:=rfl
def lkR (z:Option AVal) (x:Option (List AVal)) (s:B8):Option AVal:=match z,x with|some z,some [.map ks vs]=>some (lkV ks vs s z)|_,_=>none
theorem AV2{s:B8}{z:AVal}: ∀(ks:List B8) (vs:List AVal),(match LA ks vs s with|some x=>x.strip|none=>z.strip)=lkV ks vs s z
 |[],_=>by simp[LA,lkV]
 |_::_,[]=>by simp[LA,lkV]
 | k::ks,v::vs=>by
  simp only[LA,lkV,bf];split
  ·rename_i x hx;split at hx;·simp_all
   ·rename_i e;rw[aj e,<-AV2 ks vs,hx]
  ·rename_i hx;split at hx;·grind
   ·rename_i e;rw[aj e,<-AV2 ks vs,hx]
def At7{i:Nat}{s:B8}{st:St}:Q0 E t (.sh i) (.str s) false st=lkR ((Tx E.P t).bind (Ct E.P)) (Ag st.m i) s:=by
 unfold Q0 V7 lkR;cases Tx E.P t with
 |none=>simp
 | some e=>
  simp only[aa];cases hm:Ag st.m i with
  |none=>cases Ct E.P e<;>simp
  |some cs=>
   cases hz:Ct E.P e with
   |none=>match cs with|[]=>simp|[.map _ _]=>grind|x::y::_=>cases x<;>simp|[.any]|[.bool _]|[.int _ _]|[.str _]|[.agg _]|[.tuple _]|[.slice _ _ _]|[.ptr _ _]|[.nilp]|[.cptr _]|[.fn _ _ _]|[.nilFn]|[.iface _ _]|[.nilIface]|[.iter _ _]|[.bsl _ _ _ _]|[.nself _ _ _]|[.buf _ _ _]|[.bufp _ _ _]|[.slop _ _]|[.sh _]|[.sptr _ _ _]|[.gsl _ _ _]|[.nmap]|[.num _]|[.nbuf _]|[.trow _ _ _]|[.vec _ _]|[.vptr _ _ _ _]|[.hset _]=>simp
   |some z=>match cs with|[]=>simp|[.map ks vs]=>grind[AV2]|x::y::_=>cases x<;>simp|[.any]|[.bool _]|[.int _ _]|[.str _]|[.agg _]|[.tuple _]|[.slice _ _ _]|[.ptr _ _]|[.nilp]|[.cptr _]|[.fn _ _ _]|[.nilFn]|[.iface _ _]|[.nilIface]|[.iter _ _]|[.bsl _ _ _ _]|[.nself _ _ _]|[.buf _ _ _]|[.bufp _ _ _]|[.slop _ _]|[.sh _]|[.sptr _ _ _]|[.gsl _ _ _]|[.nmap]|[.num _]|[.nbuf _]|[.trow _ _ _]|[.vec _ _]|[.vptr _ _ _ _]|[.hset _]=>simp
theorem AoC{s:B8}{z:AVal}{ks:List B8}{vs:List AVal}:lkR (some z) (some [.map ks vs]) s=some (lkV ks vs s z):=rfl
def upR (b:Bool) (y:Option (List AVal)) (i:Nat) (s:B8) (x:AVal) (st:St):Option St:=match b,y with|true,some [.map ks vs]=>some {st with m:=A7 st.m i [.map (He ks s) (K3 ks vs s x)]}|_,_=>none
def AxN{i:Nat}{s:B8}{x:AVal}{st:St}:ABU E t (.sh i) (.str s) x st=upR (Tx E.P t).isSome (Ag st.m i) i s x st:=by simp only[ABU,V7,upR];grind[Tx,Ag]
theorem AjY{i:Nat}{s:B8}{x:AVal}{st:St}{ks:List B8}{vs:List AVal}:upR true (some [.map ks vs]) i s x st=some {st with m:=A7 st.m i [.map (He ks s) (K3 ks vs s x)]}:=rfl
theorem Axx{op:BinOp}{f:Fn}{x y:List AVal}:FO E op t (.fn f x y) .nilFn=Zc op (ABk E.P t) false:=rfl
theorem Axq{op:BinOp}:FO E op t .nilFn .nilFn=Zc op (ABk E.P t) true:=rfl
theorem Avj{b:Bool}:Zc .eql true b=some (.bool b):=rfl
theorem AvQ{b:Bool}:Zc .neq true b=some (.bool (!b)):=rfl
def Aw7{w i off len:Nat}{k:IntKind}{n:Int}:DR E t (.bsl w i off len) (.int k n)=if Bj E.P t=some w then(if 0<=n/\n<len then some (.ptr i (off+n.toNat * w))else none)else none:=by simp only[DR];by_cases h1:Bj E.P t=some w<;>by_cases h2:0<=n<;>by_cases h3:n<len<;>simp[h1,h2,h3]
def iaP (e:Option (Nat×Nat×Bool)) (j o:Nat) (n:Int):Option AVal:=match e with|some (len,z,_)=>if 0<=n/\n<len then some (.ptr j (o+n.toNat * z))else none|none=>none
def AwT{j o:Nat}{k:IntKind}{n:Int}:DR E t (.ptr j o) (.int k n)=iaP (NY E.P t) j o n:=by simp only[DR,iaP];rcases NY E.P t with _|⟨len,z,g⟩<;>rfl
theorem AiW{len z j o:Nat}{g:Bool}{n:Int}:iaP (some (len,z,g)) j o n=if 0<=n/\n<(len:Int)then some (.ptr j (o+n.toNat * z))else none:=rfl
def slP (e:Option (Nat×Nat×Bool)) (i o:Nat) (l:Int) (h:Option Int):Option AVal:=match e with|some (len,z,_)=>if 0<=l/\l<=h.getD len/\h.getD len<=len/\len<=CX then some (.bsl z i (o+l.toNat * z) ((h.getD len).toNat-l.toNat))else none|none=>none
def Awp{i o:Nat}{lo hi:Option Int}:GD E t (.ptr i o) lo hi none=slP (NY E.P t) i o (lo.getD 0) hi:=by simp only[GD,slP];rcases NY E.P t with _|⟨len,z,g⟩<;>simp
def Aml{len z i o:Nat}{g:Bool}{l:Int}:slP (some (len,z,g)) i o l none=if 0<=l/\l<=(len:Int)/\len<=CX then some (.bsl z i (o+l.toNat * z) (len-l.toNat))else none:=by simp[slP]
def Ar5{α:Type}{l:List α}{n:Int} (h:0<=n):l[n.toNat]?=idx l n:=by grind[idx]
def Apw{α β:Type}{f:α->β}{l:List α}{k:Nat}{v:α}:(List.map f l).set k (f v)=List.map f (l.set k v):=List.map_set.symm
theorem AuH:unA .not (.bool p)=some (.bool (!p)):=rfl
theorem Awx:unA .neg (.int k a)=some (.int k (wr k (0-a))):=rfl
end
def AMh (n:Nat):List Bool:=List.replicate n false
def ABG{n:Nat}:(AMh n).length=n:=by simp[AMh]
def AfP{l:List Bool}:stripL (List.map AVal.bool l)=List.map AVal.bool l:=by induction l<;>grind[stripL,AVal.strip]
def Acu{k:IntKind}{l:List Int}:stripL (List.map (AVal.int k) l)=List.map (AVal.int k) l:=by induction l<;>grind[stripL,AVal.strip]
def AeA{l:List Bool}{n:Nat} (h:l.length=n):List.take n (List.map AVal.bool l)=List.map AVal.bool l:=by grind[List.take_of_length_le]
def AcV{k:IntKind}{l:List Int}{n:Nat} (h:l.length=n):List.take n (List.map (AVal.int k) l)=List.map (AVal.int k) l:=by grind[List.take_of_length_le]
def TY: ∀(l q p:List AVal),q.length=l.length->putCells (p++q) p.length l=p++l|[],q,p,h=>by grind[putCells]|x::l,q,p,h=>by cases q with|nil=>grind|cons y q=>rw[putCells];have e:(p++y::q).set p.length x=(p++[x])++q:=fI;have e2:p.length+1=(p++[x]).length:=fI;rw[e,e2,TY l q (p++[x]) (by grind)];simp
def Ans{l q:List Bool} (h:q.length=l.length):putCells (List.map AVal.bool q) 0 (List.map AVal.bool l)=List.map AVal.bool l:=by have:=TY (List.map AVal.bool l) (List.map AVal.bool q) [] (by grind);grind
def AiJ{k:IntKind}{l q:List Int} (h:q.length=l.length):putCells (List.map (AVal.int k) q) 0 (List.map (AVal.int k) l)=List.map (AVal.int k) l:=by have:=TY (List.map (AVal.int k) l) (List.map (AVal.int k) q) [] (by grind);grind
def Apo:AVal.strip (.any)=.any:=by simp[AVal.strip]
def Akl{b:Bool}:AVal.strip (.bool b)=.bool b:=by simp[AVal.strip]
def ApW{k:IntKind}{n:Int}:AVal.strip (.int k n)=.int k n:=by simp[AVal.strip]
def Ars{l:B8}:AVal.strip (.str l)=.str l:=by simp[AVal.strip]
def AqK{w i o l:Nat}:AVal.strip (.bsl w i o l)=.bsl w i o l:=by simp[AVal.strip]
def Abg{i n:Nat}{T:TypeId}:AVal.strip (.nself i T n)=.nself i T n:=by simp[AVal.strip]
def Apb{e:TypeId}{l:B8}{o:Bool}:AVal.strip (.buf e l o)=.buf e l false:=by simp[AVal.strip]
def AiK{e:TypeId}{l:B8}{o:Bool}:AVal.strip (.bufp e l o)=.bufp e l false:=by simp[AVal.strip]
theorem Apv{w i o l:Nat}:AZ (.bsl w i o l)=[.bsl w i o l]:=rfl
theorem AcL{i n:Nat}{T:TypeId}:AZ (.nself i T n)=[.nself i T n]:=rfl
theorem Apy{e:TypeId}{l:B8}{o:Bool}:AZ (.buf e l o)=[.buf e l o]:=rfl
theorem AXw{i:Nat}:(AVal.sh i).strip=.sh i:=rfl
theorem Aio{i w n:Nat}:(AVal.sptr i w n).strip=.sptr i w n:=rfl
theorem Akq{i:Nat}:AZ (.sh i)=[.sh i]:=rfl
theorem Ain{i w n:Nat}:AZ (.sptr i w n)=[.sptr i w n]:=rfl
theorem Aim{i:Nat}:Ce (.sh i)=true:=rfl
theorem Am3{i w n:Nat}:Ce (.sptr i w n)=true:=rfl
theorem As0{w i o l:Nat}:Ce (.bsl w i o l)=true:=rfl
theorem Ab8{i n:Nat}{T:TypeId}:Ce (.nself i T n)=true:=rfl
theorem ArN{e:TypeId}{l:B8}{o:Bool}:Ce (.buf e l o)=true:=rfl
def Aq0{i o:Nat}:AVal.strip (.ptr i o)=.ptr i o:=by simp[AVal.strip]
def Anc:AVal.strip (.nilp)=.nilp:=by simp[AVal.strip]
def AiL{l:List AVal}:AVal.strip (.cptr l)=.cptr l:=by simp[AVal.strip]
def AvX{f:Fn}{p q:List AVal}:AVal.strip (.fn f p q)=.fn f p q:=by simp[AVal.strip]
def AcX:AVal.strip (.nilFn)=.nilFn:=by simp[AVal.strip]
def AgY{t:TypeId}{x:AVal}:AVal.strip (.iface t x)=.iface t x:=by simp[AVal.strip]
def AJE:AVal.strip (.nilIface)=.nilIface:=by simp[AVal.strip]
theorem AqW:AZ (.any)=[.any]:=rfl
theorem AjN{b:Bool}:AZ (.bool b)=[.bool b]:=rfl
theorem ApZ{k:IntKind}{n:Int}:AZ (.int k n)=[.int k n]:=rfl
theorem AsL{l:B8}:AZ (.str l)=[.str l]:=rfl
theorem ArV{i o:Nat}:AZ (.ptr i o)=[.ptr i o]:=rfl
theorem AlE:AZ (.nilp)=[.nilp]:=rfl
theorem AmC{l:List AVal}:AZ (.cptr l)=[.cptr l]:=rfl
theorem Avz{f:Fn}{p q:List AVal}:AZ (.fn f p q)=[.fn f p q]:=rfl
theorem AgN:AZ (.nilFn)=[.nilFn]:=rfl
theorem Ado{t:TypeId}{x:AVal}:AZ (.iface t x)=[.iface t x]:=rfl
theorem AIU:AZ (.nilIface)=[.nilIface]:=rfl
theorem Aej{l:List AVal}:AZ (.tuple l)=[.tuple l]:=rfl
theorem Afg{w:Nat}{l:List AVal}{o:Bool}:AZ (.slice w l o)=[.slice w l o]:=rfl
theorem AlF{b:Bool}:Ce (.bool b)=true:=rfl
theorem AsJ{k:IntKind}{n:Int}:Ce (.int k n)=true:=rfl
theorem Apa{l:B8}:Ce (.str l)=true:=rfl
theorem Aru{i o:Nat}:Ce (.ptr i o)=true:=rfl
theorem AkW:Ce (.nilp)=true:=rfl
theorem AoA{l:List AVal}:Ce (.cptr l)=true:=rfl
theorem AvL{f:Fn}{p q:List AVal}:Ce (.fn f p q)=true:=rfl
theorem AfZ:Ce (.nilFn)=true:=rfl
theorem AgB{t:TypeId}{x:AVal}:Ce (.iface t x)=true:=rfl
theorem AJC:Ce (.nilIface)=true:=rfl
theorem Aq6{l:List AVal}:Ce (.agg l)=true:=rfl
theorem Ad6{w:Nat}{l:List AVal}{o:Bool}:Ce (.slice w l o)=true:=rfl
theorem Af2{af:List AVal}{v:Value}:stripAt af (.const v)=af:=rfl
theorem Ah5{af:List AVal}{v:Nat}:stripAt af (.global v)=af:=rfl
theorem Amd{af:List AVal}{v:FuncId}:stripAt af (.func v)=af:=rfl
end Go.VM
namespace Go.VM
section
variable{E:Env}{st:St}{t:TypeId}
def Aqr{w:Nat}{xs:List AVal}:AVal.strip (.vec w xs)=.any:=by rw[AVal.strip]
theorem AjB{i w n k:Nat}:AVal.strip (.vptr i w n k)=.vptr i w n k:=rfl
theorem Ajb{i w n k:Nat}:MJ (.vptr i w n k)=false:=rfl
def Ayv{i:Nat}{y:AVal}:ABS (.sh i) y=Td y:=by simp[ABS,Td]
def AyC{t0 t1:TypeId}{i:Nat}{y:AVal}:JM E t0 t1 (.sh i) y=none:=by cases y<;>rfl
def avS (i:Nat) (x:Option AVal) (st:St):Option St:=match x with|some (.slice w zs _)=>some {m:=(st.next,[.vec w zs])::A7 st.m i [.any],next:=st.next+1}|_=>none
theorem Aj3{i w:Nat}{zs:List AVal}{o:Bool}:avS i (some (.slice w zs o)) st=some {m:=(st.next,[.vec w zs])::A7 st.m i [.any],next:=st.next+1}:=rfl
def avR (e:Option (Nat×Nat)) (k:Option IntKind) (b:Bool) (y:AVal) (x:Option (Nat×Nat×List AVal)) (st:St):Option St:=match x with|some (i,wd,xs)=>avS i (AV5 e k b wd xs (QP wd y)) st|none=>none
theorem Ayr{t0 t1:TypeId}{i:Nat}{y:AVal}:AAN E t0 t1 (.sh i) y st=avR (KI E.P t0) (Ih E.P t1) (Ah E.P t1) y (KQ st (.sh i)) st:=by
 unfold AAN avR AV5 avS;rcases KQ st (.sh i)with _|⟨i,wd,xs⟩;·rfl
 ·simp only;rcases KI E.P t0 with _|⟨z,b⟩;·rfl
  ·rcases QP wd y with _|ys;·rfl
   ·simp only;have e:(z=wd/\Ih E.P t1=none/\Ah E.P t1=true/\(xs.length+ys.length) * b<=140737488355328/\xs.length+ys.length<=CX)<->(z=wd/\Ih E.P t1=none/\Ah E.P t1=true/\Ae (xs.length+ys.length) b):=Iff.rfl;by_cases hc:z=wd/\Ih E.P t1=none/\Ah E.P t1=true/\Ae (xs.length+ys.length) b;·rw[an (e.2 hc),an hc]
    ·rw[aj (λh=>hc (e.1 h)),aj hc]
theorem Aj4{e:Option (Nat×Nat)}{k:Option IntKind}{b:Bool}{i wd:Nat}{xs:List AVal}{y:AVal}:avR e k b y (some (i,wd,xs)) st=avS i (AV5 e k b wd xs (QP wd y)) st:=rfl
theorem AxT{i:Nat}{lo hi mx:Option Int}:GD E t (.sh i) lo hi mx=none:=rfl
def svR (e:Option Nat) (x:Option (Nat×Nat×List AVal)) (lo hi:Option Int) (st:St):Option St:=match x with|some (i,wd,xs)=>avS i (AJt e wd false (sub xs (lo.getD 0) (hi.getD xs.length))) st|none=>none
def Ay1{i:Nat}{lo hi:Option Int}:SB E t (.sh i) lo hi none st=svR (Bj E.P t) (KQ st (.sh i)) lo hi st:=by
 unfold SB svR;rcases KQ st (.sh i)with _|⟨i,wd,xs⟩;·rfl
 ·simp only[AJt,sub,avS];by_cases h1:Bj E.P t=some wd<;>by_cases h2:0<=lo.getD 0/\lo.getD 0<=hi.getD xs.length/\hi.getD xs.length<=xs.length<;>simp[h1,h2]
theorem AmM{e:Option Nat}{i wd:Nat}{xs:List AVal}{lo hi:Option Int}:svR e (some (i,wd,xs)) lo hi st=avS i (AJt e wd false (sub xs (lo.getD 0) (hi.getD xs.length))) st:=rfl
theorem Ayi{i:Nat}{k:IntKind}{n:Int}:DR E t (.sh i) (.int k n)=none:=rfl
def ioR (e:Option Nat) (j:Nat) (n:Int) (y:Option (List AVal)):Option AVal:=match y with|some [.slop w xs]=>if e=some w/\n=xs.length then some (.sptr j w xs.length)else none|_=>none
def Axg{j:Nat}{k:IntKind}{n:Int}:G9 E t (.sh j) (.int k n) st=ioR (Bj E.P t) j n (Ag st.m j):=by unfold G9 ioR WZ;grind
theorem ArP{e:Option Nat}{j w:Nat}{n:Int}{xs:List AVal}:ioR e j n (some [.vec w xs])=none:=rfl
def ivS (e:Option Nat) (j w:Nat) (n:Int) (y:Option AVal):Option AVal:=match y with|some _=>if e=some w then some (.vptr j w n.toNat 0)else none|none=>none
def ivR (e:Option Nat) (y:Option (Nat×Nat×List AVal)) (n:Int):Option AVal:=match y with|some (j,w,xs)=>ivS e j w n (idx xs n)|none=>none
def AyA{j:Nat}{k:IntKind}{n:Int}:RB E t (.sh j) (.int k n) st=ivR (Bj E.P t) (KQ st (.sh j)) n:=by
 unfold RB ivR ivS idx;rcases KQ st (.sh j)with _|⟨i,wd,xs⟩;·rfl
 ·simp only;by_cases h1:Bj E.P t=some wd<;>by_cases h2:0<=n<;>by_cases h3:n<xs.length<;>simp[h1,h2,h3]<;>grind
theorem Am5{e:Option Nat}{j w:Nat}{n:Int}{xs:List AVal}:ivR e (some (j,w,xs)) n=ivS e j w n (idx xs n):=rfl
def Akr{j w:Nat}{n:Int}{y:AVal}:ivS (some w) j w n (some y)=some (.vptr j w n.toNat 0):=by simp[ivS]
def caI (w w' k:Nat) (y:Option AVal):Option (List AVal):=match y with|some x=>if w'=w/\Ce x=true then some ((AZ x).drop k)else none|none=>none
def caR (w n k:Nat) (y:Option (List AVal)):Option (List AVal):=match y with|some [.vec w' xs]=>caI w w' k xs[n]?|_=>none
def AqT{i w n k:Nat}:Sv st (.vptr i w n k)=caR w n k (Ag st.m i):=by
 unfold Sv caR caI;simp only;rcases Ag st.m i with _|(_|⟨y,_|_⟩)<;>try rfl
 ·cases y<;>try rfl
  rename_i w' xs;simp only;by_cases h:n<xs.length;·rw[aS h];simp[h,List.getD]
  ·rw[fp (d6 h)];simp[h]
 ·cases y<;>rfl
theorem AsO{w w' n k:Nat}{xs:List AVal}:caR w n k (some [.vec w' xs])=caI w w' k xs[n]?:=rfl
def AkU{w k:Nat}{x:AVal}:caI w w k (some x)=if Ce x=true then some ((AZ x).drop k)else none:=by simp[caI]
def AtO{i w n k:Nat}{v:AVal}:O3 E t (.vptr i w n k) v st=shS (MJ v) (UG E t (.vptr i w n k) v st) (Ym E t (.vptr i w n k) v st):=ZN
def seR (e:Option Nat) (i w n k:Nat) (v:AVal) (y:Option (List AVal)) (st:St):Option St:=match y with|some [.vec w' xs]=>if w'=w/\k=0/\n<xs.length/\Ce v=true/\e=some w/\(AZ v).length=w then some {st with m:=A7 st.m i [.vec w (xs.set n v.strip)]}else none|_=>none
def sfI (e:Option Nat) (i w:Nat) (xs:List AVal) (n k:Nat) (v:AVal) (x:Option AVal) (st:St):Option St:=match x with|some x=>if Ce v=true/\Ce x=true/\(AZ x).length=w/\e=some (AZ v).length/\k+(AZ v).length<=w then some {st with m:=A7 st.m i [.vec w (xs.set n (.agg (putCells (AZ x) k (stripL (AZ v)))))]}else none|none=>none
def sfR (e:Option Nat) (i w n k:Nat) (v:AVal) (y:Option (List AVal)) (st:St):Option St:=match y with|some [.vec w' xs]=>if w'=w then sfI e i w xs n k v xs[n]? st else none|_=>none
def svK (x y:Option St):Option St:=match x with|some s=>some s|none=>y
theorem Al8{s:St}{y:Option St}:svK (some s) y=some s:=rfl
theorem AiH{y:Option St}:svK none y=y:=rfl
def Ar0{i w n k:Nat}{v:AVal}:Ym E t (.vptr i w n k) v st=svK (seR (BS E.P t) i w n k v (Ag st.m i) st) (sfR (BS E.P t) i w n k v (Ag st.m i) st):=by
 have h1:AB5 E t (.vptr i w n k) v st=seR (BS E.P t) i w n k v (Ag st.m i) st:=by unfold AB5 seR;simp only;rcases Ag st.m i with _|(_|⟨y,_|_⟩)<;>first|rfl|(cases y<;>rfl)
 have h2:ACv E t (.vptr i w n k) v st=sfR (BS E.P t) i w n k v (Ag st.m i) st:=by
  unfold ACv sfR sfI;simp only;rcases Ag st.m i with _|(_|⟨y,_|_⟩)<;>first|rfl|(cases y<;>rfl)|skip
  cases y<;>try rfl
  rename_i w' xs;simp only[];by_cases hw:w'=w
  ·by_cases hn:n<xs.length;·simp[hw,hn,List.getD]
   ·simp[hw,hn]
  ·simp[hw]
 unfold Ym svK;rw[h1,h2];cases seR (BS E.P t) i w n k v (Ag st.m i) st<;>rfl
def Ayq{e:Option Nat}{i w n k:Nat}{v:AVal}{y:Option (List AVal)} (h:k≠0):seR e i w n k v y st=none:=by unfold seR;split<;>simp[h]
def AyM{z i w n k:Nat}{v:AVal}{y:Option (List AVal)} (h:z≠w):seR (some z) i w n k v y st=none:=by
 unfold seR;split;·rename_i w' xs;simp[h]
 ·rfl
def AtJ{e:Option Nat}{i w n k:Nat}{v:AVal}{xs:List AVal}:sfR e i w n k v (some [.vec w xs]) st=sfI e i w xs n k v xs[n]? st:=by simp[sfR]
def Aje{z i w n k:Nat}{v x:AVal}{xs:List AVal}:sfI (some z) i w xs n k v (some x) st=if Ce v=true/\Ce x=true/\(AZ x).length=w/\z=(AZ v).length/\k+(AZ v).length<=w then some {st with m:=A7 st.m i [.vec w (xs.set n (.agg (putCells (AZ x) k (stripL (AZ v)))))]}else none:=by simp[sfI]
def seI (i w n:Nat) (v:AVal) (xs:List AVal) (x:Option AVal) (st:St):Option St:=match x with|some _=>if Ce v=true/\(AZ v).length=w then some {st with m:=A7 st.m i [.vec w (xs.set n v.strip)]}else none|none=>none
theorem Aly{i w n:Nat}{v x:AVal}{xs:List AVal}:seI i w n v xs (some x) st=if Ce v=true/\(AZ v).length=w then some {st with m:=A7 st.m i [.vec w (xs.set n v.strip)]}else none:=rfl
def AqV{α:Type}{f:α->AVal}{l:List α}{i w n:Nat}{v:AVal}:seR (some w) i w n 0 v (some [.vec w (List.map f l)]) st=seI i w n v (List.map f l) (List.map f l)[n]? st:=by
 by_cases h:n<l.length;·simp[seR,seI,h]
 ·simp[seR,seI,h]
theorem Axu{t0 t1:TypeId}{i:Nat}{y:AVal}:QS E t0 t1 (.sh i) y=none:=rfl
def afR (x:Option St):Option (AVal×St):=match x with|some ⟨(n,[.vec w zs])::m,k⟩=>some (.slice w zs false,⟨m,k⟩)|_=>none
def Axb{t0 t1:TypeId}{i:Nat}{y:AVal}:ARC E t0 t1 (.sh i) y st=afR (AAN E t0 t1 (.sh i) y st):=by unfold ARC afR;rfl
theorem AmK{n w k:Nat}{zs:List AVal}{m:List (Nat×List AVal)}:afR (some ⟨(n,[.vec w zs])::m,k⟩)=some (.slice w zs false,⟨m,k⟩):=rfl
def Aut{m:AVal}{s:B8}{ok:Bool}{st:St}:UT E t m (.str s) ok st=Q0 E t m (.str s) ok st:=by
 have:Zx E t m (.str s) ok st=none:=by unfold Zx;split<;>simp_all
 unfold UT;rw[this];cases Q0 E t m (.str s) ok st<;>rfl
def Avb{m:AVal}{c:List AVal}{ok:Bool}{st:St}:UT E t m (.agg c) ok st=Zx E t m (.agg c) ok st:=by
 have:Q0 E t m (.agg c) ok st=none:=by unfold Q0;split<;>simp_all
 unfold UT;rw[this]
def AxF{m x:AVal}{s:B8}{st:St}:Vh E t m (.str s) x st=ABU E t m (.str s) x st:=by
 have:ASo E t m (.str s) x st=none:=by unfold ASo;split<;>simp_all
 unfold Vh;rw[this];cases ABU E t m (.str s) x st<;>rfl
def AwU{m x:AVal}{c:List AVal}{st:St}:Vh E t m (.agg c) x st=ASo E t m (.agg c) x st:=by
 have:ABU E t m (.agg c) x st=none:=by unfold ABU;split<;>simp_all
 unfold Vh;rw[this]
def lhR (b ok:Bool) (x:Option (List (B8×Int))) (k:B8×Int):Option AVal:=if b=true then x.map λks=>Vu ok (ks.contains k)else none
def uhR (b:Bool) (i:Nat) (x:Option (List (B8×Int))) (k:B8×Int) (st:St):Option St:=if b=true then x.map λks=> {st with m:=A7 st.m i [.hset (AEv ks k)]}else none
def Ayl{i:Nat}{s:B8}{p:Int}{ok:Bool}{st:St}:Zx E t (.sh i) (.agg [.str s,.int .i64 p]) ok st=lhR (hpT E.P t) ok (hsA (Ag st.m i)) (s,p):=by unfold Zx lhR;cases hpT E.P t<;>rfl
def AyJ{i:Nat}{s:B8}{p:Int}{st:St}:ASo E t (.sh i) (.agg [.str s,.int .i64 p]) (.bool true) st=uhR (hpT E.P t) i (hsA (Ag st.m i)) (s,p) st:=by unfold ASo uhR;cases hpT E.P t<;>rfl
theorem Ajr{ok:Bool}{ks:List (B8×Int)}{k:B8×Int}:lhR true ok (some ks) k=some (Vu ok (ks.contains k)):=rfl
theorem AkH{i:Nat}{ks:List (B8×Int)}{k:B8×Int}{st:St}:uhR true i (some ks) k st=some {st with m:=A7 st.m i [.hset (AEv ks k)]}:=rfl
theorem Ayo{ks:List (B8×Int)}:hsA (some [.hset ks])=some ks:=rfl
theorem Axn:hsA (some [.map [] []])=some []:=rfl
theorem AyW{b:Bool}:Vu false b=.bool b:=rfl
theorem Axa{b:Bool}:Vu true b=.tuple [.bool b,.bool b]:=rfl
def Avd{t0 t1:TypeId}{i:Tmp}{ax y:AVal}:appW E (.tmp i) t0 t1 ax y st=ARC E t0 t1 ax y st:=by unfold appW Ahy;cases ARC E t0 t1 ax y st<;>rfl
def anR (a:Option (Nat×Nat)) (f:Nat->Option (List AVal)) (c:Bool) (st:St):Option (AVal×St):=match a with
 |some (z,b)=>match f z with|some ys=>if c=true then(if Ae ys.length b then some (.sh st.next,{m:=(st.next,[.vec z ys])::st.m,next:=st.next+1})else none)else none|none=>none
 |none=>none
theorem Auy{t0 t1:TypeId}{w:Nat}{xs ys:List AVal}{o p:Bool}:appW E (.const (.slice none 0 0)) t0 t1 (.slice w xs o) (.slice w ys p) st=anR (KI E.P t0) (λz=>QP z (.slice w ys p)) (decide (Ih E.P t1=none)&&Ah E.P t1) st:=by
 have:ARC E t0 t1 (.slice w xs o) (.slice w ys p) st=none:=rfl;unfold appW;rw[this];unfold Ahy anR;rcases KI E.P t0 with _|⟨z,b⟩;·rfl
 ·simp only[];cases QP z (.slice w ys p)with|none=>rfl|some ys=>simp only[Ae,CX,aw,au];by_cases h1:Ih E.P t1=none<;>by_cases h2:Ah E.P t1=true<;>simp[h1,h2]<;>congr 1<;>simp[and_comm]
def AkZ{z b:Nat}{f:Nat->Option (List AVal)}:anR (some (z,b)) f true st=match f z with|some ys=>(if Ae ys.length b then some (.sh st.next,{m:=(st.next,[.vec z ys])::st.m,next:=st.next+1})else none)|none=>none:=by simp[anR]
end
end Go.VM
namespace Go.VM
abbrev MS:=List (Nat×List AVal)
abbrev PQ:=AVal->St->Prop
structure Gl (P:Prop):Prop where go:P
inductive An where|z|q (a b:An)|c (a b:An)|r (mv:List Tmp)
def Jt (F:List AVal->St->Prop) (K:APost):APost:=λe af st=>match e with|.normal=>F af st|e=>K e af st
def AAe (id:Nat) (K:APost):APost:=λe af st=>match e with|.exit id'=>if id'=id then K .normal af st else K (.exit id') af st|e=>K e af st
def nK (K:APost) (af:List AVal) (st:St):Prop:=K .normal af st
def Uf (x:AVal) (X Y:List AVal->St->Prop) (af:List AVal) (st:St):Prop:=match x with|.bool b=>if b=true then X af st else Y af st|_=>False
theorem AEy{E:Env}{c:Code}{Q:APost}{af:List AVal}{st:St} (h:AWp E c Q af st):AWp E (.scope c) Q af st:=⟨λF O w a hd hs=>wp_scope_straight (fg (h.go F O w a hd hs) λe a' w' q=>by cases e<;>first|exact q|exact q.1.elim)⟩
def wpc (E:Env):Code->An->APost->List AVal->St->Prop|.skip,_,K=>λaf st=>K .normal af st|.ret,_,K=>λaf st=>K .ret af st|.exit id,_,K=>λaf st=>K (.exit id) af st|.seq x y,.q a b,K=>wpc E x a (Jt (wpc E y b K) K)|.cond c x y,.c a b,K=>λaf st=>Uf (rd E af 0 c) (wpc E x a K) (wpc E y b K) af st|.block id c,a,K=>wpc E c a (AAe id K)|.scope c,a,K=>wpc E c a K|.region _ os false,.r mv,K=>Mc E mv os os.toList (nK K)|c,_,K=>AWp E c K
section
variable{E:Env}{K:APost}{af:List AVal}{st:St}{x y:Code}{a b:An}{F:List AVal->St->Prop}
def AkB:wpc E .skip a K af st=K .normal af st:=by rw[wpc]
def Ar8:wpc E .ret a K af st=K .ret af st:=by rw[wpc]
def Alf{id:Nat}:wpc E (.exit id) a K af st=K (.exit id) af st:=by rw[wpc]
def Aph:wpc E (.seq x y) (.q a b) K af st=wpc E x a (Jt (wpc E y b K) K) af st:=by rw[wpc]
def AnJ{c:Operand}:wpc E (.cond c x y) (.c a b) K af st=Uf (rd E af 0 c) (wpc E x a K) (wpc E y b K) af st:=by rw[wpc]
def AbZ{id:Nat}:wpc E (.block id x) a K af st=wpc E x a (AAe id K) af st:=by rw[wpc]
def AdX:wpc E (.scope x) a K af st=wpc E x a K af st:=by rw[wpc]
def AVZ{id:Nat}{os:List Oper}{mv:List Tmp}:wpc E (.region id (List.toArray os) false) (.r mv) K af st=Mc E mv ⟨os⟩ os (nK K) af st:=by rw[wpc]
def Axz:wpc E (.seq x y) .z K af st=AWp E (.seq x y) K af st:=by rw[wpc]<;>simp
def AmN:wpc E (.loop x) a K af st=AWp E (.loop x) K af st:=by rw[wpc]<;>simp
def Anz{id:Nat}{os:Array Oper}:wpc E (.region id os true) a K af st=AWp E (.region id os true) K af st:=by rw[wpc]<;>simp
theorem Arq:Jt F K .normal af st=F af st:=rfl
theorem ApR:Jt F K .ret af st=K .ret af st:=rfl
theorem Aqs{id:Nat}:Jt F K (.exit id) af st=K (.exit id) af st:=rfl
theorem AwG{id:Nat}:AAe id K .normal af st=K .normal af st:=rfl
theorem Aup{id:Nat}:AAe id K .ret af st=K .ret af st:=rfl
def AwI{id:Nat}:AAe id K (.exit id) af st=K .normal af st:=by simp[AAe]
def AvH{id id':Nat} (h:id'≠id):AAe id K (.exit id') af st=K (.exit id') af st:=by grind[AAe]
theorem AwL:nK K af st=K .normal af st:=rfl
theorem Aas{X Y:List AVal->St->Prop}:Uf (.bool true) X Y af st=X af st:=rfl
theorem AZf{X Y:List AVal->St->Prop}:Uf (.bool false) X Y af st=Y af st:=rfl
def Qb: ∀ {c:Code} (a:An){K:APost}{af:List AVal}{st:St},wpc E c a K af st->AWp E c K af st:=by
 intro c;induction c with
 |skip=>intro a K af st h;rw[wpc]at h;exact AS6 h
 |ret=>intro a K af st h;rw[wpc]at h;exact AZ6 h
 |exit id=>intro a K af st h;rw[wpc]at h;exact AUs h
 |seq x y ihx ihy=>
  intro a K af st h;cases a with
  |q a b=>rw[wpc]at h;refine Va ((ihx a h).mono λe af' st' _ q=>?_);cases e with|normal=>exact ihy b q|_=>exact q
  |_=>(rw[wpc]at h;exact h)<;>(intros;simp_all)
 | cond c x y ihx ihy=>
  intro a K af st h;cases a with
  |c a b=>
   rw[wpc]at h;unfold Uf at h;split at h;·rename_i b' hb;refine AQ4 b' hb ?_;cases b' with|true=>simp only[aB]at h⊢;grind|false=>simp only[aq,az]at h⊢;grind
   grind
  |_=>(rw[wpc]at h;exact h)<;>(intros;simp_all)
 |block id c ih=>intro a K af st h;rw[wpc]at h;exact AFj ((ih a h).mono λe af' st' _ q=>by cases e<;>exact q)
 |region id os d=>intro a K af st h;cases d with|true=>(rw[wpc]at h;exact h)<;>(intros;simp_all)|false=>cases a with|r mv=>rw[wpc]at h;exact Wl mv h|_=>(rw[wpc]at h;exact h)<;>(intros;simp_all)
 |loop c ih=>intro a K af st h;(rw[wpc]at h;exact h)<;>(intros;simp_all)
 |rangeFunc f ps x y ihx ihy=>intro a K af st h;(rw[wpc]at h;exact h)<;>(intros;simp_all)
 |scope c ih=>intro a K af st h;rw[wpc]at h;grind[AEy]
 |label l=>intro a K af st h;(rw[wpc]at h;exact h)<;>(intros;simp_all)
 |goto l=>intro a K af st h;(rw[wpc]at h;exact h)<;>(intros;simp_all)
 |refuse w=>intro a K af st h;(rw[wpc]at h;exact h)<;>(intros;simp_all)
end
inductive GTk (X Y:Prop):Type|mk
def gK (g:Option Bool) (X Y:Prop) (u:GTk X Y):Prop:=match g with|some true=>X|some false=>Y|none=>False
theorem Azi{X Y:Prop}{u:GTk X Y}:gK (some true) X Y u=X:=rfl
theorem Aze{X Y:Prop}{u:GTk X Y}:gK (some false) X Y u=Y:=rfl
def nxK (b:Bool) (X Y:Prop) (u:GTk X Y):Prop:=if b=true then X else Y
def Axv{X Y:Prop}{u:GTk X Y}:nxK true X Y u=X:=by simp[nxK]
def AyZ{X Y:Prop}{u:GTk X Y}:nxK false X Y u=Y:=by simp[nxK]
section
variable{E:Env}{mv:List Tmp}{ops:Array Oper}{K:List AVal->St->Prop}{af:List AVal}{st:St}{d:Option Tmp}{ty:TypeId}{pos:String}{aft:Array Edge}{g:Option (Nat×Bool)}
def AuW{op:Op}{os' os:List Oper}{j:Nat}{want:Bool}:Mc E mv ⟨os'⟩ (⟨d,op,ty,pos,aft,some (j,want)⟩::os) K af st=gK (gdD (QI os' j) af want) (DJ E mv ⟨d,op,ty,pos,aft,some (j,want)⟩ af st (Mc E mv ⟨os'⟩ os K)) (Mc E mv ⟨os'⟩ os K (Ac af d (.tuple [])) st) .mk:=by grind[Mc,AWY,gK,gdD,QI]
def Az6{op:Op}{os':List Oper}{j:Nat}{want:Bool}:gWp E mv ⟨os'⟩ ⟨d,op,ty,pos,aft,some (j,want)⟩ af st K=gK (gdD (QI os' j) af want) (DJ E mv ⟨d,op,ty,pos,aft,some (j,want)⟩ af st K) (K (Ac af d (.tuple [])) st) .mk:=by grind[gWp,AWY,gK,gdD,QI]
def Ar7{t:Tmp}{s:B8}{p:Nat}:ACI (.iter s p) t d K af st=nxK (decide (p<s.length)) (K (Ac (af.set t (.iter s (p+(Da s p).2))) d (.tuple [.bool true,.int .i64 p,.int .i32 (Da s p).1])) st) (K (Ac af d (.tuple [.bool false])) st) .mk:=by rw[AYv];rfl
end
section cong
@[congr] theorem Axp{E:Env}{mv:List Tmp}{ops:Array Oper}{os:List Oper}{K:List AVal->St->Prop}{af:List AVal}{st:St}{af':List AVal}{st':St} (h0:af=af') (h1:st=st'):Mc E mv ops os K af st=Mc E mv ops os K af' st':=by grind
@[congr] theorem Ay3{E:Env}{mv:List Tmp}{o:Oper}{af:List AVal}{st:St}{K:List AVal->St->Prop}{af':List AVal}{st':St} (h0:af=af') (h1:st=st'):DJ E mv o af st K=DJ E mv o af' st' K:=by grind
@[congr] theorem Ay4{x:Option AVal}{d:Option Tmp}{K:List AVal->St->Prop}{af:List AVal}{st:St}{x':Option AVal}{af':List AVal}{st':St} (h0:x=x') (h1:af=af') (h2:st=st'):Sn x d K af st=Sn x' d K af' st':=by grind
@[congr] theorem AyY{x:Option AVal}{d:Option Tmp}{K:List AVal->St->Prop}{af:List AVal}{st:St}{x':Option AVal}{af':List AVal}{st':St} (h0:x=x') (h1:af=af') (h2:st=st'):Ni x d K af st=Ni x' d K af' st':=by grind
@[congr] theorem AyF{z:Option (AVal×St)}{d:Option Tmp}{K:List AVal->St->Prop}{af:List AVal}{z':Option (AVal×St)}{af':List AVal} (h0:z=z') (h1:af=af'):RP z d K af=RP z' d K af':=by grind
@[congr] theorem Ay9{b:Bool}{v:AVal}{d:Option Tmp}{K:List AVal->St->Prop}{af:List AVal}{st:St}{b':Bool}{v':AVal}{af':List AVal}{st':St} (h0:b=b') (h1:v=v') (h2:af=af') (h3:st=st'):AcR b v d K af st=AcR b' v' d K af' st':=by grind
@[congr] theorem AxH{x:Option (List AVal)}{d:Option Tmp}{K:List AVal->St->Prop}{af:List AVal}{st:St}{x':Option (List AVal)}{af':List AVal}{st':St} (h0:x=x') (h1:af=af') (h2:st=st'):ACF x d K af st=ACF x' d K af' st':=by grind
@[congr] theorem AxI{s:Option St}{K:List AVal->St->Prop}{af:List AVal}{s':Option St}{af':List AVal} (h0:s=s') (h1:af=af'):S9 s K af=S9 s' K af':=by grind
@[congr] theorem AxG{E:Env}{t:TypeId}{v:AVal}{lo:Option (Option Int)}{hi:Option (Option Int)}{mx:Option (Option Int)}{d:Option Tmp}{K:List AVal->St->Prop}{af:List AVal}{st:St}{v':AVal}{lo':Option (Option Int)}{hi':Option (Option Int)}{mx':Option (Option Int)}{af':List AVal}{st':St} (h0:v=v') (h1:lo=lo') (h2:hi=hi') (h3:mx=mx') (h4:af=af') (h5:st=st'):ABH E t v lo hi mx d K af st=ABH E t v' lo' hi' mx' d K af' st':=by grind
@[congr] theorem AxK{b:Bool}{v:AVal}{d:Option Tmp}{K:List AVal->St->Prop}{af:List AVal}{st:St}{b':Bool}{v':AVal}{af':List AVal}{st':St} (h0:b=b') (h1:v=v') (h2:af=af') (h3:st=st'):ACN b v d K af st=ACN b' v' d K af' st':=by grind
@[congr] theorem Axy{v:AVal}{tm:Tmp}{d:Option Tmp}{K:List AVal->St->Prop}{af:List AVal}{st:St}{v':AVal}{af':List AVal}{st':St} (h0:v=v') (h1:af=af') (h2:st=st'):ACI v tm d K af st=ACI v' tm d K af' st':=by grind
@[congr] theorem Ayc{E:Env}{v:AVal}{l:List AVal}{d:Option Tmp}{K:List AVal->St->Prop}{af:List AVal}{st:St}{v':AVal}{l':List AVal}{af':List AVal}{st':St} (h0:v=v') (h1:l=l') (h2:af=af') (h3:st=st'):AQD E v l d K af st=AQD E v' l' d K af' st':=by grind
@[congr] theorem Azq{b z:Bool}{u:Operand}{t:TypeId}{E:Env}{d:Option Tmp}{K:List AVal->St->Prop}{af:List AVal}{st:St}{b' z':Bool}{af':List AVal}{st':St} (h0:b=b') (hz:z=z') (h1:af=af') (h2:st=st'):mvK b z u t E d K af st=mvK b' z' u t E d K af' st':=by grind
@[congr] theorem AzH{z:Bool}{y:Option (Nat×Nat×List AVal)}{j:Tmp}{v:AVal}{d:Option Tmp}{K:List AVal->St->Prop}{af:List AVal}{st:St}{z':Bool}{y':Option (Nat×Nat×List AVal)}{v':AVal}{af':List AVal}{st':St} (h0:z=z') (hy:y=y') (hv:v=v') (h1:af=af') (h2:st=st'):fzK z y j v d K af st=fzK z' y' j v' d K af' st':=by grind
@[congr] theorem A0D{b:Bool}{t:TypeId}{v:AVal}{E:Env}{d:Option Tmp}{K:List AVal->St->Prop}{af:List AVal}{st:St}{b':Bool}{v':AVal}{af':List AVal}{st':St} (h0:b=b') (h1:v=v') (h2:af=af') (h3:st=st'):ldK b t v E d K af st=ldK b' t v' E d K af' st':=by grind
@[congr] theorem AyX{F:List AVal->St->Prop}{L:APost}{e:Exit}{af:List AVal}{st:St}{e':Exit}{af':List AVal}{st':St} (h0:e=e') (h1:af=af') (h2:st=st'):Jt F L e af st=Jt F L e' af' st':=by grind
@[congr] theorem Ay8{id:Nat}{L:APost}{e:Exit}{af:List AVal}{st:St}{e':Exit}{af':List AVal}{st':St} (h0:e=e') (h1:af=af') (h2:st=st'):AAe id L e af st=AAe id L e' af' st':=by grind
@[congr] theorem A0F{L:APost}{af:List AVal}{st:St}{af':List AVal}{st':St} (h0:af=af') (h1:st=st'):nK L af st=nK L af' st':=by grind
@[congr] theorem Axh{v:AVal}{F:List AVal->St->Prop}{G:List AVal->St->Prop}{af:List AVal}{st:St}{v':AVal}{af':List AVal}{st':St} (h0:v=v') (h1:af=af') (h2:st=st'):Uf v F G af st=Uf v' F G af' st':=by grind
@[congr] theorem A0A{E:Env}{c:Code}{a:An}{L:APost}{af:List AVal}{st:St}{af':List AVal}{st':St} (h0:af=af') (h1:st=st'):wpc E c a L af st=wpc E c a L af' st':=by grind
@[congr] theorem Azr{E:Env}{c:Code}{L:APost}{af:List AVal}{st:St}{af':List AVal}{st':St} (h0:af=af') (h1:st=st'):AWp E c L af st=AWp E c L af' st':=by grind
@[congr] theorem AyH{E:Env}{f:FuncId}{l:List AVal}{st:St}{Q:AVal->St->Prop}{l':List AVal}{st':St} (h0:l=l') (h1:st=st'):ACall E f l st Q=ACall E f l' st' Q:=by grind
@[congr] theorem AxJ{E:Env}{mv:List Tmp}{ops:Array Oper}{p:Plan}{tv:List (Nat×AVal)}{K:List AVal->St->Prop}{af:List AVal}{st:St}{tv':List (Nat×AVal)}{af':List AVal}{st':St} (h0:tv=tv') (h1:af=af') (h2:st=st'):Ho E mv ops p tv K af st=Ho E mv ops p tv' K af' st':=by grind
@[congr] theorem AzQ{E:Env}{mv:List Tmp}{os:List Oper}{x:Option AVal}{i:Nat}{d:Option Tmp}{p:Plan}{tv:List (Nat×AVal)}{K:List AVal->St->Prop}{af:List AVal}{st:St}{x':Option AVal}{tv':List (Nat×AVal)}{af':List AVal}{st':St} (h0:x=x') (h1:tv=tv') (h2:af=af') (h3:st=st'):tkR E mv os x i d p tv K af st=tkR E mv os x' i d p tv' K af' st':=by grind
@[congr] theorem AzU{E:Env}{mv:List Tmp}{os:List Oper}{w:Option Oper}{i:Nat}{p:Plan}{tv:List (Nat×AVal)}{K:List AVal->St->Prop}{af:List AVal}{st:St}{w':Option Oper}{tv':List (Nat×AVal)}{af':List AVal}{st':St} (h0:w=w') (h1:tv=tv') (h2:af=af') (h3:st=st'):tkO E mv os w i p tv K af st=tkO E mv os w' i p tv' K af' st':=by grind
@[congr] theorem Ay2{E:Env}{mv:List Tmp}{os:List Oper}{chk:List Nat}{p:Plan}{tv:List (Nat×AVal)}{K:List AVal->St->Prop}{af:List AVal}{st:St}{tv':List (Nat×AVal)}{af':List AVal}{st':St} (h0:tv=tv') (h1:af=af') (h2:st=st'):Ak6 E mv os chk p tv K af st=Ak6 E mv os chk p tv' K af' st':=by grind
@[congr] theorem Ay6{E:Env}{mv:List Tmp}{os:List Oper}{w:Option Oper}{chk:List Nat}{p:Plan}{tv:List (Nat×AVal)}{K:List AVal->St->Prop}{af:List AVal}{st:St}{w':Option Oper}{tv':List (Nat×AVal)}{af':List AVal}{st':St} (h0:w=w') (h1:tv=tv') (h2:af=af') (h3:st=st'):AtP E mv os w chk p tv K af st=AtP E mv os w' chk p tv' K af' st':=by grind
@[congr] theorem AzC{E:Env}{mv:List Tmp}{ops:Array Oper}{o:Oper}{af:List AVal}{st:St}{K:List AVal->St->Prop}{af':List AVal}{st':St} (h0:af=af') (h1:st=st'):gWp E mv ops o af st K=gWp E mv ops o af' st' K:=by grind
@[congr] theorem A0E{g:Option Bool}{X:Prop}{Y:Prop}{u:GTk X Y}{g':Option Bool} (h0:g=g'):gK g X Y u=gK g' X Y u:=by grind
@[congr] theorem Ay7{d:Option Tmp}{K:List AVal->St->Prop}{af:List AVal}{r:AVal}{sx:St}{af':List AVal}{r':AVal}{sx':St} (h0:af=af') (h1:r=r') (h2:sx=sx'):Aeg d K af r sx=Aeg d K af' r' sx':=by grind
@[congr] theorem AzB{b:Bool}{X:Prop}{Y:Prop}{u:GTk X Y}{b':Bool} (h0:b=b'):nxK b X Y u=nxK b' X Y u:=by grind
end cong
section rules
variable{E:Env}{K Q:APost}{af:List AVal}{st:St}{x y c:Code}
def ent{f:FuncId}{fn:Func}{nt:Nat}{rs:List ResultVar}{args:List AVal}{m m':MS}{n:Nat}{r':AVal}{Q:PQ} (hQ: ∀n',n<=n'->Gl (Q r' ⟨m',n'⟩)) (hf:E.P.funcs[f]?=some fn) (hb:fn.body=some c) (hn:fn.ntmps=nt) (hr:fn.results=rs.toArray) (a:An) (h: ∀R:APost,(∀af st xs m0 m1 n',RX E rs af st=some (xs,⟨m1,n'⟩)->m0.Sublist m1->m0=m'->n<=n'->Tf xs=r'->R .ret af st/\R .normal af st)->Gl (wpc E c a R (args++List.replicate (nt-args.length) .any) ⟨m,n⟩)):ACall E f args ⟨m,n⟩ Q:=by
 refine NG hf hb ?_;have hw:=Qb a (h (KH E fn Q) ?_).go;·grind
 ·intro af st xs m0 m1 n' h1 h2 h0 h3 h4;subst h0;have e:fn.results.toList=rs:=by rw[hr]
  subst h4;exact⟨KW (by rw[e];omega) h2 (hQ n' h3).go,KY (by rw[e];omega) h2 (hQ n' h3).go⟩
def Ayh{f:FuncId}{fn:Func}{nt:Nat}{rs:List ResultVar}{args:List AVal}{m m':MS}{n:Nat}{r':AVal}{Q:PQ} (hQ: ∀n',n<=n'->Gl (Q r' ⟨m',n'⟩)) (hf:E.P.funcs[f]?=some fn) (hb:fn.body=some c) (hn:fn.ntmps=nt) (hr:fn.results=rs.toArray) (a:An) (h: ∀R:APost,(∀af st xs m0 m1 n',RX E rs af st=some (xs,⟨m1,n'⟩)->m0.Sublist m1->m0=m'->n<=n'->(Tf xs).strip=r'->R .ret af st/\R .normal af st)->Gl (wpc E c a R (args++List.replicate (nt-args.length) .any) ⟨m,n⟩)):ACall E f args ⟨m,n⟩ Q:=by
 refine ACall.strip (NG hf hb ?_);have hw:=Qb a (h (KH E fn λr st'=>Q r.strip st') ?_).go;·grind
 ·intro af st xs m0 m1 n' h1 h2 h0 h3 h4;subst h0;have e:fn.results.toList=rs:=by rw[hr]
  subst h4;exact⟨KW (by rw[e];omega) h2 (hQ n' h3).go,KY (by rw[e];omega) h2 (hQ n' h3).go⟩
def QQ{id:Nat}{os:List Oper} (mv:List Tmp) (plan:Plan) (hm:E.P.follows .mixedOrders=true) (hok:Jr (List.toArray os) plan false (Array.replicate (List.toArray os).size false) []=true) (h:Gl (Ho E mv ⟨os⟩ plan [] (nK Q) af st)):AWp E (.region id (List.toArray os) true) Q af st:=Tk mv plan hm hok h.go
def UM{α β γ:Type}{k0:α->Option β}{body:(α->Option β)->Option β}{r:β}{m:MS}{n:Nat}{T:Prop}{d:JD α} (h:T/\AA k0 body d=some r) (js cs:List Tmp) (V:α->γ->List AVal) (M:α->γ->MS) (a:An) (rest: ∀j g n',n<=n'->keysLt n' (M j g)->((M j g).map (·.1)).Nodup->T/\k0 j=some r->AWp E y Q (setVals (Ak js af) cs (V j g)) ⟨M j g,n'⟩) (first: ∀(k:α->Option β) (J:List AVal->St->Prop),(∀j g af' m0 m1 n',k j=some r->m0.Sublist m1->m0=M j g->Ak cs (Ak js af')=Ak cs (Ak js af)->Cg (Ak js af') cs=V j g->n<=n'->J af' ⟨m1,n'⟩)->T/\body k=some r->Gl (wpc E x a (Jt J Q) af ⟨m,n⟩)):AWp E (.seq x y) Q af ⟨m,n⟩:=by
 refine Va ?_;have key:=Qb a (first k0 (λaf' st'=>AWp E y Q af' ⟨st'.m,st'.next⟩) ?_ h).go;·exact key.mono λe af' st' _ q=>by cases e<;>exact q
 ·intro j g af' m0 m1 n' h1 h2 h3 h4 h5 h6;subst h3;refine UV js (Aef (m:=M j g) h2 ?_);grind[AWp.known,AWp.nodup,Lt]
def Akf{σ β γ:Type}{r:β}{m:MS}{n:Nat}{T:Prop} (G:Nat->σ->Option β) (V:σ->γ->List AVal) (M:σ->γ->MS) (js cs:List Tmp) (s0:σ) (g0:γ){k0:Nat} (h:T/\G k0 s0=some r) (hz: ∀s,G 0 s=none) (hm:m=M s0 g0) (hv:Cg (Ak js af) cs=V s0 g0) (round: ∀k s g n',n<=n'->keysLt n' (M s g)->T/\G (k+1) s=some r->∀J:List AVal->St->Prop,(∀s' g' af' m0 m1 n'',G k s'=some r->m0.Sublist m1->m0=M s' g'->Ak cs (Ak js af')=Ak cs (Ak js af)->Cg (Ak js af') cs=V s' g'->n'<=n''->J af' ⟨m1,n''⟩)->AWp E c (Jt J Q) (setVals (Ak js af) cs (V s g)) ⟨M s g,n'⟩):AWp E (.loop c) Q af ⟨m,n⟩:=by
 refine ACz js cs (λk vs st'=>∃s g,vs=V s g/\st'.m=M s g/\n<=st'.next/\G k s=some r) k0 ⟨s0,g0,hv,hm,av _,h.2⟩ ?_;rintro k vs ⟨m',n'⟩ ⟨s,g,rfl,hm',hn,hG⟩ J hJ;simp only at hm' hn;subst hm';cases k with
 |zero=>grind
 |succ k=>
  refine AWp.known λ_ hk=>?_;refine(round k s g n' hn hk ⟨h.1,hG⟩ J ?_).mono λe af' st' _ q=>by cases e<;>first|exact Oj q|exact .oth fI q
  intro s' g' af' m0 m1 n'' h1 h2 h3 h4 h5 h6;exact hJ k af' ⟨m1,n''⟩ m0 (fa _) h2 h4 ⟨s',g',h5,h3,bJ hn h6,h1⟩
def AbK{α:Type}{L pre suf:List α}{x:α} (h:L=pre++x::suf) (hL:AL L.length):decide ((pre.length:Int)<(L.length:Int))=true/\idx L (pre.length:Int)=some x/\wr .i64 ((pre.length:Int)+1)=(pre.length:Int)+1:=by subst h;unfold AL at hL;simp only[ah,ae]at hL;refine⟨by simp only[au,ah,ae];omega,by simp[idx],?_⟩;grind[wr,IntKind.wrap,IntKind.bits,IntKind.signed]
def Alm{σ β γ:Type}{r:β}{m:MS}{n:Nat}{T:Prop} (i0 b:Int) (hL: -4611686018427387904<=i0/\b<=4611686018427387904) (G:Nat->Int->σ->Option β) (V:Int->σ->γ->List AVal) (M:Int->σ->γ->MS) (js cs:List Tmp) (s0:σ) (g0:γ) (h:T/\G (b-i0).toNat i0 s0=some r) (hm:m=M i0 s0 g0) (hv:Cg (Ak js af) cs=V i0 s0 g0) (rnil: ∀i s g n',n<=n'->keysLt n' (M i s g)->(decide (i<b)=false/\T)/\G 0 i s=some r->AWp E c (Jt (λ_ _=>False) Q) (setVals (Ak js af) cs (V i s g)) ⟨M i s g,n'⟩) (rcons: ∀k i s g n',n<=n'->keysLt n' (M i s g)->(decide (i<b)=true/\wr .i64 (i+1)=i+1/\T)/\G (k+1) i s=some r->∀J:List AVal->St->Prop,(∀s' g' af' m0 m1 n'',G k (i+1) s'=some r->m0.Sublist m1->m0=M (i+1) s' g'->Ak cs (Ak js af')=Ak cs (Ak js af)->Cg (Ak js af') cs=V (i+1) s' g'->n'<=n''->J af' ⟨m1,n''⟩)->AWp E c (Jt J Q) (setVals (Ak js af) cs (V i s g)) ⟨M i s g,n'⟩):AWp E (.loop c) Q af ⟨m,n⟩:=by
 refine ACz js cs (λk vs st'=>∃i s g,i0<=i/\k=(b-i).toNat/\vs=V i s g/\st'.m=M i s g/\n<=st'.next/\G k i s=some r) (b-i0).toNat ⟨i0,s0,g0,bD _,rfl,hv,hm,av _,h.2⟩ ?_;rintro k vs ⟨m',n'⟩ ⟨i,s,g,hi,hk',rfl,hm',hn,hG⟩ J hJ;simp only at hm' hn;subst hm';cases k with
 |zero=>refine AWp.known λ_ hk=>?_;refine(rnil _ s g n' hn hk ⟨⟨by grind,h.1⟩,hG⟩).mono λe af' st' _ q=>by cases e<;>first|exact q.elim|exact .oth fI q
 |succ k=>
  refine AWp.known λ_ hk=>?_;have hw:wr .i64 (i+1)=i+1:=by grind[wr,IntKind.wrap,IntKind.bits,IntKind.signed]
  refine(rcons k i s g n' hn hk ⟨⟨by simp only[au];omega,hw,h.1⟩,hG⟩ J ?_).mono λe af' st' _ q=>by cases e<;>first|exact Oj q|exact .oth fI q
  intro s' g' af' m0 m1 n'' h1 h2 h3 h4 h5 h6;exact hJ k af' ⟨m1,n''⟩ m0 fI h2 h4 ⟨i+1,s',g',fH,fH,h5,h3,bJ hn h6,h1⟩
def Cx (a:An) (h:Gl (wpc E c a K af st)):AWp E c K af st:=Qb a h.go
end rules
def AYY{A B:Prop} (a:Gl A) (b:Gl B):Gl (A/\B):=⟨a.go,b.go⟩
def K4{α:Type}{c:Bool}{x y:Option α}{r:α}{T:Prop} (h:T/\(if c=true then x else y)=some r):((c=true/\T)/\x=some r)\/((c=false/\T)/\y=some r):=by
 cases c;·exact .inr ⟨⟨rfl,h.1⟩,h.2⟩
 ·exact .inl ⟨⟨rfl,h.1⟩,h.2⟩
def GI{α β:Type}{x:Option α}{f:α->Option β}{r:β}{T:Prop} (h:T/\Option.bind x f=some r): ∃y,(x=some y/\T)/\f y=some r:=by obtain⟨y,h1,h2⟩:=bind_some h.2;grind
def Nk{α:Type}{c:Prop} [Decidable c]{x:Option α}{r:α}{T:Prop} (h:T/\grd c x=some r):c/\T/\x=some r:=by grind[ABg]
def Kv{A B C:Prop} (a:A) (h:B/\C):(A/\B)/\C:=⟨⟨a,h.1⟩,h.2⟩
end Go.VM
set_option maxRecDepth 100000
namespace Go.VM
section
variable{E:Env}{af:List AVal}{t:TypeId}
def fdA (r:Option (Nat×Nat×Bool)) (cs:List AVal):Option AVal:=match r with|some (off,z,g)=>V6 cs off z g|none=>none
def AqI{s:TypeId}{cs:List AVal}{f:Nat}:Wd E s (.agg cs) f=fdA (AU E.P s f) cs:=by unfold Wd fdA;rcases AU E.P s f with _|⟨_,_,_⟩<;>rfl
theorem AkL{off z:Nat}{g:Bool}{cs:List AVal}:fdA (some (off,z,g)) cs=V6 cs off z g:=rfl
theorem Ard{r:AVal}:Tf [r]=r:=rfl
theorem AqG:Tf []=.tuple []:=rfl
theorem AtM{a b:AVal}{l:List AVal}:Tf (a::b::l)=.tuple (a::b::l):=rfl
theorem AiC:Ak [] af=af:=rfl
theorem Abs{j:Tmp}{js:List Tmp}:Ak (j::js) af=Ak js (af.set j .any):=rfl
def Avi{vs:List AVal}:setVals af [] vs=af:=by cases vs<;>rfl
theorem Asr{c:Tmp}{cs:List Tmp}{v:AVal}{vs:List AVal}:setVals af (c::cs) (v::vs)=setVals (af.set c v) cs vs:=rfl
theorem Au4:Cg af []=[]:=rfl
theorem Asp{c:Tmp}{cs:List Tmp}:Cg af (c::cs)=af.getD c .any::Cg af cs:=rfl
theorem AmT{r:AVal}:Ac af none r=af:=rfl
theorem Ahx{d:Tmp}{r:AVal}:Ac af (some d) r=af.set d r:=rfl
theorem Apd{i:Tmp}:stripAt af (.tmp i)=af.set i (af.getD i .any).strip:=rfl
def As4{l:List AVal}:AVal.strip (.agg l)=.agg (stripL l):=by rw[AVal.strip]
def Abv{l:List AVal}:AVal.strip (.tuple l)=.tuple (stripL l):=by rw[AVal.strip]
def AeP{w:Nat}{l:List AVal}{o:Bool}:AVal.strip (.slice w l o)=.slice w l false:=by rw[AVal.strip]
def AmV{s:B8}{p:Nat}:AVal.strip (.iter s p)=.any:=by rw[AVal.strip]
def Aj7:stripL []=[]:=by rw[stripL]
def AwO{x:AVal}{bs:List Bool}{xs:List AVal}:stripB (true::bs) (x::xs)=x.strip::stripB bs xs:=by rw[stripB]
def AuP{x:AVal}{bs:List Bool}{xs:List AVal}:stripB (false::bs) (x::xs)=x::stripB bs xs:=by rw[stripB]
def Avg{xs:List AVal}:stripB [] xs=xs:=by rw[stripB]
def Aes{x:AVal}{l:List AVal}:stripL (x::l)=x.strip::stripL l:=by rw[stripL]
theorem Awc{i:Tmp}:rd E af t (.tmp i)=af.getD i .any:=rfl
theorem Ah7{v:Value}:rd E af t (.const v)=KJ (JA E.P t) v:=rfl
theorem Apf{g:FuncId}:rd E af t (.func g)=.fn (.func g) [] []:=rfl
end
def vmC:=ac (ac (ac (ac (ac (ac (ac (ac (ac (@Afu) (@AV8)) (ac (@AXF) (@Ab1))) (ac (ac (@AT9) (@ASL)) (ac (@AH3) (ac (@AGH) (@AUk))))) (ac (ac (ac (@AlI) (@Anb)) (ac (@Air) (ac (@Am2) (@Adp)))) (ac (ac (@Amh) (@AeD)) (ac (@AsT) (ac (@Abb) (@Ah4)))))) (ac (ac (ac (ac (@Av8) (@AmL)) (ac (@ADo) (@Aq1))) (ac (ac (@Ali) (@AZL)) (ac (@Anx) (ac (@AeV) (@Amv))))) (ac (ac (ac (@AW9) (@Arx)) (ac (@Aqh) (ac (@AWj) (@AtN)))) (ac (ac (@AP0) (@Akm)) (ac (@AqB) (ac (@AX9) (@AU6))))))) (ac (ac (ac (ac (ac (@AG2) (@AlW)) (ac (@AJg) (@AnW))) (ac (ac (@Aw6) (@Awz)) (ac (@Awy) (ac (@Art) (@AlD))))) (ac (ac (ac (@Ac0) (@Ark)) (ac (@AUv) (ac (@AsQ) (@As9)))) (ac (ac (@ATa) (@Ahv)) (ac (@AD2) (ac (@Ap2) (@ARu)))))) (ac (ac (ac (ac (@Ak0) (@ApP)) (ac (@AYe) (@AQn))) (ac (ac (@ALX) (@AiX)) (ac (@ANQ) (ac (@Alq) (@AuR))))) (ac (ac (ac (@AxB) (@Avw)) (ac (@Aw3) (ac (@Amt) (@Ak4)))) (ac (ac (@Adc) (@An7)) (ac (@Abx) (ac (@AfX) (@AcZ)))))))) (ac (ac (ac (ac (ac (ac (@AiZ) (@AsK)) (ac (@Ah8) (@AeG))) (ac (ac (@Ax5) (@AxW)) (ac (@Axm) (ac (@Ax0) (@Aiv))))) (ac (ac (ac (@Alx) (@Aq4)) (ac (@AsD) (ac (@AlV) (@AdL)))) (ac (ac (@Auo) (@AfN)) (ac (@Auz) (ac (@AgI) (@AmB)))))) (ac (ac (ac (ac (@Afl) (@AfE)) (ac (@Alp) (@Aeh))) (ac (ac (@AY4) (@Alu)) (ac (@AHD) (ac (@YC) (@AZr))))) (ac (ac (ac (@AZ3) (@Qd)) (ac (@Awa) (ac (@AwP) (@Au6)))) (ac (ac (@AvB) (@Awb)) (ac (@AuU) (ac (@Ax6) (@AwC))))))) (ac (ac (ac (ac (ac (@AfL) (@Awn)) (ac (@AwN) (@Awj))) (ac (ac (@AvA) (@AuL)) (ac (@Aua) (ac (@AvS) (@AuG))))) (ac (ac (ac (@Ap6) (@Aqz)) (ac (@Apu) (ac (@As1) (@Asy)))) (ac (ac (@Asi) (@Api)) (ac (@AtH) (ac (@AtC) (@AwJ)))))) (ac (ac (ac (ac (@AdH) (@Acc)) (ac (@Aud) (ac (@Ahm) (@Ap5)))) (ac (ac (@Avm) (@AjI)) (ac (@AjS) (ac (@AXz) (@bytesOf_map))))) (ac (ac (ac (@Sq) (@AUZ)) (ac (@AUc) (ac (@AuH) (ac (@Awx) (@Au9))))) (ac (ac (@List.append_eq.{0}) (@cE.{0,0})) (ac (@ah.{0}) (ac (@bD) (@Int.natCast_nonneg))))))))) (ac (ac (ac (ac (ac (ac (ac (@cY.{0}) (@dr.{0})) (ac (@bB) (@eH))) (ac (ac (@bQ) (@bE)) (ac (@bA) (ac (@cp.{0,0}) (@Nat.left_eq_add))))) (ac (ac (ac (@fi) (@Nat.one_ne_zero)) (ac (@Nat.succ_ne_self) (ac (@fc) (@cG)))) (ac (ac (@ae.{0}) (@ap.{0})) (ac (@dC.{0}) (ac (@List.replicate_zero.{0}) (@bz.{0})))))) (ac (ac (ac (ac (@bm.{0}) (@bo.{0})) (ac (@dE.{0}) (@cW.{0}))) (ac (ac (@cf.{0}) (@cH.{0})) (ac (@aN.{0,0}) (ac (@bS.{0,0}) (@aa.{0,0}))))) (ac (ac (ac (@Option.bind_none.{0,0}) (@eR.{0})) (ac (@bC.{0}) (ac (@List.elem_nil.{0}) (@List.elem_cons.{0})))) (ac (ac (@aB.{1}) (@az.{1})) (ac (@aq) (ac (@dJ) (@aO.{0}))))))) (ac (ac (ac (ac (ac (@dD.{0}) (@co.{0})) (ac (@bW) (@bI))) (ac (ac (@cm.{0}) (@fd.{0})) (ac (@dY.{0}) (ac (@fD) (@cN))))) (ac (ac (ac (@di) (@be)) (ac (@de.{0}) (ac (@Option.isNone_some.{0}) (@dL.{0})))) (ac (ac (@ci.{0}) (@ft)) (ac (@ew) (ac (@and_self) (@dR)))))) (ac (ac (ac (ac (@cF) (@av)) (ac (@dl.{0}) (ac (@dy.{0}) (@cj.{0})))) (ac (ac (@ite_self.{1}) (@aF.{0,0})) (ac (@cv.{0,0}) (ac (@List.range_succ) (@List.range_zero))))) (ac (ac (ac (@aQ.{0}) (@dS.{0})) (ac (@dh) (ac (@cS) (@ag.{0})))) (ac (ac (@bH) (@true_or)) (ac (@or_true) (ac (@false_or) (@eF)))))))) (ac (ac (ac (ac (ac (ac (@cO) (@not_false_eq_true)) (ac (@ek.{1}) (@rdL.eq_1))) (ac (ac (@rdL.eq_2) (@rdL.eq_3)) (ac (@rdo.eq_1) (ac (@rdo.eq_2) (@Bb.eq_1))))) (ac (ac (ac (@Bb.eq_2) (@QE.eq_1)) (ac (@QE.eq_2) (ac (@QI.eq_1) (@QI.eq_2)))) (ac (ac (@QI.eq_3) (@opAt.eq_1)) (ac (@opAt.eq_2) (ac (@opAt.eq_3) (@YB.eq_1)))))) (ac (ac (ac (ac (@YB.eq_2) (@AZ.eq_1)) (ac (@Ce.eq_1) (@Ce.eq_2))) (ac (ac (@Ce.eq_3) (@putCells.eq_1)) (ac (@putCells.eq_2) (ac (@V6.eq_1) (@SL.eq_1))))) (ac (ac (ac (@R8.eq_1) (@R8.eq_2)) (ac (@Sv.eq_1) (ac (@Sv.eq_2) (@O4.eq_1)))) (ac (ac (@AqI) (@AkL)) (ac (@Nh.eq_1) (ac (@Nh.eq_2) (@Nh.eq_3))))))) (ac (ac (ac (ac (ac (@Nh.eq_4) (@KJ.eq_1)) (ac (@KJ.eq_2) (@KJ.eq_3))) (ac (ac (@KJ.eq_4) (@KJ.eq_5)) (ac (@KJ.eq_6) (ac (@KJ.eq_7) (@KJ.eq_8))))) (ac (ac (ac (@Ur.eq_1) (@Zh.eq_1)) (ac (@Zh.eq_2) (ac (@IB.eq_1) (@Rx.eq_1)))) (ac (ac (@Rx.eq_2) (@Afm.eq_1)) (ac (@Afm.eq_2) (ac (@AeL.eq_1) (@AeL.eq_2)))))) (ac (ac (ac (ac (@CX.eq_1) (@RX.eq_1)) (ac (@RX.eq_2) (ac (@RX.eq_3) (@YV.eq_1)))) (ac (ac (@YV.eq_2) (@AqW)) (ac (@AjN) (ac (@ApZ) (@AsL))))) (ac (ac (ac (@ArV) (@AlE)) (ac (@AmC) (ac (@Avz) (@AgN)))) (ac (ac (@Ado) (@AIU)) (ac (@Aej) (ac (@Afg) (@AlF)))))))))) (ac (ac (ac (ac (ac (ac (ac (ac (@AsJ) (@Apa)) (ac (@Aru) (@AkW))) (ac (ac (@AoA) (@AvL)) (ac (@AfZ) (ac (@AgB) (@AJC))))) (ac (ac (ac (@Aq6) (@Ad6)) (ac (@AuW) (ac (@Az6) (@Ar7)))) (ac (ac (@Azi) (@Aze)) (ac (@Axv) (ac (@AyZ) (@AkB)))))) (ac (ac (ac (ac (@Ar8) (@Alf)) (ac (@Aph) (@AnJ))) (ac (ac (@AbZ) (@AdX)) (ac (@AVZ) (ac (@Axz) (@AmN))))) (ac (ac (ac (@Anz) (@Arq)) (ac (@ApR) (ac (@Aqs) (@AwG)))) (ac (ac (@Aup) (@AwI)) (ac (@AvH) (ac (@AwL) (@Aas))))))) (ac (ac (ac (ac (ac (@AZf) (@Ard)) (ac (@AqG) (@AtM))) (ac (ac (@AiC) (@Abs)) (ac (@Avi) (ac (@Asr) (@Au4))))) (ac (ac (ac (@Asp) (@AmT)) (ac (@Ahx) (ac (@Apd) (@Af2)))) (ac (ac (@Ah5) (@Amd)) (ac (@Apo) (ac (@Akl) (@ApW)))))) (ac (ac (ac (ac (@Ars) (@Aq0)) (ac (@Anc) (ac (@AiL) (@AvX)))) (ac (ac (@AcX) (@AgY)) (ac (@AJE) (ac (@As4) (@Abv))))) (ac (ac (ac (@AeP) (@AmV)) (ac (@Aj7) (ac (@Aes) (@AwO)))) (ac (ac (@AuP) (@Avg)) (ac (@Awc) (ac (@Ah7) (@Apf)))))))) (ac (ac (ac (ac (ac (ac (@AsY) (@Arp)) (ac (@Acx) (@AfR))) (ac (ac (@AfH) (@AGn)) (ac (@Alk) (ac (@ArL) (@AxE))))) (ac (ac (ac (@AvP) (@AuT)) (ac (@AvC) (ac (@Avh) (@Aug)))) (ac (ac (@Aw4) (@Avr)) (ac (@Awe) (ac (@AnB) (@AiD)))))) (ac (ac (ac (ac (@Auc) (@AjO)) (ac (@Aux) (@AjX))) (ac (ac (@Aqg) (@AwT)) (ac (@AiW) (ac (@Awp) (@Aml))))) (ac (ac (ac (@AzE) (@Aus)) (ac (@AvD) (ac (@Alo) (@AvJ)))) (ac (ac (@AwM) (@Av3)) (ac (@Avy) (ac (@Aub) (@AvW))))))) (ac (ac (ac (ac (ac (@Aro) (@AsS)) (ac (@Aw7) (@Ar5))) (ac (ac (@Apw) (@AuO)) (ac (@Ahs) (ac (@AqK) (@Abg))))) (ac (ac (ac (@Apb) (@AiK)) (ac (@Apv) (ac (@AcL) (@Apy)))) (ac (ac (@As0) (@Ab8)) (ac (@ArN) (ac (@ABG) (@AfP)))))) (ac (ac (ac (ac (@Acu) (@AeA)) (ac (@AcV) (ac (@Ans) (@AiJ)))) (ac (ac (@AdP) (@ABB)) (ac (@Acl) (ac (@AeY) (@Aqy))))) (ac (ac (ac (@Aq3) (@AeE)) (ac (@Ajq) (ac (@AYR) (@ZT)))) (ac (ac (@X7) (@Af9)) (ac (@Ata) (ac (@Ath) (@Avo))))))))) (ac (ac (ac (ac (ac (ac (ac (@AaU) (@ZW.eq_1)) (ac (@ArE) (@AiF))) (ac (ac (@Arb) (@AsG)) (ac (@AqQ) (ac (@Ad2) (@AeW))))) (ac (ac (ac (@As2) (@Akj)) (ac (@AjF) (ac (@Awf) (@AeI)))) (ac (ac (@AeC) (@AKe)) (ac (@Asf) (ac (@AfB) (@ApX)))))) (ac (ac (ac (ac (@Ani) (@Aby)) (ac (@AXw) (@Aio))) (ac (ac (@Akq) (@Ain)) (ac (@Aim) (ac (@Am3) (@AwQ))))) (ac (ac (ac (@Asb) (@AwH)) (ac (@Anr) (ac (@Anw) (@Aqd)))) (ac (ac (@Arw) (@Amj)) (ac (@AlM) (ac (@AlB) (@Akb))))))) (ac (ac (ac (ac (ac (@Akk) (@AkM)) (ac (@Ah0) (@Ah9))) (ac (ac (@At7) (@AoC)) (ac (@Ahl) (ac (@AtQ) (@AxN))))) (ac (ac (ac (@AjY) (@Awk)) (ac (@Axx) (ac (@Axq) (@Avj)))) (ac (ac (@AvQ) (@Ayz)) (ac (@AyP) (ac (@Ams) (@Avl)))))) (ac (ac (ac (ac (@Av1) (@Aul)) (ac (@Awm) (ac (@AvG) (@Awv)))) (ac (ac (@Auu) (@Asq)) (ac (@Azn) (ac (ac (@Aqp) (ac (@Aw5) (@Ayu))) (ac (@ApN) (@Arm)))))) (ac (ac (ac (@Ax2) (@Axl)) (ac (@Ak9) (ac (@Aqn) (@Aw1)))) (ac (ac (@AkT) (@AnC)) (ac (@Aew) (ac (@Am9) (@Aix)))))))) (ac (ac (ac (ac (ac (ac (@ArF) (@As3)) (ac (@An1) (@AwV))) (ac (ac (@Aw2) (@Aww)) (ac (@As6) (ac (@AwW) (@AuY))))) (ac (ac (ac (@AnT) (@AjV)) (ac (@AwK) (ac (@Awq) (@Aqj)))) (ac (ac (ac (@Aye) (ac (ac (@Af6) (@Af1)) (ac (@Ayf) (ac (@Axj) (@AyU))))) (@AvM)) (ac (@AwS) (ac (@Aq8) (@Anh)))))) (ac (ac (ac (ac (@AlH) (@An4)) (ac (@Alz) (@AnK))) (ac (ac (@Aho) (@Ape)) (ac (@Avq) (ac (@Aju) (@Ad1))))) (ac (ac (ac (@Axo) (@Av9)) (ac (@AnA) (ac (@Afe) (@Ae9)))) (ac (ac (@AiN) (@Ai1)) (ac (@Axr) (ac (@AjP) (@Aiy))))))) (ac (ac (ac (ac (ac (@AyL) (@Aii)) (ac (@Auq) (@Ajx))) (ac (ac (@AmS) (@Ah3)) (ac (@AjK) (ac (@Aig) (@Aqr))))) (ac (ac (ac (@AjB) (@Ajb)) (ac (@Ayv) (ac (@AyC) (@Ayr)))) (ac (ac (@Aj3) (@Aj4)) (ac (@AxT) (ac (@Ay1) (@AmM)))))) (ac (ac (ac (ac (@Ayi) (@Axg)) (ac (@ArP) (ac (@AyA) (@Am5)))) (ac (ac (@Akr) (@AqT)) (ac (@AsO) (ac (@AkU) (@AtO))))) (ac (ac (ac (ac (@Ar0) (ac (@AqV) (@Aly))) (ac (ac (ac (@Al8) (@AiH)) (ac (@Ayq) (@AyM))) (ac (@AtJ) (@Aje)))) (ac (@Axu) (ac (ac (ac (@Axb) (@AmK)) (ac (ac (@Avd) (@Auy)) (@AkZ))) (ac (ac (ac (@Aut) (@Avb)) (ac (@AxF) (@AwU))) (ac (ac (ac (@Ayl) (@AyJ)) (ac (@Ajr) (@AkH))) (ac (ac (@Ayo) (@Axn)) (ac (@AyW) (@Axa)))))))) (ac (ac (@bV.{0}) (@List.getElem?_map.{0,0})) (ac (@bZ.{0}) (ac (@fA) (@cr.{0}))))))))))
def liE:=ac (ac (ac (ac (ac (ac (@List.append_eq.{0}) (@cE.{0,0})) (ac (@ah.{0}) (ac (@bD) (@Int.natCast_nonneg)))) (ac (ac (@cY.{0}) (@dr.{0})) (ac (@bB) (ac (@eH) (@bQ))))) (ac (ac (ac (@bE) (@bA)) (ac (@cp.{0,0}) (ac (@Nat.left_eq_add) (@fi)))) (ac (ac (@Nat.one_ne_zero) (ac (@Nat.succ_ne_self) (@fc))) (ac (@cG) (ac (@ae.{0}) (@ap.{0})))))) (ac (ac (ac (ac (@dC.{0}) (@List.replicate_zero.{0})) (ac (@bz.{0}) (ac (@bm.{0}) (@bo.{0})))) (ac (ac (@dE.{0}) (@cW.{0})) (ac (@cf.{0}) (ac (@cH.{0}) (@aN.{0,0}))))) (ac (ac (ac (@bS.{0,0}) (@aa.{0,0})) (ac (@Option.bind_none.{0,0}) (ac (@eR.{0}) (@bC.{0})))) (ac (ac (@List.elem_nil.{0}) (ac (@List.elem_cons.{0}) (@aB.{1}))) (ac (@az.{1}) (ac (@aq) (@dJ))))))) (ac (ac (ac (ac (ac (@aO.{0}) (@dD.{0})) (ac (@co.{0}) (ac (@bW) (@bI)))) (ac (ac (@cm.{0}) (@fd.{0})) (ac (@dY.{0}) (ac (@fD) (@cN))))) (ac (ac (ac (@di) (@be)) (ac (@de.{0}) (ac (@Option.isNone_some.{0}) (@dL.{0})))) (ac (ac (@ci.{0}) (ac (@ft) (@ew))) (ac (@and_self) (ac (@dR) (@cF)))))) (ac (ac (ac (ac (@av) (@dl.{0})) (ac (@dy.{0}) (ac (@cj.{0}) (@ite_self.{1})))) (ac (ac (@aF.{0,0}) (ac (@cv.{0,0}) (@List.range_succ))) (ac (@List.range_zero) (ac (@aQ.{0}) (@dS.{0}))))) (ac (ac (ac (@dh) (@cS)) (ac (@ag.{0}) (ac (@bH) (@true_or)))) (ac (ac (@or_true) (ac (@false_or) (@eF))) (ac (@cO) (ac (@not_false_eq_true) (@ek.{1})))))))
end Go.VM
namespace Go.VM
abbrev DT:=List (Nat×List Tmp×Plan)
def ACo:DT->Nat->List Tmp|[],_=>[]|(i,m,_)::D,j=>if i=j then m else ACo D j
def AtA:DT->Nat->Plan|[],_=>.done|(i,_,p)::D,j=>if i=j then p else AtA D j
inductive DD (D:DT):Prop|mk
def AYB (l:List Tmp) (F:List Tmp->Prop):Prop:=F l
def TV:Plan->Bool|.stop=>true|_=>false
def AfM:DT->Nat->Bool|[],_=>false|(i,_,p)::D,j=>if i=j then TV p else AfM D j
def AME (b:Bool) (X Y:Prop):Prop:=if b=true then X else Y
def wpd (E:Env) (D:DT):Code->APost->List AVal->St->Prop|.skip,K=>λaf st=>K .normal af st|.label _,K=>λaf st=>K .normal af st|.ret,K=>λaf st=>K .ret af st|.exit id,K=>λaf st=>K (.exit id) af st|.seq (.region id os false) y,K=>λaf st=>AME (AfM D id) (AWp E (.seq (.region id os false) y) K af st) (AYB (ACo D id) λmv=>Mc E mv os os.toList (nK (Jt (wpd E D y K) K)) af st)|.cond c x y,K=>λaf st=>Uf (rd E af 0 c) (wpd E D x K) (wpd E D y K) af st|.block id c,K=>wpd E D c (AAe id K)|.scope c,K=>wpd E D c K|.region id os false,K=>λaf st=>AYB (ACo D id) λmv=>Mc E mv os os.toList (nK K) af st|c,K=>AWp E c K
section
variable{E:Env}{D:DT}{K:APost}{af:List AVal}{st:St}{x y:Code}{F:List AVal->St->Prop}
def Alw:wpd E D .skip K af st=K .normal af st:=by rw[wpd]
def AeH{l:Nat}:wpd E D (.label l) K af st=K .normal af st:=by rw[wpd]
def AtE:wpd E D .ret K af st=K .ret af st:=by rw[wpd]
def Amc{id:Nat}:wpd E D (.exit id) K af st=K (.exit id) af st:=by rw[wpd]
def AlY{id:Nat}{os:List Oper}:wpd E D (.seq (.region id (List.toArray os) false) y) K af st=AME (AfM D id) (AWp E (.seq (.region id (List.toArray os) false) y) K af st) (AYB (ACo D id) λmv=>Mc E mv ⟨os⟩ os (nK (Jt (wpd E D y K) K)) af st):=by rw[wpd]
def AwY{X Y:Prop}:AME true X Y=X:=by simp[AME]
def Au8{X Y:Prop}:AME false X Y=Y:=by simp[AME]
theorem AoB{j:Nat}:AfM [] j=false:=rfl
theorem Aa8{i j:Nat}{m:List Tmp}{p:Plan}:AfM ((i,m,p)::D) j=if i=j then TV p else AfM D j:=rfl
theorem Ai5:TV .stop=true:=rfl
theorem Aln:TV .done=false:=rfl
theorem Am4{i:Nat}{p:Plan}:TV (.take i p)=false:=rfl
theorem ArH{i:Nat}{c:List Nat}{p q:Plan}:TV (.alt i c p q)=false:=rfl
theorem Au7{i k:Nat}{p:Plan}:TV (.tk i (k+1) p)=false:=rfl
theorem AuM{i:Nat}{c:List (Nat×Nat)}{p:Plan}:TV (.al i c p)=false:=rfl
theorem Avc{i:Nat}{c:List (Nat×Nat)}{p q:Plan}:TV (.ar i c p q)=false:=rfl
@[congr] theorem AzA{b b':Bool}{X Y:Prop} (h:b=b'):AME b X Y=AME b' X Y:=by grind
def Aj5{c:Operand}:wpd E D (.cond c x y) K af st=Uf (rd E af 0 c) (wpd E D x K) (wpd E D y K) af st:=by rw[wpd]
def Abq{id:Nat}:wpd E D (.block id x) K af st=wpd E D x (AAe id K) af st:=by rw[wpd]
def Acz:wpd E D (.scope x) K af st=wpd E D x K af st:=by rw[wpd]
def AYX{id:Nat}{os:List Oper}:wpd E D (.region id (List.toArray os) false) K af st=AYB (ACo D id) λmv=>Mc E mv ⟨os⟩ os (nK K) af st:=by rw[wpd]
theorem AnP{l:List Tmp}{F:List Tmp->Prop}:AYB l F=F l:=rfl
def Ajv{id:Nat}{os:Array Oper}:wpd E D (.region id os true) K af st=AWp E (.region id os true) K af st:=by rw[wpd]<;>simp
def AnE:wpd E D (.loop x) K af st=AWp E (.loop x) K af st:=by rw[wpd]<;>simp
def Au3{a b:Code}:wpd E D (.seq (.seq a b) y) K af st=AWp E (.seq (.seq a b) y) K af st:=by rw[wpd]<;>simp
def Avx{c:Operand}{a b:Code}:wpd E D (.seq (.cond c a b) y) K af st=AWp E (.seq (.cond c a b) y) K af st:=by rw[wpd]<;>simp
def Auk{id:Nat}{a:Code}:wpd E D (.seq (.block id a) y) K af st=AWp E (.seq (.block id a) y) K af st:=by rw[wpd]<;>simp
def Auw{l:Nat}:wpd E D (.seq (.label l) y) K af st=AWp E (.seq (.label l) y) K af st:=by rw[wpd]<;>simp
def Awd{a:Code}:wpd E D (.seq (.loop a) y) K af st=AWp E (.seq (.loop a) y) K af st:=by rw[wpd]<;>simp
def Awr{id:Nat}{os:Array Oper}:wpd E D (.seq (.region id os true) y) K af st=AWp E (.seq (.region id os true) y) K af st:=by rw[wpd]<;>simp
def Au2{a:Code}:wpd E D (.seq (.scope a) y) K af st=AWp E (.seq (.scope a) y) K af st:=by rw[wpd]<;>simp
def AvE:wpd E D (.seq .skip y) K af st=AWp E (.seq .skip y) K af st:=by rw[wpd]<;>simp
theorem ASm{j:Nat}:ACo [] j=[]:=rfl
theorem AFS{i j:Nat}{m:List Tmp}{p:Plan}:ACo ((i,m,p)::D) j=if i=j then m else ACo D j:=rfl
theorem AfO{i j:Nat}{m:List Tmp}{p:Plan}:AtA ((i,m,p)::D) j=if i=j then p else AtA D j:=rfl
def E5: ∀ {c:Code}{K:APost}{af:List AVal}{st:St},wpd E D c K af st->AWp E c K af st:=by
 intro c;induction c with
 |skip=>intro K af st h;rw[wpd]at h;exact AS6 h
 |ret=>intro K af st h;rw[wpd]at h;exact AZ6 h
 |exit id=>intro K af st h;rw[wpd]at h;exact AUs h
 | seq x y ihx ihy=>
  intro K af st h;cases x with
  | region id os d=>
   cases d with
   |true=>(rw[wpd]at h;exact h)<;>(intros;simp_all)
   |false=>
    rw[wpd]at h;unfold AME at h;split at h;·exact h
    refine Va ((Wl (ACo D id) h).mono λe af' st' _ q=>?_);cases e with|normal=>exact ihy q|_=>exact q
  |_=>(rw[wpd]at h;exact h)<;>(intros;simp_all)
 |cond c x y ihx ihy=>
  intro K af st h;rw[wpd]at h;unfold Uf at h;split at h;·rename_i b hb;refine AQ4 b hb ?_;cases b with|true=>simp_all|false=>simp_all
  grind
 |block id c ih=>intro K af st h;rw[wpd]at h;exact AFj ((ih h).mono λe af' st' _ q=>by cases e<;>exact q)
 |region id os d=>intro K af st h;cases d with|true=>(rw[wpd]at h;exact h)<;>(intros;simp_all)|false=>rw[wpd]at h;exact Wl (ACo D id) h
 |loop c ih=>intro K af st h;(rw[wpd]at h;exact h)<;>(intros;simp_all)
 |rangeFunc f ps x y ihx ihy=>intro K af st h;(rw[wpd]at h;exact h)<;>(intros;simp_all)
 |scope c ih=>intro K af st h;rw[wpd]at h;grind[AEy]
 |label l=>intro K af st h;rw[wpd]at h;exact Acs h
 |goto l=>intro K af st h;(rw[wpd]at h;exact h)<;>(intros;simp_all)
 |refuse w=>intro K af st h;(rw[wpd]at h;exact h)<;>(intros;simp_all)
@[congr] theorem Az1{c:Code}{L:APost}{af':List AVal}{st':St} (h0:af=af') (h1:st=st'):wpd E D c L af st=wpd E D c L af' st':=by grind
def rgs:List (Nat×Nat)->List Tmp|[]=>[]|(a,n)::l=>List.range' a n++rgs l
def AXL:Nat->List AVal->List AVal|n+1,_::l=>.any::AXL n l|_,l=>l
def maskN:Nat->Nat->List AVal->List AVal|0,n,l=>AXL n l|a+1,n,x::l=>x::maskN a n l|_+1,_,[]=>[]
def Ck:List (Nat×Nat)->List AVal->List AVal|[],af=>af|(a,n)::l,af=>Ck l (maskN a n af)
def AFE: ∀(js ks:List Tmp) (af:List AVal),Ak (js++ks) af=Ak ks (Ak js af)|[],_,_=>rfl|j::js,ks,af=>by rw[bz,Ak,Ak,AFE js]
def Wy: ∀(js:List Tmp) (x:AVal) (l:List AVal),Ak (js.map (· +1)) (x::l)=x::Ak js l|[],_,_=>rfl|j::js,x,l=>by rw[aF,Ak,cH,Wy js,Ak]
def ZI: ∀js:List Tmp,Ak js []=[]|[]=>rfl|j::js=>by rw[Ak,List.set_nil,ZI js]
def ACE: ∀(a n:Nat),List.range' (a+1) n=(List.range' a n).map (· +1)|a,0=>rfl|a,n+1=>by rw[c8,c8,aF,ACE (a+1) n]
def AB3: ∀(a n:Nat) (l:List AVal),maskN a n l=Ak (List.range' a n) l|0,0,l=>by rw[maskN];cases l<;>rfl|0,n+1,[]=>by rw[ZI];rfl|0,n+1,x::l=>by rw[maskN,AXL,c8,Ak,cf,show List.range' (0+1) n=(List.range' 0 n).map (· +1)from ACE _ _,Wy,<-AB3 0 n l,maskN]|a+1,n,[]=>by rw[ZI];rfl|a+1,n,x::l=>by rw[maskN,show List.range' (a+1) n=(List.range' a n).map (· +1)from ACE _ _,Wy,AB3 a n l]
def Dk: ∀(js:List (Nat×Nat)) (af:List AVal),Ck js af=Ak (rgs js) af|[],_=>rfl|(a,n)::js,af=>by rw[Ck,AB3,Dk js,rgs,AFE]
theorem Avs:Ck [] af=af:=rfl
theorem Apn{a n:Nat}{l:List (Nat×Nat)}:Ck ((a,n)::l) af=Ck l (maskN a n af):=rfl
theorem AzJ{a n:Nat}{v:AVal}{l:List AVal}:maskN (a+1) n (v::l)=v::maskN a n l:=rfl
def AzM{n:Nat}{l:List AVal}:maskN 0 n l=AXL n l:=by cases l<;>rfl
theorem AzN{n:Nat}{v:AVal}{l:List AVal}:AXL (n+1) (v::l)=.any::AXL n l:=rfl
def AzO{l:List AVal}:AXL 0 l=l:=by cases l<;>rfl
def AAi:List PC->List AVal->List AVal|.k::l,x::xs=>x::AAi l xs|.w::l,x::xs=>x.strip::AAi l xs|.v y::l,_::xs=>y::AAi l xs|_,xs=>xs
def reB:List BX->MS->MS|.k::l,p::m=>p::reB l m|.d::l,_::m=>reB l m|.s c::l,p::m=>(p.1,c)::reB l m|.t c::l,p::m=>(p.1,c p.1)::reB l m|.p ps::l,p::m=>(p.1,AAi ps p.2)::reB l m|_,m=>m
def Azs{m:MS}:reB [] m=m:=by cases m<;>rfl
theorem Az4{l:List BX}{p:Nat×List AVal}{m:MS}:reB (.k::l) (p::m)=p::reB l m:=rfl
theorem AzG{l:List BX}{p:Nat×List AVal}{m:MS}:reB (.d::l) (p::m)=reB l m:=rfl
theorem Azo{l:List BX}{c x:List AVal}{i:Nat}{m:MS}:reB (.s c::l) ((i,x)::m)=(i,c)::reB l m:=rfl
theorem AzV{l:List BX}{c:Nat->List AVal}{x:List AVal}{i:Nat}{m:MS}:reB (.t c::l) ((i,x)::m)=(i,c i)::reB l m:=rfl
theorem Azh{l:List BX}{ps:List PC}{x:List AVal}{i:Nat}{m:MS}:reB (.p ps::l) ((i,x)::m)=(i,AAi ps x)::reB l m:=rfl
def Aza{xs:List AVal}:AAi [] xs=xs:=by cases xs<;>rfl
theorem Azl{l:List PC}{x:AVal}{xs:List AVal}:AAi (.k::l) (x::xs)=x::AAi l xs:=rfl
theorem A0B{l:List PC}{x:AVal}{xs:List AVal}:AAi (.w::l) (x::xs)=x.strip::AAi l xs:=rfl
theorem AzS{l:List PC}{x y:AVal}{xs:List AVal}:AAi (.v y::l) (x::xs)=y::AAi l xs:=rfl
def Xn:Code->Nat×Nat|.seq x y=>((Xn x).1,(Xn x).2+(Xn y).2+1)|.cond _ x y=>((Xn x).1,(Xn x).2+(Xn y).2+1)|.block id x=>(id,(Xn x).2+1)|.loop x=>((Xn x).1,(Xn x).2+1)|.scope x=>((Xn x).1,(Xn x).2+1)|.region id _ _=>(id,1)|_=>(0,1)
end
inductive Wk:AVal->AVal->Prop|same (x:AVal):Wk x x|strip (x:AVal):Wk x x.strip
inductive WkL:List AVal->List AVal->Prop|nil:WkL [] []|cons{x y:AVal}{xs ys:List AVal} (h:Wk x y) (t:WkL xs ys):WkL (x::xs) (y::ys)
inductive SubW:MS->MS->Prop|refl (m:MS):SubW m m|keep{m0 m1:MS}{i:Nat}{cs cs':List AVal} (h:WkL cs cs') (t:SubW m0 m1):SubW ((i,cs')::m0) ((i,cs)::m1)|drop{m0 m1:MS}{p:Nat×List AVal} (t:SubW m0 m1):SubW m0 (p::m1)
def WkL.refl: ∀xs:List AVal,WkL xs xs|[]=>.nil|x::xs=>.cons (.same x) (WkL.refl xs)
theorem WkL.stripB{xs ys:List AVal} (h:WkL xs ys): ∃bs,VM.stripB bs xs=ys:=by induction h with|nil=>exact⟨[],rfl⟩|cons h t ih=>obtain⟨bs,rfl⟩:=ih;cases h with|same=>exact⟨false::bs,by rw[VM.stripB]⟩|strip=>exact⟨true::bs,by rw[VM.stripB]⟩
def WkL.set{v u:AVal} (h:Wk u v): ∀ {xs ys:List AVal} (c:Nat),WkL xs ys->WkL (xs.set c u) (ys.set c v)|_,_,_,.nil=>by simpa using WkL.nil|_,_,0,.cons _ t=>.cons h t|_,_,c+1,.cons k t=>.cons k (WkL.set h c t)
theorem WkL.setVals: ∀ {cs:List Tmp}{us vs xs ys:List AVal},WkL xs ys->WkL us vs->WkL (VM.setVals xs cs us) (VM.setVals ys cs vs)|[],us,vs,xs,ys,h,k=>by cases k<;>(rw[VM.setVals,VM.setVals];exact h)<;>simp|c::cs,_,_,xs,ys,h,.nil=>by grind[VM.setVals]|c::cs,_,_,xs,ys,h,.cons h1 t=>by rw[VM.setVals,VM.setVals];exact WkL.setVals (WkL.set h1 c h) t
section
variable{E:Env}{F:Nat->Nat}{O:Ghost}{st:St}{w:World}{af af2:List AVal}{a:Act}{Q:APost}{c:Code}{n:Nat}
def Sim.wkF (hs:Sim E F O st w af a.tmps.toList) (h:WkL af af2):Sim E F O st w af2 a.tmps.toList:=by obtain⟨bs,rfl⟩:=h.stripB;exact {hs with rep:=Qo bs _ _ hs.rep,own:=Qp bs _ _ hs.own,tok:=λb=>by have:=Qu b bs af a.tmps.toList;have:=hs.tok b;omega}
def Aah: ∀ {pre m:MS}{i:Nat}{cs:List AVal},((pre++(i,cs)::m).map (·.1)).Nodup->Ag (pre++(i,cs)::m) i=some cs/\∀x,A7 (pre++(i,cs)::m) i x=pre++(i,x)::m
 |[],m,i,cs,_=>⟨AHD,λx=>AZr⟩
 |(j,d)::pre,m,i,cs,h=>by
  rw[bz,aF,bY]at h;have hne:i≠j:=by rintro rfl;grind
  have:=Aah (pre:=pre) h.2;rw[bz,YC hne];exact⟨this.1,λx=>by rw[AZ3 hne,this.2 x,bz]⟩
def Sim.wkM{m0 m1:MS} (h:SubW m0 m1): ∀ {pre:MS},Sim E F O ⟨pre++m1,n⟩ w af a.tmps.toList->Sim E F O ⟨pre++m0,n⟩ w af a.tmps.toList:=by
 induction h with
 |refl m=>simp
 | @drop m0 m1 p t ih=>intro pre hs;exact ih (hs.fewer (m:=pre++m1) (List.Sublist.append (bU _) (cC _ (bU _))))
 | @keep m0 m1 i cs cs' h t ih=>
  intro pre hs;obtain⟨bs,rfl⟩:=h.stripB;obtain⟨h1,h2⟩:=Aah hs.keys;have:=hs.stripCells bs h1;rw[h2]at this;have e: ∀m:MS,pre++(i,VM.stripB bs cs)::m=(pre++[(i,VM.stripB bs cs)])++m:=λm=>by simp
  grind
def AWp.wk{m m2:MS} (h:AWp E c Q af2 ⟨m2,n⟩) (h1:WkL af af2) (h2:SubW m2 m):AWp E c Q af ⟨m,n⟩:=⟨λF O w a hd hs=>h.go F O w a hd ((Sim.wkM (pre:=[]) h2 hs).wkF h1)⟩
def WQ (js cs:List Tmp) (I:Nat->List AVal->St->Prop) (n₀:Nat){vs0:List AVal}{m m0:MS} (hv:WkL (Cg (Ak js af) cs) vs0) (hm:SubW m0 m) (h₀:I n₀ vs0 ⟨m0,n⟩) (round: ∀k vs st',I k vs st'->∀J:List AVal->St->Prop,(∀k' af' st' m vs',k'<k->SubW m st'.m->Ak cs (Ak js af')=Ak cs (Ak js af)->WkL (Cg (Ak js af') cs) vs'->I k' vs' {st' with m:=m}->J af' st')->AWp E c (kPost J Q) (setVals (Ak js af) cs vs) st'):AWp E (.loop c) Q af ⟨m,n⟩:=by
 refine UV js ?_;constructor;intro F O w a hd hs;have hs0:Sim E F O ⟨m0,n⟩ w (setVals (Ak js af) cs vs0) a.tmps.toList:=by have h1:=Sim.wkM (pre:=[]) hm hs;rw[Lt cs _ _ (rfl:Ak cs (Ak js af)=Ak cs (Ak js af))]at h1;exact h1.wkF (WkL.setVals (WkL.refl _) hv)
 refine wp_loop_ghost (λk a' w'=>a'.defers=[]/\∃O' vs st',Ext F O w O' w'/\n<=st'.next/\Sim E F O' st' w' (setVals (Ak js af) cs vs) a'.tmps.toList/\I k vs st') n₀ ⟨hd,O,vs0,⟨m0,n⟩,Ext.refl _ _ _,av _,hs0,h₀⟩ ?_;intro k a₁ w₁ ⟨hd1,O₁,vs₁,st₁,h2,h3,h4,h5⟩;refine fg ((round k vs₁ st₁ h5 (λaf' st'=>∃k' m vs',k'<k/\SubW m st'.m/\Ak cs (Ak js af')=Ak cs (Ak js af)/\WkL (Cg (Ak js af') cs) vs'/\I k' vs' {st' with m:=m}) (λk' af' st' m vs' k1 k2 k3 k4 k5=>⟨k',m,vs',k1,k2,k3,k4,k5⟩)).go F O₁ w₁ a₁ hd1 h4) ?_;intro e a' w' hq;have hq:=Wx h2 h3 hq;cases e with|normal=>obtain⟨_,k1,O',af',st',k2,k3,k4,kk⟩:=hq;obtain⟨k',m,vs',k5,k6,k7,k9,k8⟩:=kk.get;refine⟨k',k5,k1,O',vs',{st' with m:=m},k2,k3,?_,k8⟩;have h1:=Sim.wkM (pre:=[]) k6 (k4.mask js);rw[Lt cs _ _ k7]at h1;exact h1.wkF (WkL.setVals (WkL.refl _) k9)|_=>obtain⟨k0,k1,O',af',st',k2,k3,k4,kk⟩:=hq;exact⟨k0,k1,O',af',st',k2,k3,k4,kk.out fI⟩
end
@[congr] theorem Ay5{l l':List Tmp}{F:List Tmp->Prop} (h:l=l'):AYB l F=AYB l' F:=by grind
def stp (b:Bool) (v:AVal):AVal:=if b=true then v.strip else v
theorem AaH{v:AVal}:stp true v=v.strip:=rfl
theorem AZ1{v:AVal}:stp false v=v:=rfl
structure RH (E:Env) (rs:List ResultVar) (R:APost) (b:Bool) (m':MS) (n:Nat) (r':AVal):Prop where go: ∀af st xs m0 m1 n',RX E rs af st=some (xs,⟨m1,n'⟩)->m0.Sublist m1->m0=m'->n<=n'->stp b (Tf xs)=r'->R .ret af st/\R .normal af st
structure JOK{α β:Type} (k:α->Option β) (r:β) (js:List (Nat×Nat)) (cs:List Tmp) (V:α->List AVal) (Ms:α->List BX) (af0:List AVal) (m:MS) (n:Nat) (J:List AVal->St->Prop):Prop where go: ∀j af' m0 m1 n',k j=some r->SubW m0 m1->m0=reB (Ms j) m->Ak cs (Ck js af')=Ak cs (Ck js af0)->WkL (Cg (Ck js af') cs) (V j)->n<=n'->J af' ⟨m1,n'⟩
def AQI:AVal->Nat|.ptr i _=>i|.sh i=>i|_=>0
theorem ArI{i:Nat}:AQI (.sh i)=i:=rfl
theorem Amz{i o:Nat}:AQI (.ptr i o)=i:=rfl
structure JNK{α β:Type} (k:α->Option β) (r:β) (js:List (Nat×Nat)) (cs:List Tmp) (p:Tmp) (V:α->Nat->List AVal) (Ms:α->Nat->List BX) (C:α->Nat->List AVal) (af0:List AVal) (m:MS) (n:Nat) (J:List AVal->St->Prop):Prop where go: ∀j g af' m0 m1 n',k j=some r->SubW m0 m1->m0=(g,C j g)::reB (Ms j g) m->Ak cs (Ck js af')=Ak cs (Ck js af0)->WkL (Cg (Ck js af') cs) (V j g)->n<=g/\g<n'->J af' ⟨m1,n'⟩
structure LOK{σ β:Type} (G:Nat->σ->Option β) (r:β) (k:Nat) (js:List (Nat×Nat)) (cs:List Tmp) (V:σ->List AVal) (Ms:σ->List BX) (af0:List AVal) (m:MS) (n:Nat) (J:List AVal->St->Prop):Prop where go: ∀s af' m0 m1 n',G k s=some r->SubW m0 m1->m0=reB (Ms s) m->Ak cs (Ck js af')=Ak cs (Ck js af0)->WkL (Cg (Ck js af') cs) (V s)->n<=n'->J af' ⟨m1,n'⟩
structure ROK{α σ β:Type} (G:List α->Int->σ->Option β) (r:β) (xs:List α) (i:Int) (js:List (Nat×Nat)) (cs:List Tmp) (V:Int->σ->List AVal) (Ms:Int->σ->List BX) (af0:List AVal) (m:MS) (n:Nat) (J:List AVal->St->Prop):Prop where go: ∀s af' m0 m1 n',G xs i s=some r->SubW m0 m1->m0=reB (Ms i s) m->Ak cs (Ck js af')=Ak cs (Ck js af0)->WkL (Cg (Ck js af') cs) (V i s)->n<=n'->J af' ⟨m1,n'⟩
structure COK{σ β:Type} (G:Nat->Int->σ->Option β) (r:β) (k:Nat) (i:Int) (js:List (Nat×Nat)) (cs:List Tmp) (V:Int->σ->List AVal) (Ms:Int->σ->List BX) (af0:List AVal) (m:MS) (n:Nat) (J:List AVal->St->Prop):Prop where go: ∀s af' m0 m1 n',G k i s=some r->SubW m0 m1->m0=reB (Ms i s) m->Ak cs (Ck js af')=Ak cs (Ck js af0)->WkL (Cg (Ck js af') cs) (V i s)->n<=n'->J af' ⟨m1,n'⟩
class CF (E:Env){ρ:Type} (X:Option ρ) (f:outParam FuncId) (args:outParam (List AVal)) (er:outParam (ρ->AVal)):Prop where go: ∀ {r:ρ}{n:Nat}{m:MS}{Q:PQ},X=some r->(∀n',n<=n'->Gl (Q (er r) ⟨m,n'⟩))->ACall E f args ⟨m,n⟩ Q
theorem CF.freeze{E:Env}{ρ:Type}{X:Option ρ}{f:FuncId}{args:List AVal}{w:Nat}{g:ρ->List AVal} (h:CF E (AXr X) f args λr=>.vec w (g r)):CF E X f args λr=>.slice w (g r) false:=⟨λhx hQ=>ACall.giveS (h.go hx λn' hn=>⟨⟨w,_,rfl,λk hk=>(hQ k (bJ hn hk)).go⟩⟩)⟩
class CB (E:Env){ρ:Type} (X:Option ρ) (f:outParam FuncId) (args:outParam (Nat->List AVal)) (pre:outParam (Nat->List AVal)) (er:outParam (ρ->AVal)) (post:outParam (Nat->ρ->List AVal)):Prop where go: ∀ {r:ρ}{n i:Nat}{m:MS}{Q:PQ},X=some r->Ag m i=some (pre i)->(∀n',n<=n'->Gl (Q (er r) ⟨A7 m i (post i r),n'⟩))->ACall E f (args i) ⟨m,n⟩ Q
class CT (E:Env){ρ:Type} (X:Option ρ) (f:outParam FuncId) (pre:outParam (Nat->List AVal)) (er:outParam (ρ->AVal)) (post:outParam (Nat->ρ->List AVal)):Prop where go: ∀ {r:ρ}{n i j:Nat}{m:MS}{Q:PQ},X=some r->Ag m j=some [.ptr i 0]->Ag m i=some (pre i)->i≠j->(∀n',n<=n'->Gl (Q (er r) ⟨A7 m i (post i r),n'⟩))->ACall E f [.ptr j 0] ⟨m,n⟩ Q
class XC (E:Env) (f:FuncId) (args:List AVal) (r:outParam AVal):Prop where go: ∀ {st:St}{Q:PQ},Gl (Q r st)->Zv E f args st Q
class CN (E:Env){ρ:Type} (X:Option ρ) (f:outParam FuncId) (args:outParam (List AVal)) (rv:outParam (Nat->AVal)) (cells:outParam (ρ->Nat->List AVal)):Prop where go: ∀ {r:ρ}{n:Nat}{m:MS}{Q:PQ},X=some r->(∀i n',n<=i->i<n'->Gl (Q (rv i) ⟨(i,cells r i)::m,n'⟩))->ACall E f args ⟨m,n⟩ Q
class LF{β:Type} (X:Option β){σ:outParam Type} (G B:outParam (Nat->σ->Option β)) (k:outParam Nat) (s:outParam σ) (js:outParam (List (Nat×Nat))) (cs:outParam (List Tmp)) (V:outParam (σ->List AVal)) (Ms:outParam (σ->List BX)):Prop where
  eq:X=G k s
  z: ∀s,G 0 s=none
  u: ∀k s,G (k+1) s=B k s
class LR{β:Type} (X:Option β){α σ:outParam Type} (G:outParam (List α->Int->σ->Option β)) (Bn:outParam (Int->σ->Option β)) (Bc:outParam (α->List α->Int->σ->Option β)) (L:outParam (List α)) (i:outParam Int) (s:outParam σ) (js:outParam (List (Nat×Nat))) (cs:outParam (List Tmp)) (V:outParam (Int->σ->List AVal)) (Ms:outParam (Int->σ->List BX)):Prop where
  eq:X=G L i s
  un: ∀i s,G [] i s=Bn i s
  uc: ∀x xs i s,G (x::xs) i s=Bc x xs i s
class LQ{β:Type} (X:Option β){α σ:outParam Type} (G:outParam (List α->Int->σ->Option β)) (Bn:outParam (Int->σ->Option β)) (Bc:outParam (α->List α->Int->σ->Option β)) (L:outParam (List α)) (s:outParam σ) (js:outParam (List (Nat×Nat))) (cs:outParam (List Tmp)) (V:outParam (Int->σ->List AVal)) (Ms:outParam (Int->σ->List BX)):Prop where
  eq: ∀i,X=G L i s
  un: ∀i s,G [] i s=Bn i s
  uc: ∀x xs i s,G (x::xs) i s=Bc x xs i s
class LC{β:Type} (X:Option β){σ:outParam Type} (G:outParam (Nat->Int->σ->Option β)) (Bn:outParam (Int->σ->Option β)) (Bc:outParam (Nat->Int->σ->Option β)) (k:outParam Nat) (i:outParam Int) (s:outParam σ) (js:outParam (List (Nat×Nat))) (cs:outParam (List Tmp)) (V:outParam (Int->σ->List AVal)) (Ms:outParam (Int->σ->List BX)):Prop where
  eq:X=G k i s
  un: ∀i s,G 0 i s=Bn i s
  uc: ∀k i s,G (k+1) i s=Bc k i s
class LU{β:Type} (X:Option β){σ:outParam Type} (G:outParam (Nat->Int->σ->Option β)) (Bn:outParam (Int->σ->Option β)) (Bc:outParam (Nat->Int->σ->Option β)) (k:outParam Nat) (s:outParam σ) (js:outParam (List (Nat×Nat))) (cs:outParam (List Tmp)) (V:outParam (Int->σ->List AVal)) (Ms:outParam (Int->σ->List BX)):Prop where
  eq: ∀i,X=G k i s
  un: ∀i s,G 0 i s=Bn i s
  uc: ∀k i s,G (k+1) i s=Bc k i s
section loops
variable{β α σ:Type}
theorem lq (G:List α->Int->σ->Option β) (L:List α) (s:σ) (js:List (Nat×Nat)) (cs:List Tmp){Bn:Int->σ->Option β}{Bc:α->List α->Int->σ->Option β} (e: ∀i s,G [] i s=Bn i s) (f: ∀x xs i s,G (x::xs) i s=Bc x xs i s) (V:Int->σ->List AVal:=λi _=>[.int .i64 i]) (Ms:Int->σ->List BX:=λ_ _=>[]) (X:Option β:=G L 0 s) (h: ∀i,X=G L i s:=by exact λ_=>rfl):LQ X G Bn Bc L s js cs V Ms:=⟨h,e,f⟩
theorem lr (G:List α->Int->σ->Option β) (L:List α) (i:Int) (s:σ) (js:List (Nat×Nat)) (cs:List Tmp){Bn:Int->σ->Option β}{Bc:α->List α->Int->σ->Option β} (e: ∀i s,G [] i s=Bn i s) (f: ∀x xs i s,G (x::xs) i s=Bc x xs i s) (V:Int->σ->List AVal:=λi _=>[.int .i64 i]) (Ms:Int->σ->List BX:=λ_ _=>[]) (X:Option β:=G L i s) (h:X=G L i s:=by exact rfl):LR X G Bn Bc L i s js cs V Ms:=⟨h,e,f⟩
theorem lc (G:Nat->Int->σ->Option β) (k:Nat) (i:Int) (s:σ) (js:List (Nat×Nat)) (cs:List Tmp){Bn:Int->σ->Option β}{Bc:Nat->Int->σ->Option β} (e: ∀i s,G 0 i s=Bn i s) (f: ∀k i s,G (k+1) i s=Bc k i s) (V:Int->σ->List AVal:=λi _=>[.int .i64 i]) (Ms:Int->σ->List BX:=λ_ _=>[]) (X:Option β:=G k i s) (h:X=G k i s:=by exact rfl):LC X G Bn Bc k i s js cs V Ms:=⟨h,e,f⟩
theorem lu (G:Nat->Int->σ->Option β) (k:Nat) (s:σ) (js:List (Nat×Nat)) (cs:List Tmp){Bn:Int->σ->Option β}{Bc:Nat->Int->σ->Option β} (e: ∀i s,G 0 i s=Bn i s) (f: ∀k i s,G (k+1) i s=Bc k i s) (V:Int->σ->List AVal:=λi _=>[.int .i64 i]) (Ms:Int->σ->List BX:=λ_ _=>[]) (X:Option β:=G k 0 s) (h: ∀i,X=G k i s:=by exact λ_=>rfl):LU X G Bn Bc k s js cs V Ms:=⟨h,e,f⟩
theorem lf (G:Nat->σ->Option β) (k:Nat) (s:σ) (js:List (Nat×Nat)) (cs:List Tmp) (V:σ->List AVal){B:Nat->σ->Option β} (e: ∀s,G 0 s=none) (f: ∀k s,G (k+1) s=B k s) (Ms:σ->List BX:=λ_=>[]) (X:Option β:=G k s) (h:X=G k s:=by exact rfl):LF X G B k s js cs V Ms:=⟨h,e,f⟩
end loops
class MX (E:Env):Prop where ok:E.P.follows .mixedOrders=true
section rules
variable{E:Env}{D:DT}{β ρ:Type}{r:β}{T:Prop}{n n':Nat}{m m0 m1:MS}{af af0:List AVal}{st:St}{Q K:APost}{x y c:Code}{js:List (Nat×Nat)}{cs:List Tmp}{J:List AVal->St->Prop}
theorem mkF{X B:Option ρ}{f:FuncId}{fn:Func}{nt:Nat}{rs:List ResultVar}{args:List AVal}{er:ρ->AVal} (hx:X=B) (hf:E.P.funcs[f]?=some fn) (hb:fn.body=some c) (hn:fn.ntmps=nt) (hr:fn.results=rs.toArray) (D:DT) (b:Bool) (w: ∀(r:ρ) (n:Nat) (m:MS) (R:APost),RH E rs R b m n (er r)->True/\B=some r->DD D->Gl (wpd E D c R (args++List.replicate (nt-args.length) .any) ⟨m,n⟩)):CF E X f args er:=by
 constructor;intro r n m Q h hQ;subst hn;have e:fn.results.toList=rs:=by rw[hr]
 cases b with|false=>refine NG hf hb (E5 (w r n m (KH E fn Q) ⟨?_⟩ ⟨trivial,hx▸h⟩ ⟨⟩).go);intro af st xs m0 m1 n' h1 h2 h0 h3 h4;subst h0;rw[AZ1]at h4;exact⟨KW (by rw[e];omega) h2 (h4▸(hQ n' h3).go),KY (by rw[e];omega) h2 (h4▸(hQ n' h3).go)⟩|true=>refine ACall.strip (NG hf hb (E5 (w r n m (KH E fn λr st'=>Q r.strip st') ⟨?_⟩ ⟨trivial,hx▸h⟩ ⟨⟩).go));intro af st xs m0 m1 n' h1 h2 h0 h3 h4;subst h0;rw[AaH]at h4;exact⟨KW (by rw[e];omega) h2 (by rw[h4];exact(hQ n' h3).go),KY (by rw[e];omega) h2 (by rw[h4];exact(hQ n' h3).go)⟩
theorem mkB{X B:Option ρ}{f:FuncId}{fn:Func}{nt:Nat}{rs:List ResultVar}{args:Nat->List AVal}{pre:Nat->List AVal}{er:ρ->AVal}{post:Nat->ρ->List AVal} (hx:X=B) (hf:E.P.funcs[f]?=some fn) (hb:fn.body=some c) (hn:fn.ntmps=nt) (hr:fn.results=rs.toArray) (D:DT) (b:Bool) (w: ∀(r:ρ) (n i:Nat) (m:MS) (R:APost),i<n->RH E rs R b ((i,post i r)::m) n (er r)->True/\B=some r->DD D->Gl (wpd E D c R (args i++List.replicate (nt-(args i).length) .any) ⟨(i,pre i)::m,n⟩)):CB E X f args pre er post:=by
 constructor;intro r n i m Q h hi hQ;subst hn;have e:fn.results.toList=rs:=by rw[hr]
 refine ACall.front hi λhin=>?_;cases b with|false=>refine NG hf hb (E5 (w r n i _ (KH E fn _) hin ⟨?_⟩ ⟨trivial,hx▸h⟩ ⟨⟩).go);intro af st xs m0 m1 n' h1 h2 h0 h3 h4;subst h0;rw[AZ1]at h4;exact⟨KW (by rw[e];omega) h2 ⟨_,rfl,h4▸(hQ n' h3).go⟩,KY (by rw[e];omega) h2 ⟨_,rfl,h4▸(hQ n' h3).go⟩⟩|true=>refine ACall.strip (NG hf hb (E5 (w r n i _ (KH E fn λr st'=>_) hin ⟨?_⟩ ⟨trivial,hx▸h⟩ ⟨⟩).go));intro af st xs m0 m1 n' h1 h2 h0 h3 h4;subst h0;rw[AaH]at h4;exact⟨KW (by rw[e];omega) h2 ⟨_,rfl,by rw[h4];exact(hQ n' h3).go⟩,KY (by rw[e];omega) h2 ⟨_,rfl,by rw[h4];exact(hQ n' h3).go⟩⟩
def AxV{b:Bool}{u v:Option β}{A B:List AVal->St->Prop} (h:T/\(if b=true then u else v)=some r) (a:(b=true/\T)/\u=some r->Gl (A af st)) (a':(b=false/\T)/\v=some r->Gl (B af st)):Gl (Uf (.bool b) A B af st):=by
 rcases K4 h with h|h;·grind[Aas]
 grind[AZf]
theorem X8{X:Option ρ}{f:FuncId}{args args':List AVal}{er:ρ->AVal}{y:ρ}{Q:PQ} [i:CF E X f args er] (h:X=some y) (ha:args'=args) (k: ∀n',n<=n'->Gl (Q (er y) ⟨m,n'⟩)):Gl (ACall E f args' ⟨m,n⟩ Q):=⟨ha▸i.go h k⟩
theorem AT0{X:Option ρ}{f:FuncId}{args:Nat->List AVal}{tl:List AVal}{pre:Nat->List AVal}{er:ρ->AVal}{post:Nat->ρ->List AVal}{y:ρ}{Q:PQ}{j:Nat} [i:CB E X f args pre er post] (h:X=some y) (ha: .ptr j 0::tl=args j) (hm:Ag m j=some (pre j)) (k: ∀n',n<=n'->Gl (Q (er y) ⟨A7 m j (post j y),n'⟩)):Gl (ACall E f (.ptr j 0::tl) ⟨m,n⟩ Q):=⟨ha▸i.go h hm k⟩
theorem AXT{X:Option ρ}{f:FuncId}{args:Nat->List AVal}{x:AVal}{g:Fn}{pre:Nat->List AVal}{er:ρ->AVal}{post:Nat->ρ->List AVal}{y:ρ}{Q:PQ}{j:Nat} [i:CB E X f args pre er post] (h:X=some y) (ha:[x,.fn g [] [.ptr j 0]]=args j) (hm:Ag m j=some (pre j)) (k: ∀n',n<=n'->Gl (Q (er y) ⟨A7 m j (post j y),n'⟩)):Gl (ACall E f [x,.fn g [] [.ptr j 0]] ⟨m,n⟩ Q):=⟨ha▸i.go h hm k⟩
theorem AWb{X:Option ρ}{f:FuncId}{args:Nat->List AVal}{x:AVal}{g:Fn}{pre:Nat->List AVal}{er:ρ->AVal}{post:Nat->ρ->List AVal}{y:ρ}{Q:PQ}{j:Nat} [i:CB E X f args pre er post] (h:X=some y) (ha:[x,.fn g [.ptr j 0] []]=args j) (hm:Ag m j=some (pre j)) (k: ∀n',n<=n'->Gl (Q (er y) ⟨A7 m j (post j y),n'⟩)):Gl (ACall E f [x,.fn g [.ptr j 0] []] ⟨m,n⟩ Q):=⟨ha▸i.go h hm k⟩
theorem AyG{f:FuncId}{args:List AVal}{x:AVal}{Q:PQ} [i:XC E f args x] (h:Gl (Q x st)):Gl (Zv E f args st Q):=⟨i.go h⟩
theorem AiG{X:Option ρ}{f:FuncId}{args args':List AVal}{rv:Nat->AVal}{cells:ρ->Nat->List AVal}{y:ρ}{Q:PQ} [i:CN E X f args rv cells] (h:X=some y) (ha:args'=args) (k: ∀i n',n<=i->i<n'->Gl (Q (rv i) ⟨(i,cells y i)::m,n'⟩)):Gl (ACall E f args' ⟨m,n⟩ Q):=⟨ha▸i.go h k⟩
theorem Aj2{X:Option ρ}{f:FuncId}{pre:Nat->List AVal}{er:ρ->AVal}{post:Nat->ρ->List AVal}{y:ρ}{Q:PQ}{i j:Nat} [c:CT E X f pre er post] (h:X=some y) (hj:Ag m j=some [.ptr i 0]) (hm:Ag m i=some (pre i)) (hne:i≠j) (k: ∀n',n<=n'->Gl (Q (er y) ⟨A7 m i (post i y),n'⟩)):Gl (ACall E f [.ptr j 0] ⟨m,n⟩ Q):=⟨c.go h hj hm hne k⟩
theorem AXn{X:Option ρ}{f:FuncId}{args:Nat->List AVal}{x:AVal}{tl:List AVal}{pre:Nat->List AVal}{er:ρ->AVal}{post:Nat->ρ->List AVal}{y:ρ}{Q:PQ}{j:Nat} [i:CB E X f args pre er post] (h:X=some y) (ha:x:: .ptr j 0::tl=args j) (hm:Ag m j=some (pre j)) (k: ∀n',n<=n'->Gl (Q (er y) ⟨A7 m j (post j y),n'⟩)):Gl (ACall E f (x:: .ptr j 0::tl) ⟨m,n⟩ Q):=⟨ha▸i.go h hm k⟩
theorem AZB{X:Option ρ}{f:FuncId}{args:Nat->List AVal}{x y:AVal}{pre:Nat->List AVal}{er:ρ->AVal}{post:Nat->ρ->List AVal}{yy:ρ}{Q:PQ}{j:Nat} [i:CB E X f args pre er post] (h:X=some yy) (ha:[x,y,.ptr j 0]=args j) (hm:Ag m j=some (pre j)) (k: ∀n',n<=n'->Gl (Q (er yy) ⟨A7 m j (post j yy),n'⟩)):Gl (ACall E f [x,y,.ptr j 0] ⟨m,n⟩ Q):=⟨ha▸i.go h hm k⟩
theorem Azw{id:Nat}{os:List Oper}{mv:List Tmp}{p:Plan} (hD:DD D) [i:MX E] (hm:ACo D id=mv) (hp:AtA D id=p) (hok:Jr (List.toArray os) p false (Array.replicate (List.toArray os).size false) []=true) (h:Gl (Ho E mv ⟨os⟩ p [] (nK Q) af st)):Gl (AWp E (.region id (List.toArray os) true) Q af st):=⟨Tk mv p i.ok hok h.go⟩
def AzF (hD:DD D) (h:Gl (wpd E D x (Jt (wpd E D y Q) Q) af st)):Gl (AWp E (.seq x y) Q af st):=⟨Va ((E5 h.go).mono λe af' st' _ q=>by cases e<;>first|exact E5 q|exact q)⟩
def Atl{α:Type}{id:Nat×Nat}{V:α->List AVal}{Ms:α->List BX}{k0:α->Option β}{body:(α->Option β)->Option β} (h:T/\AA k0 body (.b id js cs V Ms)=some r) (hD:DD D) (hid:Xn x=id) (rest: ∀j n',n<=n'->T/\k0 j=some r->Gl (wpd E D y Q (setVals (Ck js af) cs (V j)) ⟨reB (Ms j) m,n'⟩)) (first: ∀(k:α->Option β) (J:List AVal->St->Prop),JOK k r js cs V Ms af m n J->T/\body k=some r->Gl (wpd E D x (Jt J Q) af ⟨m,n⟩)):Gl (AWp E (.seq x y) Q af ⟨m,n⟩):=by
 refine⟨Va ?_⟩;have key:=E5 (first k0 (λaf' st'=>AWp E y Q af' ⟨st'.m,st'.next⟩) ⟨?_⟩ h).go;·exact key.mono λe af' st' _ q=>by cases e<;>exact q
 ·intro j af' m0 m1 n' h1 h2 h3 h4 h5 h6;subst h3;refine UV (rgs js) ?_;have:=E5 (rest j n' h6 ⟨h.1,h1⟩).go;rw[Dk,Dk]at h4;rw[Dk]at h5 this;rw[Lt cs _ _ h4];exact this.wk (WkL.setVals (WkL.refl _) h5) h2
def Ayx{α:Type}{id:Nat×Nat}{V:α->List AVal}{k0:α->Option β}{body:(α->Option β)->Option β} (h:T/\AA k0 body (.a id js cs V)=some r) (hD:DD D) (hid:Xn x=id) (rest: ∀j n',n<=n'->T/\k0 j=some r->Gl (wpd E D y Q (setVals (Ck js af) cs (V j)) ⟨m,n'⟩)) (first: ∀(k:α->Option β) (J:List AVal->St->Prop),JOK k r js cs V (λ_=>[]) af m n J->T/\body k=some r->Gl (wpd E D x (Jt J Q) af ⟨m,n⟩)):Gl (AWp E (.seq x y) Q af ⟨m,n⟩):=by refine Atl (Ms:=λ_=>[]) (k0:=k0) (body:=body) h hD hid (λj n' hn h=>?_) first;grind[reB]
def Axe{α:Type}{id:Nat×Nat}{p:Tmp}{V:α->Nat->List AVal}{Ms:α->Nat->List BX}{C:α->Nat->List AVal}{k0:α->Option β}{body:(α->Option β)->Option β} (h:T/\AA k0 body (.n id js cs p V Ms C)=some r) (hD:DD D) (hid:Xn x=id) (rest: ∀j n' g,n<=g/\g<n'->T/\k0 j=some r->Gl (wpd E D y Q (setVals (Ck js af) cs (V j g)) ⟨(g,C j g)::reB (Ms j g) m,n'⟩)) (first: ∀(k:α->Option β) (J:List AVal->St->Prop),JNK k r js cs p V Ms C af m n J->True->T/\body k=some r->Gl (wpd E D x (Jt J Q) af ⟨m,n⟩)):Gl (AWp E (.seq x y) Q af ⟨m,n⟩):=by
 refine⟨Va ?_⟩;have key:=E5 (first k0 (λaf' st'=>AWp E y Q af' ⟨st'.m,st'.next⟩) ⟨?_⟩ trivial h).go;·exact key.mono λe af' st' _ q=>by cases e<;>exact q
 ·intro j g af' m0 m1 n' h1 h2 h3 h4 h5 h6;subst h3;refine UV (rgs js) ?_;have:=E5 (rest j n' g h6 ⟨h.1,h1⟩).go;rw[Dk,Dk]at h4;rw[Dk]at h5 this;rw[Lt cs _ _ h4];exact this.wk (WkL.setVals (WkL.refl _) h5) h2
def AzZ{α:Type}{p:Tmp}{V:α->Nat->List AVal}{Ms:α->Nat->List BX}{C:α->Nat->List AVal}{k:α->Option β}{v:α} (hj:JNK k r js cs p V Ms C af0 m n J) (h:T/\k v=some r) (h2:SubW ((AQI (af.getD p .any),C v (AQI (af.getD p .any)))::reB (Ms v (AQI (af.getD p .any))) m) m1) (h4:Ak cs (Ck js af)=Ak cs (Ck js af0)) (h5:WkL (Cg (Ck js af) cs) (V v (AQI (af.getD p .any)))) (h6:n<=AQI (af.getD p .any)/\AQI (af.getD p .any)<n'):Gl (J af ⟨m1,n'⟩):=⟨hj.go v _ af _ m1 n' h.2 h2 rfl h4 h5 h6⟩
def Azt{α:Type}{V:α->List AVal}{Ms:α->List BX}{k:α->Option β}{v:α} (hj:JOK k r js cs V Ms af0 m n J) (h:T/\k v=some r) (h2:SubW (reB (Ms v) m) m1) (h4:Ak cs (Ck js af)=Ak cs (Ck js af0)) (h5:WkL (Cg (Ck js af) cs) (V v)) (h6:n<=n'):Gl (J af ⟨m1,n'⟩):=⟨hj.go v af _ m1 n' h.2 h2 rfl h4 h5 h6⟩
theorem Ax1{σ:Type}{V:σ->List AVal}{Ms:σ->List BX}{X:Option β}{G B:Nat->σ->Option β}{k:Nat}{s:σ} [i:LF X G B k s js cs V Ms] (h:T/\X=some r) (hj:LOK G r k js cs V Ms af0 m n J) (h2:SubW (reB (Ms s) m) m1) (h4:Ak cs (Ck js af)=Ak cs (Ck js af0)) (h5:WkL (Cg (Ck js af) cs) (V s)) (h6:n<=n'):Gl (J af ⟨m1,n'⟩):=⟨hj.go s af _ m1 n' (i.eq▸h.2) h2 rfl h4 h5 h6⟩
theorem AxP{α σ:Type}{V:Int->σ->List AVal}{Ms:Int->σ->List BX}{X:Option β}{G:List α->Int->σ->Option β}{Bn:Int->σ->Option β}{Bc:α->List α->Int->σ->Option β}{L:List α}{i:Int}{s:σ} [ii:LR X G Bn Bc L i s js cs V Ms] (h:T/\X=some r) (hj:ROK G r L i js cs V Ms af0 m n J) (h2:SubW (reB (Ms i s) m) m1) (h4:Ak cs (Ck js af)=Ak cs (Ck js af0)) (h5:WkL (Cg (Ck js af) cs) (V i s)) (h6:n<=n'):Gl (J af ⟨m1,n'⟩):=⟨hj.go s af _ m1 n' (ii.eq▸h.2) h2 rfl h4 h5 h6⟩
def Azd{R:APost}{rs:List ResultVar}{b:Bool}{r':AVal}{xs:List AVal} (hR:RH E rs R b m n r') (h1:RX E rs af st=some (xs,⟨m1,n'⟩)) (h2:m.Sublist m1) (h4:n<=n') (h5:stp b (Tf xs)=r'):Gl (R .ret af st):=⟨(hR.go af st xs m m1 n' h1 h2 rfl h4 h5).1⟩
def Az0{R:APost}{rs:List ResultVar}{b:Bool}{r':AVal}{xs:List AVal} (hR:RH E rs R b m n r') (h1:RX E rs af st=some (xs,⟨m1,n'⟩)) (h2:m.Sublist m1) (h4:n<=n') (h5:stp b (Tf xs)=r'):Gl (R .normal af st):=⟨(hR.go af st xs m m1 n' h1 h2 rfl h4 h5).2⟩
def AuQ{v:β} (h:T/\some v=some r):T/\v=r:=⟨h.1,cD h.2⟩
theorem Ax3{σ:Type}{V:σ->List AVal}{Ms:σ->List BX}{X:Option β}{G B:Nat->σ->Option β}{k:Nat}{s:σ} [i:LF X G B k s js cs V Ms] (h:T/\X=some r) (hD:DD D) (hm:SubW (reB (Ms s) m) m) (hv:WkL (Cg (Ck js af) cs) (V s)) (round: ∀k s n',n<=n'->T/\B k s=some r->∀J,LOK G r k js cs V Ms af m n' J->Gl (wpd E D c (Jt J Q) (setVals (Ck js af) cs (V s)) ⟨reB (Ms s) m,n'⟩)):Gl (AWp E (.loop c) Q af ⟨m,n⟩):=by
 rw[Dk]at hv;refine⟨WQ (rgs js) cs (λk vs st'=>∃s,vs=V s/\st'.m=reB (Ms s) m/\n<=st'.next/\G k s=some r) k hv hm ⟨s,rfl,rfl,av _,i.eq▸h.2⟩ ?_⟩;rintro k vs ⟨m',n'⟩ ⟨s,rfl,hm',hn,hG⟩ J hJ;simp only at hm' hn;subst hm';cases k with
 |zero=>rw[i.z]at hG;grind
 |succ k=>
  have key:=λhJ'=>E5 (round k s n' hn ⟨h.1,i.u k s▸hG⟩ J hJ').go;rw[Dk]at key;refine(key ⟨λs' af' m0 m1 n'' h1 h2 h3 h4 h5 h6=>?_⟩).mono λe af' st' _ q=>by cases e<;>first|exact Oj q|exact .oth fI q
  subst h3;rw[Dk,Dk]at h4;rw[Dk]at h5;exact hJ k af' ⟨m1,n''⟩ _ _ (fa _) h2 h4 h5 ⟨s',rfl,rfl,bJ hn h6,h1⟩
theorem Ahc{α σ:Type}{V:Int->σ->List AVal}{Ms:Int->σ->List BX}{X:Option β}{G:List α->Int->σ->Option β}{Bn:Int->σ->Option β}{Bc:α->List α->Int->σ->Option β}{L:List α}{s:σ} [ii:LR X G Bn Bc L 0 s js cs V Ms] (h:T/\X=some r) (hD:DD D) (hL:AL L.length) (hm:SubW (reB (Ms 0 s) m) m) (hv:WkL (Cg (Ck js af) cs) (V 0 s)) (rnil: ∀i s n',n<=n'->(decide (i<(L.length:Int))=false/\T)/\Bn i s=some r->Gl (wpd E D c (Jt (λ_ _=>False) Q) (setVals (Ck js af) cs (V i s)) ⟨reB (Ms i s) m,n'⟩)) (rcons: ∀x xs i s n',n<=n'->(decide (i<(L.length:Int))=true/\(idx L i=some x/\L[i.toNat]?=some x)/\wr .i64 (i+1)=i+1/\T)/\Bc x xs i s=some r->∀J,ROK G r xs (i+1) js cs V Ms af m n' J->Gl (wpd E D c (Jt J Q) (setVals (Ck js af) cs (V i s)) ⟨reB (Ms i s) m,n'⟩)):Gl (AWp E (.loop c) Q af ⟨m,n⟩):=by
 rw[Dk]at hv;refine⟨WQ (rgs js) cs (λk vs st'=>∃pre suf s,L=pre++suf/\k=suf.length/\vs=V pre.length s/\st'.m=reB (Ms pre.length s) m/\n<=st'.next/\G suf pre.length s=some r) L.length hv hm ⟨[],L,s,rfl,rfl,rfl,rfl,av _,ii.eq▸h.2⟩ ?_⟩;rintro k vs ⟨m',n'⟩ ⟨pre,suf,s,hp,rfl,rfl,hm',hn,hG⟩ J hJ;simp only at hm' hn;subst hm';cases suf with
 |nil=>have key:=E5 (rnil _ s n' hn ⟨⟨by grind,h.1⟩,ii.un _ s▸hG⟩).go;rw[Dk]at key;exact key.mono λe af' st' _ q=>by cases e<;>first|exact q.elim|exact .oth fI q
 |cons x xs=>
  obtain⟨f1,f2,f3⟩:=AbK hp hL;have key:=λhJ'=>E5 (rcons x xs _ s n' hn ⟨⟨f1,⟨f2,AaC f2⟩,f3,h.1⟩,ii.uc x xs _ s▸hG⟩ J hJ').go;rw[Dk]at key;refine(key ⟨λs' af' m0 m1 n'' h1 h2 h3 h4 h5 h6=>?_⟩).mono λe af' st' _ q=>by cases e<;>first|exact Oj q|exact .oth fI q
  have e1:((pre.length:Int)+1)=((pre++[x]).length:Int):=fI;rw[e1]at h1 h3 h5;subst h3;rw[Dk,Dk]at h4;rw[Dk]at h5;exact hJ xs.length af' ⟨m1,n''⟩ _ _ fI h2 h4 h5 ⟨pre++[x],xs,s',by grind,rfl,rfl,rfl,bJ hn h6,h1⟩
theorem AyR{α σ:Type}{V:Int->σ->List AVal}{Ms:Int->σ->List BX}{X:Option β}{G:List α->Int->σ->Option β}{Bn:Int->σ->Option β}{Bc:α->List α->Int->σ->Option β}{L:List α}{i:Int}{s:σ} [ii:LQ X G Bn Bc L s js cs V Ms] (h:T/\X=some r) (hj:ROK G r L i js cs V Ms af0 m n J) (h2:SubW (reB (Ms i s) m) m1) (h4:Ak cs (Ck js af)=Ak cs (Ck js af0)) (h5:WkL (Cg (Ck js af) cs) (V i s)) (h6:n<=n'):Gl (J af ⟨m1,n'⟩):=⟨hj.go s af _ m1 n' (ii.eq i▸h.2) h2 rfl h4 h5 h6⟩
theorem Au5{α σ:Type}{V:Int->σ->List AVal}{Ms:Int->σ->List BX}{X:Option β}{G:List α->Int->σ->Option β}{Bn:Int->σ->Option β}{Bc:α->List α->Int->σ->Option β}{L:List α}{s:σ} [ii:LQ X G Bn Bc L s js cs V Ms] (h:T/\X=some r) (hD:DD D) (hL:AL L.length) (hm:SubW (reB (Ms 0 s) m) m) (hv:WkL (Cg (Ck js af) cs) (V 0 s))
    (rnil: ∀i s n',n<=n'->(decide (i<(L.length:Int))=false/\T)/\Bn i s=some r->Gl (wpd E D c (Jt (λ_ _=>False) Q) (setVals (Ck js af) cs (V i s)) ⟨reB (Ms i s) m,n'⟩))
    (rcons: ∀x xs i s n',n<=n'->(decide (i<(L.length:Int))=true/\(idx L i=some x/\L[i.toNat]?=some x)/\wr .i64 (i+1)=i+1/\T)/\Bc x xs i s=some r-> ∀J,ROK G r xs (i+1) js cs V Ms af m n' J->Gl (wpd E D c (Jt J Q) (setVals (Ck js af) cs (V i s)) ⟨reB (Ms i s) m,n'⟩)):Gl (AWp E (.loop c) Q af ⟨m,n⟩):=
  haveI:LR X G Bn Bc L 0 s js cs V Ms:=⟨ii.eq 0,ii.un,ii.uc⟩
  Ahc h hD hL hm hv rnil rcons
theorem Axt{σ:Type}{V:Int->σ->List AVal}{Ms:Int->σ->List BX}{X:Option β}{G:Nat->Int->σ->Option β}{Bn:Int->σ->Option β}{Bc:Nat->Int->σ->Option β}{k:Nat}{i:Int}{s:σ} [ii:LC X G Bn Bc k i s js cs V Ms] (h:T/\X=some r) (hj:COK G r k i js cs V Ms af0 m n J) (h2:SubW (reB (Ms i s) m) m1) (h4:Ak cs (Ck js af)=Ak cs (Ck js af0)) (h5:WkL (Cg (Ck js af) cs) (V i s)) (h6:n<=n'):Gl (J af ⟨m1,n'⟩):=⟨hj.go s af _ m1 n' (ii.eq▸h.2) h2 rfl h4 h5 h6⟩
theorem AyQ{σ:Type}{V:Int->σ->List AVal}{Ms:Int->σ->List BX}{X:Option β}{G:Nat->Int->σ->Option β}{Bn:Int->σ->Option β}{Bc:Nat->Int->σ->Option β}{k:Nat}{i:Int}{s:σ} [ii:LU X G Bn Bc k s js cs V Ms] (h:T/\X=some r) (hj:COK G r k i js cs V Ms af0 m n J) (h2:SubW (reB (Ms i s) m) m1) (h4:Ak cs (Ck js af)=Ak cs (Ck js af0)) (h5:WkL (Cg (Ck js af) cs) (V i s)) (h6:n<=n'):Gl (J af ⟨m1,n'⟩):=⟨hj.go s af _ m1 n' (ii.eq i▸h.2) h2 rfl h4 h5 h6⟩
theorem AnG{σ:Type}{V:Int->σ->List AVal}{Ms:Int->σ->List BX}{X:Option β}{G:Nat->Int->σ->Option β}{Bn:Int->σ->Option β}{Bc:Nat->Int->σ->Option β}{i0 b:Int}{s:σ} [ii:LC X G Bn Bc (b-i0).toNat i0 s js cs V Ms] (h:T/\X=some r) (hD:DD D) (hL: -4611686018427387904<=i0/\b<=4611686018427387904) (hm:SubW (reB (Ms i0 s) m) m) (hv:WkL (Cg (Ck js af) cs) (V i0 s)) (rnil: ∀i s n',n<=n'->(decide (i<b)=false/\T)/\Bn i s=some r->Gl (wpd E D c (Jt (λ_ _=>False) Q) (setVals (Ck js af) cs (V i s)) ⟨reB (Ms i s) m,n'⟩)) (rcons: ∀k i s n',n<=n'->(decide (i<b)=true/\wr .i64 (i+1)=i+1/\T)/\Bc k i s=some r->∀J,COK G r k (i+1) js cs V Ms af m n' J->Gl (wpd E D c (Jt J Q) (setVals (Ck js af) cs (V i s)) ⟨reB (Ms i s) m,n'⟩)):Gl (AWp E (.loop c) Q af ⟨m,n⟩):=by
 rw[Dk]at hv;refine⟨WQ (rgs js) cs (λk vs st'=>∃i s,i0<=i/\k=(b-i).toNat/\vs=V i s/\st'.m=reB (Ms i s) m/\n<=st'.next/\G k i s=some r) (b-i0).toNat hv hm ⟨i0,s,bD _,rfl,rfl,rfl,av _,ii.eq▸h.2⟩ ?_⟩;rintro k vs ⟨m',n'⟩ ⟨i,s,hi,hk',rfl,hm',hn,hG⟩ J hJ;simp only at hm' hn;subst hm';cases k with
 |zero=>have key:=E5 (rnil _ s n' hn ⟨⟨by grind,h.1⟩,ii.un _ s▸hG⟩).go;rw[Dk]at key;exact key.mono λe af' st' _ q=>by cases e<;>first|exact q.elim|exact .oth fI q
 |succ k=>
  have hw:wr .i64 (i+1)=i+1:=by grind[wr,IntKind.wrap,IntKind.bits,IntKind.signed]
  have key:=λhJ'=>E5 (rcons k i s n' hn ⟨⟨by simp only[au];omega,hw,h.1⟩,ii.uc k i s▸hG⟩ J hJ').go;rw[Dk]at key;refine(key ⟨λs' af' m0 m1 n'' h1 h2 h3 h4 h5 h6=>?_⟩).mono λe af' st' _ q=>by cases e<;>first|exact Oj q|exact .oth fI q
  subst h3;rw[Dk,Dk]at h4;rw[Dk]at h5;exact hJ k af' ⟨m1,n''⟩ _ _ fI h2 h4 h5 ⟨i+1,s',fH,fH,rfl,rfl,bJ hn h6,h1⟩
theorem AwF{σ:Type}{V:Int->σ->List AVal}{Ms:Int->σ->List BX}{X:Option β}{G:Nat->Int->σ->Option β}{Bn:Int->σ->Option β}{Bc:Nat->Int->σ->Option β}{i0 b:Int}{s:σ} [ii:LU X G Bn Bc (b-i0).toNat s js cs V Ms] (h:T/\X=some r) (hD:DD D) (hL: -4611686018427387904<=i0/\b<=4611686018427387904) (hm:SubW (reB (Ms i0 s) m) m) (hv:WkL (Cg (Ck js af) cs) (V i0 s))
    (rnil: ∀i s n',n<=n'->(decide (i<b)=false/\T)/\Bn i s=some r->Gl (wpd E D c (Jt (λ_ _=>False) Q) (setVals (Ck js af) cs (V i s)) ⟨reB (Ms i s) m,n'⟩))
    (rcons: ∀k i s n',n<=n'->(decide (i<b)=true/\wr .i64 (i+1)=i+1/\T)/\Bc k i s=some r-> ∀J,COK G r k (i+1) js cs V Ms af m n' J->Gl (wpd E D c (Jt J Q) (setVals (Ck js af) cs (V i s)) ⟨reB (Ms i s) m,n'⟩)):Gl (AWp E (.loop c) Q af ⟨m,n⟩):=
  haveI:LC X G Bn Bc (b-i0).toNat i0 s js cs V Ms:=⟨ii.eq i0,ii.un,ii.uc⟩
  AnG h hD hL hm hv rnil rcons
def AxR{G:Prop} (h:T/\(none:Option β)=some r):G:=by grind
def Azg{α:Type}{u:α}{f:α->Option β} (h:T/\letL u f=some r): ∃y,u=y/\T/\f y=some r:=⟨u,rfl,h⟩
def Atz{α:Type}{l:List α}{i:Int}{f:α->Option β} (h:T/\Option.bind (idx l i) f=some r): ∃y,((idx l i=some y/\l[i.toNat]?=some y)/\T)/\f y=some r:=by obtain⟨y,h1,h2⟩:=GI h;exact⟨y,⟨⟨h1.1,AaC h1.1⟩,h1.2⟩,h2⟩
def AwA{α:Type}{l:List α}{f:α->Option β} (h:T/\Option.bind (idx l 0) f=some r): ∃y,((idx l 0=some y/\l[0]?=some y)/\T)/\f y=some r:=Atz h
def AyB{α:Type}{l:List α}{i j:Int}{f:List α->Option β} (h:T/\Option.bind (sub l i j) f=some r): ∃y,(sub l i j=some y/\T)/\f y=some r:=GI h
def isW (x:Gl (wpd E D c K af st)):Gl (wpd E D c K af st):=x
def isC{f:FuncId}{args:List AVal}{Q:PQ} (x:Gl (ACall E f args st Q)):Gl (ACall E f args st Q):=x
def isA (x:Gl (AWp E c K af st)):Gl (AWp E c K af st):=x
end rules
end Go.VM
namespace Go.VM
def tD{G:Prop} (x:G:=by first|(simp(disch:=omega) only[vm,seval,h.1];done)|rfl):G:=x
def tR{G:Prop} (x:G:=by
 obtain⟨H,h⟩:=h;cases h;simp(disch:=omega) only[vm,seval,H];refine⟨(hR _ _ _ _ _ _ (by simp(disch:=omega) only[vm,seval,H];rfl) ?_ rfl fH ?_).1⟩;·first|((repeat (first|exact bU _|apply cC));done)|(simp(disch:=omega) only[vm,seval,H];(repeat (first|exact bU _|apply cC));done)
 ·first|(simp(disch:=omega) only[vm,seval,H];done)|rfl):G:=x
def tJ{A G:Prop} (a:A) (x:A->G:=by
  intro hz
  simp(disch:=omega) only[vm,seval,h.1]
  refine⟨hz _ _ _ _ h.2 ?_ rfl ?_ ?_ fH⟩
  . first|((repeat (first|exact bU _|apply cC));done)|(simp(disch:=omega) only[vm,seval,h.1];(repeat (first|exact bU _|apply cC));done)
  all_goals first|(simp(disch:=omega) only[vm,seval,h.1];done)|rfl):G:=x a
end Go.VM
