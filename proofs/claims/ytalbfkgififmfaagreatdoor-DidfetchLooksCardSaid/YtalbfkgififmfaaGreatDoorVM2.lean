import Derived.Laws.RangeString
import Derived.Laws.RangeAny
import Derived.Lib.OthersKept
import Derived.Lib.MakeNoZero
import Derived.Test.YtalbfkgififmfaaGreatDoorVM4
import Derived.Scope
set_option linter.defProp false
set_option linter.unusedSimpArgs false
set_option linter.unusedVariables false
namespace Go.VM
def AE8 (mv:List Tmp) (e:Option Tmp):Bool:=match e with|some d=>mv.contains (d+1000000)|none=>false
def Q7 (mv:List Tmp) (e:Option Tmp):Bool:=match e with|some d=>mv.contains d|none=>false
def Df (s:B8) (pos:Nat):Nat×Nat:=Utf8.decode ⟨s.toArray⟩ pos
def AGi (s:B8) (pos:Nat) (t:Tmp) (d:Option Tmp) (af:List AVal):List AVal:=if decide (pos<s.length)=true then Ae (af.set t (.iter s (pos+(Df s pos).2))) d (.tuple [.bool true,.int .i64 pos,.int .i32 (Df s pos).1])else Ae af d (.tuple [.bool false])
def Ej (E:Env) (mv:List Tmp) (o:Oper) (af:List AVal) (st:St):Option (List AVal×St):=
  match o.op with
  | .move x=>
    if Q7 mv o.dst=true then
      match nameV af x with
      |some (d,w,xs)=>some (Ae (af.set d (.sh st.next)) o.dst (.sh st.next),{m:=(st.next,[.vec w xs])::st.m,next:=st.next+1})
      | none=>
        match AFN (AE8 mv o.dst) af x st with
        |some (j,i,w,xs)=>some (Ae (af.set j (.slice w xs false)) o.dst (.slice w xs false),{st with m:=A9 st.m i [.any]})
        |none=>some (Ae (stripAt af x) o.dst (rd E af o.type x),st)
    else some (Ae af o.dst (rd E af o.type x).strip,st)
  | .assign x=>
    if Q7 mv o.dst=true then
      match ACV E o with
      |some w=>some (Ae af o.dst (.vec w []),st)
      | none=>
        match ABB E af x o.type st with
        |some p=>some (Ae af o.dst (.vec p.2.1 p.2.2),{st with m:=A9 st.m p.1 [.any]})
        |none=>some (Ae (stripAt af x) o.dst (rd E af o.type x),st)
    else some (Ae (stripAt af x) o.dst (rd E af o.type x),st)
  |.alloc t=>(if Q7 mv o.dst=true then Xj E.P t st.next else Ci E.P t st.next).map λcs=>(Ae af o.dst (.ptr st.next 0),{m:=(st.next,cs)::st.m,next:=st.next+1})
  |.box t x=>if Ch (rd E af t x)=true then some (Ae (stripAt af x) o.dst (.ptr st.next 0),{m:=(st.next,Aa (rd E af t x))::st.m,next:=st.next+1})else none
  |.build t ⟨ps⟩=>(V4 E t (Bg E (AQ E.P t) af ps).2).map λr=>(Ae (Bg E (AQ E.P t) af ps).1 o.dst r,st)
  | .buildSlice t len ⟨ps⟩=>
    if Q7 mv o.dst=true then(Js E t len (Bg E (λ_=>AQ E.P t 0) af ps).2).map λp=>(Ae (Bg E (λ_=>AQ E.P t 0) af ps).1 o.dst (.gsl p.1 st.next len),{m:=(st.next,p.2)::st.m,next:=st.next+1})
    else(Ik E t len (Bg E (λ_=>AQ E.P t 0) af ps).2).map λr=>(Ae af o.dst r,st)
  | .load t x=>
    if Q7 mv o.dst=true then(Tc E t (rd E af 0 x) st).map λp=>(Ae af o.dst p.1,p.2)
    else(Tm E t (rd E af 0 x) st).map λr=>(Ae af o.dst r.strip,st)
  |.store t x y=>if o.dst.isNone=true then(QA E t (rd E af 0 x) (rd E af t y) st).map λe=>(stripAt af y,e)else none
  | .extract (.tmp t) n=>
    match af.getD t .any with
    |.tuple vs=>(vs[n]?).map λr=>(Ae (af.set t (.tuple (vs.set n r.strip))) o.dst r,st)
    |_=>none
  | .range t x=>
    match rd E af t x with
    |.str s=>if Di E.P t=true then some (Ae af o.dst (.iter s 0),st)else none
    |_=>none
  | .next (.tmp t) true=>
    match af.getD t .any with
    |.iter s pos=>some (AGi s pos t o.dst af,st)
    |_=>none
  | .slice t x lo hi mx=>
    match rdo E af lo,rdo E af hi,rdo E af mx with
    | some l,some h,some m=>
      match GZ E t (rd E af t x) l h m with
      |some r=>some (Ae af o.dst r,st)
      |none=>(TN E t (rd E af t x) l h m st).map λe=>(Ae af o.dst (.sh st.next),e)
    |_,_,_=>none
  | .call {callee:=.builtin .append,args:=⟨[x,y]⟩,argTypes:=⟨t0::t1::_⟩}=>
    if Q7 mv o.dst=true then
      match RS E t0 t1 (rd E af t0 x) (rd E af t1 y)with
      |some r=>some (Ae (stripAt af x) o.dst (.sh st.next),{m:=(st.next,[r])::st.m,next:=st.next+1})
      |none=>(appW E x t0 t1 (rd E af t0 x) (rd E af t1 y) st).map λp=>(Ae af o.dst p.1,p.2)
    else match Jr E t0 t1 (rd E af t0 x) (rd E af t1 y)with
      |some r=>some (Ae (stripAt af x) o.dst r,st)
      |none=>(ABo E t0 t1 (rd E af t0 x) (rd E af t1 y) st).map λe=>(Ae af o.dst (.sh st.next),e)
  | .call {callee:=.builtin .len,args:=⟨[x]⟩,argTypes:=⟨t::_⟩}=>
    match D8 E o af with
    |some r=>some (Ae af o.dst r.strip,st)
    |none=>(ADl E t (rd E af t x) st).map λr=>(Ae af o.dst r,st)
  |.makeMap t none=>some (Ae af o.dst (.sh st.next),{m:=(st.next,[.map [] []])::st.m,next:=st.next+1})
  |.lookup t m k ok=>(Vu E t (rd E af t m) (rd E af 0 k) ok st).map λr=>(Ae af o.dst r,st)
  |.mapUpdate t m k x=>if o.dst.isNone=true then(Wz E t (rd E af t m) (rd E af 0 k) (rd E af 0 x) st).map λe=>(af,e)else none
  |.insert t m k x=>if o.dst.isNone=true then(Wz E t (rd E af t m) (rd E af 0 k) (rd E af 0 x) st).map λe=>(af,e)else none
  | .indexAddr t x i=>
    match D8 E o af with
    |some r=>some (Ae af o.dst r.strip,st)
    | none=>
      match Hy E t (rd E af t x) (rd E af 0 i) st with
      |some r=>some (Ae af o.dst r,st)
      |none=>(Ry E t (rd E af t x) (rd E af 0 i) st).map λr=>(Ae af o.dst r,st)
  |.makeSlice t x y=>(if Q7 mv o.dst=true then ZC E t (rd E af 0 x) (rd E af 0 y) st else Zw E t (rd E af 0 x) (rd E af 0 y) st).map λp=>(Ae af o.dst p.1,p.2)
  | .convert s d x=>
    match D8 E o af with
    |some r=>some (Ae af o.dst r.strip,st)
    | none=>
      match Vn E s d (rd E af s x) st with
      |some r=>some (Ae af o.dst r,st)
      |none=>(Tw E s d (rd E af s x) st).map λp=>(Ae af o.dst p.1,p.2)
  |.call {callee:=.builtin .unsafeSliceData,args:=⟨[x]⟩,argTypes:=⟨t0::_⟩}=>(VB (rd E af t0 x)).map λr=>(Ae (stripAt af x) o.dst r,st)
  |.call {callee:=.builtin .unsafeString,args:=⟨[x,y]⟩,argTypes:=⟨[t0,t1]⟩}=>(ZK E t0 (rd E af t0 x) (rd E af t1 y)).map λr=>(Ae (stripAt af x) o.dst r,st)
  |_=>(D8 E o af).map λr=>(Ae af o.dst r.strip,st)
section
variable{E:Env}{F:Nat->Nat}{O:At}{st:St}{w:World}{af:List AVal}{a:Act}
theorem AeA (vs:List Value) (t:Nat) (d:Value):vs.set t (vs.getD t d)=vs:=by apply ce;grind
def Sim.newIter (hs:Sim E F O st w af a.tmps.toList) (j:ByteArray) (p:Nat):Sim E F O st (w.iter j p) af a.tmps.toList/\Ext F O w O (w.iter j p):=by
 have e: ∀n,n<w.heap.size->(w.iter j p).heap[n]?=w.heap[n]?:=λn f=>alloc_old (.stringIter j p) f;have l:(w.iter j p).heap.size=w.heap.size+1:=by simp[World.iter]
 refine⟨hs.elsewhere (b:=w.heap.size) (λn f _=>e n f) fM (hs.com_none (av _)) (λi hi h=>?_) ?_ ?_,⟨O.le_refl,λn f=>⟨e n (hs.F_of f),rfl⟩,fM,rfl,rfl,rfl⟩⟩;·have:=hs.bx_lt _ _ h;omega
 ·rcases bf 0 (AR w.heap.size af a.tmps.toList)with h|h;·have:=(CG _ _ hs.own h).1;omega
  omega
 ·rcases bf 0 (Aq O w w.heap.size st.m)with h|h;·have:=ACP hs h;omega
  omega
def Sim.iterTo (hs:Sim E F O st w af a.tmps.toList){t:Tmp}{s:B8}{pos:Nat} (X:af.getD t .any=.iter s pos){b:Nat}{l:ByteArray} (B:a.tmps.toList.getD t undef=.pointer (some ⟨b,0,none⟩)) (P:l.data.toList=s) (hh:w.heap[b]?=some (.stringIter l pos)) (f:Nat):Sim E F O st (w.iterAt b l f) (af.set t (.iter s f)) a.tmps.toList/\Ext F O w O (w.iterAt b l f):=by
 have e:=Ni b af a.tmps.toList t undef hs.rep.length;rw[X,B]at e;have e1:cnt b (.iter s pos) (.pointer (some ⟨b,0,none⟩))=1:=by simp[cnt,Sv]
 rw[e1]at e;have V:(AVal.iter s pos).strip=.any:=by simp[AVal.strip]
 rw[V]at e;have tk:=hs.tok b;have Z:b<w.heap.size:=(aU.1 hh).1;have j: ∀n,n≠b->(w.iterAt b l f).heap[n]?=w.heap[n]?:=λn G=>by grind[World.iterAt]
 have hsz:(w.iterAt b l f).heap.size=w.heap.size:=by simp[World.iterAt]
 have C:(w.iterAt b l f).heap[b]?=some (.stringIter l f):=by grind[World.iterAt]
 have I:Sim E F O st w (af.set t .any) a.tmps.toList:=by have:=hs.stripAt (.tmp t);grind[VM.stripAt]
 have z:O.com b=none:=by cases hc:O.com b with|none=>rfl|some cs=>obtain⟨ar,S,fz,Y,_⟩:=hs.com_ok b cs hc;grind
 have H:Sim E F O st (w.iterAt b l f) (af.set t .any) a.tmps.toList:=I.elsewhere (b:=b) (λn _ G=>j n G) fM z (λi hi h=>by
  obtain⟨p,hp,rfl⟩:=bv.1 hi;rcases hs.box_ok p hp with⟨k,ar,S,A⟩|⟨v,B⟩;rotate_left;·have:=B.bx;grind
  obtain⟨lo,L,U,_⟩:=A.heap;have:=A.bx;grind) fM fM;refine⟨?_,⟨O.le_refl,λn G=>⟨j n (λe=>by grind),rfl⟩,fM,rfl,rfl,rfl⟩⟩;have R:a.tmps.toList=a.tmps.toList.set t (.pointer (some ⟨b,0,none⟩)):=by grind[AeA]
 have M:af.set t (.iter s f)=(af.set t .any).set t (.iter s f):=fN;rw[M];have W: ∀n,AR n ((af.set t .any).set t (.iter s f)) a.tmps.toList<=AR n (af.set t .any) a.tmps.toList+cnt n (.iter s f) (.pointer (some ⟨b,0,none⟩)):=λn=>by grind[Ii]
 refine {H with rep:=?_,own:=?_,tok:=?_};·have:=H.rep.set t (x:=.iter s f) (v:=.pointer (some ⟨b,0,none⟩)) (.iter _ _ _);grind
 ·have:=H.own.set t (x:=.iter s f) (v:=.pointer (some ⟨b,0,none⟩)) (by simp only[VM.own];exact⟨b,l,rfl,P,C⟩);grind
 ·intro n;have q1:=W n;have Y:=H.tok n;by_cases G:n=b
  ·subst G;have U:Aq O (w.iterAt n l f) n st.m=0:=by
    rw[GD (w:=w) λp hp=>⟨rfl,λk hk=>j k (λe=>by
     subst e;rcases hs.box_ok p hp with⟨k2,ar,S,A⟩|⟨v,B⟩;rotate_left;·have:=B.bx;grind
     obtain⟨lo,L,U,_⟩:=A.heap;have:=A.bx;grind)⟩];omega
   grind[cnt,Sv]
  grind[cnt,Sv]
def ABk{b:ByteArray}{s:B8} (h:b.data.toList=s):b=⟨s.toArray⟩:=by subst h;simp
theorem Abh (hs:Sim E F O st w af a.tmps.toList){o:Oper}{t:TypeId}{x:Operand}{s:B8} (C:o.op=.range t x) (A:rd E af t x=.str s) (H:Di E.P t=true):∃G w' B O',AM E F O st w a o (Ae af o.dst (.iter s 0)) st G w' B O':=by
 have j:=hs.rd t x;rw[A]at j;generalize V:a.eval x=v at j;cases j;rename_i f M;have z:=run_range_string (P:=E.P) w t f (CU H);refine⟨.value (.pointer (some ⟨w.heap.size,0,none⟩)),w.iter f 0,a.put o.dst (.pointer (some ⟨w.heap.size,0,none⟩)),O,?_,λK Q l=>l,put_defers _ _ _,?_,av _,?_⟩;·simp_all[execOp]
 ·exact(hs.newIter f 0).2
 ·refine(hs.newIter f 0).1.put o.dst (.iter _ _ _) ?_ ?_;·simp only[VM.own];exact⟨_,f,rfl,rfl,World.iter_heap w f 0⟩
  ·intro b;have L:=hs.tok b;have U:=(hs.newIter f 0).1.tok b;simp only[cnt,Sv];split
   ·rename_i e;have I:F b=0:=hs.F_lt b fM;have R:AR b af a.tmps.toList=0:=by
     rcases bf 0 (AR b af a.tmps.toList)with h|h;·have:=(CG _ _ hs.own h).1;omega
     omega
    have S:Aq O (w.iter f 0) b st.m=0:=by
     rw[GD (O:=O) (w:=w) (w':=w.iter f 0) λp hp=>⟨rfl,λk l=>alloc_old (.stringIter f 0) (hs.bx_lt _ _ l)⟩];rcases bf 0 (Aq O w b st.m)with h|h;·have:=ACP hs h;omega
     omega
    omega
   omega
theorem Ae2 (hs:Sim E F O st w af a.tmps.toList){o:Oper}{t:Tmp}{s:B8}{pos:Nat} (M:o.op=.next (.tmp t) true) (C:af.getD t .any=.iter s pos):∃S w' I O',AM E F O st w a o (AGi s pos t o.dst af) st S w' I O':=by
 have z:=hs.own.get hs.rep.length t undef;rw[C]at z;simp only[VM.own]at z;obtain⟨b,h,U,j,B⟩:=z;have L:a.eval (.tmp t)=.pointer (some ⟨b,0,none⟩):=by grind[Act.eval,Array.getD_toList']
 have G:h.size=s.length:=by rw[<-j,aE];rfl
 unfold AGi;split
 ·rename_i e;have e:pos<h.size:=by grind
  have f:=Go.Lib.run_next_any_at (P:=E.P) w b h pos o.type B e;have l:Utf8.decode h pos=Df s pos:=by rw[ABk j];rfl
  rw[l]at f;obtain⟨H,R⟩:=hs.iterTo (t:=t) C U j B (pos+(Df s pos).2);refine⟨.value (.tuple #[.bool true,.int .i64 pos,.int .i32 (Df s pos).1]),w.iterAt b h (pos+(Df s pos).2),a.put o.dst (.tuple #[.bool true,.int .i64 pos,.int .i32 (Df s pos).1]),O,?_,λK Q A=>A,put_defers _ _ _,R,av _,?_⟩;·simp_all[execOp]
  ·refine H.put o.dst (r:=.tuple [.bool true,.int .i64 pos,.int .i32 (Df s pos).1]) (.tuple (.cons (.bool _) (.cons (.int _ _) (.cons (.int _ _) .nil)))) (by simp[VM.own,ownL]) λn=>?_;have:=H.tok n;grind[cnt,AR]
 ·rename_i e;have e: ¬pos<h.size:=by grind
  have f:=Go.Lib.run_next_end_at (P:=E.P) w b h pos o.type B e;refine⟨.value (.tuple #[.bool false]),w,a.put o.dst (.tuple #[.bool false]),O,?_,λK Q A=>A,put_defers _ _ _,Ext.refl _ _ _,av _,?_⟩;·simp_all[execOp]
  ·refine hs.put o.dst (r:=.tuple [.bool false]) (.tuple (.cons (.bool _) .nil)) (by simp[VM.own,ownL]) λn=>?_;have:=hs.tok n;grind[cnt,AR]
def Un (hs:Sim E F O st w af a.tmps.toList){mv:List Tmp}{o:Oper}{af':List AVal}{B:St} (h:Ej E mv o af st=some (af',B)):∃U w' M O',AM E F O st w a o af' B U w' M O':=by
 unfold Ej at h;split at h
 ·rename_i x e;split at h
  ·split at h;·rename_i f;simp only[ah,aB]at h;obtain⟨rfl,rfl⟩:=h;exact AX8 hs e f
   ·split at h;·rename_i f;simp only[ah,aB]at h;obtain⟨rfl,rfl⟩:=h;exact Agy hs e f
    ·simp only[ah,aB]at h;obtain⟨rfl,rfl⟩:=h;exact AAj hs (.inl e)
  ·simp only[ah,aB]at h;obtain⟨rfl,rfl⟩:=h;exact⟨.value (a.eval x),w,a.put o.dst (a.eval x),O,by simp[execOp,e],λK Q R=>R,put_defers _ _ _,Ext.refl _ _ _,av _,hs.putStrip o.dst (hs.rd o.type x)⟩
 ·rename_i x e;split at h
  ·split at h;·rename_i f;simp only[ah,aB]at h;obtain⟨rfl,rfl⟩:=h;exact AVC hs f
   ·split at h;·rename_i z f;simp only[ah,aB]at h;obtain⟨rfl,rfl⟩:=h;exact AYH hs e f
    ·simp only[ah,aB]at h;obtain⟨rfl,rfl⟩:=h;exact AAj hs (.inr e)
  ·simp only[ah,aB]at h;obtain⟨rfl,rfl⟩:=h;exact AAj hs (.inr e)
 ·rename_i t e;split at h;·cases f:Xj E.P t st.next with|none=>grind|some z=>simp only[f,aP,ah,aB]at h;obtain⟨rfl,rfl⟩:=h;grind[AWW]
  ·cases f:Ci E.P t st.next with|none=>grind|some z=>simp only[f,aP,ah,aB]at h;obtain⟨rfl,rfl⟩:=h;grind[Aal]
 ·rename_i t x e;split at h;·rename_i G;simp only[ah,aB]at h;obtain⟨rfl,rfl⟩:=h;grind[AbV]
  grind
 ·rename_i t ps e;cases f:V4 E t (Bg E (AQ E.P t) af ps).2 with|none=>grind|some z=>simp only[f,aP,ah,aB]at h;obtain⟨rfl,rfl⟩:=h;grind[AaN]
 ·rename_i t len ps e;split at h;·cases f:Js E t len (Bg E (λ_=>AQ E.P t 0) af ps).2 with|none=>grind|some z=>obtain⟨z,cs⟩:=z;simp only[f,aP,ah,aB]at h;obtain⟨rfl,rfl⟩:=h;grind[AAT]
  cases f:Ik E t len (Bg E (λ_=>AQ E.P t 0) af ps).2 with|none=>grind|some z=>simp only[f,aP,ah,aB]at h;obtain⟨rfl,rfl⟩:=h;grind[ACC]
 ·rename_i t x e;split at h;·cases f:Tc E t (rd E af 0 x) st with|none=>grind|some z=>obtain⟨r,s⟩:=z;simp only[f,aP,ah,aB]at h;obtain⟨rfl,rfl⟩:=h;grind[AUH]
  ·cases f:Tm E t (rd E af 0 x) st with|none=>grind|some z=>simp only[f,aP,ah,aB]at h;obtain⟨rfl,rfl⟩:=h;grind[AjA]
 ·rename_i t x y e;split at h;·rename_i hd;cases f:QA E t (rd E af 0 x) (rd E af t y) st with|none=>grind|some z=>simp only[f,aP,ah,aB]at h;obtain⟨rfl,rfl⟩:=h;exact Aaw hs e (by simp_all) f
  grind
 ·rename_i t n e;split at h;·rename_i vs V;cases f:vs[n]? with|none=>grind|some z=>simp only[f,aP,ah,aB]at h;obtain⟨rfl,rfl⟩:=h;exact AP6 hs e V f
  grind
 ·rename_i t x e;split at h
  ·rename_i s G;split at h;·rename_i W;simp only[ah,aB]at h;obtain⟨rfl,rfl⟩:=h;grind[Abh]
   grind
  grind
 ·rename_i t e;split at h;·rename_i s pos G;simp only[ah,aB]at h;obtain⟨rfl,rfl⟩:=h;grind[Ae2]
  grind
 ·rename_i t x lo hi mx e;split at h
  ·rename_i l S m H I C;split at h;·rename_i r f;simp only[ah,aB]at h;obtain⟨rfl,rfl⟩:=h;exact AbK hs e H I C f
   ·cases f:TN E t (rd E af t x) l S m st with|none=>rw[f]at h;cases h|some z=>simp only[f,aP,ah,aB]at h;obtain⟨rfl,rfl⟩:=h;exact ARt hs e H I C f
  grind
 ·rename_i x y j A ts e;split at h
  ·split at h;·rename_i z f;simp only[ah,aB]at h;obtain⟨rfl,rfl⟩:=h;grind[AQh]
   ·cases f:appW E x j A (rd E af j x) (rd E af A y) st with|none=>rw[f]at h;cases h|some z=>obtain⟨r,s⟩:=z;simp only[f,aP,ah,aB]at h;obtain⟨rfl,rfl⟩:=h;exact Afp hs e f
  split at h;·rename_i z f;simp only[ah,aB]at h;obtain⟨rfl,rfl⟩:=h;grind[ATg]
  ·cases f:ABo E j A (rd E af j x) (rd E af A y) st with|none=>rw[f]at h;cases h|some z=>simp only[f,aP,ah,aB]at h;obtain⟨rfl,rfl⟩:=h;exact AG3 hs e f
 ·rename_i x j ts e;split at h;·rename_i r f;simp only[ah,aB]at h;obtain⟨rfl,rfl⟩:=h;grind[Wo]
  ·cases f:ADl E j (rd E af j x) st with|none=>rw[f]at h;cases h|some z=>simp only[f,aP,ah,aB]at h;obtain⟨rfl,rfl⟩:=h;exact AgK hs e f
 ·rename_i t e;simp only[ah,aB]at h;obtain⟨rfl,rfl⟩:=h;grind[AJ6]
 ·rename_i t m k L e;cases f:Vu E t (rd E af t m) (rd E af 0 k) L st with|none=>grind|some z=>simp only[f,aP,ah,aB]at h;obtain⟨rfl,rfl⟩:=h;grind[Aa4]
 ·rename_i t m k x e;split at h;·rename_i hd;cases f:Wz E t (rd E af t m) (rd E af 0 k) (rd E af 0 x) st with|none=>grind|some z=>simp only[f,aP,ah,aB]at h;obtain⟨rfl,rfl⟩:=h;exact AFy hs (.inl e) (by simp_all) f
  grind
 ·rename_i t m k x e;split at h;·rename_i hd;cases f:Wz E t (rd E af t m) (rd E af 0 k) (rd E af 0 x) st with|none=>grind|some z=>simp only[f,aP,ah,aB]at h;obtain⟨rfl,rfl⟩:=h;exact AFy hs (.inr e) (by simp_all) f
  grind
 ·rename_i t x i e;split at h;·rename_i r f;simp only[ah,aB]at h;obtain⟨rfl,rfl⟩:=h;grind[Wo]
  ·split at h;·rename_i r f;simp only[ah,aB]at h;obtain⟨rfl,rfl⟩:=h;grind[ACA]
   ·cases f:Ry E t (rd E af t x) (rd E af 0 i) st with|none=>rw[f]at h;cases h|some z=>simp only[f,aP,ah,aB]at h;obtain⟨rfl,rfl⟩:=h;exact ATk hs e f
 ·rename_i t x y e;split at h;·cases f:ZC E t (rd E af 0 x) (rd E af 0 y) st with|none=>grind|some z=>simp only[f,aP,ah,aB]at h;obtain⟨rfl,rfl⟩:=h;grind[AZr]
  ·cases f:Zw E t (rd E af 0 x) (rd E af 0 y) st with|none=>grind|some z=>simp only[f,aP,ah,aB]at h;obtain⟨rfl,rfl⟩:=h;grind[AdV]
 ·rename_i s d x e;split at h;·rename_i r f;simp only[ah,aB]at h;obtain⟨rfl,rfl⟩:=h;grind[Wo]
  ·split at h;·rename_i r f;simp only[ah,aB]at h;obtain⟨rfl,rfl⟩:=h;grind[Aaq]
   ·cases f:Tw E s d (rd E af s x) st with|none=>grind|some z=>simp only[f,aP,ah,aB]at h;obtain⟨rfl,rfl⟩:=h;grind[Aaj]
 ·rename_i x j ts e;cases f:VB (rd E af j x)with|none=>grind|some z=>simp only[f,aP,ah,aB]at h;obtain⟨rfl,rfl⟩:=h;grind[AYO]
 ·rename_i x y j A e;cases f:ZK E j (rd E af j x) (rd E af A y)with|none=>grind|some z=>simp only[f,aP,ah,aB]at h;obtain⟨rfl,rfl⟩:=h;grind[AiV]
 ·cases f:D8 E o af with|none=>grind|some z=>simp only[f,aP,ah,aB]at h;obtain⟨rfl,rfl⟩:=h;grind[Wo]
end
def rdL (E:Env) (af:List AVal):List Operand->List TypeId->List AVal|[],_=>[]|x::xs,[]=>rd E af 0 x::rdL E af xs []|x::xs,t::ts=>rd E af t x::rdL E af xs ts
def callable (P:Program) (g:FuncId):Bool:=match P.funcs[g]? with | some fn=>fn.name != "runtime.NumGoroutine" && fn.body.isSome|none=>false
def AyA (E:Env) (g:FuncId) (args:List AVal) (st:St) (Q:AVal->St->Prop):Prop:=∃ fn e r,E.P.funcs[g]? = some fn/\(fn.name == "runtime.NumGoroutine") = false/\fn.body.isNone = true/\Extern.findNext fn = none/\Extern.find fn = some e/\(∀O vs w,RepL O args vs->∃v,(e vs.toArray).run E.P w=.ok v w/\Rep O r v)/\Q r.strip st
def Ay4 (E:Env) (g:FuncId) (args:List AVal) (st:St) (Q:AVal->St->Prop):Prop:=∃ fn ps t el,∃ n : Nat,E.P.funcs[g]? = some fn/\(fn.name == "runtime.NumGoroutine") = false/\fn.body.isNone = true/\Extern.findNext fn = none/\Extern.find fn = some (Extern.BytealgMakeNoZero.makeNoZero ps #[t])/\E.P.underlying t=some (.slice el)/\1<=n/\n<=140737488355328/\args=[.int .i64 n]/\Q (.trow el st.next n) {m:=(st.next,[.any])::st.m,next:=st.next+1}
def ABj (E:Env) (g:FuncId) (e:List AVal) (st:St) (Q:AVal->St->Prop):Prop:=AyA E g e st Q\/Ay4 E g e st Q
def ACU: ∀(n t:Nat) (acc:Array Value),(∀v,v∈acc.toList->v.oneCell'=true)->∀v,v∈(Extern.BytealgMakeNoZero.digits n t acc).toList->v.oneCell'=true
 |0,_,_,h=>h
 |n+1,t,acc,h=>by
  rw[Extern.BytealgMakeNoZero.digits];refine ACU n _ _ λv e=>?_;rw[Array.toList_push,aZ]at e;rcases e with e|e;·grind
  ·rw[aV]at e;subst e;rfl
def AxB{P:Program} (w:World) (ps:Array TypeId) (t e:TypeId) (ht:P.underlying t=some (.slice e)) (n:Nat) (hn:n<=281474976710656):
    ∃cs:Array Value,(Extern.BytealgMakeNoZero.makeNoZero ps #[t] #[.int .i64 n]).run P w=.ok (.slice (some ⟨w.heap.size,0,none⟩) n cs.size) (w.drew.drew.alloc (.cells cs e))/\n<=cs.size/\ ∀v,v∈cs.toList->v.oneCell'=true:=by
  have h1: ¬(n:Int)<0:=fM
  have h2: ¬(281474976710656:Int)<(n:Int):=fM
  refine ⟨Extern.BytealgMakeNoZero.digits (grownCap w n 0 e) ((Question.extern "internal/bytealg.MakeNoZero.bytes" 0).cut (w.tape (w.drawn + 1) (.extern "internal/bytealg.MakeNoZero.bytes" 0))) #[], ?_, ?_, ACU _ _ _ fN⟩
  . show Sem.run P (do
        let TypeDesc.slice el<-underlying t|stuck _
        if(n:Int)<0||(n:Int)>2^48 then runtimePanic _
        let c<-choose (.appendCap (n:Int).toNat 0 el)
        askRoom c
        let bs<-choose (.extern _ 0)
        let a<-newRow el (Extern.BytealgMakeNoZero.digits c bs #[])
        pure (Value.slice (some a) (n:Int).toNat c):Sem Value) w=_
    simp[aI ht,h1,h2,Question.forced,newRow,Go.Lib.size_digits,grownCap]
  grind[Go.Lib.size_digits,grownCap_ge]
def CallX (E:Env) (g:FuncId) (e:List AVal) (st:St) (Q:AVal->St->Prop):Prop:=if callable E.P g=true then AE E g e st Q else ABj E g e st Q
def CallX.mono{E:Env}{st:St}{g:FuncId}{f:List AVal}{Q P:AVal->St->Prop} (h:CallX E g f st Q) (k: ∀r j,st.next<=j.next->Q r j->P r j):CallX E g f st P:=by
 unfold CallX at *;split;·rename_i G;rw[an G]at h;exact h.mono k
 ·rename_i G;rw[aj G]at h;rcases h with h|h;·obtain⟨A,e,r,H,M,l,C,I,L,z⟩:=h;exact .inl ⟨A,e,r,H,M,l,C,I,L,k _ _ (av _) z⟩
  ·obtain⟨A,ps,t,R,n,H,M,l,C,I,L,z,S,U,B⟩:=h;exact .inr ⟨A,ps,t,R,n,H,M,l,C,I,L,z,S,U,k _ _ (Nat.le_succ _) B⟩
def U2:AVal->Bool|.gsl _ _ _=>true|_=>false
def ACz (x y:AVal):Bool:=U2 y||U2 x
def XH:BinOp->Operand->Bool|.eql,.const (.slice none 0 0)=>true|_,_=>false
def Apf (b:Bool) (v:AVal) (K:AVal->Prop):Prop:=match b,v with|true,.slice _ xs _=>∀c:Bool,(c=true->xs=[])->K (.bool c)|_,_=>False
def DN (E:Env) (mv:List Tmp) (o:Oper) (af:List AVal) (st:St) (K:List AVal->St->Prop):Prop:=match o.op with
 |.call {callee:=.value f,args,argTypes}=>match rd E af 0 f with|.fn (.func g) p q=>CallX E g (stripL (p++rdL E af args.toList argTypes.toList++q)) st λr e=>K (Ae af o.dst r) e|_=>False
 |.call {callee:=.builtin .append,args:=⟨[x,y]⟩,argTypes:=⟨t0::t1::_⟩}=>if ACz (rd E af t0 x) (rd E af t1 y)=true then match appG E t0 t1 (rd E af t0 x) (rd E af t1 y) st with|some (wd,l,cs,rest,jo)=>∀i,i=st.next\/jo=some i->K (Ae af o.dst (.gsl wd i l)) {m:=(i,cs)::rest,next:=st.next+1}|none=>False else match Ej E mv o af st with|some (af',e)=>K af' e|none=>False
 |.binOp op t x y _=>if XH op y=true then Apf (Ba E.P t) (rd E af t x) λv=>K (Ae af o.dst v) st else match Ej E mv o af st with|some (af',e)=>K af' e|none=>False
 |_=>match Ej E mv o af st with|some (af',e)=>K af' e|none=>False
def A3v (E:Env) (o:Oper) (af:List AVal) (st:St) (K:List AVal->St->Prop):Prop:=∀(F:Nat->Nat) (O:At) (w:World) (a:Act),a.defers=[]->Sim E F O st w af a.tmps.toList->∀(h:Act->World->Prop) (j:Exit->Act->World->Prop),(∀O' af' e f w',Ext F O w O' w'->st.next<=e.next->f.defers=[]->Sim E F O' e w' af' f.tmps.toList->K af' e->h f w')->o.wp E.P a w h j
section
variable{E:Env}{F:Nat->Nat}{O:At}{st:St}{w:World}{af:List AVal}{a:Act}
def RepL.append{xs ys:List AVal}{us vs:List Value} (h:RepL O xs us) (k:RepL O ys vs):RepL O (xs++ys) (us++vs):=by induction xs generalizing us with|nil=>cases h;exact k|cons x xs e=>cases h with|cons h t=>exact .cons h (e t)
def AQW (hs:Sim E F O st w af a.tmps.toList): ∀(xs:List Operand) (ts:List TypeId),RepL O (rdL E af xs ts) (xs.map a.eval)|[],_=>.nil|x::xs,[]=>.cons (hs.rd _ x) (AQW hs xs [])|x::xs,t::ts=>.cons (hs.rd _ x) (AQW hs xs ts)
def Sim.aside (hs:Sim E F O st w af a.tmps.toList){xs:List AVal}{vs:List Value} (B:RepL O xs vs):Sim E (λb=>F b+AR b af a.tmps.toList) O st w (stripL xs) vs:=by
 refine {hs with bx_F:=?_,F_lt:=?_,rep:=B.strip,own:=K3 _ _ _ _,tok:=?_}
 ·intro p b hp j;have G:=hs.bx_F p b hp j;have A:AR b af a.tmps.toList=0:=by
   rcases bf 0 (AR b af a.tmps.toList)with h|h
   ·rcases hs.box_ok p hp with⟨L,arr,e,f⟩|⟨v,I⟩;rotate_left;·have:=I.bx;grind
    have:=f.bx;rw[j]at this;cases this;rcases (CG _ _ hs.own h).2 with⟨c,l⟩|⟨H,C,l⟩|⟨H,C,l⟩;·rw[f.com]at l;grind
    ·obtain⟨lo,hi,z,_⟩:=f.heap;grind
    ·obtain⟨lo,hi,z,_⟩:=f.heap;grind
   omega
  omega
 ·intro b j;have G:=hs.F_lt b j;have A:AR b af a.tmps.toList=0:=by
   rcases bf 0 (AR b af a.tmps.toList)with h|h;·have:=(CG _ _ hs.own h).1;omega
   omega
  omega
 ·intro b;have:=hs.tok b;grind[JK]
def Sim.back (hs:Sim E F O st w af a.tmps.toList){O':At}{f:St}{w':World}{r:AVal}{v:Value} (A:Ext (λb=>F b+AR b af a.tmps.toList) O w O' w') (h:Sim E (λb=>F b+AR b af a.tmps.toList) O' f w' [r] [v]) (e:Option Tmp):Sim E F O' f w' (Ae af e r) (a.put e v).tmps.toList:=by
 have l:ownL O' w' af a.tmps.toList:=Bz A.le _ _ hs.own λb z=>A.keep b fM;have j:Sim E F O' f w' af a.tmps.toList:=by
  refine {h with bx_F:=?_,F_lt:=?_,rep:=hs.rep.mono A.le,own:=l,tok:=?_};·intro p b hp z;have:=h.bx_F p b hp z;omega
  ·intro b z;have:=h.F_lt b z;omega
  ·intro b;have:=h.tok b;omega
 have B:Rep O' r v:=by have:=h.rep;cases this;omega
 have C:VM.own O' w' r v:=by have:=h.own;grind[ownL]
 refine j.put e B C λb=>?_;have:=h.tok b;grind[AR,cnt]
def AEZ{P:Program}{w:World}{t e:TypeId} (h:P.underlying t=some (.slice e)) (p:Option Addr) (n k:Nat):(binOp .eql t (.slice p n k) (.slice none 0 0)).run P w=.ok (.bool p.isNone) w:=by
 have key: ∀d:Nat,(Op.equalIn (d+1) t (.slice p n k) (.slice none 0 0)).run P w=.ok p.isNone w:=λd=>by cases p<;>simp[Op.equalIn,aI h]
 simp_all[binOp,Op.equal,Op.maxDepth]
def Abs{e:BinOp}{y:Operand} (h:XH e y=true):e=.eql/\y=.const (.slice none 0 0):=by
 unfold XH at h;split at h;·exact⟨rfl,rfl⟩
 ·cases h
theorem YL {mv:List Tmp}{o:Oper}{K:List AVal->St->Prop} (h:DN E mv o af st K):A3v E o af st K:=by
 intro F O w a hd hs K' Qx hK;unfold DN at h;split at h
 ·rename_i f args ts hop;have hf:=hs.rd 0 f;split at h
  ·rename_i g p q e;rw[e]at hf;generalize hfv:a.eval f=fv at hf;cases hf with
   | fn hp hq=>
    rename_i vp vq;have hargs:=AQW hs args.toList ts.toList;have hall:=hp.append (hargs.append hq);rw[<-aJ]at hall;unfold CallX at h;split at h;rotate_left
    ·rcases h with h|h
     ·obtain⟨fn,e2,r,h1,h2,h3,h4,h5,h6,h7⟩:=h;obtain⟨v,hv,hr⟩:=h6 O (vp.toList++args.toList.map a.eval++vq.toList) w (by have:=hall.strip;grind);have harr:(vp.toList++args.toList.map a.eval++vq.toList).toArray=vp++args.map a.eval++vq:=by simp
      rw[harr]at hv;have hrun:(execOp a.eval o).run E.P w=.ok (.value v) w:=by grind[run_callFunc_extern,execOp,resolve,Deferred.ofValue,Sem.run_bind,Sem.run_pure,Result.andThen_ok,invoke]
      unfold Oper.wp;rw[hrun];exact hK O _ st (a.put o.dst v) w (Ext.refl _ _ _) (av _) (by grind[put_defers]) (hs.putStrip o.dst hr) h7
     ·obtain⟨fn,ps,t,el,n,h1,h2,h3,h4,h5,h6,h7,h8,h9,h10⟩:=h;have hst:=hall.strip;have harr:(vp.toList++args.toList.map a.eval++vq.toList).toArray=vp++args.map a.eval++vq:=by simp
      obtain⟨v0,hv0,hrv⟩: ∃v0,vp.toList++args.toList.map a.eval++vq.toList=[v0]/\Rep O (.int .i64 n) v0:=by
       have hst':RepL O [.int .i64 n] (vp.toList++args.toList.map a.eval++vq.toList):=by grind
       generalize vp.toList++args.toList.map a.eval++vq.toList=vs at hst';cases hst' with|cons q t=>cases t;grind
      cases hrv;rw[hv0]at harr;obtain⟨cs,r1,r2,r3⟩:=AxB (P:=E.P) w ps t el h6 n fM;have hrun:(execOp a.eval o).run E.P w=.ok (.value (.slice (some ⟨w.drew.drew.heap.size,0,none⟩) n cs.size)) (w.drew.drew.alloc (.cells cs el (0,0))):=by have hcf:=run_callFunc_extern (P:=E.P) h1 h2 h3 h4 h5 (vp++args.map a.eval++vq) w;rw[<-harr]at hcf;rw[r1]at hcf;simp only[execOp,hop,resolve,hfv,Deferred.ofValue,aL,bz,aD,invoke];rw[<-harr,hcf];rfl
      have hx:Ext F O w O w.drew.drew:=⟨O.le_refl,λ_ _=>⟨rfl,rfl⟩,av _,rfl,rfl,rfl⟩;obtain⟨nx,w',a',O',hp⟩:=ABi (o:=o) (r:=.trow el st.next n) (w1:=w.drew.drew) (cells:=cs) (e:=el) (cs:=[.any]) (fz:=(0,0)) (cap:=cs.size) (len:=n) hs hs.drew.drew hx fN (by
       have hl:1<=cs.toList.length:=by grind
       match hc:cs.toList,hl with|v::vs,_=>exact .cons (.any v) .nil) (λv hv=>r3 v (dv hv)) (λx hx=>by grind[VM.own,cnt]) (λO' q1 q2=>.trow q1 q2 ⟨r2,by grind[Ca]⟩ rfl) (λ_ _ _=>by simp[VM.own]) (λ_ _=>by simp[cnt]) hrun;unfold Oper.wp;rw[hp.run];exact hp.upon _ _ (hK O' _ _ a' w' hp.ext hp.next (by rw[hp.defers];omega) hp.sim h10)
    rename_i hcall;have hac:=h;have hrun:(execOp a.eval o).run E.P w=.ok (.enter g (vp++args.map a.eval++vq)) w:=by
     unfold callable at hcall;split at hcall
     ·rename_i fn hfn;simp only[aw,fj,eA]at hcall;have hb:fn.body.isNone=false:=by have:=hcall.2;cases hfb:fn.body<;>simp_all
      simp only[execOp,hop,resolve,hfv,Deferred.ofValue,aL,bz,aD,invoke,callFunc,run_program,hfn];have hname : (fn.name == "runtime.NumGoroutine") = false:=by grind
      simp only[hname,hb,ap,aA];rfl
     grind
    have key:=hac.go (λb=>F b+AR b af a.tmps.toList) O w (vp++args.map a.eval++vq) (by have e2:(vp++args.map a.eval++vq).toList=vp.toList++(args.toList.map a.eval++vq.toList):=fN;rw[e2,<-aJ];refine hs.aside ?_;grind);unfold Oper.wp;rw[hrun,Oper.upon_enter];refine key.mono ?_;rintro e' w' ⟨v,rfl,O',r,st',x1,n1,s1,q1⟩;exact hK O' _ st' (a.put o.dst v) w' (x1.less λb=>by omega) n1 (by grind[put_defers]) (hs.back x1 s1 o.dst) q1
  grind
 ·rename_i x y t0 t1 ts hop;split at h
  ·split at h;·rename_i wd l cs rest jo hab;obtain⟨i,hi,nx,w',a',O',hp⟩:=Afa hs hop hab;unfold Oper.wp;rw[hp.run];exact hp.upon _ _ (hK O' _ _ a' w' hp.ext hp.next (by rw[hp.defers];omega) hp.sim (h i hi))
   grind
  ·split at h;·rename_i af' st' hst;obtain⟨nx,w',a',O',hp⟩:=Un hs hst;unfold Oper.wp;rw[hp.run];exact hp.upon _ _ (hK O' af' st' a' w' hp.ext hp.next (by rw[hp.defers];omega) hp.sim h)
   grind
 ·rename_i op t x y _ hop;split at h
  ·rename_i hn;obtain⟨rfl,rfl⟩:=Abs hn;have hx:=hs.rd t x;unfold Apf at h;split at h
   ·rename_i xs ow ht hr;rw[hr]at hx;obtain⟨e,hu⟩: ∃e,E.P.underlying t=some (.slice e):=by grind[Ba]
    have main: ∀(p:Option Addr) (n k:Nat),a.eval x=.slice p n k->(p.isNone=true->xs=[])->o.wp E.P a w K' Qx:=by
     intro p n k hv hc;have hrun:(execOp a.eval o).run E.P w=.ok (.value (.bool p.isNone)) w:=by simp only[execOp,hop];have hc:a.eval (.const (.slice none 0 0))=.slice none 0 0:=rfl;simp[hv,hc,eqGuard,AEZ hu]
     unfold Oper.wp;rw[hrun];exact hK O _ st (a.put o.dst (.bool p.isNone)) w (Ext.refl _ _ _) (av _) (by grind[put_defers]) (hs.putStrip o.dst (.bool _)) (h _ hc)
    generalize hv:a.eval x=v at hx;cases hx with|snil w o a=>simp_all|slice=>grind
   grind
  ·split at h;·rename_i af' st' hst;obtain⟨nx,w',a',O',hp⟩:=Un hs hst;unfold Oper.wp;rw[hp.run];exact hp.upon _ _ (hK O' af' st' a' w' hp.ext hp.next (by rw[hp.defers];omega) hp.sim h)
   grind
 ·split at h;·rename_i af' st' hst;obtain⟨nx,w',a',O',hp⟩:=Un hs hst;unfold Oper.wp;rw[hp.run];exact hp.upon _ _ (hK O' af' st' a' w' hp.ext hp.next (by rw[hp.defers];omega) hp.sim h)
  grind
def gd (x:AVal) (e:Bool):Option Bool:=match x with|.bool b=>some (b==e)|.tuple []=>some false|_=>none
def gdA (ops:Array Oper) (af:List AVal) (j:Nat) (e:Bool):Option Bool:=match(ops[j]?).bind (·.dst)with|some d=>gd (af.getD d .any) e|none=>none
def NL (E:Env) (mv:List Tmp) (ops:Array Oper):List Oper->(List AVal->St->Prop)->List AVal->St->Prop|[],K,af,st=>K af st|o::rest,K,af,st=>match o.guard with|none=>DN E mv o af st (NL E mv ops rest K)|some (j,want)=>match gdA ops af j want with|some true=>DN E mv o af st (NL E mv ops rest K)|some false=>NL E mv ops rest K (Ae af o.dst (.tuple [])) st|none=>False
def Wl (hs:Sim E F O st w af a.tmps.toList){ops:Array Oper}{j:Nat}{f t:Bool} (h:gdA ops af j f=some t):(yielded ops a.tmps j==some f)=t:=by
 unfold gdA at h;split at h
 ·rename_i d hd;have l:=hs.rep.get d undef;unfold yielded;rw[hd];simp only[aa];unfold gd at h;have A:d<a.tmps.size:=by
   rcases bf d a.tmps.size with h'|h';·omega
   ·have:af.length=a.tmps.size:=by rw[hs.rep.length,aE]
    grind
  have e:a.tmps.toList.getD d undef=a.tmps[d]:=by grind
  rw[e]at l;rw[cL A];generalize a.tmps[d]=v at l;split at h;·rename_i b z;rw[z]at l;cases l;grind[Option.some.injEq]
  ·rename_i z;rw[z]at l;cases l;grind
  grind
 grind
def RY{ops:Array Oper}{o:Oper}{e:Array Value}{j:Nat}{f:Bool} (h:o.guard=some (j,f)):Region.wanted o (yielded ops e)=(yielded ops e j==some f):=by grind[Region.wanted]
def Sim.skipped (hs:Sim E F O st w af a.tmps.toList) (d:Option Tmp):Sim E F O st w (Ae af d (.tuple [])) (a.put d undef).tmps.toList:=hs.put d (r:=.tuple []) (v:=undef) (.tuple .nil) (by simp[VM.own,undef,ownL]) λn=>by have:=hs.tok n;grind[cnt,undef,AR]
def ARw{mv:List Tmp}{ops:Array Oper}{Qc:Exit->Act->World->Prop}: ∀(rest:List Oper) (i:Nat),ops.toList.drop i=rest->∀ {K:List AVal->St->Prop}{F:Nat->Nat}{O:At}{st:St}{w:World}{af:List AVal}{a:Act},a.defers=[]->Sim E F O st w af a.tmps.toList->NL E mv ops rest K af st->(∀O' af' e A w',Ext F O w O' w'->st.next<=e.next->A.defers=[]->Sim E F O' e w' af' A.tmps.toList->K af' e->Qc .normal A w')->wpOps E.P ops Qc (List.range' i rest.length) a w:=by
 intro rest;induction rest with
 |nil=>intro i hi K F O st w af a hd hs h B;exact B O af st a w (Ext.refl _ _ _) (av _) hd hs h
 | cons o rest ih=>
  intro i hi K F O st w af a hd hs h B;have U:ops[i]?=some o:=by
   have:ops.toList[i]?=some o:=by have:=br (·[0]?) hi;grind
   grind
  have z:ops.toList.drop (i+1)=rest:=by grind[List.tail_drop]
  rw[ae,dc];simp only[wpOps,U];have go:DN E mv o af st (NL E mv ops rest K)->o.wp E.P a w (wpOps E.P ops Qc (List.range' (i+1) rest.length)) Qc:=λh=>YL h F O w a hd hs _ _ λO' af' e A w' x1 X Y Z k1=>ih (i+1) z Y Z k1 λC af2 f R G H M S I L=>B C af2 f R G (x1.trans H) (bK X M) S I L;simp only[NL]at h;split at h;·simp_all[Region.wanted]
  ·rename_i j V W;split at h;·rename_i l;rw[an (by rw[RY W,Wl hs l])];grind
   ·rename_i l;rw[aj (by rw[RY W,Wl hs l];simp)];exact ih (i+1) z (by grind[put_defers]) (hs.skipped o.dst) h λC af2 f R G H M S I L=>B C af2 f R G H M S I L
   grind
def X5{Q:APost}{l:Nat}{ops:Array Oper} (mv:List Tmp) (h:NL E mv ops ops.toList (λaf st=>Q .normal af st) af st):AWp E (.region l ops false) Q af st:=by constructor;intro F O w a hd hs;refine wp_region ?_;have key:=ARw (Qc:=lift E F O w st.next Q) ops.toList 0 rfl hd hs h λO' af' e C w' j z A f B=>⟨trivial,A,O',af',e,j,z,f,B⟩;grind[Array.length_toList,List.range_eq_range']
def ASV{Q:APost}{c:Operand}{x y:Code} (b:Bool) (f:rd E af 0 c=.bool b) (h:if b=true then AWp E x Q af st else AWp E y Q af st):AWp E (.cond c x y) Q af st:=by
 constructor;intro F O w a hd hs;have e:=hs.rd 0 c;rw[f]at e;generalize j:a.eval c=v at e;cases e;refine wp_cond j ?_;cases b;·exact h.go F O w a hd hs
 ·exact h.go F O w a hd hs
def Agk{Q:APost}{c:Code}{m:List (Nat×List AVal)} (e:m.Sublist st.m) (h:AWp E c Q af {st with m:=m}):AWp E c Q af st:=⟨λF O w a hd hs=>h.go F O w a hd (hs.fewer e)⟩
def Yn (E:Env) (t:TypeId) (e:AVal) (st:St):Option (AVal×St):=
  match e with
  | .ptr i 0=>
    match Aj st.m i with
    | some cs=>
      if Ai E.P t=true then
        if BI E.P t=true then(if BV E.P t=some cs.length then some (.agg cs,{st with m:=A9 st.m i (stripL cs)})else none)
        else match cs with
          |[c]=>some (c,{st with m:=A9 st.m i (stripL cs)})
          |_=>none
      else none
    |none=>none
  |_=>none
def Sm (E:Env):List ResultVar->List AVal->St->Option (List AVal×St)|[],af,st=>some ([],st)|.tmp t::rs,af,st=>(Sm E rs (stripAt af (.tmp t)) st).map λp=>(af.getD t .any::p.1,p.2)|.cell i t::rs,af,st=>match Yn E t (af.getD i .any) st with|some (r,st')=>(Sm E rs af st').map λp=>(r::p.1,p.2)|none=>none
def Ko (E:Env) (f:Func) (Q:AVal->St->Prop):APost:=λe af st=>
  match e with
  | .normal|.ret=>
    match Sm E f.results.toList af st with
    |some (rs,st')=> ∃m,m.Sublist st'.m/\Q (match rs with|[r]=>r|rs=>.tuple rs) {st' with m:=m}
    |none=>False
  |_=>False
end
end Go.VM
namespace Go.VM
section
variable{E:Env}{F:Nat->Nat}{O:At}{st:St}{w:World}{af:List AVal}{a:Act}
def AEe (hs:Sim E F O st w af a.tmps.toList){t:TypeId}{x:AVal}{v:Value}{r:AVal}{l:St} (hx:Rep O x v) (h:Yn E t x st=some (r,l)):∃u,(do loadVar t (<-asAddr v):Sem Value).run E.P w=.ok u w/\Rep O r u/\VM.own O w r u/\Sim E F O l w af a.tmps.toList/\l.next=st.next/\∀b,cnt b r u+Aq O w b l.m=Aq O w b st.m:=by
 unfold Yn at h;split at h
 ·rename_i i;cases hx with
  |ptr R=>
   rename_i b;split at h
   ·rename_i cs S;split at h
    ·rename_i hk;obtain⟨I,arr,e,B⟩:=hs.box S R;have:I=b:=by have:=B.bx;grind
     subst this;obtain⟨lo,hi,hh,hf⟩:=B.heap;obtain⟨L,hL⟩: ∃L,L=arr.toList.take cs.length:=⟨_,rfl⟩;have f:RepL O cs L:=by rw[hL];exact B.rep
     have Y: ∀v,v∈L->v.oneCell'=true:=by rw[hL];exact B.one
     have U:VM.ownL O w cs L:=by rw[hL];exact(Oe O w cs arr.toList).2 B.own
     have M: ∀n,AR n cs L=AR n cs arr.toList:=λn=>by grind[Od]
     obtain⟨V,x1⟩:=hs.setBox (w':=w) (cs':=stripL cs) (arr':=arr) (lo:=lo) (hi:=hi) S B hh hf (λ_ _=>rfl) rfl rfl rfl rfl (by rw[Np];exact B.rep.strip) (K3 _ _ _ _) (by grind[Np]) (λn=>by rw[JK];have:=hs.tok n;omega);have X: ∀n,AR n cs arr.toList+Aq O w n (A9 st.m i (stripL cs))=Aq O w n st.m:=by intro n;have e1:=JQ (O:=O) (O':=O) (w:=w) (w':=w) (b:=n) (x:=stripL cs) hs.keys S (λp hp hne=>rfl);grind[DR,AR,hcells,stripL,JK]
     have A: ∀j u,L[j]?=some u->w.cell? ⟨I,0+j,none⟩=some u:=by intro j u G;rw[hL]at G;have G:=List.getElem?_take_some G;simp_all[World.cell?]
     have H:=Rs (w:=w) hk;split at h
     ·rename_i z;rw[z]at H;split at h;·rename_i Z;simp only[ah,aB]at h;obtain⟨rfl,rfl⟩:=h;have key:=dS (P:=E.P) w ⟨I,0,none⟩ L (λj v G=>by grind[addr_add]);rw[<-f.length]at key;refine⟨.agg L.toArray,?_,.agg fM fM,by grind[VM.own],V,rfl,λn=>by grind[cnt]⟩;simp[asAddr,loadVar,H,DW Z,key]
      grind
     ·rename_i z;rw[fd]at z;rw[z]at H;split at h
      ·rename_i c;simp only[ah,aB]at h;obtain⟨rfl,rfl⟩:=h;obtain⟨u,W,C⟩:=f.get? (i:=0) (x:=c) rfl;have h1:L=[u]:=by
        have:L.length=1:=by grind
        clear hL A;match L,this,W with|[x],_,W=>grind
       refine⟨u,?_,C,?_,V,rfl,λn=>?_⟩;·simp_all[asAddr,loadVar]
       ·grind[VM.ownL]
       grind[AR]
      grind
    grind
   grind
 grind
def AWA{m e:List (Nat×List AVal)} (h:m.Sublist e) (n:Nat):Aq O w n m<=Aq O w n e:=by induction h with|slnil=>omega|cons p _ f=>grind[Aq]|cons_cons p _ f=>grind[Aq]
def AJf (e:Array Value) (r:ResultVar):Sem Value:=match r with|.tmp t=>pure (e.getD t undef)|.cell i t=>do loadVar t (<-asAddr (e.getD i undef))
def AYh (f:List ResultVar): ∀ {af:List AVal}{st:St}{xs:List AVal}{e:St},Sim E F O st w af a.tmps.toList->Sm E f af st=some (xs,e)->∃vs,(f.mapM (AJf a.tmps)).run E.P w=.ok vs w/\RepL O xs vs/\ownL O w xs vs/\e.next=st.next/\∃af',Sim E F O e w af' a.tmps.toList/\∀b,AR b af' a.tmps.toList+AR b xs vs+Aq O w b e.m=AR b af a.tmps.toList+Aq O w b st.m:=by
 induction f with
 |nil=>intro af st xs e hs h;simp only[Sm,ah,aB]at h;obtain⟨rfl,rfl⟩:=h;exact⟨[],fN,.nil,by simp[ownL],rfl,af,hs,λb=>by simp[AR]⟩
 | cons x f ih=>
  intro af st xs e hs h;cases x with
  | tmp t=>
   simp only[Sm]at h;cases hr:Sm E f (stripAt af (.tmp t)) st with
   |none=>grind
   |some p=>
    simp only[hr,aP,ah,aB]at h;obtain⟨rfl,rfl⟩:=h;obtain⟨vs,A,z,G,C,af',l,B⟩:=ih (hs.stripAt (.tmp t)) hr;refine⟨a.tmps.getD t undef::vs,?_,.cons (hs.rd 0 (.tmp t)) z,?_,C,af',l,λb=>?_⟩;·rw[List.mapM_cons,aL];simp only[AJf,bz,aD];rw[aL,A];rfl
    ·rw[ownL];exact⟨hs.rd_own 0 (.tmp t),G⟩
    ·have:=B b;have:=hs.rd_cnt 0 (.tmp t) b;grind[rd,Act.eval,AR]
  | cell i t=>
   simp only[Sm]at h;split at h
   ·rename_i r j I;cases hr:Sm E f af j with
    |none=>grind
    |some p=>
     simp only[hr,aP,ah,aB]at h;obtain⟨rfl,rfl⟩:=h;obtain⟨u,M,H,U,L,S,R⟩:=AEe hs (hs.rd 0 (.tmp i)) I;obtain⟨vs,A,z,G,C,af',l,B⟩:=ih L hr;refine⟨u::vs,?_,.cons H z,by grind[ownL],fM,af',l,λb=>?_⟩;·rw[List.mapM_cons,aL];simp_all[Act.eval,AJf]
     grind[AR]
   grind
theorem Nh {f:FuncId}{B:Func}{c:Code}{z:List AVal}{Q:AVal->St->Prop} (hf:E.P.funcs[f]?=some B) (hb:B.body=some c)
    (h:AWp E c (Ko E B Q) (z++List.replicate (B.ntmps-z.length) .any) st):AE E f z st Q:=by
  constructor
  intro F O w j hs
  have hlen:z.length=j.size:=by rw[hs.rep.length,aE]
  have C: ∀n,RepL O (List.replicate n .any) (List.replicate n undef)/\ownL O w (List.replicate n .any) (List.replicate n undef)/\ ∀b,AR b (List.replicate n .any) (List.replicate n undef)=0:=by
    intro n
    induction n with
    |zero=>exact⟨.nil,by simp[ownL],λb=>by simp[AR]⟩
    |succ n ih=>exact⟨.cons (.any _) ih.1,by grind[ownL,VM.own],λb=>by grind[AR,cnt]⟩
  have L: ∀(xs:List AVal) (vs:List Value),xs.length=vs.length->ownL O w xs vs-> ∀n,ownL O w (xs++List.replicate n .any) (vs++List.replicate n undef)/\ ∀b,AR b (xs++List.replicate n .any) (vs++List.replicate n undef)=AR b xs vs:=by
    intro xs
    induction xs with
    |nil=>grind[AR]
    | cons x xs ih=>intro vs hl ho n;cases vs with
      |nil=>grind
      | cons v vs=>
        grind[ownL,AR]
  have htm:(j++Array.replicate (B.ntmps-j.size) undef).toList=j.toList++List.replicate (B.ntmps-z.length) undef:=by
    grind[Array.toList_append,Array.toList_replicate]
  refine calls_of_wp hf hb (fm (h.go F O w {tmps:=j++Array.replicate (B.ntmps-j.size) undef,defers:=[]} rfl ?_) ?_)
  . simp only
    rw[htm]
    obtain⟨o1,o2⟩:=L z j.toList hs.rep.length hs.own (B.ntmps-z.length)
    exact {hs with rep:=hs.rep.append (C _).1,own:=o1,tok:=λb=>by rw[o2 b];exact hs.tok b}
  . intro e V w' hq
    obtain⟨h0,hd,O',af',A,x1,n1,s1,X⟩:=hq
    have I:(match Sm E B.results.toList af' A with
        |some (R,A)=> ∃m,m.Sublist A.m/\Q (match R with|[r]=>r|R=>.tuple R) {A with m:=m}
        |none=>False)-> ∃v,(results B V.tmps).run E.P w'=.ok v w'/\ ∃v1,Ending.returned v=.returned v1/\ ∃O' r A,Ext F O w O' w'/\st.next<=A.next/\Sim E F O' A w' [r] [v1]/\Q r A:=by
      intro q
      split at q
      . rename_i R H M
        obtain⟨m,hm,hQ⟩:=q
        obtain⟨vs,r1,r2,r3,r4,af2,r5,r6⟩:=AYh B.results.toList s1 M
        have S:(results B V.tmps).run E.P w'=.ok (if h:vs.toArray.size=1 then vs.toArray[0]else .tuple vs.toArray) w':=by
          have e:results B V.tmps=(do
            let vs<-B.results.mapM (AJf V.tmps)
            pure (if h:vs.size=1 then vs[0]else .tuple vs)):=rfl
          rw[e,Array.mapM_eq_mapM_toList,aL,Sem.run_map,r1]
          rfl
        refine⟨_,S,_,rfl,O',_,{H with m:=m},x1,by grind,?_,hQ⟩
        have W:=r5.fewer hm
        have hcm: ∀n,Aq O' w' n m<=Aq O' w' n H.m:=λn=>AWA hm n
        have U: ∀b,F b+AR b R vs+Aq O' w' b m<=1:=by
          intro b
          have:=r6 b
          have:=s1.tok b
          grind
        cases r2 with
        | nil=>
          simp only[du,aq]
          exact {W with rep:=.cons (.tuple .nil) .nil,own:=by simp[ownL,VM.own],tok:=λb=>by grind[AR,cnt]}
        | cons G t=>
          cases t with
          | nil=>
            simp only[du,ae,aq,bJ,dite_true]
            exact {W with rep:=.cons G .nil,own:=r3,tok:=U}
          | cons hy t=>
            rename_i x v y u xs us
            have Z: ¬((v::u::us:List Value).toArray.size=1):=fN
            rw[dif_neg Z]
            have hrp:RepL O' (x::y::xs) (v::u::us):=.cons G (.cons hy t)
            exact {W with rep:=.cons (.tuple fM) .nil,own:=by grind[ownL,VM.own],tok:=λb=>by grind[AR,cnt]}
      grind
    cases e with
    |normal=>obtain⟨v,G,Y⟩:=I X;exact⟨hd,v,G,Y⟩
    |ret=>obtain⟨v,G,Y⟩:=I X;exact⟨hd,v,G,Y⟩
    |exit id=>exact X.elim
    |goto l=>grind
    |panic c=>grind
    |outgrown=>grind
end
end Go.VM
namespace Go.VM
section
variable{E:Env}{st:St}{af:List AVal}{Q:APost}
inductive kPost (K:List AVal->St->Prop) (Q:APost):APost|nrm{af:List AVal}{st:St} (h:K af st):kPost K Q .normal af st|oth{e:Exit}{af:List AVal}{st:St} (hne:e≠ .normal) (h:Q e af st):kPost K Q e af st
def kPost.get{K:List AVal->St->Prop} (h:kPost K Q .normal af st):K af st:=by cases h with|nrm h=>exact h|oth e h=>grind
def kPost.out{K:List AVal->St->Prop}{e:Exit} (h:kPost K Q e af st) (f:e≠ .normal):Q e af st:=by cases h with|nrm h=>grind|oth f h=>exact h
def Pm{K:List AVal->St->Prop} (h:K af st):kPost K Q .normal af st:=.nrm h
end
end Go.VM
namespace Go.VM
def slots (o:Oper):List Tmp:=o.op.operands.toList.filterMap λ|.tmp t=>some t|_=>none
def Su{o:Oper}{d:Tmp} (h:d∉slots o){x:Operand} (f:x∈o.op.operands):x≠ .tmp d:=by intro e;subst e;exact h (List.mem_filterMap.2 ⟨.tmp d,by grind,rfl⟩)
section
variable{E:Env}{af:List AVal}{st:St}{d:Tmp}{v:AVal}
theorem Bb{t:TypeId}{x:Operand} (h:x≠ .tmp d):rd E (af.set d v) t x=rd E af t x:=by cases x with|tmp i=>grind[rd,List.getD]|_=>rfl
def Jl{x:Operand} (h:x≠ .tmp d):stripAt (af.set d v) x=(stripAt af x).set d v:=by cases x with|tmp i=>grind[stripAt,List.set_comm,List.getD,List.getElem?_set_ne]|_=>rfl
theorem BG{f:Option Tmp} (h:f≠some d) (r:AVal):Ae (af.set d v) f r=(Ae af f r).set d v:=by cases f with|none=>rfl|some e=>grind[Ae,List.set_comm]
theorem ACG{x:Option Operand} (h: ∀y,x=some y->y≠ .tmp d):rdo E (af.set d v) x=rdo E af x:=by cases x with|none=>rfl|some y=>simp only[rdo,Bb (h y rfl)]
theorem ALp: ∀(xs:List Operand) (ts:List TypeId),(∀x,x∈xs->x≠ .tmp d)->rdL E (af.set d v) xs ts=rdL E af xs ts|[],_,_=>rfl|x::xs,[],h=>by simp only[rdL,Bb (h x fN),ALp xs [] (λy e=>h y (aY _ e))]|x::xs,t::ts,h=>by simp only[rdL,Bb (h x fN),ALp xs ts (λy e=>h y (aY _ e))]
theorem TG{ty:Nat->TypeId}: ∀(ps:List (Nat×Operand)){af:List AVal},(∀p,p∈ps->p.2≠ .tmp d)->(Bg E ty (af.set d v) ps).1=(Bg E ty af ps).1.set d v/\(Bg E ty (af.set d v) ps).2=(Bg E ty af ps).2|[],_,_=>⟨rfl,rfl⟩|(i,x)::ps,af,h=>by have e:=h (i,x) fN;obtain⟨f,j⟩:=TG ps (af:=stripAt af x) (λp hp=>h p (aY _ hp));simp only[Bg,Jl e,Bb e];exact⟨f,by rw[j]⟩
def Mh{o:Oper} (h:d∉slots o):D8 E o (af.set d v)=D8 E o af:=by
 have f:=λx=>Su h (x:=x);unfold D8;split;·grind[Op.operands,Bb]
 ·grind[Op.operands,Bb]
 ·grind[Op.operands,Bb]
 ·grind[Op.operands,Bb]
 ·grind[Op.operands,Bb]
 ·grind[Op.operands,rd,List.map_congr_left,Bb]
 ·grind[Op.operands,Bb]
 ·grind[Op.operands,Bb]
 ·grind[Op.operands,Bb]
 ·grind[Op.operands,Bb]
 ·grind[Op.operands,Call.operands,Bb]
 ·rename_i x y ts e;simp only[e,Op.operands,Call.operands]at f;grind[Bb]
 ·rename_i x y ts e;simp only[e,Op.operands,Call.operands]at f;grind[Bb]
 ·grind[Op.operands,Call.operands,Bb]
 ·rename_i x y t s e;simp only[e,Op.operands,Call.operands]at f;grind[Bb]
 ·rfl
def Afs{x:Operand} (h:x≠ .tmp d):nameV (af.set d v) x=nameV af x:=by cases x with|tmp i=>have:d≠i:=λe=>h (by rw[e]);simp[nameV,List.getD,cR this]|_=>rfl
def Ak6{b:Bool}{x:Operand} (h:x≠ .tmp d):AFN b (af.set d v) x st=AFN b af x st:=by
 cases b<;>cases x<;>try rfl
 rename_i j;have:j≠d:=λe=>h (by rw[e]);simp[AFN,List.getD,cR (dO this)]
def Apv{b:Bool}{x:Operand}{j i w:Nat}{xs:List AVal} (h:AFN b af x st=some (j,i,w,xs)):x=.tmp j:=by
 unfold AFN at h;split at h;·obtain⟨p,_,e⟩:=aX.1 h;cases e;rfl
 ·cases h
def Aip{x:Operand}{i w:Nat}{xs:List AVal} (h:nameV af x=some (i,w,xs)):x=.tmp i:=by
 unfold nameV at h;split at h
 ·split at h;·cases h;rfl
  ·cases h
 ·cases h
def AeS{x:Operand}{t:TypeId} (h:x≠ .tmp d):ABB E (af.set d v) x t st=ABB E af x t st:=by cases x with|tmp i=>simp only[ABB,Bb h]|_=>rfl
theorem X0{mv:List Tmp}{o:Oper} (h:d∉slots o) (hd:o.dst≠some d):Ej E mv o (af.set d v) st=(Ej E mv o af st).map λp=>(p.1.set d v,p.2):=by
 have z:=λx=>Su h (x:=x);unfold Ej;split
 ·rename_i x f;simp only[f,Op.operands]at z;split
  ·rw[Afs (z x fN)];cases hn:nameV af x with
   |none=>rw[Ak6 (z x fN)];cases hf:AFN (AE8 mv o.dst) af x st with|none=>simp[Bb (z x fN),Jl (z x fN),BG hd]|some p=>obtain⟨j,i,w,xs⟩:=p;have hi:j≠d:=λe=>z x fN (by rw[Apv hf,e]);simp only[aP];rw[cW _ _ (dO hi)];simp[BG hd]
   |some p=>obtain⟨i,w,xs⟩:=p;have hi:i≠d:=λe=>z x fN (by rw[Aip hn,e]);simp only[aP];rw[cW _ _ (dO hi)];simp[BG hd]
  ·simp[Bb (z x fN),BG hd]
 ·rename_i x f;simp only[f,Op.operands]at z;split;·rw[AeS (z x fN)];cases ACV E o with|some w=>simp[BG hd]|none=>cases ABB E af x o.type st<;>simp[Bb (z x fN),Jl (z x fN),BG hd]
  ·simp[Bb (z x fN),Jl (z x fN),BG hd]
 ·rename_i t f;split;·cases Xj E.P t st.next<;>simp[BG hd]
  ·cases Ci E.P t st.next<;>simp[BG hd]
 ·rename_i t x f;simp only[f,Op.operands]at z;rw[Bb (z x fN),Jl (z x fN)];split<;>simp[BG hd]
 ·rename_i t ps f;simp only[f,Op.operands]at z;obtain⟨C,G⟩:=TG (E:=E) (v:=v) (ty:=AQ E.P t) ps (af:=af) (λp hp=>z p.2 (by grind));rw[C,G];cases V4 E t (Bg E (AQ E.P t) af ps).2<;>simp[BG hd]
 ·rename_i t len ps f;simp only[f,Op.operands]at z;obtain⟨C,G⟩:=TG (E:=E) (v:=v) (ty:=λ_=>AQ E.P t 0) ps (af:=af) (λp hp=>z p.2 (by grind));rw[G,C];split;·cases Js E t len (Bg E (λ_=>AQ E.P t 0) af ps).2<;>simp[BG hd]
  ·cases Ik E t len (Bg E (λ_=>AQ E.P t 0) af ps).2<;>simp[BG hd]
 ·rename_i t x f;simp only[f,Op.operands]at z;rw[Bb (z x fN)];split;·cases Tc E t (rd E af 0 x) st<;>simp[BG hd]
  ·cases Tm E t (rd E af 0 x) st<;>simp[BG hd]
 ·rename_i t x y f;simp only[f,Op.operands]at z;rw[Bb (z x fN),Bb (z y fN),Jl (z y fN)];split;·cases QA E t (rd E af 0 x) (rd E af t y) st<;>simp
  ·simp
 ·rename_i t n f;simp only[f,Op.operands]at z;have U:d≠t:=λe=>z (.tmp t) fN (by rw[e]);have M:(af.set d v).getD t .any=af.getD t .any:=by grind
  rw[M];split;·rename_i vs R;cases vs[n]? with|none=>simp|some r=>grind[List.set_comm,BG]
  ·simp
 ·rename_i t x f;simp only[f,Op.operands]at z;rw[Bb (z x fN)];split<;>grind[BG]
 ·grind[Op.operands,List.getD,List.getElem?_set_ne,AGi,List.set_comm,BG]
 ·rename_i t x lo hi mx f;simp only[f,Op.operands]at z;rw[Bb (z x fN),ACG (λy H=>z y (by grind)),ACG (λy H=>z y (by grind)),ACG (λy H=>z y (by grind))];split;·rename_i l I m C G S;cases GZ E t (rd E af t x) l I m with|some r=>simp[BG hd]|none=>cases TN E t (rd E af t x) l I m st<;>simp[BG hd]
  ·simp
 ·rename_i x y A B ts f;simp only[f,Op.operands,Call.operands]at z;rw[Bb (z x fN),Bb (z y fN),Jl (z x fN)];split;·cases RS E A B (rd E af A x) (rd E af B y)with|some r=>simp[BG hd]|none=>cases appW E x A B (rd E af A x) (rd E af B y) st<;>simp[BG hd]
  ·cases Jr E A B (rd E af A x) (rd E af B y)with|some r=>simp[BG hd]|none=>cases ABo E A B (rd E af A x) (rd E af B y) st<;>simp[BG hd]
 ·rename_i x A ts f;simp only[f,Op.operands,Call.operands]at z;rw[Mh h];cases D8 E o af with|some r=>simp[BG hd]|none=>rw[Bb (z x fN)];cases ADl E A (rd E af A x) st<;>simp[BG hd]
 ·grind[BG]
 ·rename_i t m k L f;simp only[f,Op.operands]at z;rw[Bb (z m fN),Bb (z k fN)];cases Vu E t (rd E af t m) (rd E af 0 k) L st<;>simp[BG hd]
 ·rename_i t m k x f;simp only[f,Op.operands]at z;rw[Bb (z m fN),Bb (z k fN),Bb (z x fN)];split;·cases Wz E t (rd E af t m) (rd E af 0 k) (rd E af 0 x) st<;>simp
  ·simp
 ·rename_i t m k x f;simp only[f,Op.operands]at z;rw[Bb (z m fN),Bb (z k fN),Bb (z x fN)];split;·cases Wz E t (rd E af t m) (rd E af 0 k) (rd E af 0 x) st<;>simp
  ·simp
 ·rename_i t x i f;simp only[f,Op.operands]at z;rw[Mh h];cases D8 E o af with|some r=>grind[BG]|none=>rw[Bb (z x fN),Bb (z i fN)];cases Hy E t (rd E af t x) (rd E af 0 i) st with|some r=>simp[BG hd]|none=>cases Ry E t (rd E af t x) (rd E af 0 i) st<;>simp[BG hd]
 ·rename_i t x y f;simp only[f,Op.operands]at z;rw[Bb (z x fN),Bb (z y fN)];split;·cases ZC E t (rd E af 0 x) (rd E af 0 y) st<;>simp[BG hd]
  ·cases Zw E t (rd E af 0 x) (rd E af 0 y) st<;>simp[BG hd]
 ·rename_i s e x f;simp only[f,Op.operands]at z;rw[Mh h];cases D8 E o af with|some r=>grind[BG]|none=>rw[Bb (z x fN)];cases Vn E s e (rd E af s x) st with|some r=>grind[BG]|none=>cases Tw E s e (rd E af s x) st<;>simp[BG hd]
 ·rename_i x A ts f;simp only[f,Op.operands,Call.operands]at z;rw[Bb (z x fN),Jl (z x fN)];cases VB (rd E af A x)<;>simp[BG hd]
 ·rename_i x y A B f;simp only[f,Op.operands,Call.operands]at z;rw[Bb (z x fN),Bb (z y fN),Jl (z x fN)];cases ZK E A (rd E af A x) (rd E af B y)<;>simp[BG hd]
 ·rw[Mh h];cases D8 E o af<;>simp[BG hd]
def AVD{mv:List Tmp}{o:Oper}{K:List AVal->St->Prop} (h:d∉slots o) (hd:o.dst≠some d) (f:DN E mv o (af.set d v) st K):DN E mv o af st λaf' A=>K (af'.set d v) A:=by
 have j:=λx=>Su h (x:=x);unfold DN at *;split at f;·grind[Op.operands,Call.operands,Bb,ALp,BG]
 ·rename_i x y I H ts e;simp only[e,Op.operands,Call.operands]at j;rw[Bb (j x fN),Bb (j y fN),X0 h hd]at f;split at f
  ·split at f;·rename_i wd l cs rest C B;rw[an fM];grind[BG]
   grind
  ·rw[aj fM];grind
 ·rename_i G t x y _ e;simp only[e,Op.operands]at j;rw[X0 h hd,Bb (j x fN)]at f;split at f;·rename_i z;rw[an z];grind[BG]
  ·rename_i z;rw[aj z];grind
 grind[X0,Ej]
end
def Ez (E:Env) (o:Oper) (af:List AVal) (st:St):Option AVal:=match o.op with
 |.move x=>some (rd E af o.type x).strip
 |.load t x=>(Tm E t (rd E af 0 x) st).map AVal.strip
 |.slice t x lo hi mx=>match rdo E af lo,rdo E af hi,rdo E af mx with|some l,some h,some m=>GZ E t (rd E af t x) l h m|_,_,_=>none
 |.buildSlice t len ⟨ps⟩=>Ik E t len (Bg E (λ_=>AQ E.P t 0) af ps).2
 |.assign _=>none
 |.alloc _=>none
 |.box _ _=>none
 |.build _ _=>none
 |.store _ _ _=>none
 |.extract _ _=>none
 |.range _ _=>none
 |.next _ _=>none
 |.call {callee:=.builtin .append,args:=_,argTypes:=_}=>none
 |.indexAddr t x i=>match D8 E o af with|some r=>some r.strip|none=>match Hy E t (rd E af t x) (rd E af 0 i) st with|some _=>none|none=>Ry E t (rd E af t x) (rd E af 0 i) st
 |.call {callee:=.builtin .len,args:=⟨[x]⟩,argTypes:=⟨t::_⟩}=>match D8 E o af with|some r=>some r.strip|none=>ADl E t (rd E af t x) st
 |_=>(D8 E o af).map AVal.strip
def AUI{E:Env}{o:Oper}{af:List AVal}{st:St}{r:AVal} (h:Ez E o af st=some r):Ej E [] o af st=some (Ae af o.dst r,st):=by
 have A: ∀j,Q7 [] j=false:=λj=>by cases j<;>rfl
 unfold Ez at h;unfold Ej;split at h;·grind
 ·rename_i t x e;simp only[e,A,ap,aA];cases hl:Tm E t (rd E af 0 x) st with|none=>grind|some z=>grind
 ·grind
 ·grind
 all_goals (try (cases h;done))
 ·rename_i t x i e;simp only[e];split at h;·rename_i z f;cases h;simp only[f]
  ·rename_i f;split at h;·cases h
   ·rename_i l;simp only[f,l,h,aP]
 ·rename_i x t ts e;simp only[e];split at h;·rename_i z f;cases h;simp only[f]
  ·rename_i f;simp only[f,h,aP]
 ·split;all_goals first|grind|grind[D8]|(cases hp:D8 E o af with|none=>grind|some z=>grind)
theorem AYf{E:Env}{o:Oper}{af:List AVal}{st:St}{d:Tmp}{v:AVal} (h:d∉slots o):Ez E o (af.set d v) st=Ez E o af st:=by
 have f:=λx=>Su h (x:=x);unfold Ez;split;·grind[Op.operands,Bb]
 ·grind[Op.operands,Bb]
 ·grind[Op.operands,Bb,ACG]
 ·grind[Op.operands,TG,AQ]
 all_goals (try (first|rfl|(rw[Mh h];done)))
 ·rename_i t x i e;simp only[e,Op.operands]at f;rw[Mh h,Bb (f x fN),Bb (f i fN)]
 ·rename_i x t ts e;simp only[e,Op.operands,Call.operands]at f;rw[Mh h,Bb (f x fN)]
def PY (E:Env) (ops:Array Oper) (o:Oper) (af:List AVal) (st:St):Option AVal:=match o.guard with|none=>Ez E o af st|some (j,want)=>match gdA ops af j want with|some true=>Ez E o af st|some false=>some (.tuple [])|none=>none
def gWp (E:Env) (mv:List Tmp) (ops:Array Oper) (o:Oper) (af:List AVal) (st:St) (K:List AVal->St->Prop):Prop:=match o.guard with|none=>DN E mv o af st K|some (j,want)=>match gdA ops af j want with|some true=>DN E mv o af st K|some false=>K (Ae af o.dst (.tuple [])) st|none=>False
theorem VI{ops:Array Oper}{o:Oper}{d:Tmp} (h:d∉o.looksAt ops):d∉slots o:=λe=>h (cS _ e)
theorem guard_looks{ops:Array Oper}{o:Oper}{d g j:Nat}{f:Bool} (h:d∉o.looksAt ops) (l:o.guard=some (j,f)) (hd:(ops[j]?).bind (·.dst)=some g):d≠g:=λe=>by subst e;exact h (cK _ (by grind))
theorem AcE{ops:Array Oper}{o:Oper}{af:List AVal}{d j:Nat}{e:Bool}{v:AVal} (h:d∉o.looksAt ops) (f:o.guard=some (j,e)):gdA ops (af.set d v) j e=gdA ops af j e:=by grind[gdA,guard_looks,List.getD,List.getElem?_set_ne]
def AAC{E:Env}{ops:Array Oper}{o:Oper}{af:List AVal}{st:St}{d:Tmp}{v:AVal} (h:d∉o.looksAt ops):PY E ops o (af.set d v) st=PY E ops o af st:=by grind[PY,AYf,VI,AcE]
def Au4{E:Env}{mv:List Tmp}{ops:Array Oper}{o:Oper}{af:List AVal}{st:St}{d:Tmp}{v:AVal}{K:List AVal->St->Prop} (h:d∉o.looksAt ops) (hd:o.dst≠some d) (e:gWp E mv ops o (af.set d v) st K):gWp E mv ops o af st λaf' f=>K (af'.set d v) f:=by
 unfold gWp at *;split at e;·exact AVD (VI h) hd e
 ·rename_i j l z;rw[AcE h z]at e;split at e;·exact AVD (VI h) hd e
  ·grind[BG]
  omega
section
variable{E:Env}{F:Nat->Nat}{O:At}{st:St}{w:World}{af:List AVal}{a:Act}
def AGG{mv:List Tmp}{ops:Array Oper}{i:Nat}{o:Oper} (G:ops[i]?=some o){K:List AVal->St->Prop}{l:Act->World->Prop}{Qc:Exit->Act->World->Prop} (hd:a.defers=[]) (hs:Sim E F O st w af a.tmps.toList) (h:gWp E mv ops o af st K) (A: ∀O' af' f B w',Ext F O w O' w'->st.next<=f.next->B.defers=[]->Sim E F O' f w' af' B.tmps.toList->K af' f->l B w'):wpOp E.P ops Qc i l a w:=by
 unfold wpOp;simp only[G];unfold gWp at h;split at h;·rename_i z;rw[an (by grind[Region.wanted])];exact .inl (YL h F O w a hd hs l Qc A)
 ·rename_i j C z;split at h;·rename_i e;rw[an (by rw[RY z,Wl hs e])];exact .inl (YL h F O w a hd hs l Qc A)
  ·rename_i e;rw[aj (by rw[RY z,Wl hs e];simp)];exact A O _ st _ w (Ext.refl _ _ _) (av _) (by grind[put_defers]) (hs.skipped o.dst) h
  grind
theorem ArQ{E:Env}{t:TypeId}{w:Nat}{x:AVal}:Fp E .eql t x (.slice w [] true)=none:=by cases x<;>simp[Fp,TP,AGj]
def AhQ{mv:List Tmp}{ops:Array Oper}{o:Oper}{r:AVal} (h:PY E ops o af st=some r):gWp E [] ops o af st λaf' e=>af'=Ae af o.dst r/\e=st:=by
 have key: ∀r,Ez E o af st=some r->DN E [] o af st λaf' e=>af'=Ae af o.dst r/\e=st:=by
  intro r z;have l:=AUI z;unfold DN;split;·grind[Ez,D8]
  ·grind[Ez]
  ·rename_i A t x y _ f;split;·rename_i j;obtain⟨rfl,rfl⟩:=Abs j;grind[Ez,D8,rd,Kq,ArQ]
   simp_all
  simp_all
 unfold PY at h;unfold gWp;split at h;·grind
 ·split at h;·exact key r h
  ·simp only[ah]at h;subst h;exact⟨rfl,rfl⟩
  ·cases h
end
end Go.VM
namespace Go.VM
inductive Plan where|done|take (i:Nat) (p:Plan)|alt (i:Nat) (chk:List Nat) (p rest:Plan)|stop
def Plan.tk:Nat->Nat->Plan->Plan|_,0,p=>p|n,k+1,p=>.take n (Plan.tk (n+1) k p)
def dnL:Nat->Nat->List Nat->List Nat|_,0,l=>l|a,k+1,l=>a::dnL (a-1) k l
def exL:List (Nat×Nat)->List Nat|[]=>[]|(a,k)::l=>dnL a k (exL l)
def Plan.ar (n:Nat) (l:List (Nat×Nat)) (p r:Plan):Plan:=.alt n (exL l) p r
def Plan.al (n:Nat) (l:List (Nat×Nat)) (p:Plan):Plan:=.alt n (exL l) p .stop
theorem A3y{n:Nat}{p:Plan}:Plan.tk n 0 p=p:=rfl
theorem A3K{n k:Nat}{p:Plan}:Plan.tk n (k+1) p=.take n (Plan.tk (n+1) k p):=rfl
theorem A1R{a:Nat}{l:List Nat}:dnL a 0 l=l:=rfl
theorem A1t{a k:Nat}{l:List Nat}:dnL a (k+1) l=a::dnL (a-1) k l:=rfl
theorem A2H:exL []=[]:=rfl
theorem A1M{a k:Nat}{l:List (Nat×Nat)}:exL ((a,k)::l)=dnL a k (exL l):=rfl
theorem A31{n:Nat}{l:List (Nat×Nat)}{p r:Plan}:Plan.ar n l p r=.alt n (exL l) p r:=rfl
theorem A3I{n:Nat}{l:List (Nat×Nat)}{p:Plan}:Plan.al n l p=.alt n (exL l) p .stop:=rfl
def plE:=ac (@A3y) (ac (@A3K) (ac (@A1R) (ac (@A1t) (ac A2H (ac (@A1M) (ac (@A31) (@A3I)))))))
def Plan.alts:Plan->List Nat|.alt i _ _ rest=>i::rest.alts|_=>[]
def Plan.sub (j:Nat):Plan->Option (List Nat×Plan)|.alt i chk p rest=>if i=j then some (chk,p)else rest.sub j|_=>none
def AzP (o:Oper) (k:Nat):Bool:=o.after.any λe=>Region.binds .any e&&e.on==k
def AZ9 (ops:Array Oper) (e:Array Bool) (f:List Nat) (i:Nat):Bool:=
  match ops[i]? with
  | some o=>
    match o.dst with
    |some d=>Region.free .any ops e i&&!(o.looksAt ops).contains d&&f.all λj=>match ops[j]? with|some h=>!(h.looksAt ops).contains d&&h.dst !=some d|none=>false
    |none=>false
  |none=>false
def AdL (ops:Array Oper) (e:List Nat) (i:Nat) (chk:List Nat):Bool:=match ops[i]? with|some o=>e.all λk=>chk.contains k||AzP o k|none=>false
def KJ (ops:Array Oper):Plan->Bool->Array Bool->List Nat->Bool|.done,mode,listed,_=>!mode&&(Region.ready .any ops listed).isEmpty|.take i p,mode,listed,taken=>!mode&&(Region.ready .any ops listed).contains i&&AZ9 ops listed taken i&&KJ ops p false (listed.setIfInBounds i true) (i::taken)|.alt i chk p rest,mode,listed,taken=>(mode||(Region.ready .any ops listed).all λj=>(i::rest.alts).contains j)&&(Region.ready .any ops listed).contains i&&AdL ops taken i chk&&KJ ops p false (listed.setIfInBounds i true) taken&&KJ ops rest true listed taken|.stop,mode,_,_=>mode
def ZL:List (Nat×AVal)->Nat->Option AVal|[],_=>none|(j,r)::tv,k=>if k=j then some r else ZL tv k
def TV (E:Env) (ops:Array Oper) (tv:List (Nat×AVal)) (af:List AVal) (st:St):List Nat->Prop|[]=>True|k::ks=>(match ZL tv k,ops[k]? with|some r,some o=>PY E ops o af st=some r|_,_=>False)/\TV E ops tv af st ks
def IG (E:Env) (mv:List Tmp) (ops:Array Oper):Plan->List (Nat×AVal)->(List AVal->St->Prop)->List AVal->St->Prop
  |.done,_,K,af,st=>K af st
  | .take i p,tv,K,af,st=>
    match ops[i]? with
    | some o=>
      match PY E ops o af st with
      |some r=>IG E mv ops p ((i,r)::tv) K (Ae af o.dst r) st
      |none=>False
    |none=>False
  | .alt i chk p rest,tv,K,af,st=>
    (match ops[i]? with
      |some o=>gWp E mv ops o af st λaf' e=>TV E ops tv af' e chk/\IG E mv ops p tv K af' e
      |none=>False)/\IG E mv ops rest tv K af st
  |.stop,_,_,_,_=>True
def MB (ops:Array Oper) (i:Nat):Option Tmp:=(ops[i]?).bind (·.dst)
def JN (ops:Array Oper) (af:List AVal):List (Nat×AVal)->List AVal|[]=>af|(i,r)::pend=>JN ops (Ae af (MB ops i) r) pend
theorem VL (ops:Array Oper) (e:List (Nat×AVal)) (i:Nat) (r:AVal): ∀af,JN ops af (e++[(i,r)])=Ae (JN ops af e) (MB ops i) r:=by induction e with|nil=>intro af;rfl|cons p e f=>intro af;exact f _
def AHD{E:Env}{ops:Array Oper}{o:Oper}{st:St} (e:List (Nat×AVal)): ∀af,(∀p,p∈e->∀d,MB ops p.1=some d->d∉o.looksAt ops)->PY E ops o (JN ops af e) st=PY E ops o af st:=by induction e with|nil=>intro af _;rfl|cons p e j=>intro af h;obtain⟨i,r⟩:=p;simp only[JN];rw[j _ (λq f=>h q (aY _ f))];cases hd:MB ops i with|none=>rfl|some d=>exact AAC (h (i,r) fN d hd)
def AZA{E:Env}{mv:List Tmp}{ops:Array Oper}{o:Oper}{st:St} (e:List (Nat×AVal)): ∀ {af:List AVal}{K:List AVal->St->Prop},(∀p,p∈e->∀d,MB ops p.1=some d->d∉o.looksAt ops/\o.dst≠some d)->gWp E mv ops o (JN ops af e) st K->gWp E mv ops o af st λaf' f=>K (JN ops af' e) f:=by induction e with|nil=>intro af K _ h;exact h|cons p e z=>intro af K h l;obtain⟨i,r⟩:=p;simp only[JN]at l⊢;have j:=z (λq A=>h q (aY _ A)) l;cases hd:MB ops i with|none=>rw[hd]at j;exact j|some d=>rw[hd]at j;obtain⟨C,B⟩:=h (i,r) fN d hd;exact Au4 (K:=λaf' f=>K (JN ops af' e) f) C B j
def Aes{af:List AVal}{d e:Option Tmp}{x y:AVal} (h: ∀t,d=some t->e≠some t):Ae (Ae af d x) e y=Ae (Ae af e y) d x:=by cases d with|none=>rfl|some d=>cases e with|none=>rfl|some e=>have:d≠e:=λf=>h d rfl (by rw[f]);grind[Ae,List.set_comm]
def Y9{ops:Array Oper}{i:Nat}{r:AVal} (f:List (Nat×AVal)): ∀af,(i,r)∈f->(f.map (·.1)).Nodup->(∀p q,p∈f->q∈f->p.1≠q.1->∀t,MB ops p.1=some t->MB ops q.1≠some t)->JN ops af f=JN ops (Ae af (MB ops i) r) (f.filter λp=>p.1 !=i):=by
 induction f with
 |nil=>simp
 | cons p f ih=>
  intro af h l hd;obtain⟨j,s⟩:=p;simp only[aH,bZ]at l;by_cases hij:j=i
  ·subst hij;have A:s=r:=by
    rcases aO.1 h with e|e;·grind
    ·exact absurd (bv.2 ⟨(j,r),e,rfl⟩) l.1
   subst A;have H:f.filter (λp=>p.1 !=j)=f:=List.filter_eq_self.2 λq B=>by simp only[fj,eA];grind
   grind[JN]
  ·have G:(i,r)∈f:=by
    rcases aO.1 h with e|e;·cases e;omega
    omega
   have z:(j !=i)=true:=by grind
   rw[dC,an z];simp only[JN];rw[ih _ G l.2 (λp q hp B=>hd p q (aY _ hp) (aY _ B))];rw[Aes (λt C=>hd (j,s) (i,r) fN h fM t C)]
def OrdP (ops:Array Oper):(Nat->Prop)->List (Nat×AVal)->Prop|_,[]=>True|P,(i,_)::rest=>(∀o,ops[i]?=some o->∀e,e∈o.after->Region.binds .any e=true->P e.on)/\OrdP ops (λk=>P k\/k=i) rest
def OrdP.mono{ops:Array Oper}: ∀ {f:List (Nat×AVal)}{P j:Nat->Prop},(∀k,P k->j k)->OrdP ops P f->OrdP ops j f|[],_,_,_,_=>trivial|(i,_)::rest,_,_,h,⟨h1,h2⟩=>⟨λo B e z l=>h _ (h1 o B e z l),OrdP.mono (λk A=>A.imp (h k) id) h2⟩
def OrdP.snoc{ops:Array Oper}{i:Nat}{r:AVal}: ∀ {f:List (Nat×AVal)}{P:Nat->Prop},OrdP ops P f->(∀o,ops[i]?=some o->∀e,e∈o.after->Region.binds .any e=true->P e.on\/e.on∈f.map (·.1))->OrdP ops P (f++[(i,r)])|[],P,_,h=>⟨λo A e z l=>(h o A e z l).resolve_right fN,trivial⟩|(j,_)::rest,P,⟨h1,h2⟩,h=>⟨h1,OrdP.snoc h2 λo A e z l=>by grind⟩
def OrdP.erase{ops:Array Oper}{k:Nat}: ∀ {f:List (Nat×AVal)}{P:Nat->Prop},OrdP ops P f->OrdP ops (λj=>P j\/j=k) (f.filter λp=>p.1 !=k)
 |[],_,_=>trivial
 | (i,s)::rest,P,⟨h1,h2⟩=>by
  have B:=OrdP.erase (k:=k) h2;by_cases hik:i=k;·grind
  ·have h:(i !=k)=true:=by grind
   rw[dC,an h];exact⟨λo A e z l=>.inl (h1 o A e z l),B.mono λj C=>by grind⟩
def Qu (n:Nat) (listed:Array Bool):Nat:=(List.range n).countP λk=>!listed.getD k true
def AED{i:Nat}{f g:Nat->Bool} (j:f i=false) (e:g i=true) (h: ∀k,k≠i->f k=g k): ∀l:List Nat,l.countP f+l.count i=l.countP g|[]=>rfl|k::l=>by have z:=AED j e h l;grind
def Z0{n i:Nat}{listed:Array Bool} (hi:listed.getD i true=false) (hn:i<n):Qu n (listed.setIfInBounds i true)+1<=Qu n listed:=by
 have hlt:i<listed.size:=by grind
 have hset:(listed.setIfInBounds i true).getD i true=true:=fN;have hother: ∀k,k≠i->(listed.setIfInBounds i true).getD k true=listed.getD k true:=λk hk=>fE true (dO hk);unfold Qu;have key:=λl=>AED (i:=i) (f:=λk=>!(listed.setIfInBounds i true).getD k true) (g:=λk=>!listed.getD k true) fN (by grind) (λk hk=>by grind) l;grind
def Xd{n:Nat}{e:Array Bool} (h:Qu n e=0){k:Nat} (f:k<n):e.getD k true=true:=by have:=List.countP_eq_zero.1 h k (eJ.2 f);grind
structure Inv (E:Env) (ops:Array Oper) (act asap:Array Bool) (taken:List Nat) (pend tv:List (Nat×AVal)) (af:List AVal) (st:St):Prop where
  sz1:act.size=ops.size
  sz2:asap.size=ops.size
  list: ∀k,k<ops.size->(asap.getD k true=true<->act.getD k true=true\/k∈pend.map (·.1))
  notin: ∀p,p∈pend->act.getD p.1 true=false/\p.1<ops.size/\p.1∈taken
  nodup:(pend.map (·.1)).Nodup
  tvl: ∀p,p∈pend->ZL tv p.1=some p.2
  val: ∀p,p∈pend-> ∀o,ops[p.1]?=some o->PY E ops o (JN ops af pend) st=some p.2
  free: ∀p,p∈pend-> ∀d,MB ops p.1=some d-> ∀j oj,ops[j]?=some oj->asap.getD j true=false->(∀e,e∈oj.after->Region.binds .any e=true->e.on≠p.1)->d∉oj.looksAt ops/\oj.dst≠some d
  self: ∀p,p∈pend-> ∀d o,MB ops p.1=some d->ops[p.1]?=some o->d∉o.looksAt ops
  pair: ∀p q,p∈pend->q∈pend->p.1≠q.1-> ∀d,MB ops p.1=some d->MB ops q.1≠some d/\ ∀oq,ops[q.1]?=some oq->(∀e,e∈oq.after->Region.binds .any e=true->e.on≠p.1)->d∉oq.looksAt ops
  ord:OrdP ops (λk=>act.getD k false=true) pend
def Ua{l:Array Bool}{k:Nat} (h:k<l.size):l.getD k false=l.getD k true:=by grind
section
variable{E:Env}{ops:Array Oper}
def Inv.ready_sub{z f:Array Bool}{A:List Nat}{l tv:List (Nat×AVal)}{af:List AVal}{st:St} (I:Inv E ops z f A l tv af st){j:Nat} (M:j∈Region.ready .any ops z) (hp:j∉l.map (·.1)):j∈Region.ready .any ops f:=by
 obtain⟨h0,o,G,P⟩:=de.1 M;have C:j<ops.size:=(aU.1 G).1;refine de.2 ⟨?_,o,G,λe H L=>?_⟩;·cases h:f.getD j true with|false=>rfl|true=>rcases (I.list j C).1 h with h|h<;>grind[absurd]
 ·have:=P e H L;have B:e.on<z.size:=by grind
  rw[Ua B]at this;rw[Ua (by rw[I.sz2,<-I.sz1];omega)];exact(I.list e.on (by rw[<-I.sz1];omega)).2 (.inl this)
def Inv.some_ready{l A:Array Bool}{z:List Nat}{f tv:List (Nat×AVal)}{af:List AVal}{st:St} (I:Inv E ops l A z f tv af st) (h:Region.ready .any ops l=[]):f=[]:=by
 cases hp:f with
 |nil=>rfl
 |cons p rest=>
  exfalso;obtain⟨i,r⟩:=p;have H:(i,r)∈f:=by grind
  obtain⟨h0,B,_⟩:=I.notin _ H;have j:=I.ord;rw[hp]at j;obtain⟨o,ho⟩: ∃o,ops[i]?=some o:=⟨ops[i],cL B⟩;have:i∈Region.ready .any ops l:=de.2 ⟨h0,o,ho,λe C G=>j.1 o ho e C G⟩;grind
def Inv.asap_ready{z f:Array Bool}{A:List Nat}{tv:List (Nat×AVal)}{af:List AVal}{st:St} (I:Inv E ops z f A [] tv af st){j:Nat} (H:j∈Region.ready .any ops f):j∈Region.ready .any ops z:=by
 obtain⟨h0,o,C,M⟩:=de.1 H;have B:j<ops.size:=(aU.1 C).1;refine de.2 ⟨?_,o,C,λe L G=>?_⟩;·cases h:z.getD j true with|false=>rfl|true=>have:=(I.list j B).2 (.inl h);grind
 ·have:=M e L G;have l:e.on<f.size:=by grind
  rw[Ua l]at this;rw[Ua (by rw[I.sz1,<-I.sz2];omega)];rcases (I.list e.on (by rw[<-I.sz2];exact l)).1 this with h|h<;>grind
def ACZ{tv:List (Nat×AVal)}{af:List AVal}{st:St}: ∀ {chk:List Nat},TV E ops tv af st chk->∀ {k:Nat},k∈chk->∃r o,ZL tv k=some r/\ops[k]?=some o/\PY E ops o af st=some r
 |[],_,_,h=>by cases h
 |x::xs,⟨h1,h2⟩,k,h=>by
  rcases aO.1 h with rfl|h;·grind
  ·exact ACZ h2 h
def AWU{mv:List Tmp}{f:Array Bool}{e:List Nat}{tv:List (Nat×AVal)}{K:List AVal->St->Prop}{af:List AVal}{st:St}: ∀ {p:Plan},KJ ops p true f e=true->IG E mv ops p tv K af st->∀ {j:Nat},j∈p.alts->∃chk q o,ops[j]?=some o/\AdL ops e j chk=true/\KJ ops q false (f.setIfInBounds j true) e=true/\gWp E mv ops o af st λaf' l=>TV E ops tv af' l chk/\IG E mv ops q tv K af' l
 |.alt i chk p rest,hok,hw,j,hj=>by
  simp only[KJ,aw]at hok;simp only[IG]at hw;rcases aO.1 hj with rfl|hj;·grind
  ·exact AWU hok.2 hw.2 hj
 |.done,_,_,_,h=>by cases h
 |.take _ _,_,_,_,h=>by cases h
 |.stop,_,_,_,h=>by cases h
def Inv.take{S l:Array Bool}{A:List Nat}{f tv:List (Nat×AVal)}{af:List AVal}{st:St} (I:Inv E ops S l A f tv af st){i:Nat}{o:Oper}{r:AVal} (hr:i∈Region.ready .any ops l) (C:AZ9 ops l A i=true) (Y:ops[i]?=some o) (hv:PY E ops o (JN ops af f) st=some r):Inv E ops S (l.setIfInBounds i true) (i::A) (f++[(i,r)]) ((i,r)::tv) af st:=by
 obtain⟨h0,o',ho',hw⟩:=de.1 hr;rw[Y]at ho';cases ho';have hlt:i<ops.size:=(aU.1 Y).1;have hact:S.getD i true=false:=by cases h:S.getD i true with|false=>rfl|true=>have:=(I.list i hlt).2 (.inl h);grind
 have hnp:i∉f.map (·.1):=λh=>by have:=(I.list i hlt).2 (.inr h);grind
 unfold AZ9 at C;rw[Y]at C;simp only at C;split at C
 ·rename_i d hd;simp only[aw,eY,aK]at C;obtain⟨⟨hfree,hself⟩,htk⟩:=C;have V:d∉o.looksAt ops:=by grind
  have L:MB ops i=some d:=by grind[MB]
  have hfr:=λj X hj M U H=>Oper.apart_spec (Region.free_spec Y hfree j X hj M U H);have G: ∀j,j∈A->∀X,ops[j]?=some X->d∉X.looksAt ops/\X.dst≠some d:=by intro j hj X hoj;have:=htk j hj;simp_all
  have Z: ∀k,k≠i->(l.setIfInBounds i true).getD k true=l.getD k true:=λk hk=>fE true (dO hk);have hseti:(l.setIfInBounds i true).getD i true=true:=fN;have hpne: ∀p,p∈f->p.1≠i:=λp hp e=>hnp (bv.2 ⟨p,hp,e⟩);refine {sz1:=I.sz1,sz2:=by simp[I.sz2],list:=?_,notin:=?_,nodup:=?_,tvl:=?_,val:=?_,free:=?_,self:=?_,pair:=?_,ord:=?_}
  ·intro k hk;rw[cF,aZ];by_cases hki:k=i;·grind
   ·rw[Z k hki,I.list k hk];grind
  ·intro p hp;rcases aZ.1 hp with hp|hp;·obtain⟨a,b,c⟩:=I.notin p hp;grind
   grind
  ·rw[cF,List.nodup_append];refine⟨I.nodup,fN,?_⟩;grind
  ·intro p hp;rcases aZ.1 hp with hp|hp;·simp only[ZL];rw[aj (hpne p hp)];exact I.tvl p hp
   grind[ZL]
  ·intro p hp R B;rw[VL,L];rcases aZ.1 hp with hp|hp;·rw[show Ae (JN ops af f) (some d) r=(JN ops af f).set d r from rfl,AAC (G p.1 (I.notin p hp).2.2 R B).1];exact I.val p hp R B
   ·simp only[aV]at hp;subst hp;rw[Y]at B;cases B;rw[show Ae (JN ops af f) (some d) r=(JN ops af f).set d r from rfl,AAC V];omega
  ·intro p hp dd z j X hoj U H;have hji:j≠i:=λe=>by grind
   rw[Z j hji]at U;rcases aZ.1 hp with hp|hp;·exact I.free p hp dd z j X hoj U H
   grind
  ·intro p hp dd R z B;rcases aZ.1 hp with hp|hp;·exact I.self p hp dd R z B
   grind
  ·intro p q hp P M dd z;rcases aZ.1 hp with hp|hp<;>rcases aZ.1 P with P|P;·exact I.pair p q hp P M dd z
   ·simp only[aV]at P;subst P;simp only at M⊢;refine⟨?_,λoq hoq H=>?_⟩
    ·rw[L];intro e;simp only[ah]at e;have hpo: ∃R,ops[p.1]?=some R:=⟨_,cL (I.notin p hp).2.1⟩;obtain⟨R,B⟩:=hpo;have:=(G p.1 (I.notin p hp).2.2 R B).2;have hdd':R.dst=some dd:=by grind[MB]
     rw[hdd',e]at this;grind
    ·rw[Y]at hoq;cases hoq;exact(I.free p hp dd z i o Y h0 H).1
   ·simp only[aV]at hp;subst hp;simp only at M z⊢;rw[L]at z;cases z;obtain⟨oq,hoq⟩: ∃oq,ops[q.1]?=some oq:=⟨_,cL (I.notin q P).2.1⟩;have hh:=G q.1 (I.notin q P).2.2;grind[MB]
   ·simp only[aV]at hp P;subst hp;subst P;omega
  ·refine I.ord.snoc λo'' W e he hb=>?_;rw[Y]at W;cases W;have:=hw e he hb;have hlt':e.on<l.size:=by grind
   rw[Ua hlt']at this;rcases (I.list e.on (by rw[<-I.sz2];omega)).1 this with h|h;·exact .inl (by rw[Ua (by rw[I.sz1,<-I.sz2];omega)];exact h)
   grind
 grind
def Inv.come{l A:Array Bool}{j:List Nat}{h tv:List (Nat×AVal)}{af:List AVal}{st:St} (I:Inv E ops l A j h tv af st){i:Nat}{r:AVal} (H:(i,r)∈h):Inv E ops (l.setIfInBounds i true) A j (h.filter λp=>p.1 !=i) tv (Ae af (MB ops i) r) st:=by
 obtain⟨h0,R,S⟩:=I.notin _ H;have f: ∀p,p∈h.filter (λp=>p.1 !=i)->p∈h/\p.1≠i:=λp hp=>by grind
 have G: ∀k,k≠i->(l.setIfInBounds i true).getD k true=l.getD k true:=λk C=>fE true (dO C);have B:(l.setIfInBounds i true).getD i true=true:=fN;have z:=Y9 h af H I.nodup (λp q hp L M t U=>(I.pair p q hp L M t U).1);refine {sz1:=by simp[I.sz1],sz2:=I.sz2,list:=?_,notin:=?_,nodup:=?_,tvl:=λp hp=>I.tvl p (f p hp).1,val:=?_,free:=λp hp=>I.free p (f p hp).1,self:=λp hp=>I.self p (f p hp).1,pair:=λp q hp L=>I.pair p q (f p hp).1 (f q L).1,ord:=?_}
 ·intro k C;by_cases hki:k=i;·subst hki;rw[B];simp only[true_or,iff_true];exact(I.list k C).2 (.inr (bv.2 ⟨_,H,rfl⟩))
  ·rw[G k hki,I.list k C];simp_all
 ·intro p hp;obtain⟨a,b⟩:=f p hp;obtain⟨c,d,e⟩:=I.notin p a;grind
 ·exact(List.filter_sublist.map _).nodup I.nodup
 ·intro p hp o P;rw[<-z];exact I.val p (f p hp).1 o P
 ·refine(I.ord.erase (k:=i)).mono λk C=>?_;grind
def Inv.step{H B:Array Bool}{A:List Nat}{z tv:List (Nat×AVal)}{af af':List AVal}{st M:St} (I:Inv E ops H B A z tv af st){i:Nat}{chk:List Nat}{o:Oper} (hr:i∈Region.ready .any ops H) (hp:i∉z.map (·.1)) (W:ops[i]?=some o) (C:AdL ops A i chk=true) (L:TV E ops tv (JN ops af' z) M chk):Inv E ops (H.setIfInBounds i true) (B.setIfInBounds i true) A z tv af' M:=by
 obtain⟨h0,o',P,hw⟩:=de.1 hr;rw[W]at P;cases P;have hlt:i<ops.size:=(aU.1 W).1;have G: ∀(l:Array Bool) k,k≠i->(l.setIfInBounds i true).getD k true=l.getD k true:=λl k R=>fE true (dO R);have U: ∀(l:Array Bool),l.size=ops.size->(l.setIfInBounds i true).getD i true=true:=λl hl=>by simp
 have hpne: ∀p,p∈z->p.1≠i:=λp f e=>hp (bv.2 ⟨p,f,e⟩);refine {sz1:=by simp[I.sz1],sz2:=by simp[I.sz2],list:=?_,notin:=?_,nodup:=I.nodup,tvl:=I.tvl,val:=?_,free:=?_,self:=I.self,pair:=I.pair,ord:=?_}
 ·intro k R;by_cases hki:k=i;·simp_all
  ·rw[G H k hki,G B k hki];exact I.list k R
 ·intro p f;obtain⟨a,b,c⟩:=I.notin p f;grind
 ·intro p f op hop;unfold AdL at C;rw[W]at C;simp only[aK,cf]at C;obtain⟨a,b,c⟩:=I.notin p f;rcases C p.1 c with h|h;·obtain⟨r,o2,e1,e2,e3⟩:=ACZ L (by simpa using h);rw[I.tvl p f]at e1;grind
  ·exfalso;obtain⟨e,he,Z⟩:=Array.any_eq_true'.1 h;simp only[aw,be]at Z;have:=hw e he Z.1;rw[Z.2,Ua (by grind),a]at this;grind
 ·intro p f d hd j oj Y S V;have X:j≠i:=λe=>by simp_all
  rw[G B j X]at S;exact I.free p f d hd j oj Y S V
 ·exact I.ord.mono λk R=>getD_set_true R
def AX2{mv:List Tmp}{K:List AVal->St->Prop}{Qc:Exit->Act->World->Prop}{F:Nat->Nat} (C:Nat): ∀(z:Plan){A l:Array Bool}{h:List Nat}{f tv:List (Nat×AVal)}{af:List AVal}{st:St}{a:Act}{w:World}{O:At},KJ ops z false l h=true->Qu ops.size A<=C->Inv E ops A l h f tv af st->a.defers=[]->Sim E F O st w af a.tmps.toList->IG E mv ops z tv K (JN ops af f) st->(∀O' af' G Y w',Ext F O w O' w'->st.next<=G.next->Y.defers=[]->Sim E F O' G w' af' Y.tmps.toList->K af' G->Qc .normal Y w')->wpAny E.P .any ops Qc C A a w:=by
 induction C with
 | zero=>
  intro z;induction z with
  |done=>
   intro A l h f tv af st a w O B hn I hd hs M V;have U:Region.ready .any ops A=[]:=List.eq_nil_iff_forall_not_mem.2 λj X=>by obtain⟨h0,o,L,_⟩:=de.1 X;rw[Xd (Nat.le_zero.1 hn) (aU.1 L).1]at h0;grind
   have:=I.some_ready U;subst this;exact⟨U,V O af st a w (Ext.refl _ _ _) (av _) hd hs M⟩
  | take i p ih=>
   intro A l h f tv af st a w O B hn I hd hs M V;simp only[KJ,aw]at B;simp only[IG]at M;split at M
   ·rename_i o L;split at M;·rename_i r hr;have I2:=I.take (by grind) B.1.2 L hr;grind[VL,MB]
    grind
   grind
  |alt i chk p rest _ _=>
   intro A l h f tv af st a w O B hn I hd hs M V;exfalso;simp only[KJ,aw]at B;have hi:i∈Region.ready .any ops l:=by grind
   obtain⟨h0,o,L,_⟩:=de.1 hi;have S:=(aU.1 L).1;have:=(I.list i S).2 (.inl (Xd (Nat.le_zero.1 hn) S));grind
  |stop=>grind[KJ]
 | succ C ihf=>
  have come: ∀(z:Plan){A l:Array Bool}{h:List Nat}{f tv:List (Nat×AVal)}{af:List AVal}{st:St}{a:Act}{w:World}{O:At},KJ ops z false l h=true->Qu ops.size A<=C+1->Inv E ops A l h f tv af st->a.defers=[]->Sim E F O st w af a.tmps.toList->IG E mv ops z tv K (JN ops af f) st->(∀O' af' G Y w',Ext F O w O' w'->st.next<=G.next->Y.defers=[]->Sim E F O' G w' af' Y.tmps.toList->K af' G->Qc .normal Y w')->∀j,j∈Region.ready .any ops A->j∈f.map (·.1)->wpOp E.P ops Qc j (wpAny E.P .any ops Qc C (A.setIfInBounds j true)) a w:=by
   intro z A l h f tv af st a w O B hn I hd hs M V j X R;obtain⟨p,hp,rfl⟩:=bv.1 R;obtain⟨h0,o,L,hwt⟩:=de.1 X;have S:=(aU.1 L).1;have H: ∀q,q∈f->∀d,MB ops q.1=some d->d∉o.looksAt ops:=by
    intro q hq d W;by_cases hqp:q.1=p.1;·exact I.self q hq d o W (by grind)
    ·refine(I.pair q p hq hp hqp d W).2 o L λe he hb heq=>?_;have:=hwt e he hb;obtain⟨a1,b1,_⟩:=I.notin q hq;grind
   have Z:=I.val p hp o L;rw[AHD f af H]at Z;refine AGG L hd hs (AhQ (mv:=mv) Z) λO' af' G Y w' x1 n1 d1 s1 k1=>?_;obtain⟨rfl,rfl⟩:=k1;have hdst:MB ops p.1=o.dst:=by grind[MB]
   have hpm:(p.1,p.2)∈f:=hp;have I2:=I.come hpm;rw[hdst]at I2;refine ihf z B (by have:=Z0 h0 S;omega) I2 d1 s1 ?_ λO2 af2 st2 a2 w2 x2 n2 d2 s2 k2=>V O2 af2 st2 a2 w2 (x1.trans x2) (bK n1 n2) d2 s2 k2;rw[Y9 f af hpm I.nodup (λp q hp hq hne t ht=>(I.pair p q hp hq hne t ht).1),hdst]at M;omega
  intro z;induction z with
  | done=>
   intro A l h f tv af st a w O B hn I hd hs M V;refine⟨λU=>?_,λj X=>?_⟩;·have:=I.some_ready U;subst this;exact V O af st a w (Ext.refl _ _ _) (av _) hd hs M
   ·by_cases R:j∈f.map (·.1);·grind
    ·exfalso;have:=I.ready_sub X R;simp only[KJ,ba,bM,c8]at B;grind
  | take i p ih=>
   intro A l h f tv af st a w O B hn I hd hs M V;simp only[KJ,aw]at B;simp only[IG]at M;split at M
   ·rename_i o L;split at M;·rename_i r hr;have I2:=I.take (by grind) B.1.2 L hr;grind[VL,MB]
    grind
   grind
  | alt i chk p rest _ _=>
   intro A l h f tv af st a w O B hn I hd hs M V;have hok0:=B;simp only[KJ,aw]at B;have hi:i∈Region.ready .any ops l:=by grind
   refine⟨λU=>?_,λj X=>?_⟩;·exfalso;have:=I.some_ready U;subst this;have:=I.asap_ready hi;grind
   ·by_cases R:j∈f.map (·.1);·grind
    ·have hja:=I.ready_sub X R;have hall:=B.1.1.1.1;simp only[bk,aK]at hall;have hjm:j∈(Plan.alt i chk p rest).alts:=by grind[Plan.alts]
     have hok':KJ ops (.alt i chk p rest) true l h=true:=by simp only[KJ,cO,bM,aw];grind
     obtain⟨chk',q,o,L,hc,hq,hg⟩:=AWU hok' M hjm;obtain⟨h0,o',ho',hwt⟩:=de.1 X;rw[L]at ho';cases ho';have S:=(aU.1 L).1;have hun:l.getD j true=false:=(de.1 hja).1;have H: ∀p,p∈f->∀d,MB ops p.1=some d->d∉o.looksAt ops/\o.dst≠some d:=by intro p hp d W;refine I.free p hp d W j o L hun λe he hb heq=>?_;have:=hwt e he hb;obtain⟨a1,b1,_⟩:=I.notin p hp;grind
     refine AGG L hd hs (AZA f H hg) λO' af' G Y w' x1 n1 d1 s1 k1=>?_;have I2:=I.step X R L hc k1.1;exact ihf q hq (by have:=Z0 h0 S;omega) I2 d1 s1 k1.2 λO2 af2 st2 a2 w2 x2 n2 d2 s2 k2=>V O2 af2 st2 a2 w2 (x1.trans x2) (bK n1 n2) d2 s2 k2
  |stop=>grind[KJ]
end
def Uz{E:Env}{Q:APost}{af:List AVal}{st:St}{B:Nat}{ops:Array Oper} (mv:List Tmp) (f:Plan) (H:E.P.follows .mixedOrders=true) (l:KJ ops f false (Array.replicate ops.size false) []=true) (h:IG E mv ops f [] (λaf st=>Q .normal af st) af st):AWp E (.region B ops true) Q af st:=by
 constructor;intro F O w a hd hs;refine wp_region_any H ?_;have I:Inv E ops (Array.replicate ops.size false) (Array.replicate ops.size false) [] [] [] af st:=by
  have e: ∀p:Nat×AVal,p∈([]:List (Nat×AVal))->False:=λp hp=>by grind
  exact {sz1:=fN,sz2:=fN,list:=(λk S=>by simp),notin:=(λp hp=>(e p hp).elim),nodup:=fN,tvl:=(λp hp=>(e p hp).elim),val:=(λp hp=>(e p hp).elim),free:=(λp hp=>(e p hp).elim),self:=(λp hp=>(e p hp).elim),pair:=(λp q hp=>(e p hp).elim),ord:=trivial}
 have A:Qu ops.size (Array.replicate ops.size false)<=ops.size:=by grind[Qu,List.countP_le_length,Array.replicate,List.range]
 exact AX2 ops.size f l A I hd hs.drew h λO' af' z R w' j C G L M=>⟨trivial,G,O',af',z,⟨j.le,j.keep,j.size,j.os,j.output,j.tape⟩,C,L,M⟩
end Go.VM
namespace Go.VM
def Al:List Tmp->List AVal->List AVal|[],af=>af|j::js,af=>Al js (af.set j .any)
def setVals:List AVal->List Tmp->List AVal->List AVal|af,c::cs,v::vs=>setVals (af.set c v) cs vs|af,_,_=>af
def Co (af:List AVal) (cs:List Tmp):List AVal:=cs.map λc=>af.getD c .any
section
variable{E:Env}{F:Nat->Nat}{O:At}{st:St}{w:World}{af:List AVal}{a:Act}{Q:APost}
def Sim.setAny (hs:Sim E F O st w af a.tmps.toList) (j:Tmp):Sim E F O st w (af.set j .any) a.tmps.toList:=by
 have key: ∀ {xs:List AVal}{vs:List Value} (j:Nat),RepL O xs vs->RepL O (xs.set j .any) vs:=by intro xs;induction xs with|nil=>simp|cons x xs l=>intro vs j h;cases h with|cons h t=>cases j with|zero=>exact .cons (.any _) t|succ j=>exact .cons h (l j t)
 have e: ∀ {xs:List AVal}{vs:List Value} (j:Nat),ownL O w xs vs->ownL O w (xs.set j .any) vs:=by intro xs;induction xs with|nil=>simp|cons x xs l=>intro vs j h;cases vs with|nil=>cases j<;>simp[ownL]|cons v vs=>rw[ownL]at h;cases j with|zero=>grind[ownL,VM.own]|succ j=>grind[ownL]
 have f: ∀(xs:List AVal) (vs:List Value) (j b:Nat),AR b (xs.set j .any) vs<=AR b xs vs:=by intro xs;induction xs with|nil=>simp|cons x xs l=>intro vs j b;cases vs with|nil=>cases j<;>simp[AR]|cons v vs=>cases j with|zero=>grind[AR,cnt]|succ j=>grind[AR]
 exact {hs with rep:=key j hs.rep,own:=e j hs.own,tok:=λb=>by have:=f af a.tmps.toList j b;have:=hs.tok b;omega}
def Sim.mask (js:List Tmp): ∀ {af:List AVal},Sim E F O st w af a.tmps.toList->Sim E F O st w (Al js af) a.tmps.toList:=by induction js with|nil=>intro af hs;exact hs|cons j js e=>intro af hs;exact e (hs.setAny j)
def Vt{c:Code} (js:List Tmp) (h:AWp E c Q (Al js af) st):AWp E c Q af st:=⟨λF O w a hd hs=>h.go F O w a hd (hs.mask js)⟩
def Vq (js:List Tmp): ∀(af:List AVal) (j:Tmp),Al js (af.set j .any)=(Al js af).set j .any:=by induction js<;>grind[Al,List.set_set,List.set_comm]
theorem Mm: ∀(cs:List Tmp) (af af0:List AVal),Al cs af=Al cs af0->af=setVals af0 cs (Co af cs):=by
 intro cs;induction cs with
 |nil=>intro af af0 h;exact h
 | cons c cs ih=>
  intro af af0 h;simp only[Al]at h;simp only[Co,aH,setVals];have A:Al cs af=Al cs (af0.set c (af.getD c .any)):=by
   have B:af.length=af0.length:=by
    have z: ∀(l:List Tmp) (x:List AVal),(Al l x).length=x.length:=by intro l;induction l<;>grind[Al]
    have:=br List.length h;grind
   rw[Vq,Vq]at h;apply ce;intro i;have hi:=br (·[i]?) h;simp only[dt]at hi;have f: ∀(l:List Tmp) (x:List AVal) (k:Nat),(Al l x)[k]?=if k∈l then(if k<x.length then some .any else none)else x[k]?:=by
    intro l;induction l with
    |nil=>grind[Al]
    | cons j l ih=>
     intro x k;simp only[Al,ih,b9,aO];by_cases hkl:k∈l;·grind
     ·by_cases hkj:k=j;·subst hkj;simp only[hkl,aA,true_or,az,dt]
      ·simp only[hkl,aA,hkj,eM,dt];rw[aj (λe=>hkj e.symm)]
   rw[f,f];rw[f,f]at hi;by_cases hic:i∈cs;·grind
   ·simp only[hic,aA]at hi⊢;rw[dt];by_cases hci:c=i;·subst hci;simp only[az];by_cases hlt:c<af.length<;>simp_all[List.getD]
    simp_all
  exact ih af _ A
def ADz{c:Code} (js cs:List Tmp) (I:Nat->List AVal->St->Prop) (n₀:Nat) (h₀:I n₀ (Co (Al js af) cs) st) (round: ∀n vs f,I n vs f->∀J:List AVal->St->Prop,(∀n' af' f m,n'<n->m.Sublist f.m->Al cs (Al js af')=Al cs (Al js af)->I n' (Co (Al js af') cs) {f with m:=m}->J af' f)->AWp E c (kPost J Q) (setVals (Al js af) cs vs) f):AWp E (.loop c) Q af st:=by refine Vt js ?_;constructor;intro F O w a hd hs;refine wp_loop_ghost (λn G w'=>G.defers=[]/\∃O' vs f,Ext F O w O' w'/\st.next<=f.next/\Sim E F O' f w' (setVals (Al js af) cs vs) G.tmps.toList/\I n vs f) n₀ ⟨hd,O,Co (Al js af) cs,st,Ext.refl _ _ _,av _,by rw[<-Mm cs _ _ rfl];omega,h₀⟩ ?_;intro n a₁ w₁ ⟨hd1,O₁,vs₁,st₁,h2,h3,h4,h5⟩;refine fm ((round n vs₁ st₁ h5 (λaf' f=>∃n' m,n'<n/\m.Sublist f.m/\Al cs (Al js af')=Al cs (Al js af)/\I n' (Co (Al js af') cs) {f with m:=m}) (λn' af' f m A j z l=>⟨n',m,A,j,z,l⟩)).go F O₁ w₁ a₁ hd1 h4) ?_;intro e G w' B;have B:=X8 h2 h3 B;cases e with|normal=>obtain⟨_,A,O',af',f,j,z,l,C⟩:=B;obtain⟨n',m,H,P,M,L⟩:=C.get;refine⟨n',H,A,O',Co (Al js af') cs,{f with m:=m},j,z,?_,L⟩;rw[<-Mm cs _ _ M];exact(l.mask js).fewer P|_=>obtain⟨k0,A,O',af',f,j,z,l,C⟩:=B;exact⟨k0,A,O',af',f,j,z,l,C.out fN⟩
theorem AE.strip{f:FuncId}{l:List AVal}{Q:AVal->St->Prop} (h:AE E f l st λr j=>Q r.strip j):AE E f l st Q:=⟨λF O w z hs=>(h.go F O w z hs).mono λe w' ⟨v,he,O',r,j,h1,h2,h3,h4⟩=>⟨v,he,O',r.strip,j,h1,h2,by
 have B:Rep O' r v:=by have:=h3.rep;cases this;omega
 have A: ∀b,F b+AR b [r.strip] [v]+Aq O' w' b j.m<=1:=λb=>by have:=h3.tok b;grind[AR,JU]
 exact {h3 with rep:=.cons B.strip .nil,own:=(by grind[ownL,NG]),tok:=A},h4⟩⟩
end
end Go.VM
namespace Go.VM
mutual def bnd:AVal->Prop|.agg cs=>bndL cs|.tuple cs=>bndL cs|.slice _ xs _=>xs.length<=Ca|.str s=>s.length<=Ca|.buf _ l _=>l.length<=Ca|_=>True def bndL:List AVal->Prop|[]=>True|x::xs=>bnd x/\bndL xs end
mutual theorem Rep.bnd{O:At}: {x:AVal}->{v:Value}->Rep O x v->VM.bnd x|_,_,.any v=>by simp[VM.bnd]|_,_,.bool b=>by simp[VM.bnd]|_,_,.int k n=>by simp[VM.bnd]|_,_,.str b h=>by grind[VM.bnd]|_,_,.agg h o=>by simp only[VM.bnd];exact RepL.bndL h|_,_,.tuple h=>by simp only[VM.bnd];exact RepL.bndL h|_,_,.snil w o a=>by simp[VM.bnd]|_,_,.slice o hb hl hc h _=>by grind[VM.bnd]|_,_,.ptr h=>by simp[VM.bnd]|_,_,.nilp=>by simp[VM.bnd]|_,_,.cptr hb hd h _=>by simp[VM.bnd]|_,_,.fn h k=>by simp[VM.bnd]|_,_,.nilFn=>by simp[VM.bnd]|_,_,.iface h=>by simp[VM.bnd]|_,_,.nilIface=>by simp[VM.bnd]|_,_,.iter _ _ _=>by simp[VM.bnd]|_,_,.bsl _ _ _=>by simp[VM.bnd]|_,_,.nself _=>by simp[VM.bnd]|_,_,.buf _ h _=>by have:=Rep.bnd h;grind[VM.bnd,u8s]|_,_,.bnil _ _=>by simp[VM.bnd]|_,_,.bufp _ _ _ _ _=>by simp[VM.bnd]|_,_,.map _ _ _=>by simp[VM.bnd]|_,_,.slop _ _ _ _=>by simp[VM.bnd]|_,_,.sh _ _=>by simp[VM.bnd]|_,_,.sptr _=>by simp[VM.bnd]|_,_,.gsl _ _ _ _=>by simp[VM.bnd]|_,_,.nmap=>by simp[VM.bnd]|_,_,.vec _ _ _=>by simp[VM.bnd]|_,_,.hset _ _=>by simp[VM.bnd]|_,_,.vptr _=>by simp[VM.bnd]|_,_,.num _ _=>by simp[VM.bnd]|_,_,.nbuf _=>by simp[VM.bnd]|_,_,.trow _ _ _ _=>by simp[VM.bnd] theorem RepL.bndL{O:At}: {xs:List AVal}->{vs:List Value}->RepL O xs vs->VM.bndL xs|_,_,.nil=>by simp[VM.bndL]|_,_,.cons h t=>by simp only[VM.bndL];exact⟨Rep.bnd h,RepL.bndL t⟩ end
theorem RepS.bndL{O:At}{w:Nat}{xs:List AVal}{cs:List Value} (h:RepS O w xs cs):VM.bndL xs:=by induction xs generalizing cs with|nil=>simp[VM.bndL]|cons x xs e=>cases h with|cons h f t=>simp only[VM.bndL];exact⟨h.bnd,e t⟩
def keysLt (n:Nat) (m:List (Nat×List AVal)):Prop:= ∀i,n<=i->Aj m i=none
theorem Sim.keysLt{E:Env}{F:Nat->Nat}{O:At}{st:St}{w:World}{af:List AVal}{e:List Value} (hs:Sim E F O st w af e):keysLt st.next st.m:=by intro i hi;cases hm:Aj st.m i with|none=>rfl|some c=>have:=hs.key_lt (Mt hm);omega
theorem AWp.known{E:Env}{c:Code}{Q:APost}{af:List AVal}{st:St} (h:bndL af->keysLt st.next st.m->AWp E c Q af st):AWp E c Q af st:=⟨λF O w a hd hs=>(h hs.rep.bndL hs.keysLt).go F O w a hd hs⟩
theorem AE.known{E:Env}{f:FuncId}{e:List AVal}{st:St}{Q:AVal->St->Prop} (h:bndL e->keysLt st.next st.m->AE E f e st Q):AE E f e st Q:=⟨λF O w j hs=>(h hs.rep.bndL hs.keysLt).go F O w j hs⟩
inductive Deep:AVal->Prop|leaf{x:AVal} (h:bnd x) (hc:match x with|.agg _|.tuple _|.slice _ _ _=>False|_=>True):Deep x|agg{cs:List AVal} (h: ∀x,x∈cs->Deep x):Deep (.agg cs)|tuple{cs:List AVal} (h: ∀x,x∈cs->Deep x):Deep (.tuple cs)|slice{w:Nat}{xs:List AVal}{o:Bool} (hl:xs.length<=Ca) (h: ∀x,x∈xs->Deep x):Deep (.slice w xs o)
theorem Deep.bnd{x:AVal} (h:Deep x):VM.bnd x:=by induction h with|leaf h f=>exact h|agg h e=>rename_i cs;simp only[VM.bnd];clear h;induction cs<;>grind[VM.bndL]|tuple h e=>rename_i cs;simp only[VM.bnd];clear h;induction cs<;>grind[VM.bndL]|slice j h e=>grind[VM.bnd]
theorem ARp{n:Nat} (h:n<=Ca):IntKind.i64.wrap (n:Int)=n:=by grind[Ca,IntKind.wrap,IntKind.bits,IntKind.signed]
theorem AF7{n:Nat} (h:n<=Ca):IntKind.i64.wrap ((n:Int)+1)=((n+1:Nat):Int):=by grind[Ca,IntKind.wrap,IntKind.bits,IntKind.signed]
end Go.VM
namespace Go.VM
section
variable{E:Env}{mv:List Tmp}{ops:Array Oper}{K:List AVal->St->Prop}{af:List AVal}{st:St}
def UB (x:Option AVal) (d:Option Tmp) (K:List AVal->St->Prop) (af:List AVal) (st:St):Prop:=match x with|some r=>K (Ae af d r) st|none=>False
def Ou (x:Option AVal) (d:Option Tmp) (K:List AVal->St->Prop) (af:List AVal) (st:St):Prop:=match x with|some r=>K (Ae af d r.strip) st|none=>False
def SA (x:Option (AVal×St)) (d:Option Tmp) (K:List AVal->St->Prop) (af:List AVal):Prop:=match x with|some p=>K (Ae af d p.1) p.2|none=>False
def Ahc (b:Bool) (x:AVal) (d:Option Tmp) (K:List AVal->St->Prop) (af:List AVal) (st:St):Prop:=if b=true then K (Ae af d (.ptr st.next 0)) {m:=(st.next,Aa x)::st.m,next:=st.next+1}else False
def AD6 (x:Option (List AVal)) (d:Option Tmp) (K:List AVal->St->Prop) (af:List AVal) (st:St):Prop:=match x with|some cs=>K (Ae af d (.ptr st.next 0)) {m:=(st.next,cs)::st.m,next:=st.next+1}|none=>False
def AbP (x u:Option AVal) (y:Option (AVal×St)) (st:St):Option (AVal×St):=match x with|some r=>some (r.strip,st)|none=>match u with|some r=>some (r,st)|none=>y
def UW (x:Option St) (K:List AVal->St->Prop) (af:List AVal):Prop:=match x with|some st=>K af st|none=>False
def AYs (x:AVal) (n:Nat):Option AVal:=match x with|.tuple vs=>vs[n]?|_=>none
def AYR (x:AVal) (n:Nat):AVal:=match x with|.tuple vs=>.tuple (vs.set n ((vs.getD n .any).strip))|x=>x
def ApZ (x:Option AVal) (y:Option St) (d:Option Tmp) (K:List AVal->St->Prop) (af:List AVal) (st:St):Prop:=match x with|some r=>K (Ae af d r) st|none=>match y with|some e=>K (Ae af d (.sh st.next)) e|none=>False
def AD1 (E:Env) (t:TypeId) (x:AVal) (lo hi mx:Option (Option Int)) (d:Option Tmp) (K:List AVal->St->Prop) (af:List AVal) (st:St):Prop:=match lo,hi,mx with|some l,some h,some m=>ApZ (GZ E t x l h m) (TN E t x l h m st) d K af st|_,_,_=>False
def Ad6 (d:Option Tmp) (K:List AVal->St->Prop) (af:List AVal):AVal->St->Prop:=λr st=>K (Ae af d r) st
def AUD (E:Env) (f:AVal) (xs:List AVal) (d:Option Tmp) (K:List AVal->St->Prop) (af:List AVal) (st:St):Prop:=match f with|.fn (.func g) p q=>CallX E g (stripL (p++xs++q)) st (Ad6 d K af)|_=>False
theorem Ahj{r:AVal}{d:Option Tmp}:UB (some r) d K af st=K (Ae af d r) st:=rfl
theorem AYL{r:AVal}{d:Option Tmp}:Ou (some r) d K af st=K (Ae af d r.strip) st:=rfl
theorem AX4{r:AVal}{s:St}{d:Option Tmp}:SA (some (r,s)) d K af=K (Ae af d r) s:=rfl
def AgJ{x:AVal}{d:Option Tmp}:Ahc true x d K af st=K (Ae af d (.ptr st.next 0)) {m:=(st.next,Aa x)::st.m,next:=st.next+1}:=by simp[Ahc]
theorem AUm{cs:List AVal}{d:Option Tmp}:AD6 (some cs) d K af st=K (Ae af d (.ptr st.next 0)) {m:=(st.next,cs)::st.m,next:=st.next+1}:=rfl
theorem AyM{r:AVal}{u:Option AVal}{y:Option (AVal×St)}:AbP (some r) u y st=some (r.strip,st):=rfl
theorem Ayc{r:AVal}{y:Option (AVal×St)}:AbP none (some r) y st=some (r,st):=rfl
theorem Az3{y:Option (AVal×St)}:AbP none none y st=y:=rfl
theorem AVU:UW (some st) K af=K af st:=rfl
theorem AQk{n:Nat}{vs:List AVal}:AYs (.tuple vs) n=vs[n]?:=rfl
theorem AKM{n:Nat}{vs:List AVal}:AYR (.tuple vs) n=.tuple (vs.set n ((vs.getD n .any).strip)):=rfl
theorem AfI{r:AVal}{y:Option St}{d:Option Tmp}:ApZ (some r) y d K af st=K (Ae af d r) st:=rfl
theorem AgX{s:St}{d:Option Tmp}:ApZ none (some s) d K af st=K (Ae af d (.sh st.next)) s:=rfl
theorem AVb{t:TypeId}{x:AVal}{lo hi mx:Option Int}{d:Option Tmp}:AD1 E t x (some lo) (some hi) (some mx) d K af st=ApZ (GZ E t x lo hi mx) (TN E t x lo hi mx st) d K af st:=rfl
theorem ApM{d:Option Tmp}{r:AVal}:Ad6 d K af r st=K (Ae af d r) st:=rfl
theorem AoP{g:FuncId}{p q xs:List AVal}{d:Option Tmp}:AUD E (.fn (.func g) p q) xs d K af st=if callable E.P g=true then AE E g (stripL (p++xs++q)) st (Ad6 d K af)else ABj E g (stripL (p++xs++q)) st (Ad6 d K af):=rfl
def ApA{d:Option Tmp}:Q7 [] d=false:=by cases d<;>rfl
section ops
variable{d:Option Tmp}{ty:TypeId}{pos:String}{aft:Array Edge}{g:Option (Nat×Bool)}
def fzK (fz:Bool) (y:Option (Nat×Nat×List AVal)) (j:Tmp) (v:AVal) (d:Option Tmp) (K:List AVal->St->Prop) (af:List AVal) (st:St):Prop:=match fz,y with|true,some (i,w,xs)=>K (Ae (af.set j (.slice w xs false)) d (.slice w xs false)) {st with m:=A9 st.m i [.any]}|_,_=>K (Ae (stripAt af (.tmp j)) d v) st
theorem A2k{y:Option (Nat×Nat×List AVal)}{j:Tmp}{v:AVal}:fzK false y j v d K af st=K (Ae (stripAt af (.tmp j)) d v) st:=rfl
theorem A2c{i w:Nat}{xs:List AVal}{j:Tmp}{v:AVal}:fzK true (some (i,w,xs)) j v d K af st=K (Ae (af.set j (.slice w xs false)) d (.slice w xs false)) {st with m:=A9 st.m i [.any]}:=rfl
def A2I{fz:Bool}{j:Tmp}{v:AVal}:fzK fz none j v d K af st=K (Ae (stripAt af (.tmp j)) d v) st:=by cases fz<;>rfl
def nmK (fz:Bool) (v:AVal) (x:Operand) (d:Option Tmp) (K:List AVal->St->Prop) (af:List AVal) (st:St):Prop:=match v,x with|.vec w xs,.tmp i=>K (Ae (af.set i (.sh st.next)) d (.sh st.next)) {m:=(st.next,[.vec w xs])::st.m,next:=st.next+1}|.sh i,.tmp j=>fzK fz (LG st (.sh i)) j (.sh i) d K af st|v,x=>K (Ae (stripAt af x) d v) st
def mvK (b fz:Bool) (x:Operand) (ty:TypeId) (E:Env) (d:Option Tmp) (K:List AVal->St->Prop) (af:List AVal) (st:St):Prop:=if b=true then nmK fz (rd E af ty x) x d K af st else K (Ae af d (rd E af ty x).strip) st
def AkV{fz:Bool}{x:Operand}:mvK true fz x ty E d K af st=nmK fz (rd E af ty x) x d K af st:=by simp[mvK]
theorem Ayw{fz:Bool}{i w:Nat}{xs:List AVal}:nmK fz (.vec w xs) (.tmp i) d K af st=K (Ae (af.set i (.sh st.next)) d (.sh st.next)) {m:=(st.next,[.vec w xs])::st.m,next:=st.next+1}:=rfl
def A0Z{fz:Bool}{x:Operand}:nmK fz .any x d K af st=K (Ae (stripAt af x) d .any) st:=by cases x<;>rfl
def Ay6{fz:Bool}{x:Operand}{k:IntKind}{n:Int}:nmK fz (.int k n) x d K af st=K (Ae (stripAt af x) d (.int k n)) st:=by cases x<;>rfl
def Au2{fz:Bool}{x:Operand}{b:Bool}:nmK fz (.bool b) x d K af st=K (Ae (stripAt af x) d (.bool b)) st:=by cases x<;>rfl
def AyQ{fz:Bool}{x:Operand}{s:B8}:nmK fz (.str s) x d K af st=K (Ae (stripAt af x) d (.str s)) st:=by cases x<;>rfl
def Az2{fz:Bool}{x:Operand}{c:List AVal}:nmK fz (.agg c) x d K af st=K (Ae (stripAt af x) d (.agg c)) st:=by cases x<;>rfl
def AnL{fz:Bool}{x:Operand}{c:List AVal}:nmK fz (.tuple c) x d K af st=K (Ae (stripAt af x) d (.tuple c)) st:=by cases x<;>rfl
def AlU{fz:Bool}{x:Operand}{w:Nat}{c:List AVal}{o:Bool}:nmK fz (.slice w c o) x d K af st=K (Ae (stripAt af x) d (.slice w c o)) st:=by cases x<;>rfl
def Ayd{fz:Bool}{x:Operand}{i f:Nat}:nmK fz (.ptr i f) x d K af st=K (Ae (stripAt af x) d (.ptr i f)) st:=by cases x<;>rfl
def AyO{fz:Bool}{x:Operand}{e:TypeId}{l:B8}{o:Bool}:nmK fz (.buf e l o) x d K af st=K (Ae (stripAt af x) d (.buf e l o)) st:=by cases x<;>rfl
def Avt{fz:Bool}{x:Operand}{e:TypeId}{l:B8}{o:Bool}:nmK fz (.bufp e l o) x d K af st=K (Ae (stripAt af x) d (.bufp e l o)) st:=by cases x<;>rfl
theorem A1l{fz:Bool}{j:Tmp}{i:Nat}:nmK fz (.sh i) (.tmp j) d K af st=fzK fz (LG st (.sh i)) j (.sh i) d K af st:=rfl
def Azd{fz:Bool}{x:Operand}{w i l:Nat}:nmK fz (.gsl w i l) x d K af st=K (Ae (stripAt af x) d (.gsl w i l)) st:=by cases x<;>rfl
def Azf{fz:Bool}{x:Operand}{w i o l:Nat}:nmK fz (.bsl w i o l) x d K af st=K (Ae (stripAt af x) d (.bsl w i o l)) st:=by cases x<;>rfl
def Avn{fz:Bool}{x:Operand}{s:B8}{p:Nat}:nmK fz (.iter s p) x d K af st=K (Ae (stripAt af x) d (.iter s p)) st:=by cases x<;>rfl
def tkK (y:Option (Nat×Nat×List AVal)) (v:AVal) (x:Operand) (d:Option Tmp) (K:List AVal->St->Prop) (af:List AVal) (st:St):Prop:=match y with|some (i,w,xs)=>K (Ae af d (.vec w xs)) {st with m:=A9 st.m i [.any]}|none=>K (Ae (stripAt af x) d v) st
theorem Anm{i w:Nat}{xs:List AVal}{v:AVal}{x:Operand}:tkK (some (i,w,xs)) v x d K af st=K (Ae af d (.vec w xs)) {st with m:=A9 st.m i [.any]}:=rfl
theorem AlS{v:AVal}{x:Operand}:tkK none v x d K af st=K (Ae (stripAt af x) d v) st:=rfl
def vnK (y:Option Nat) (X:Prop) (d:Option Tmp) (K:List AVal->St->Prop) (af:List AVal) (st:St):Prop:=match y with|some w=>K (Ae af d (.vec w [])) st|none=>X
theorem Ank{w:Nat}{X:Prop}:vnK (some w) X d K af st=K (Ae af d (.vec w [])) st:=rfl
theorem Ao0{X:Prop}:vnK none X d K af st=X:=rfl
theorem AkN{t:TypeId}:AXz E (.const (.slice none 0 0)) t=Bh E.P t:=rfl
theorem Aq2{i:Tmp}{t:TypeId}:AXz E (.tmp i) t=none:=rfl
def atK (x:Operand) (ty:TypeId) (E:Env) (d:Option Tmp) (K:List AVal->St->Prop) (af:List AVal) (st:St):Prop:=match x with|.tmp i=>tkK (LG st (af.getD i .any)) (af.getD i .any) (.tmp i) d K af st|x=>K (Ae (stripAt af x) d (rd E af ty x)) st
theorem AvU{i:Tmp}:atK (.tmp i) ty E d K af st=tkK (LG st (af.getD i .any)) (af.getD i .any) (.tmp i) d K af st:=rfl
def asT (x:Operand) (ty:TypeId) (E:Env) (d:Option Tmp) (K:List AVal->St->Prop) (af:List AVal) (st:St):Prop:=vnK (AXz E x ty) (atK x ty E d K af st) d K af st
theorem Azs{x:Operand}:asT x ty E d K af st=vnK (AXz E x ty) (atK x ty E d K af st) d K af st:=rfl
def asK (b:Bool) (x:Operand) (ty:TypeId) (E:Env) (d:Option Tmp) (K:List AVal->St->Prop) (af:List AVal) (st:St):Prop:=if b=true then asT x ty E d K af st else K (Ae (stripAt af x) d (rd E af ty x)) st
def Ap5{x:Operand}:asK true x ty E d K af st=asT x ty E d K af st:=by simp[asK]
def Aeq{x:Operand}:asK false x ty E d K af st=K (Ae (stripAt af x) d (rd E af ty x)) st:=by simp[asK]
def vaR (i:Nat) (y:Option (List AVal)):Option (Nat×Nat×List AVal):=match y with|some [.vec w xs]=>some (i,w,xs)|_=>none
theorem A0u{w:Nat}{xs:List AVal}:LG st (.vec w xs)=none:=rfl
def A19{i:Nat}:LG st (.sh i)=vaR i (Aj st.m i):=by unfold vaR;rfl
theorem Ans{i w:Nat}{xs:List AVal}:vaR i (some [.vec w xs])=some (i,w,xs):=rfl
def Aiu{fz:Bool}{x:Operand}:mvK false fz x ty E d K af st=K (Ae af d (rd E af ty x).strip) st:=by simp[mvK]
def ldK (b:Bool) (t:TypeId) (x:AVal) (E:Env) (d:Option Tmp) (K:List AVal->St->Prop) (af:List AVal) (st:St):Prop:=if b=true then SA (Tc E t x st) d K af else Ou (Tm E t x st) d K af st
def Ak0{t:TypeId}{x:AVal}:ldK true t x E d K af st=SA (Tc E t x st) d K af:=by simp[ldK]
def AeU{t:TypeId}{x:AVal}:ldK false t x E d K af st=Ou (Tm E t x st) d K af st:=by simp[ldK]
theorem Ai6{d:Tmp}:AE8 mv (some d)=mv.contains (d+1000000):=rfl
theorem Ahm:AE8 mv none=false:=rfl
def Aur{x:Operand}:DN E mv ⟨d,.move x,ty,pos,aft,g⟩ af st K=mvK (Q7 mv d) (AE8 mv d) x ty E d K af st:=by
 simp only[DN,Ej,mvK];cases Q7 mv d;·simp
 ·simp only[az];cases x with
  |tmp i=>
   have e:AFN (AE8 mv d) af (.tmp i) st=if AE8 mv d=true then(LG st (af.getD i .any)).map λp=>(i,p.1,p.2.1,p.2.2)else none:=by cases AE8 mv d<;>rfl
   rw[e];simp only[nameV,rd];generalize af.getD i .any=v;cases v<;>cases AE8 mv d<;>try rfl
   rename_i j;simp only[nmK,fzK,az];rcases LG st (.sh j)with _|⟨i',w,xs⟩<;>simp
  |_=>simp only[nameV];cases AE8 mv d<;>cases (rd E af ty _)<;>rfl
def Ahr{x:Operand}:DN E mv ⟨d,.assign x,ty,pos,aft,g⟩ af st K=asK (Q7 mv d) x ty E d K af st:=by
 simp only[DN,Ej,asK];cases Q7 mv d;·simp
 ·simp only[az,ACV,asT,vnK];cases AXz E x ty with|some w=>rfl|none=>cases x with|tmp i=>simp only[ABB,rd,atK,tkK];cases LG st (af.getD i .any)<;>rfl|_=>rfl
def alG{α:Type} (b:Bool) (x y:Option α):Option α:=if b=true then x else y
theorem A1u{α:Type}{x y:Option α}:alG false x y=y:=rfl
theorem A1B{α:Type}{x y:Option α}:alG true x y=x:=rfl
def AnI{t:TypeId}:DN E mv ⟨d,.alloc t,ty,pos,aft,g⟩ af st K=AD6 (alG (Q7 mv d) (Xj E.P t st.next) (Ci E.P t st.next)) d K af st:=by
 simp only[DN,Ej,AD6,alG];cases Q7 mv d<;>simp only[az,aA,ap];·cases Ci E.P t st.next<;>rfl
 grind
def Ayv{t:TypeId}{x:Operand}:DN E mv ⟨d,.box t x,ty,pos,aft,g⟩ af st K=Ahc (Ch (rd E af t x)) (rd E af t x) d K (stripAt af x) st:=by simp only[DN,Ej,Ahc];cases Ch (rd E af t x)<;>simp
def Ak9{t:TypeId}{ps:List (Nat×Operand)}:DN E mv ⟨d,.build t ⟨ps⟩,ty,pos,aft,g⟩ af st K=UB (V4 E t (Bg E (AQ E.P t) af ps).2) d K (Bg E (AQ E.P t) af ps).1 st:=by simp only[DN,Ej,UB];cases V4 E t (Bg E (AQ E.P t) af ps).2<;>rfl
def bsK (b:Bool) (u:Option (Nat×List AVal)) (v:Option AVal) (n:Nat) (d:Option Tmp) (K:List AVal->St->Prop) (e af:List AVal) (st:St):Prop:=if b=true then(match u with|some p=>K (Ae e d (.gsl p.1 st.next n)) {m:=(st.next,p.2)::st.m,next:=st.next+1}|none=>False)else UB v d K af st
def AgI{u:Option (Nat×List AVal)}{v:Option AVal}{n:Nat}{e:List AVal}:bsK false u v n d K e af st=UB v d K af st:=by simp[bsK]
def AC2{v:Option AVal}{n w:Nat}{cs e:List AVal}:bsK true (some (w,cs)) v n d K e af st=K (Ae e d (.gsl w st.next n)) {m:=(st.next,cs)::st.m,next:=st.next+1}:=by simp[bsK]
def AFT{t:TypeId}{n:Nat}{ps:List (Nat×Operand)}:DN E mv ⟨d,.buildSlice t n ⟨ps⟩,ty,pos,aft,g⟩ af st K=bsK (Q7 mv d) (Js E t n (Bg E (λ_=>AQ E.P t 0) af ps).2) (Ik E t n (Bg E (λ_=>AQ E.P t 0) af ps).2) n d K (Bg E (λ_=>AQ E.P t 0) af ps).1 af st:=by
 simp only[DN,Ej,UB,bsK];cases Q7 mv d;·simp only[ap,aA];cases Ik E t n (Bg E (λ_=>AQ E.P t 0) af ps).2<;>rfl
 ·simp only[az];cases Js E t n (Bg E (λ_=>AQ E.P t 0) af ps).2<;>rfl
def At0{t:TypeId}{x:Operand}:DN E mv ⟨d,.load t x,ty,pos,aft,g⟩ af st K=ldK (Q7 mv d) t (rd E af 0 x) E d K af st:=by
 simp only[DN,Ej,ldK,SA,Ou];cases Q7 mv d;·simp only[ap,aA];cases Tm E t (rd E af 0 x) st<;>rfl
 ·simp only[az];cases Tc E t (rd E af 0 x) st<;>rfl
def AnG{t:TypeId}{x y:Operand}:DN E mv ⟨none,.store t x y,ty,pos,aft,g⟩ af st K=UW (QA E t (rd E af 0 x) (rd E af t y) st) K (stripAt af y):=by simp only[DN,Ej,UW,dj,az];cases QA E t (rd E af 0 x) (rd E af t y) st<;>rfl
def AYc{t n:Nat}:DN E mv ⟨d,.extract (.tmp t) n,ty,pos,aft,g⟩ af st K=UB (AYs (af.getD t .any) n) d K (af.set t (AYR (af.getD t .any) n)) st:=by grind[DN,Ej,AYs,AYR,UB,List.getD]
def AmZ{t:TypeId}{x:Operand}{lo hi mx:Option Operand}:DN E mv ⟨d,.slice t x lo hi mx,ty,pos,aft,g⟩ af st K=AD1 E t (rd E af t x) (rdo E af lo) (rdo E af hi) (rdo E af mx) d K af st:=by simp only[DN,Ej,AD1];cases rdo E af lo<;>cases rdo E af hi<;>cases rdo E af mx<;>(try rfl);simp only[ApZ];cases GZ E t (rd E af t x) _ _ _ with|some r=>rfl|none=>simp only[];cases TN E t (rd E af t x) _ _ _ st<;>rfl
def ADP (g:Bool) (x:AVal) (d:Option Tmp) (K:List AVal->St->Prop) (af:List AVal) (st:St):Prop:=match x with|.str s=>if g=true then K (Ae af d (.iter s 0)) st else False|_=>False
def Aou{t:TypeId}{x:Operand}:DN E mv ⟨d,.range t x,ty,pos,aft,g⟩ af st K=ADP (Di E.P t) (rd E af t x) d K af st:=by grind[DN,Ej,ADP,rd,Di]
theorem Abd{s:B8}:ADP true (.str s) d K af st=K (Ae af d (.iter s 0)) st:=rfl
def AC1 (x:AVal) (t:Tmp) (d:Option Tmp) (K:List AVal->St->Prop) (af:List AVal) (st:St):Prop:=match x with|.iter s pos=>K (AGi s pos t d af) st|_=>False
def Awu{t:Tmp}:DN E mv ⟨d,.next (.tmp t) true,ty,pos,aft,g⟩ af st K=AC1 (af.getD t .any) t d K af st:=by simp only[DN,Ej,AC1];cases af.getD t .any<;>rfl
def AX6{t:Tmp}{s:B8}{p:Nat}:AC1 (.iter s p) t d K af st=if decide (p<s.length)=true then K (Ae (af.set t (.iter s (p+(Df s p).2))) d (.tuple [.bool true,.int .i64 p,.int .i32 (Df s p).1])) st else K (Ae af d (.tuple [.bool false])) st:=by simp only[AC1,AGi];split<;>rfl
theorem AvV:NB (.any)=false:=rfl
theorem AlA{b:Bool}:NB (.bool b)=false:=rfl
theorem AtZ{k:IntKind}{n:Int}:NB (.int k n)=false:=rfl
theorem Au9{s:B8}:NB (.str s)=false:=rfl
theorem AuF{c:List AVal}:NB (.agg c)=false:=rfl
theorem AeV{c:List AVal}:NB (.tuple c)=false:=rfl
theorem AiW{w:Nat}{c:List AVal}{o:Bool}:NB (.slice w c o)=false:=rfl
theorem Av9{i f:Nat}:NB (.ptr i f)=false:=rfl
theorem Ao8:NB (.nilp)=false:=rfl
theorem ApR{c:List AVal}:NB (.cptr c)=false:=rfl
theorem A0E{f:Fn}{p q:List AVal}:NB (.fn f p q)=false:=rfl
theorem Agw:NB (.nilFn)=false:=rfl
theorem AfA{t:TypeId}{v:AVal}:NB (.iface t v)=false:=rfl
theorem AK8:NB (.nilIface)=false:=rfl
theorem Avx{w i f n:Nat}:NB (.bsl w i f n)=false:=rfl
theorem AfT{i:Nat}{T:TypeId}{n:Nat}:NB (.nself i T n)=false:=rfl
theorem Awh{e:TypeId}{l:B8}{o:Bool}:NB (.buf e l o)=false:=rfl
theorem ArJ{e:TypeId}{l:B8}{o:Bool}:NB (.bufp e l o)=false:=rfl
def shS (b:Bool) (x y:Option St):Option St:=if b=true then x else y
def Axr{x y:Option St}:shS false x y=y:=by simp[shS]
def Axk{x y:Option St}:shS true x y=x:=by simp[shS]
def VN (E:Env) (t:TypeId) (e v:AVal) (st:St):Option St:=match v with
 |.sh i=>match Aj st.m i with|some [.slice w xs o]=>if NB e=false then TZ E t e (.slice w xs o) {st with m:=A9 st.m i [.slice w xs false]}else none|_=>TZ E t e (.sh i) st
 |v=>TZ E t e v st
def AAz{t:TypeId}{x v:AVal}:QA E t x v st=shS (NB v) (VN E t x v st) (TZ E t x v st):=by cases v<;>first|rfl|(simp only[shS,NB,az];rfl)
def AzA{t:TypeId}{i f:Nat}{v:AVal}:QA E t (.ptr i f) v st=shS (NB v) (VN E t (.ptr i f) v st) (AAu E t (.ptr i f) v st):=AAz
def AcD{t:TypeId}{i w n:Nat}{v:AVal}:QA E t (.sptr i w n) v st=shS (NB v) (VN E t (.sptr i w n) v st) (ACv E t (.sptr i w n) v st):=AAz
def agK (b:Bool) (u:Option (Nat×Nat×List AVal×List (Nat×List AVal)×Option Nat)) (X:Prop) (d:Option Tmp) (K:List AVal->St->Prop) (af:List AVal) (st:St):Prop:=if b=true then(match u with|some (wd,l,cs,rest,jo)=>∀i,i=st.next\/jo=some i->K (Ae af d (.gsl wd i l)) {m:=(i,cs)::rest,next:=st.next+1}|none=>False)else X
def Adv{u:Option (Nat×Nat×List AVal×List (Nat×List AVal)×Option Nat)}{X:Prop}:agK false u X d K af st=X:=by simp[agK]
theorem AdS{w:Nat}{l:List AVal}{o:Bool}:U2 (.slice w l o)=false:=rfl
theorem Av8{l:B8}:U2 (.str l)=false:=rfl
theorem AwG{w i n:Nat}:U2 (.gsl w i n)=true:=rfl
def AoJ{w:Nat}{l:List AVal}{o:Bool}{y:AVal}:ACz (.slice w l o) y=U2 y:=by simp[ACz,U2]
def Ayg{e:TypeId}{l:B8}{o:Bool}{y:AVal}:ACz (.buf e l o) y=U2 y:=by simp[ACz,U2]
def Azn{w i n:Nat}{y:AVal}:ACz (.gsl w i n) y=true:=by simp[ACz,U2]
theorem AyP{f e:TypeId}{x:AVal}{w i n:Nat}:appG E f e x (.gsl w i n) st=AWE E f e x (.gsl w i n) st:=rfl
def AwY{wd l:Nat}{cs:List AVal}{rest:List (Nat×List AVal)}{e:Option Nat}{X:Prop}{d:Option Tmp}{K:List AVal->St->Prop}{af:List AVal}{st:St} (h: ∀i,i=st.next\/e=some i->K (Ae af d (.gsl wd i l)) {m:=(i,cs)::rest,next:=st.next+1}):agK true (some (wd,l,cs,rest,e)) X d K af st:=by grind[agK]
theorem Ayu{e f:TypeId}{x:AVal}{l:B8}:appG E e f x (.str l) st=AhC E e f x (.str l) st:=rfl
def vpK (v:Option AVal) (y:Option St) (d:Option Tmp) (K:List AVal->St->Prop) (f af:List AVal) (st:St):Prop:=match v with|some r=>K (Ae f d r) st|none=>match y with|some e=>K (Ae af d (.sh st.next)) e|none=>False
theorem AqF{r:AVal}{y:Option St}{e:List AVal}:vpK (some r) y d K e af st=K (Ae e d r) st:=rfl
theorem Amr{s:St}{e:List AVal}:vpK none (some s) d K e af st=K (Ae af d (.sh st.next)) s:=rfl
def apK (b:Bool) (u v:Option AVal) (y:Option St) (f:Option (AVal×St)) (d:Option Tmp) (K:List AVal->St->Prop) (af af0:List AVal) (st:St):Prop:=if b=true then(match u with|some r=>K (Ae af d (.sh st.next)) {m:=(st.next,[r])::st.m,next:=st.next+1}|none=>SA f d K af0)else vpK v y d K af af0 st
def Af6{u v:Option AVal}{y:Option St}{f:Option (AVal×St)}{af0:List AVal}:apK false u v y f d K af af0 st=vpK v y d K af af0 st:=by simp[apK]
def A2F{v:Option AVal}{y:Option St}{f:Option (AVal×St)}{af0:List AVal}:apK true none v y f d K af af0 st=SA f d K af0:=by simp[apK]
def Aqa{v:Option AVal}{r:AVal}{y:Option St}{f:Option (AVal×St)}{af0:List AVal}:apK true (some r) v y f d K af af0 st=K (Ae af d (.sh st.next)) {m:=(st.next,[r])::st.m,next:=st.next+1}:=by simp[apK]
theorem AaK{t:TypeId}:DN E mv ⟨d,.makeMap t none,ty,pos,aft,g⟩ af st K=K (Ae af d (.sh st.next)) {m:=(st.next,[.map [] []])::st.m,next:=st.next+1}:=rfl
def AAO{t:TypeId}{m k:Operand}{e:Bool}:DN E mv ⟨d,.lookup t m k e,ty,pos,aft,g⟩ af st K=UB (Vu E t (rd E af t m) (rd E af 0 k) e st) d K af st:=by simp only[DN,Ej,UB];cases Vu E t (rd E af t m) (rd E af 0 k) e st<;>rfl
def Zt{t:TypeId}{m k x:Operand}:DN E mv ⟨none,.mapUpdate t m k x,ty,pos,aft,g⟩ af st K=UW (Wz E t (rd E af t m) (rd E af 0 k) (rd E af 0 x) st) K af:=by simp only[DN,Ej,UW,dj,az];cases Wz E t (rd E af t m) (rd E af 0 k) (rd E af 0 x) st<;>rfl
def Agg{t:TypeId}{m k x:Operand}:DN E mv ⟨none,.insert t m k x,ty,pos,aft,g⟩ af st K=UW (Wz E t (rd E af t m) (rd E af 0 k) (rd E af 0 x) st) K af:=by simp only[DN,Ej,UW,dj,az];cases Wz E t (rd E af t m) (rd E af 0 k) (rd E af 0 x) st<;>rfl
def AgT{x y:Operand}{f e:TypeId}{ts:List TypeId}:DN E mv ⟨d,.call {callee:=.builtin .append,args:=⟨[x,y]⟩,argTypes:=⟨f::e::ts⟩},ty,pos,aft,g⟩ af st K=agK (ACz (rd E af f x) (rd E af e y)) (appG E f e (rd E af f x) (rd E af e y) st) (apK (Q7 mv d) (RS E f e (rd E af f x) (rd E af e y)) (Jr E f e (rd E af f x) (rd E af e y)) (ABo E f e (rd E af f x) (rd E af e y) st) (appW E x f e (rd E af f x) (rd E af e y) st) d K (stripAt af x) af st) d K af st:=by
 simp only[DN,Ej,UB,apK,agK];cases ACz (rd E af f x) (rd E af e y);rotate_left;·first|rfl|(simp only[az];done)|(simp only[az];rfl)
 simp only[ap,aA];cases Q7 mv d;·simp only[ap,aA,vpK];cases Jr E f e (rd E af f x) (rd E af e y)with|some r=>rfl|none=>simp only[];cases ABo E f e (rd E af f x) (rd E af e y) st<;>rfl
 ·simp only[az,SA];cases RS E f e (rd E af f x) (rd E af e y)with|some r=>rfl|none=>simp only[];cases appW E x f e (rd E af f x) (rd E af e y) st<;>rfl
def AvT{f:Operand}{xs:List Operand}{ts:List TypeId}:DN E mv ⟨d,.call {callee:=.value f,args:=⟨xs⟩,argTypes:=⟨ts⟩},ty,pos,aft,g⟩ af st K=AUD E (rd E af 0 f) (rdL E af xs ts) d K af st:=by simp only[DN,AUD];rfl
def O5{o:Oper} (h:DN E mv o af st K=(match(D8 E o af).map λr=>(Ae af o.dst r.strip,st)with|some (af',st')=>K af' st'|none=>False)):DN E mv o af st K=Ou (D8 E o af) o.dst K af st:=by rw[h];simp only[Ou];cases D8 E o af<;>rfl
def AnZ (c x y:AVal):Option AVal:=match c with|.bool t=>some (if t=true then x else y)|_=>none
theorem AYi{b:Bool}{x y:AVal}:AnZ (.bool b) x y=some (if b=true then x else y):=rfl
def As7{c x y:Operand}:DN E mv ⟨d,.pick c x y,ty,pos,aft,g⟩ af st K=Ou (AnZ (rd E af 0 c) (rd E af ty x) (rd E af ty y)) d K af st:=O5 rfl
def AVN{x:Operand}:DN E mv ⟨d,.nilCheck x,ty,pos,aft,g⟩ af st K=Ou (Oi (rd E af 0 x)) d K af st:=O5 rfl
def bnK (c b:Bool) (v:AVal) (d:Option Tmp) (K:List AVal->St->Prop) (af:List AVal) (st:St) (X:Prop):Prop:=if c=true then Apf b v (λr=>K (Ae af d r) st)else X
def A1H{b:Bool}{v:AVal}{X:Prop}:bnK false b v d K af st X=X:=by simp[bnK]
def A2o{w:Nat}{xs:List AVal}{o:Bool}{X:Prop}:bnK true true (.slice w xs o) d K af st X= ∀c:Bool,(c=true->xs=[])->K (Ae af d (.bool c)) st:=by simp[bnK,Apf]
def ApF{e:BinOp}{k:Tmp}:XH e (.tmp k)=false:=by cases e<;>rfl
def As2{e:BinOp}{k:FuncId}:XH e (.func k)=false:=by cases e<;>rfl
def Azk{e:BinOp}{k:Nat}:XH e (.global k)=false:=by cases e<;>rfl
def AoB{e:BinOp}{k:IntKind}{n:Int}:XH e (.const (.int k n))=false:=by cases e<;>rfl
def ApX{e:BinOp}{s:ByteArray}:XH e (.const (.string s))=false:=by cases e<;>rfl
def Ad8{e:BinOp}{s:Bool}:XH e (.const (.bool s))=false:=by cases e<;>rfl
def Aq6{e:BinOp}{s:Option Addr}:XH e (.const (.pointer s))=false:=by cases e<;>rfl
def AmU{e:BinOp}{s:Array Value}:XH e (.const (.agg s))=false:=by cases e<;>rfl
def As4{e:BinOp}:XH e (.const .nilFunc)=false:=by cases e<;>rfl
def AuB{e:BinOp}:XH e (.const .nilIface)=false:=by cases e<;>rfl
theorem AlT:XH .eql (.const (.slice none 0 0))=true:=rfl
theorem AmF{f:BinOp}{t u:TypeId}{x y:Operand}:DN E mv ⟨d,.binOp f t x y u,ty,pos,aft,g⟩ af st K=bnK (XH f y) (Ba E.P t) (rd E af t x) d K af st (Ou (Fp E f t (rd E af t x) (rd E af t y)) d K af st):=by
 have e:DN E mv ⟨d,.binOp f t x y u,ty,pos,aft,g⟩ af st K=if XH f y=true then Apf (Ba E.P t) (rd E af t x) (λv=>K (Ae af d v) st)else(match(Fp E f t (rd E af t x) (rd E af t y)).map (λr=>(Ae af d r.strip,st))with|some (af',st')=>K af' st'|none=>False):=rfl;rw[e];unfold bnK Ou;split;·rfl
 ·cases Fp E f t (rd E af t x) (rd E af t y)<;>rfl
def AuI{e:UnOp}{t:TypeId}{x:Operand}:DN E mv ⟨d,.unOp e t x,ty,pos,aft,g⟩ af st K=Ou (unA e (rd E af 0 x)) d K af st:=O5 rfl
theorem AZy{s t:TypeId}{x:Operand}:DN E mv ⟨d,.convert s t x,ty,pos,aft,g⟩ af st K=SA (AbP (UG E s t (rd E af s x)) (Vn E s t (rd E af s x) st) (Tw E s t (rd E af s x) st) st) d K af:=by have h:D8 E ⟨d,.convert s t x,ty,pos,aft,g⟩ af=UG E s t (rd E af s x):=rfl;simp only[DN,Ej,SA,h];grind[UG,rd,AbP,Vn,Tw]
def AMK{t:TypeId}{x y:Operand}:DN E mv ⟨d,.makeSlice t x y,ty,pos,aft,g⟩ af st K=SA (alG (Q7 mv d) (ZC E t (rd E af 0 x) (rd E af 0 y) st) (Zw E t (rd E af 0 x) (rd E af 0 y) st)) d K af:=by
 simp only[DN,Ej,SA,alG];cases Q7 mv d<;>simp only[az,aA,ap];·cases Zw E t (rd E af 0 x) (rd E af 0 y) st<;>rfl
 ·cases ZC E t (rd E af 0 x) (rd E af 0 y) st<;>rfl
def Aql{x:Operand}{e:TypeId}{ts:List TypeId}:DN E mv ⟨d,.call {callee:=.builtin .unsafeSliceData,args:=⟨[x]⟩,argTypes:=⟨e::ts⟩},ty,pos,aft,g⟩ af st K=UB (VB (rd E af e x)) d K (stripAt af x) st:=by simp only[DN,Ej,UB];cases VB (rd E af e x)<;>rfl
def AtC{x y:Operand}{e f:TypeId}:DN E mv ⟨d,.call {callee:=.builtin .unsafeString,args:=⟨[x,y]⟩,argTypes:=⟨[e,f]⟩},ty,pos,aft,g⟩ af st K=UB (ZK E e (rd E af e x) (rd E af f y)) d K (stripAt af x) st:=by simp only[DN,Ej,UB];cases ZK E e (rd E af e x) (rd E af f y)<;>rfl
def AWY{f:Fn}{p q:List Operand}:DN E mv ⟨d,.makeFunc f ⟨p⟩ ⟨q⟩,ty,pos,aft,g⟩ af st K=K (Ae af d (AVal.fn f (p.map (rd E af 0)) (q.map (rd E af 0))).strip) st:=O5 rfl
def AIU{s:TypeId}{x:Operand}{f:Nat}:DN E mv ⟨d,.fieldAddr s x f,ty,pos,aft,g⟩ af st K=Ou (P5 E s (rd E af 0 x) f) d K af st:=O5 rfl
def ApW{s:TypeId}{x:Operand}{f:Nat}:DN E mv ⟨d,.field s x f,ty,pos,aft,g⟩ af st K=Ou (Xy E s (rd E af s x) f) d K af st:=O5 rfl
def ixV (y:Option AVal) (st:St):Option (AVal×St):=match y with|some r=>some (r,st)|none=>none
theorem Ap9{r:AVal}:ixV (some r) st=some (r,st):=rfl
theorem AKB{t:TypeId}{x i:Operand}:DN E mv ⟨d,.indexAddr t x i,ty,pos,aft,g⟩ af st K=SA (AbP (Da E t (rd E af t x) (rd E af 0 i)) (Hy E t (rd E af t x) (rd E af 0 i) st) (ixV (Ry E t (rd E af t x) (rd E af 0 i) st) st) st) d K af:=by have h:D8 E ⟨d,.indexAddr t x i,ty,pos,aft,g⟩ af=Da E t (rd E af t x) (rd E af 0 i):=rfl;simp only[DN,Ej,SA,h];cases Da E t (rd E af t x) (rd E af 0 i)with|some r=>rfl|none=>simp only[AbP];cases Hy E t (rd E af t x) (rd E af 0 i) st with|some r=>rfl|none=>simp only[ixV];cases Ry E t (rd E af t x) (rd E af 0 i) st<;>rfl
def AlV{t:TypeId}{x i:Operand}:DN E mv ⟨d,.index t x i,ty,pos,aft,g⟩ af st K=Ou (VS E t (rd E af t x) (rd E af 0 i)) d K af st:=O5 rfl
def lnK (x y:Option AVal) (d:Option Tmp) (K:List AVal->St->Prop) (af:List AVal) (st:St):Prop:=match x with|some r=>K (Ae af d r.strip) st|none=>UB y d K af st
theorem AqB{r:AVal}{y:Option AVal}:lnK (some r) y d K af st=K (Ae af d r.strip) st:=rfl
theorem Akm{y:Option AVal}:lnK none y d K af st=UB y d K af st:=rfl
theorem AyH{x:Operand}{t:TypeId}{ts:List TypeId}:DN E mv ⟨d,.call {callee:=.builtin .len,args:=⟨[x]⟩,argTypes:=⟨t::ts⟩},ty,pos,aft,g⟩ af st K=lnK (TS E t (rd E af t x)) (ADl E t (rd E af t x) st) d K af st:=by have h:D8 E ⟨d,.call {callee:=.builtin .len,args:=⟨[x]⟩,argTypes:=⟨t::ts⟩},ty,pos,aft,g⟩ af=TS E t (rd E af t x):=rfl;simp only[DN,Ej,lnK,h,UB];cases TS E t (rd E af t x)with|some r=>rfl|none=>simp only[];cases ADl E t (rd E af t x) st<;>rfl
def lvR (b:Bool) (y:Option (Nat×Nat×List AVal)):Option AVal:=match y with|some (_,_,xs)=>if b=true then some (.int .i64 xs.length)else none|none=>none
def A1A{t:TypeId}{i:Nat}:ADl E t (.sh i) st=lvR (Ba E.P t) (LG st (.sh i)):=by unfold lvR ADl;rfl
def Am8{i w:Nat}{xs:List AVal}:lvR true (some (i,w,xs))=some (.int .i64 xs.length):=by simp[lvR]
theorem AzI{t:TypeId}{i:Nat}:TS E t (.sh i)=none:=rfl
def Azx{x:Operand}{t:TypeId}{ts:List TypeId}:DN E mv ⟨d,.call {callee:=.builtin .cap,args:=⟨[x]⟩,argTypes:=⟨t::ts⟩},ty,pos,aft,g⟩ af st K=Ou (ArL E t (rd E af t x)) d K af st:=O5 rfl
def AwW{x y:Operand}{t s:TypeId}:DN E mv ⟨d,.call {callee:=.builtin .copy,args:=⟨[x,y]⟩,argTypes:=⟨[t,s]⟩},ty,pos,aft,g⟩ af st K=Ou (AcM E t (rd E af t x) (rd E af s y)) d K af st:=O5 rfl
def AzX{x y:Operand}{ts:Array TypeId}:DN E mv ⟨d,.call {callee:=.builtin .min,args:=⟨[x,y]⟩,argTypes:=ts},ty,pos,aft,g⟩ af st K=Ou (Ahq (rd E af 0 x) (rd E af 0 y)) d K af st:=O5 rfl
def AzK{x y:Operand}{ts:Array TypeId}:DN E mv ⟨d,.call {callee:=.builtin .max,args:=⟨[x,y]⟩,argTypes:=ts},ty,pos,aft,g⟩ af st K=Ou (Aii (rd E af 0 x) (rd E af 0 y)) d K af st:=O5 rfl
def gdD (d:Option Tmp) (af:List AVal) (e:Bool):Option Bool:=match d with|some i=>gd (af.getD i .any) e|none=>none
def RJ:List Oper->Nat->Option Tmp|[],_=>none|o::_,0=>o.dst|_::os,n+1=>RJ os n
def ApE (os:List Oper) (j:Nat):RJ os j=((List.toArray os)[j]?).bind (·.dst):=by rw[dq];induction os generalizing j with|nil=>simp[RJ]|cons o os e=>cases j with|zero=>simp[RJ]|succ j=>grind[RJ]
theorem AYn (os:List Oper) (j:Nat) (e:Bool):gdA ⟨os⟩ af j e=gdD (RJ os j) af e:=by rw[ApE];rfl
theorem Awx:NL E mv ops [] K af st=K af st:=rfl
theorem AlC{e:Op}{os:List Oper}:NL E mv ops (⟨d,e,ty,pos,aft,none⟩::os) K af st=DN E mv ⟨d,e,ty,pos,aft,none⟩ af st (NL E mv ops os K):=rfl
theorem Ag1{e:Op}:PY E ops ⟨d,e,ty,pos,aft,none⟩ af st=Ez E ⟨d,e,ty,pos,aft,none⟩ af st:=rfl
def Atl{h:Op}{f:List Oper}{j:Nat}{e:Bool}:PY E ⟨f⟩ ⟨d,h,ty,pos,aft,some (j,e)⟩ af st=if gdD (RJ f j) af e=some true then Ez E ⟨d,h,ty,pos,aft,some (j,e)⟩ af st else if gdD (RJ f j) af e=some false then some (.tuple [])else none:=by grind[PY,AYn,gdD,RJ]
def QF (x:Option AVal):Option AVal:=x.map AVal.strip
theorem ASF{r:AVal}:QF (some r)=some r.strip:=rfl
theorem AvE{x:Operand}:Ez E ⟨d,.move x,ty,pos,aft,g⟩ af st=some (rd E af ty x).strip:=rfl
theorem At1{t:TypeId}{x:Operand}:Ez E ⟨d,.load t x,ty,pos,aft,g⟩ af st=QF (Tm E t (rd E af 0 x) st):=rfl
def AbE (E:Env) (t:TypeId) (x:AVal) (lo hi mx:Option (Option Int)):Option AVal:=match lo,hi,mx with|some l,some h,some m=>GZ E t x l h m|_,_,_=>none
theorem AV5{t:TypeId}{x:AVal}{lo hi mx:Option Int}:AbE E t x (some lo) (some hi) (some mx)=GZ E t x lo hi mx:=rfl
def Aof{t:TypeId}{x:Operand}{lo hi mx:Option Operand}:Ez E ⟨d,.slice t x lo hi mx,ty,pos,aft,g⟩ af st=AbE E t (rd E af t x) (rdo E af lo) (rdo E af hi) (rdo E af mx):=by grind[Ez,AbE,rdo]
theorem AE3{t:TypeId}{n:Nat}{ps:List (Nat×Operand)}:Ez E ⟨d,.buildSlice t n ⟨ps⟩,ty,pos,aft,g⟩ af st=Ik E t n (Bg E (λ_=>AQ E.P t 0) af ps).2:=rfl
theorem Awg{c x y:Operand}:Ez E ⟨d,.pick c x y,ty,pos,aft,g⟩ af st=QF (AnZ (rd E af 0 c) (rd E af ty x) (rd E af ty y)):=rfl
theorem AVA{x:Operand}:Ez E ⟨d,.nilCheck x,ty,pos,aft,g⟩ af st=QF (Oi (rd E af 0 x)):=rfl
theorem ApK{e:BinOp}{t u:TypeId}{x y:Operand}:Ez E ⟨d,.binOp e t x y u,ty,pos,aft,g⟩ af st=QF (Fp E e t (rd E af t x) (rd E af t y)):=rfl
theorem Awi{e:UnOp}{t:TypeId}{x:Operand}:Ez E ⟨d,.unOp e t x,ty,pos,aft,g⟩ af st=QF (unA e (rd E af 0 x)):=rfl
theorem AZB{s t:TypeId}{x:Operand}:Ez E ⟨d,.convert s t x,ty,pos,aft,g⟩ af st=QF (UG E s t (rd E af s x)):=rfl
theorem AV0{f:Fn}{p q:List Operand}:Ez E ⟨d,.makeFunc f ⟨p⟩ ⟨q⟩,ty,pos,aft,g⟩ af st=some (AVal.fn f (p.map (rd E af 0)) (q.map (rd E af 0))).strip:=rfl
theorem APx{s:TypeId}{x:Operand}{f:Nat}:Ez E ⟨d,.fieldAddr s x f,ty,pos,aft,g⟩ af st=QF (P5 E s (rd E af 0 x) f):=rfl
theorem AlJ{s:TypeId}{x:Operand}{f:Nat}:Ez E ⟨d,.field s x f,ty,pos,aft,g⟩ af st=QF (Xy E s (rd E af s x) f):=rfl
def ixO (x y z:Option AVal):Option AVal:=match x with|some r=>some r.strip|none=>match y with|some _=>none|none=>z
theorem Am7{r:AVal}{y z:Option AVal}:ixO (some r) y z=some r.strip:=rfl
theorem AqC{z:Option AVal}:ixO none none z=z:=rfl
theorem AMY{t:TypeId}{x i:Operand}:Ez E ⟨d,.indexAddr t x i,ty,pos,aft,g⟩ af st=ixO (Da E t (rd E af t x) (rd E af 0 i)) (Hy E t (rd E af t x) (rd E af 0 i) st) (Ry E t (rd E af t x) (rd E af 0 i) st):=rfl
theorem ApL{t:TypeId}{x i:Operand}:Ez E ⟨d,.index t x i,ty,pos,aft,g⟩ af st=QF (VS E t (rd E af t x) (rd E af 0 i)):=rfl
def lnO (x y:Option AVal):Option AVal:=match x with|some r=>some r.strip|none=>y
theorem Aqz{r:AVal}{y:Option AVal}:lnO (some r) y=some r.strip:=rfl
theorem Apg{y:Option AVal}:lnO none y=y:=rfl
theorem Azq{x:Operand}{t:TypeId}{ts:List TypeId}:Ez E ⟨d,.call {callee:=.builtin .len,args:=⟨[x]⟩,argTypes:=⟨t::ts⟩},ty,pos,aft,g⟩ af st=lnO (TS E t (rd E af t x)) (ADl E t (rd E af t x) st):=rfl
theorem A0O{x:Operand}{t:TypeId}{ts:List TypeId}:Ez E ⟨d,.call {callee:=.builtin .cap,args:=⟨[x]⟩,argTypes:=⟨t::ts⟩},ty,pos,aft,g⟩ af st=QF (ArL E t (rd E af t x)):=rfl
theorem Ayl{x y:Operand}{ts:Array TypeId}:Ez E ⟨d,.call {callee:=.builtin .min,args:=⟨[x,y]⟩,argTypes:=ts},ty,pos,aft,g⟩ af st=QF (Ahq (rd E af 0 x) (rd E af 0 y)):=rfl
theorem AyS{x y:Operand}{ts:Array TypeId}:Ez E ⟨d,.call {callee:=.builtin .max,args:=⟨[x,y]⟩,argTypes:=ts},ty,pos,aft,g⟩ af st=QF (Aii (rd E af 0 x) (rd E af 0 y)):=rfl
theorem Aza{e:Op}:gWp E mv ops ⟨d,e,ty,pos,aft,none⟩ af st K=DN E mv ⟨d,e,ty,pos,aft,none⟩ af st K:=rfl
theorem A2R:gd (.bool true) true=some true:=rfl
theorem A1y:gd (.bool true) false=some false:=rfl
theorem A2D:gd (.bool false) true=some false:=rfl
theorem A2O:gd (.bool false) false=some true:=rfl
theorem Akx{e:Bool}:gd (.tuple []) e=some false:=rfl
theorem AoW{i:Nat}{e:Bool}:gdD (some i) af e=gd (af.getD i .any) e:=rfl
def opAt:List Oper->Nat->Option Oper|[],_=>none|o::_,0=>some o|_::os,n+1=>opAt os n
def APv (os:List Oper) (j:Nat):opAt os j=(List.toArray os)[j]?:=by rw[dq];induction os generalizing j with|nil=>simp[opAt]|cons o os e=>cases j with|zero=>simp[opAt]|succ j=>grind[opAt]
def tkR (E:Env) (mv:List Tmp) (os:List Oper) (x:Option AVal) (i:Nat) (d:Option Tmp) (p:Plan) (tv:List (Nat×AVal)) (K:List AVal->St->Prop) (af:List AVal) (st:St):Prop:=match x with|some r=>IG E mv ⟨os⟩ p ((i,r)::tv) K (Ae af d r) st|none=>False
def tkO (E:Env) (mv:List Tmp) (os:List Oper) (x:Option Oper) (i:Nat) (p:Plan) (tv:List (Nat×AVal)) (K:List AVal->St->Prop) (af:List AVal) (st:St):Prop:=match x with|some o=>tkR E mv os (PY E ⟨os⟩ o af st) i o.dst p tv K af st|none=>False
def Apk (E:Env) (mv:List Tmp) (os:List Oper) (chk:List Nat) (p:Plan) (tv:List (Nat×AVal)) (K:List AVal->St->Prop) (af:List AVal) (st:St):Prop:=TV E ⟨os⟩ tv af st chk/\IG E mv ⟨os⟩ p tv K af st
def Avf (E:Env) (mv:List Tmp) (os:List Oper) (x:Option Oper) (chk:List Nat) (p:Plan) (tv:List (Nat×AVal)) (K:List AVal->St->Prop) (af:List AVal) (st:St):Prop:=match x with|some o=>gWp E mv ⟨os⟩ o af st (Apk E mv os chk p tv K)|none=>False
def A1w (E:Env) (os:List Oper) (x:Option AVal) (o:Option Oper) (af:List AVal) (st:St):Prop:=match x,o with|some r,some o=>PY E ⟨os⟩ o af st=some r|_,_=>False
variable{os:List Oper}{tv:List (Nat×AVal)}{p rest:Plan}{chk:List Nat}{i:Nat}
theorem Al7{e:Op}:tkO E mv os (some ⟨d,e,ty,pos,aft,g⟩) i p tv K af st=tkR E mv os (PY E ⟨os⟩ ⟨d,e,ty,pos,aft,g⟩ af st) i d p tv K af st:=rfl
theorem Amv{r:AVal}:tkR E mv os (some r) i d p tv K af st=IG E mv ⟨os⟩ p ((i,r)::tv) K (Ae af d r) st:=rfl
theorem Aep{o:Oper}:Avf E mv os (some o) chk p tv K af st=gWp E mv ⟨os⟩ o af st (Apk E mv os chk p tv K):=rfl
theorem Ame:Apk E mv os chk p tv K af st=(TV E ⟨os⟩ tv af st chk/\IG E mv ⟨os⟩ p tv K af st):=rfl
theorem AhF:IG E mv ⟨os⟩ .done tv K af st=K af st:=rfl
theorem Ai0:IG E mv ⟨os⟩ .stop tv K af st=True:=rfl
def AdU:IG E mv ⟨os⟩ (.take i p) tv K af st=tkO E mv os (opAt os i) i p tv K af st:=by rw[APv];rfl
def AqT:IG E mv ⟨os⟩ (.alt i chk p rest) tv K af st=(Avf E mv os (opAt os i) chk p tv K af st/\IG E mv ⟨os⟩ rest tv K af st):=by rw[APv];rfl
theorem AtS:TV E ⟨os⟩ tv af st []=True:=rfl
def ApV{k:Nat}{ks:List Nat}:TV E ⟨os⟩ tv af st (k::ks)=(A1w E os (ZL tv k) (opAt os k) af st/\TV E ⟨os⟩ tv af st ks):=by rw[APv];rfl
theorem Ag8{r:AVal}{o:Oper}:A1w E os (some r) (some o) af st=(PY E ⟨os⟩ o af st=some r):=rfl
end ops
end
end Go.VM
namespace Go.VM
def grd{α:Type} (c:Prop) [Decidable c] (x:Option α):Option α:=if c then x else none
def Aa6{α:Type} (x:Option α):Option α:=x
theorem AHc{α:Type}{x:Option α}:Aa6 x=x:=rfl
inductive PC where|k|w|v (x:AVal)
inductive BX where|k|d|s (c:List AVal)|t (c:Nat->List AVal)|p (ps:List PC)
inductive JD (α:Type) where|z|a (id:Nat×Nat) (js:List (Nat×Nat)) (cs:List Tmp) (V:α->List AVal)|b (id:Nat×Nat) (js:List (Nat×Nat)) (cs:List Tmp) (V:α->List AVal) (Ms:α->List BX)|n (id:Nat×Nat) (js:List (Nat×Nat)) (cs:List Tmp) (p:Tmp) (V:α->Nat->List AVal) (Ms:α->Nat->List BX) (C:α->Nat->List AVal)
abbrev JD.o (i:Nat×Nat) (js:List (Nat×Nat)) (cs:List Tmp):JD Bool:=.a i js cs λj=>[.bool j]
abbrev JD.u (i:Nat×Nat) (js:List (Nat×Nat)):JD Unit:=.a i js [] λ_=>[]
def AA{α β:Type} (k:α->Option β) (body:(α->Option β)->Option β) (d:JD α:=.z):Option β:=body k
theorem ADY{α:Type}{c:Prop} [Decidable c]{x:Option α}{r:α} (h:grd c x=some r):c/\x=some r:=by grind[grd]
def bind_some{α β:Type}{x:Option α}{f:α->Option β}{r:β} (h:Option.bind x f=some r): ∃y,x=some y/\f y=some r:=by cases x with|none=>cases h|some y=>grind
def letL{α β:Type} (x:α) (f:α->Option β):Option β:=f x
def idx{α:Type} (l:List α) (i:Int):Option α:=if 0<=i then l[i.toNat]? else none
def sub{α:Type} (l:List α) (a b:Int):Option (List α):=if 0<=a/\a<=b/\b<=l.length then some ((l.drop a.toNat).take (b.toNat-a.toNat))else none
def Acv{α:Type}{l:List α}{n:Int}{x:α} (h:idx l n=some x):l[n.toNat]?=some x:=by unfold idx at h;split at h<;>simp_all
def Awp{α β:Type} (f:α->β) (l:List α) (i:Int):idx (l.map f) i=(idx l i).map f:=by unfold idx;split<;>simp
class EO (α:Type) (f:outParam (α->AVal)):Prop
theorem A2n{α:Type}{f:α->AVal} [EO α f]{a b:List α} (c:a=b):List.map f a=List.map f b:=br _ c
def AwV{α β:Type} (f:α->β) (l:List α) (a b:Int):sub (l.map f) a b=(sub l a b).map (List.map f):=by unfold sub;simp only[cq];split<;>simp[fG,List.map_drop]
def Af (n b:Nat):Prop:=n * b<=140737488355328/\n<=4611686018427387904
instance (n b:Nat):Decidable (Af n b):=by unfold Af;infer_instance
def AL (n:Nat):Prop:=n<=4611686018427387904
instance (n:Nat):Decidable (AL n):=by unfold AL;infer_instance
def wr (k:IntKind) (n:Int):Int:=k.wrap n
def Q3 (k:IntKind) (a b:Int):Int:=k.wrap (BitVec.ofInt k.bits a&&&BitVec.ofInt k.bits b).toNat
def Qw (k:IntKind) (a b:Int):Int:=k.wrap (BitVec.ofInt k.bits a|||BitVec.ofInt k.bits b).toNat
def Ale (k:IntKind) (a b:Int):Int:=k.wrap (BitVec.ofInt k.bits a^^^BitVec.ofInt k.bits b).toNat
def ADk (k:IntKind) (a b:Int):Int:=k.wrap (BitVec.ofInt k.bits a&&& ~~~ BitVec.ofInt k.bits b).toNat
def AIJ (k:IntKind) (x y:Int):Int:=k.wrap (x * 2^min y.toNat k.bits)
def AFX (k:IntKind) (x y:Int):Int:=x.fdiv (2^min y.toNat k.bits)
section
variable{E:Env}{st:St}{af:List AVal}
def Azz (e:Option Nat) (w:Nat) (y:Option AVal):Option AVal:=match y with|some y=>if e=some w/\(Aa y).length=w then some (.cptr (Aa y))else none|none=>none
def AqK{t:TypeId}{w:Nat}{xs:List AVal}{o:Bool}{k:IntKind}{n:Int}:Da E t (.slice w xs o) (.int k n)=Azz (Bh E.P t) w (idx xs n):=by simp only[Da,Azz,idx];by_cases h1:Bh E.P t=some w<;>by_cases h2:0<=n<;>simp[h1,h2]<;>cases xs[n.toNat]?<;>simp
theorem AeG{e:Option Nat}{w:Nat}{y:AVal}:Azz e w (some y)=if e=some w/\(Aa y).length=w then some (.cptr (Aa y))else none:=rfl
def Azu (b:Bool) (x:Option UInt8):Option AVal:=match x with|some c=>if b=true then some (.int .u8 c.toNat)else none|none=>none
def AyL{t:TypeId}{s:B8}{k:IntKind}{n:Int}:VS E t (.str s) (.int k n)=Azu (Di E.P t) (idx s n):=by simp only[VS,Azu,idx];cases Di E.P t<;>by_cases h2:0<=n<;>simp[h2]<;>cases s[n.toNat]?<;>simp
theorem AiJ{c:UInt8}:Azu true (some c)=some (.int .u8 (AJ c)):=rfl
def Ayn (b:Bool) (x:Option B8):Option AVal:=match x with|some s=>if b=true then some (.str s)else none|none=>none
def Azv{t:TypeId}{s:B8}{lo hi:Option Int}:GZ E t (.str s) lo hi none=Ayn (Di E.P t) (sub s (lo.getD 0) (hi.getD s.length)):=by
 simp only[GZ,Ayn,sub];by_cases h:0<=lo.getD 0/\lo.getD 0<=hi.getD s.length/\hi.getD s.length<=s.length
 ·rw[an h];cases Di E.P t;·rw[aj fN];rfl
  ·rw[an ⟨rfl,trivial,h⟩];rfl
 ·rw[aj h,aj (λk=>h k.2.2)]
theorem Aim{s:B8}:Ayn true (some s)=some (.str s):=rfl
def AMP (e:Option Nat) (w:Nat) (o:Bool) (x:Option (List AVal)):Option AVal:=match x with|some s=>if e=some w then some (.slice w s o)else none|none=>none
def Aog{t:TypeId}{w:Nat}{xs:List AVal}{o:Bool}{lo hi:Option Int}:GZ E t (.slice w xs o) lo hi none=AMP (Bh E.P t) w false (sub xs (lo.getD 0) (hi.getD xs.length)):=by grind[GZ,AMP,sub,Bh]
def Afh{t:TypeId}{w:Nat}{xs:List AVal}{o:Bool}{lo:Option Int}{h:Int}:GZ E t (.slice w xs o) lo (some h) (some h)=AMP (Bh E.P t) w true (sub xs (lo.getD 0) h):=by grind[GZ,AMP,sub,Bh]
def AeO{w:Nat}{o:Bool}{s:List AVal}:AMP (some w) w o (some s)=some (.slice w s o):=by simp[AMP]
def AaW (e:Option (Nat×Nat)) (i:Option IntKind) (b:Bool) (wd:Nat) (xs:List AVal) (ys:Option (List AVal)):Option AVal:=match e,ys with|some (z,by_),some ys=>if z=wd/\i=none/\b=true/\Af (xs.length+ys.length) by_ then some (.slice wd (xs++ys) true)else none|_,_=>none
set_option linter.unusedSimpArgs false in theorem AkX{t0 t1:TypeId}{wd:Nat}{xs:List AVal}{y:AVal}:Jr E t0 t1 (.slice wd xs true) y=AaW (KZ E.P t0) (I4 E.P t1) (Ai E.P t1) wd xs (RX wd y):=by simp only[Jr,PL,AaW];rcases KZ E.P t0 with _|⟨z,b⟩<;>rcases RX wd y with _|ys<;>try rfl
def Ags{wd e:Nat}{xs ys:List AVal}:AaW (some (wd,e)) none true wd xs (some ys)=if Af (xs.length+ys.length) e then some (.slice wd (xs++ys) true)else none:=by simp[AaW]
def AbQ{wd:Nat}{ys:List AVal}{o:Bool}:RX wd (.slice wd ys o)=some ys:=by simp[RX]
def Ak1{l:B8}:RX 1 (.str l)=some ((l.map AJ).map (.int .u8)):=by simp[RX,AJ]
def apB (i:Bool) (e:Option (Nat×Nat)) (n:Option IntKind) (b:Bool) (f:TypeId) (l m:B8):Option AVal:=match i,e,n,b with|true,some (1,by_),none,true=>if Af (l.length+m.length) by_ then some (.buf f (l++m) true)else none|_,_,_,_=>none
theorem An8{e:Nat}{f:TypeId}{l m:B8}:apB true (some (1,e)) none true f l m=if Af (l.length+m.length) e then some (.buf f (l++m) true)else none:=rfl
def Azh{h f j:TypeId}{l m:B8}:Jr E h f (.buf j l true) (.str m)=apB (ACc E.P h j) (KZ E.P h) (I4 E.P f) (Ai E.P f) j l m:=by
 have A:(u8s l).length=l.length:=by simp[u8s]
 cases h1:ACc E.P h j;·grind[Jr,apB]
 rcases h2:KZ E.P h with _|⟨z,by_⟩;·grind[Jr,PL,apB]
 cases h3:I4 E.P f
 ·cases h4:Ai E.P f;·grind[Jr,PL,RX,apB]
  ·by_cases hz:z=1
   ·subst hz;rw[An8];by_cases hf:Af (l.length+m.length) by_;·have e:=hf;unfold Af at e;simp[Jr,PL,h1,h2,h3,h4,RX,A,hf,Ca];exact e
    ·have e:=hf;unfold Af at e;simp[Jr,PL,h1,h2,h3,h4,RX,A,hf,Ca];intro G;have:=λC=>e ⟨G,C⟩;omega
   ·have:apB true (some (z,by_)) none true j l m=none:=by
     unfold apB;split;·rename_i L B I H;cases B;exact absurd rfl hz
     ·rfl
    rw[this];simp[Jr,PL,h2,h3,h4,RX,hz]
 grind[Jr,PL,RX,apB]
def Aw6{a b:B8}:AEH .add a b=if AL (a.length+b.length)then some (.str (a++b))else none:=by simp only[AEH,Ca];by_cases h:a.length+b.length<=4611686018427387904<;>simp[h,AL]
def ALU{i:Nat}{c:List AVal}{m:List (Nat×List AVal)}:Aj ((i,c)::m) i=some c:=by simp[Aj]
def Zl{i j:Nat}{c:List AVal}{m:List (Nat×List AVal)} (h:i≠j):Aj ((j,c)::m) i=Aj m i:=by grind[Aj]
def Abv{i:Nat}{c x:List AVal}{m:List (Nat×List AVal)}:A9 ((i,c)::m) i x=(i,x)::m:=by simp[A9]
def Abj{i j:Nat}{c x:List AVal}{m:List (Nat×List AVal)} (h:i≠j):A9 ((j,c)::m) i x=(j,c)::A9 m i x:=by grind[A9]
def AE.of{f:FuncId}{e args':List AVal}{Q j:AVal->St->Prop} (A:AE E f args' st j) (l:e=args') (z: ∀r h,st.next<=h.next->j r h->Q r h):AE E f e st Q:=by subst l;exact A.mono z
def Uv:List AVal->AVal|[r]=>r|rs=>.tuple rs
def LW{f:Func}{Q:AVal->St->Prop}{xs:List AVal}{e:St}{m:List (Nat×List AVal)} (h:Sm E f.results.toList af st=some (xs,e)) (j:m.Sublist e.m) (l:Q (Uv xs) {e with m:=m}):Ko E f Q .ret af st:=by unfold Ko;rw[h];exact⟨m,j,l⟩
def Ld{f:Func}{Q:AVal->St->Prop}{xs:List AVal}{e:St}{m:List (Nat×List AVal)} (h:Sm E f.results.toList af st=some (xs,e)) (j:m.Sublist e.m) (l:Q (Uv xs) {e with m:=m}):Ko E f Q .normal af st:=by unfold Ko;rw[h];exact⟨m,j,l⟩
def AWp.congr{c:Code}{Q:APost}{af':List AVal} (h:af=af') (k:AWp E c Q af' st):AWp E c Q af st:=h▸k
def stripB:List Bool->List AVal->List AVal|true::bs,x::xs=>x.strip::stripB bs xs|false::bs,x::xs=>x::stripB bs xs|[],xs=>xs|_::_,[]=>[]
def Uf: ∀(e:List Bool) (xs:List AVal),(stripB e xs).length=xs.length|[],xs=>by rw[stripB]|_::_,[]=>by rw[stripB]|true::e,x::xs=>by rw[stripB,ae,ae,Uf e xs]|false::e,x::xs=>by rw[stripB,ae,ae,Uf e xs]
def Rw{O:At}: ∀(e:List Bool) (xs:List AVal) (vs:List Value),RepL O xs vs->RepL O (stripB e xs) vs
 |[],xs,vs,h=>by grind[stripB]
 |_::_,[],vs,h=>by grind[stripB]
 |true::e,x::xs,vs,h=>by cases h with|cons h t=>rw[stripB];exact .cons h.strip (Rw e _ _ t)
 |false::e,x::xs,vs,h=>by cases h with|cons h t=>rw[stripB];exact .cons h (Rw e _ _ t)
def SV{O:At}{w:World}: ∀(e:List Bool) (xs:List AVal) (vs:List Value),ownL O w xs vs->ownL O w (stripB e xs) vs|[],xs,vs,h=>by grind[stripB]|_::_,[],vs,h=>by grind[stripB]|true::e,x::xs,[],h=>by grind[stripB,ownL]|false::e,x::xs,[],h=>by grind[stripB,ownL]|true::e,x::xs,v::vs,h=>by rw[ownL]at h;rw[stripB,ownL];exact⟨NG _ _ _ _,SV e xs vs h.2⟩|false::e,x::xs,v::vs,h=>by rw[ownL]at h;rw[stripB,ownL];exact⟨h.1,SV e xs vs h.2⟩
def Ru (b:Nat): ∀(e:List Bool) (xs:List AVal) (vs:List Value),AR b (stripB e xs) vs<=AR b xs vs|[],xs,vs=>by simp_all[stripB]|_::_,[],vs=>by simp_all[stripB]|true::e,x::xs,[]=>by grind[stripB,AR]|false::e,x::xs,[]=>by grind[stripB,AR]|true::e,x::xs,v::vs=>by have:=Ru b e xs vs;grind[stripB,AR,JU]|false::e,x::xs,v::vs=>by have:=Ru b e xs vs;grind[stripB,AR]
def Sim.stripCells{F:Nat->Nat}{O:At}{w:World}{a:Act}{i:Nat}{cs:List AVal} (f:List Bool) (hs:Sim E F O st w af a.tmps.toList) (h:Aj st.m i=some cs):Sim E F O {st with m:=A9 st.m i (stripB f cs)} w af a.tmps.toList:=by
 rcases hs.box_ok _ (Mt h)with⟨b,arr,e,hb⟩|⟨v,hv⟩;rotate_left;·exact hs.setSh h hv (Rw f _ _ hv.rep) (SV f _ _ hv.own) λn=>by have z:=Ru n f cs [v];have A:=hs.tok n;omega
 obtain⟨lo,hi,l,j⟩:=hb.heap;exact(hs.setBox (w':=w) (cs':=stripB f cs) (arr':=arr) (lo:=lo) (hi:=hi) h hb l j (λ_ _=>rfl) rfl rfl rfl rfl (by rw[Uf];exact Rw f _ _ hb.rep) (SV f _ _ hb.own) (by rw[Uf];exact hb.one) (λn=>by have z:=Ru n f cs arr.toList;have A:=hs.tok n;omega)).1
def AJU{c:Code}{Q:APost}{i j p:Nat}{cs:List AVal}{x:AVal} (e:j≠i) (f:Aj st.m j=some cs) (z:2<=cs.length) (l:cs[p]?=some (.sh i)) (hi:Aj st.m i=some [x]) (h:AWp E c Q af {st with m:=A9 (A9 st.m i [x.strip]) j (cs.set p x)}):AWp E c Q af st:=⟨λF O w a hd hs=>h.go F O w a hd (hs.unshCell e f z l hi)⟩
def ADw{c:Code}{Q:APost}{m e:List (Nat×List AVal)}{n:Nat} (hp:m.Perm e) (h:AWp E c Q af ⟨e,n⟩):AWp E c Q af ⟨m,n⟩:=⟨λF O w a hd hs=>h.go F O w a hd (hs.perm hp)⟩
def AE.perm{f:FuncId}{e:List AVal}{Q:AVal->St->Prop}{m l:List (Nat×List AVal)}{n:Nat} (hp:m.Perm l) (h:AE E f e ⟨l,n⟩ Q):AE E f e ⟨m,n⟩ Q:=⟨λF O w j hs=>h.go F O w j (hs.perm hp)⟩
theorem AWp.nodup{c:Code}{Q:APost} (h:(st.m.map (·.1)).Nodup->AWp E c Q af st):AWp E c Q af st:=⟨λF O w a hd hs=>(h hs.keys).go F O w a hd hs⟩
def UH: ∀ {m:List (Nat×List AVal)}{i:Nat}{c x:List AVal},Aj m i=some c->((i,x)::Dy m i).Perm (A9 m i x)
 |[],_,_,_,h=>by grind[Aj]
 |(j,d)::m,i,c,x,h=>by
  simp only[Aj]at h;simp only[Dy,A9];split at h;·simp_all
  ·rename_i e;rw[aj e,aj e];exact(cC _ _ _).trans ((UH h).cons _)
theorem Z9: ∀ {m:List (Nat×List AVal)}{i j:Nat},i≠j->Aj (Dy m i) j=Aj m j
 |[],_,_,_=>rfl
 |(k,d)::m,i,j,h=>by
  simp only[Dy];split;·rename_i e;subst e;simp only[Aj];rw[aj (λe=>h e.symm)]
  ·simp only[Aj];rw[Z9 h]
def AF9: ∀ {m:List (Nat×List AVal)}{i j:Nat}{x:List AVal},i≠j->A9 (Dy m i) j x=Dy (A9 m j x) i
 |[],_,_,_,_=>rfl
 | (k,d)::m,i,j,x,h=>by
  by_cases e:i=k;·subst e;simp only[Dy,az,A9];rw[aj (λe=>h e.symm)];simp[Dy]
  ·by_cases e2:j=k;·grind[Dy,A9]
   ·simp only[Dy,A9,aj e,aj e2];rw[AF9 h]
def AE.front{f:FuncId}{j:List AVal}{m:List (Nat×List AVal)}{n i:Nat}{c:List AVal}{Q:AVal->St->Prop} (hi:Aj m i=some c) (h:i<n->AE E f j ⟨(i,c)::Dy m i,n⟩ λr z=>∃A,z.m=(i,A)::Dy m i/\Q r ⟨A9 m i A,z.next⟩):AE E f j ⟨m,n⟩ Q:=by
 refine AE.known λ_ I=>?_;have B:i<n:=by
  rcases bf i n with h'|h';·omega
  ·have:=I i h';grind
 constructor;intro F O w l hs;refine((h B).go F O w l (hs.perm (Lc hi))).mono ?_;rintro e w' ⟨v,H,O',r,⟨R,n'⟩,M,P,G,A,C,L⟩;simp only at C;subst C;exact⟨v,H,O',r,⟨A9 m i A,n'⟩,M,P,G.perm (UH hi),L⟩
end
end Go.VM
set_option maxRecDepth 100000
namespace Go.VM
section
variable{E:Env}{t:TypeId}{k:IntKind}{a b:Int}
def A0J:Fp E .add t (.int k a) (.int k b)=some (.int k (wr k (a+b))):=by simp[Fp,Lv,wr]
def AyF:Fp E .sub t (.int k a) (.int k b)=some (.int k (wr k (a-b))):=by simp[Fp,Lv,wr]
def AyN:Fp E .mul t (.int k a) (.int k b)=some (.int k (wr k (a * b))):=by simp[Fp,Lv,wr]
def A0m:Fp E .quo t (.int k a) (.int k b)=if b=0 then none else some (.int k (wr k (a.tdiv b))):=by simp[Fp,Lv,wr]
def AzB:Fp E .rem t (.int k a) (.int k b)=if b=0 then none else some (.int k (a.tmod b)):=by simp[Fp,Lv]
def Ay9:Fp E .and t (.int k a) (.int k b)=some (.int k (Q3 k a b)):=by simp[Fp,Lv,Q3]
def A1N:Fp E .or t (.int k a) (.int k b)=some (.int k (Qw k a b)):=by simp[Fp,Lv,Qw]
theorem Az9{n:Int}:unA .xor (.int .i64 n)=some (.int .i64 (Ale .i64 (-1) n)):=rfl
def Azl:Fp E .xor t (.int k a) (.int k b)=some (.int k (Ale k a b)):=by simp[Fp,Lv,Ale]
def Ad9:Fp E .andNot t (.int k a) (.int k b)=some (.int k (ADk k a b)):=by simp[Fp,Lv,ADk]
def Ay5:Fp E .eql t (.int k a) (.int k b)=some (.bool (a==b)):=by simp[Fp,Lv]
def Az8:Fp E .neq t (.int k a) (.int k b)=some (.bool (a !=b)):=by simp[Fp,Lv]
def AyT:Fp E .lss t (.int k a) (.int k b)=some (.bool (decide (a<b))):=by simp[Fp,Lv]
def Ayb:Fp E .leq t (.int k a) (.int k b)=some (.bool (decide (a<=b))):=by simp[Fp,Lv]
def A0B:Fp E .gtr t (.int k a) (.int k b)=some (.bool (decide (a>b))):=by simp[Fp,Lv]
def Ayt:Fp E .geq t (.int k a) (.int k b)=some (.bool (decide (a>=b))):=by simp[Fp,Lv]
def Az6{j:IntKind}:Fp E .shl t (.int k a) (.int j b)=if b<0 then none else some (.int k (AIJ k a b)):=by simp[Fp,ADf,AIJ]
def A0r{j:IntKind}:Fp E .shr t (.int k a) (.int j b)=if b<0 then none else some (.int k (AFX k a b)):=by simp[Fp,ADf,AFX]
variable{x y:B8}{p q:Bool}
def Ave:Fp E .add t (.str x) (.str y)=if AL (x.length+y.length)then some (.str (x++y))else none:=Aw6
theorem Aud:Fp E .eql t (.str x) (.str y)=some (.bool (x==y)):=rfl
theorem AvN:Fp E .neq t (.str x) (.str y)=some (.bool (!(x==y))):=rfl
theorem AvR:Fp E .lss t (.str x) (.str y)=some (.bool (Op.bytesLess x y)):=rfl
theorem Au8:Fp E .leq t (.str x) (.str y)=some (.bool (Op.bytesLess x y||x==y)):=rfl
theorem Av3:Fp E .gtr t (.str x) (.str y)=some (.bool (!(Op.bytesLess x y||x==y))):=rfl
theorem AuH:Fp E .geq t (.str x) (.str y)=some (.bool (!(Op.bytesLess x y))):=rfl
theorem At2:Fp E .eql t (.bool p) (.bool q)=if Yb E.P t=true then some (.bool (p==q))else none:=rfl
theorem AuV:Fp E .neq t (.bool p) (.bool q)=if Yb E.P t=true then some (.bool (!(p==q)))else none:=rfl
def Akj (f:BinOp) (g:Bool) (e:Option Bool):Option AVal:=if g=true then none else match f,e with|.eql,some b=>some (.bool b)|.neq,some b=>some (.bool (!b))|_,_=>none
theorem Azt{e:BinOp}{xs ys:List AVal}:Fp E e t (.agg xs) (.agg ys)=Akj e (E.P.eqGuardType E.P.depth t) (eqA E.P 10000 t (.agg xs) (.agg ys)):=rfl
theorem AfY:Akj .eql false (some p)=some (.bool p):=rfl
theorem Agf:Akj .neq false (some p)=some (.bool (!p)):=rfl
def cvI (g:Bool) (st:Bool) (k:Option IntKind) (n:Int):Option AVal:=if(g&&st)=true then some (.str (JL n))else if g=true then(match k with|some k=>some (.int k (wr k n))|none=>none)else none
theorem AyE{s d:TypeId}{n:Int}:UG E s d (.int k n)=cvI (Ai E.P s) (Di E.P d) (I4 E.P d) n:=rfl
theorem AmM{n:Int}:cvI true false (some k) n=some (.int k (wr k n)):=rfl
theorem Asn{n:Int}{j:Option IntKind}:cvI true true j n=some (.str (JL n)):=rfl
def cvS (g h:Bool) (l:B8):Option AVal:=if(g&&h)=true then some (.str l)else none
theorem A0z{s d:TypeId}{l:B8}:UG E s d (.str l)=cvS (Ai E.P s) (Di E.P d) l:=rfl
theorem Akz{l:B8}:cvS true true l=some (.str l):=rfl
theorem Am6{s d:TypeId}{w:Nat}{xs:List AVal}{o:Bool}:UG E s d (.slice w xs o)=strOf (u8T E.P s&&Di E.P d) (bytesOf xs):=rfl
theorem AY2{l:B8}:strOf true (some l)=some (.str l):=rfl
def bytesOf_map{l:List Int}:bytesOf (l.map (AVal.int .u8))=some (l.map Fg):=by induction l<;>grind[bytesOf]
theorem Ul{n:Int}{xs:List AVal}:bytesOf (.int .u8 n::xs)=(bytesOf xs).map (Fg n:: ·):=rfl
theorem ATn:bytesOf []=some []:=rfl
def ASQ{xs ys:List AVal}:bytesOf (xs++ys)=(bytesOf xs).bind λa=>(bytesOf ys).map (a++ ·):=by
 induction xs with
 |nil=>cases h:bytesOf ys<;>simp[bytesOf,h]
 | cons x xs ih=>
  rw[bD];cases x with
  |int k n=>
   cases k<;>try rfl
   rw[Ul,Ul,ih];cases bytesOf xs<;>cases bytesOf ys<;>simp
  |_=>rfl
theorem Azi{l:B8}:cvS true false l=none:=rfl
theorem Ax9{s d:TypeId}{w i l:Nat}:UG E s d (.gsl w i l)=none:=rfl
theorem AyX{s d:TypeId}{w i o l:Nat}:UG E s d (.bsl w i o l)=none:=rfl
theorem A0x{s d:TypeId}{i o:Nat}:UG E s d (.ptr i o)=none:=rfl
section
variable{s d:TypeId}{st:St}
theorem Azb{l:B8}:Vn E s d (.str l) st=none:=rfl
theorem A0M{w i l:Nat}:Vn E s d (.gsl w i l) st=none:=rfl
theorem A0H{w i o l:Nat}:Vn E s d (.bsl w i o l) st=none:=rfl
def cuB (b:Bool) (i:Nat):Option AVal:=if b=true then some (.ptr i 0)else none
theorem Ap7{i:Nat}:cuB true i=some (.ptr i 0):=rfl
def cuR (E:Env) (s d:TypeId) (i:Nat) (x:Option (List AVal)):Option AVal:=match x with|some (.nself j T n::_)=>if j=i then cuB (Zn E.P s d T n) i else none|_=>none
def Aoq{i n:Nat}{T:TypeId}{cs:List AVal}:cuR E s d i (some (.nself i T n::cs))=cuB (Zn E.P s d T n) i:=by simp[cuR]
def AzW{i:Nat}:Vn E s d (.ptr i 0) st=cuR E s d i (Aj st.m i):=by
 simp only[Vn];generalize Aj st.m i=x;unfold cuR;split;·rename_i j T n rest;simp only[cuB];by_cases h1:j=i<;>by_cases h2:Zn E.P s d T n=true<;>simp[h1,h2]
 simp
def Hd (i:Nat) (T:TypeId) (n:Nat) (b:Bool):AVal:=if b=true then .ptr i 0 else .nself i T n
theorem AtQ{i n:Nat}{T:TypeId}:Hd i T n true=.ptr i 0:=rfl
theorem AvS{i n:Nat}{T:TypeId}:Hd i T n false=.nself i T n:=rfl
def AgC{i n:Nat}{T:TypeId}{b:Bool}:(Hd i T n b).strip=Hd i T n b:=by cases b<;>simp[Hd,AVal.strip]
def AgH{i n:Nat}{T:TypeId}{b:Bool}:Aa (Hd i T n b)=[Hd i T n b]:=by cases b<;>rfl
def Aig{i n:Nat}{T:TypeId}{b:Bool}:NB (Hd i T n b)=false:=by cases b<;>rfl
def Af3{i n:Nat}{T:TypeId}{b:Bool}:Ch (Hd i T n b)=true:=by cases b<;>rfl
def cmS (a b:Bool) (l:B8) (st:St):Option (AVal×St):=if a=true/\b=true then some (.bsl 1 st.next 0 l.length,{m:=(st.next,List.map (AVal.int .u8) (List.map AJ l))::st.m,next:=st.next+1})else none
def AzJ{l:B8}:Tw E s d (.str l) st=cmS (u8T E.P d) (Di E.P s) l st:=by simp only[Tw,cmS,fJ];rfl
def Am4{l:B8}:cmS true true l st=some (.bsl 1 st.next 0 l.length,{m:=(st.next,List.map (AVal.int .u8) (List.map AJ l))::st.m,next:=st.next+1}):=by simp[cmS]
def cmB (b:Bool) (off n:Nat) (st:St) (x:Option (List AVal)):Option (AVal×St):=match x with
 |some cs=>if b=true then(match bytesOf ((cs.drop off).take n)with|some l=>if l.length=n/\AL n then some (.str l,st)else none|none=>none)else none
 |none=>none
def A0i{i off n:Nat}:Tw E s d (.bsl 1 i off n) st=cmB (u8T E.P s&&Di E.P d) off n st (Aj st.m i):=by simp only[Tw,cmB,dW,Ca,AL];cases (u8T E.P s&&Di E.P d)<;>cases Aj st.m i<;>simp;grind
def Aqd{q:List Int}{off n:Nat}:cmB true off n st (some (List.map (AVal.int .u8) q))=if n<=q.length-off/\AL n then some (.str (List.map Fg (List.take n (List.drop off q))),st)else none:=by simp only[cmB,az,<-fG,<-List.map_drop,bytesOf_map,cq,bb,aG];grind
def ZV (n:Int) (b:Nat):Prop:=0<=n/\n<=4611686018427387904/\n * b<=140737488355328
instance (n:Int) (b:Nat):Decidable (ZV n b):=by unfold ZV;infer_instance
def mkR (e:Option (Nat×AVal)) (n:Int) (st:St):Option (AVal×St):=match e with|some (b,z)=>if 0<=n/\n<=Ca/\n * b<=140737488355328 then some (.bsl 1 st.next 0 n.toNat,{m:=(st.next,List.replicate n.toNat z)::st.m,next:=st.next+1})else none|none=>none
def Ate{b:Nat}{k:IntKind}{z n:Int}:mkR (some (b,.int k z)) n st=if ZV n b then some (.bsl 1 st.next 0 n.toNat,{m:=(st.next,List.map (AVal.int k) (List.replicate n.toNat z))::st.m,next:=st.next+1})else none:=by grind[mkR,ZV,Ca,List.map_replicate]
def As0{b:Nat}{n:Int}:mkR (some (b,.str [])) n st=if ZV n b then some (.bsl 1 st.next 0 n.toNat,{m:=(st.next,List.map AVal.str (List.replicate n.toNat []))::st.m,next:=st.next+1})else none:=by grind[mkR,ZV,Ca,List.map_replicate]
def Ux (n n':Int) (b:Nat):Prop:=0<=n/\n<=n'/\n'<=4611686018427387904/\n' * b<=140737488355328
instance (n n':Int) (b:Nat):Decidable (Ux n n' b):=by unfold Ux;infer_instance
def mkV (a:Option (Nat×Nat)) (z:Option AVal) (n n':Int) (st:St):Option (AVal×St):=match a,z with|some (w,b),some z=>if Ux n n' b then some (.sh st.next,{m:=(st.next,[.vec w (List.replicate n.toNat z)])::st.m,next:=st.next+1})else none|_,_=>none
def mkG (e:Option (Nat×AVal)) (a:Option (Nat×Nat)) (y:Option AVal) (n n':Int) (st:St):Option (AVal×St):=match e with|some (b,.int k z)=>if Ux n n' b then some (.gsl 1 st.next n.toNat,{m:=(st.next,List.replicate n.toNat (.int k z))::st.m,next:=st.next+1})else mkV a y n n' st|_=>mkV a y n n' st
section
variable{a:Option (Nat×Nat)}{y:Option AVal}{n n':Int}
def Aw7{b:Nat}{k:IntKind}{z:Int}:mkG (some (b,.int k z)) a y n n' st=if Ux n n' b then some (.gsl 1 st.next n.toNat,{m:=(st.next,List.map (AVal.int k) (List.replicate n.toNat z))::st.m,next:=st.next+1})else mkV a y n n' st:=by simp only[mkG,dT]
theorem At7{b:Nat}{s:B8}:mkG (some (b,.str s)) a y n n' st=mkV a y n n' st:=rfl
theorem A0U:mkG none a y n n' st=mkV a y n n' st:=rfl
def AtW{w b:Nat}:mkV (some (w,b)) (some (.str [])) n n' st=if Ux n n' b then some (.sh st.next,{m:=(st.next,[.vec w (List.map AVal.str (List.replicate n.toNat []))])::st.m,next:=st.next+1})else none:=by simp only[mkV,dT]
theorem A2L{w b:Nat}{c:List AVal}:mkV (some (w,b)) (some (.agg c)) 0 n' st=if Ux 0 n' b then some (.sh st.next,{m:=(st.next,[.vec w []])::st.m,next:=st.next+1})else none:=rfl
def A3P{k f:IntKind}:ZC E t (.int k n) (.int f n') st=mkG (XV E.P t) (KZ E.P t) (AAA E.P t) n n' st:=by
 have h:AV8 E t (.int k n) (.int f n') st=mkV (KZ E.P t) (AAA E.P t) n n' st:=by unfold AV8 mkV Ux;rcases KZ E.P t with _|⟨_,_⟩<;>rcases AAA E.P t with _|_<;>rfl
 unfold ZC;rw[h];unfold AdB mkG;rcases XV E.P t with _|⟨b,z⟩;·rfl
 ·cases z<;>try rfl
  simp only[];by_cases hc:Ux n n' b;·have e:0<=n/\n<=n'/\n'<=(Ca:Int)/\n' * b<=140737488355328:=hc;rw[an hc,an e]
  ·have e: ¬(0<=n/\n<=n'/\n'<=(Ca:Int)/\n' * b<=140737488355328):=hc;rw[aj hc,aj e]
end
def Azr{i n:Nat}:Tw E s d (.gsl 1 i n) st=cmB (u8T E.P s&&Di E.P d) 0 n st (Aj st.m i):=by simp only[Tw,cmB,dW,Ca,AL,aN];cases (u8T E.P s&&Di E.P d)<;>cases Aj st.m i<;>simp;grind
def A3k{k e:IntKind}{n:Int}:Zw E t (.int k n) (.int e n) st=mkR (XV E.P t) n st:=by simp only[Zw,mkR];rcases XV E.P t with _|⟨b,z⟩<;>simp
end
theorem Az1{e:TypeId}{l:B8}{o:Bool}:VB (.buf e l o)=some (.bufp e l o):=rfl
def usB (b:Bool) (l:B8):Option AVal:=if b=true then some (.str l)else none
theorem Ap0{l:B8}:usB true l=some (.str l):=rfl
def Azo{f e:TypeId}{l:B8}:ZK E f (.bufp e l true) (.int .i64 (l.length:Int))=usB (ptrTo E.P f e) l:=by simp[ZK,usB]
theorem Azj{e:BinOp}:Fp E e t .nilp .nilp=TP e (UZ E.P t) (some true):=rfl
theorem AzT{e:BinOp}{i n:Nat}{T:TypeId}:Fp E e t (.nself i T n) .nilp=TP e (UZ E.P t) (some true):=rfl
theorem A0j{e:BinOp}{i o:Nat}:Fp E e t (.ptr i o) .nilp=TP e (UZ E.P t) (some false):=rfl
def AzF{e:BinOp}{i o:Nat}:Fp E e t (.ptr i o) (.ptr i o)=TP e (UZ E.P t) (some true):=by simp[Fp,AGj]
theorem Ay3:TP .eql true (some p)=some (.bool p):=rfl
theorem AzY:TP .neq true (some p)=some (.bool (!p)):=rfl
theorem Al9{e:TypeId}:TS E t (.nbuf e)=if Ba E.P t=true then some (.int .i64 0)else none:=rfl
theorem Anu{e:TypeId}:ArL E t (.nbuf e)=if Ba E.P t=true then some (.int .i64 0)else none:=rfl
theorem Atr{T:TypeId}{i:Nat}{e:TypeId}:AcM E t (.trow T i 0) (.nbuf e)=if Bh E.P t=some 1 then some (.int .i64 0)else none:=rfl
def AtB{T:TypeId}{i len:Nat}{h:Int}:GZ E t (.trow T i len) none (some h) none=if Bh E.P t=some 1 then(if 0<=h/\h<=len then some (.trow T i h.toNat)else none)else none:=by simp only[GZ];by_cases h1:Bh E.P t=some 1<;>by_cases h2:0<=h<;>by_cases h3:h<=len<;>simp[h1,h2,h3]
theorem AnT{T:TypeId}{i l:Nat}:(AVal.trow T i l).strip=.trow T i l:=rfl
theorem AkY{T:TypeId}{i l:Nat}:Aa (.trow T i l)=[.trow T i l]:=rfl
theorem Akl{T:TypeId}{i l:Nat}:Ch (.trow T i l)=true:=rfl
theorem Ala{T:TypeId}{i l:Nat}:NB (.trow T i l)=false:=rfl
theorem Ao6{e:TypeId}:(AVal.nbuf e).strip=.nbuf e:=rfl
theorem Aq7{e:TypeId}:Aa (.nbuf e)=[.nbuf e]:=rfl
theorem Amg{e:TypeId}:Ch (.nbuf e)=true:=rfl
theorem Apn{e:TypeId}:NB (.nbuf e)=false:=rfl
theorem Awq{e:TypeId}{l:B8}{o:Bool}:TS E t (.buf e l o)=if Ba E.P t=true then some (.int .i64 l.length)else none:=rfl
theorem AtX{w i o l:Nat}:TS E t (.bsl w i o l)=if Ba E.P t=true then some (.int .i64 l)else none:=rfl
def CL{w i len:Nat}{k:IntKind}{n:Int}:Da E t (.gsl w i len) (.int k n)=if Bh E.P t=some w then(if 0<=n/\n<len then some (.ptr i (n.toNat * w))else none)else none:=by simp only[Da];by_cases h1:Bh E.P t=some w<;>by_cases h2:0<=n<;>by_cases h3:n<len<;>simp[h1,h2,h3]
def Bv{w i len:Nat}{h:Int}:GZ E t (.gsl w i len) none (some h) none=if Bh E.P t=some w then(if 0<=h/\h<=len then some (.gsl w i h.toNat)else none)else none:=by simp only[GZ];by_cases h1:Bh E.P t=some w<;>by_cases h2:0<=h<;>by_cases h3:h<=len<;>simp[h1,h2,h3]
def Azm{w i len:Nat}{h:Int}:GZ E t (.bsl w i 0 len) none (some h) none=if Bh E.P t=some w then(if 0<=h/\h<=len then some (.bsl w i 0 h.toNat)else none)else none:=by simp only[GZ];by_cases h1:Bh E.P t=some w<;>by_cases h2:0<=h<;>by_cases h3:h<=len<;>simp[h1,h2,h3]
def apT (e:Option (Nat×Nat)) (g:Bool) (x:Option (List AVal)) (m:List (Nat×List AVal)) (j len:Nat) (s:B8):Option (Nat×Nat×List AVal×List (Nat×List AVal)×Option Nat):=match x,e with|some cs,some (z,by_)=>if z=1/\len<=cs.length/\(len+s.length) * by_<=140737488355328/\len+s.length<=Ca/\g=true then some (1,len+s.length,cs.take len++u8s s,Dy m j,some j)else none|_,_=>none
def H9{f e:TypeId}{j len:Nat}{s:B8}{st:St}:AhC E f e (.gsl 1 j len) (.str s) st=apT (KZ E.P f) ((I4 E.P e).isNone&&Ai E.P e) (Aj st.m j) st.m j len s:=by simp only[AhC,apT];rcases Aj st.m j with _|cs<;>rcases KZ E.P f with _|⟨z,b⟩<;>simp
def Az{b j len:Nat}{q:List Int}{m:List (Nat×List AVal)}{s:B8}:apT (some (1,b)) true (some (List.map (AVal.int .u8) q)) m j len s=if len<=q.length/\Af (len+s.length) b then some (1,len+s.length,List.map (AVal.int .u8) (List.take len q++List.map AJ s),Dy m j,some j)else none:=by
 have e:u8s s=List.map (AVal.int .u8) (List.map AJ s):=by simp[u8s,AJ]
 simp_all[apT,Af,Ca]
theorem A7{w i l:Nat}:(AVal.gsl w i l).strip=.gsl w i l:=rfl
def BK{i:Nat}{c:List AVal}{m:List (Nat×List AVal)}:Dy ((i,c)::m) i=m:=by simp[Dy]
def lkV:List B8->List AVal->B8->AVal->AVal|k::ks,v::vs,s,z=>if(s==k)=true then v.strip else lkV ks vs s z|_,_,_,z=>z.strip
theorem AoO{k s:B8}{ks:List B8}{v z:AVal}{vs:List AVal}:lkV (k::ks) (v::vs) s z=if(s==k)=true then v.strip else lkV ks vs s z:=rfl
theorem AuZ{s:B8}{z:AVal}:lkV [] [] s z=z.strip:=rfl
def lkR (z:Option AVal) (x:Option (List AVal)) (s:B8):Option AVal:=match z,x with|some z,some [.map ks vs]=>some (lkV ks vs s z)|_,_=>none
theorem AZ1{s:B8}{z:AVal}: ∀(ks:List B8) (vs:List AVal),(match MP ks vs s with|some x=>x.strip|none=>z.strip)=lkV ks vs s z
 |[],_=>by simp[MP,lkV]
 |_::_,[]=>by simp[MP,lkV]
 | k::ks,v::vs=>by
  simp only[MP,lkV,be];split
  ·rename_i x f;split at f;·simp_all
   ·rename_i e;rw[aj e,<-AZ1 ks vs,f]
  ·rename_i f;split at f;·grind
   ·rename_i e;rw[aj e,<-AZ1 ks vs,f]
def AxF{i:Nat}{s:B8}{st:St}:SB E t (.sh i) (.str s) false st=lkR ((U6 E.P t).bind (Cr E.P)) (Aj st.m i) s:=by
 unfold SB XT lkR;cases U6 E.P t with
 |none=>simp
 | some e=>
  simp only[aa];cases hm:Aj st.m i with
  |none=>cases Cr E.P e<;>simp
  |some cs=>
   cases hz:Cr E.P e with
   |none=>match cs with|[]=>simp|[.map _ _]=>grind|x::y::_=>cases x<;>simp|[.any]|[.bool _]|[.int _ _]|[.str _]|[.agg _]|[.tuple _]|[.slice _ _ _]|[.ptr _ _]|[.nilp]|[.cptr _]|[.fn _ _ _]|[.nilFn]|[.iface _ _]|[.nilIface]|[.iter _ _]|[.bsl _ _ _ _]|[.nself _ _ _]|[.buf _ _ _]|[.bufp _ _ _]|[.slop _ _]|[.sh _]|[.sptr _ _ _]|[.gsl _ _ _]|[.nmap]|[.num _]|[.nbuf _]|[.trow _ _ _]|[.vec _ _]|[.vptr _ _ _ _]|[.hset _]=>simp
   |some z=>match cs with|[]=>simp|[.map ks vs]=>grind[AZ1]|x::y::_=>cases x<;>simp|[.any]|[.bool _]|[.int _ _]|[.str _]|[.agg _]|[.tuple _]|[.slice _ _ _]|[.ptr _ _]|[.nilp]|[.cptr _]|[.fn _ _ _]|[.nilFn]|[.iface _ _]|[.nilIface]|[.iter _ _]|[.bsl _ _ _ _]|[.nself _ _ _]|[.buf _ _ _]|[.bufp _ _ _]|[.slop _ _]|[.sh _]|[.sptr _ _ _]|[.gsl _ _ _]|[.nmap]|[.num _]|[.nbuf _]|[.trow _ _ _]|[.vec _ _]|[.vptr _ _ _ _]|[.hset _]=>simp
theorem Ao3{s:B8}{z:AVal}{ks:List B8}{vs:List AVal}:lkR (some z) (some [.map ks vs]) s=some (lkV ks vs s z):=rfl
def upR (b:Bool) (y:Option (List AVal)) (i:Nat) (s:B8) (x:AVal) (st:St):Option St:=match b,y with|true,some [.map ks vs]=>some {st with m:=A9 st.m i [.map (IB ks s) (MC ks vs s x)]}|_,_=>none
def A2g{i:Nat}{s:B8}{x:AVal}{st:St}:ACo E t (.sh i) (.str s) x st=upR (U6 E.P t).isSome (Aj st.m i) i s x st:=by simp only[ACo,XT,upR];grind[U6,Aj]
theorem Ap6{i:Nat}{s:B8}{x:AVal}{st:St}{ks:List B8}{vs:List AVal}:upR true (some [.map ks vs]) i s x st=some {st with m:=A9 st.m i [.map (IB ks s) (MC ks vs s x)]}:=rfl
theorem A1i{e:BinOp}{f:Fn}{x y:List AVal}:Fp E e t (.fn f x y) .nilFn=ABg e (AD3 E.P t) false:=rfl
theorem A1O{e:BinOp}:Fp E e t .nilFn .nilFn=ABg e (AD3 E.P t) true:=rfl
theorem Aya{b:Bool}:ABg .eql true b=some (.bool b):=rfl
theorem A0R{b:Bool}:ABg .neq true b=some (.bool (!b)):=rfl
def Ayx{w i off len:Nat}{k:IntKind}{n:Int}:Da E t (.bsl w i off len) (.int k n)=if Bh E.P t=some w then(if 0<=n/\n<len then some (.ptr i (off+n.toNat * w))else none)else none:=by simp only[Da];by_cases h1:Bh E.P t=some w<;>by_cases h2:0<=n<;>by_cases h3:n<len<;>simp[h1,h2,h3]
def iaP (e:Option (Nat×Nat×Bool)) (j o:Nat) (n:Int):Option AVal:=match e with|some (len,z,_)=>if 0<=n/\n<len then some (.ptr j (o+n.toNat * z))else none|none=>none
def A0s{j o:Nat}{k:IntKind}{n:Int}:Da E t (.ptr j o) (.int k n)=iaP (OD E.P t) j o n:=by simp only[Da,iaP];rcases OD E.P t with _|⟨len,z,g⟩<;>rfl
theorem ArG{len z j o:Nat}{g:Bool}{n:Int}:iaP (some (len,z,g)) j o n=if 0<=n/\n<(len:Int)then some (.ptr j (o+n.toNat * z))else none:=rfl
def slP (e:Option (Nat×Nat×Bool)) (i o:Nat) (l:Int) (h:Option Int):Option AVal:=match e with|some (len,z,_)=>if 0<=l/\l<=h.getD len/\h.getD len<=len/\len<=Ca then some (.bsl z i (o+l.toNat * z) ((h.getD len).toNat-l.toNat))else none|none=>none
def A0W{i o:Nat}{lo hi:Option Int}:GZ E t (.ptr i o) lo hi none=slP (OD E.P t) i o (lo.getD 0) hi:=by simp only[GZ,slP];rcases OD E.P t with _|⟨len,z,g⟩<;>simp
def AmL{len z i o:Nat}{g:Bool}{l:Int}:slP (some (len,z,g)) i o l none=if 0<=l/\l<=(len:Int)/\len<=Ca then some (.bsl z i (o+l.toNat * z) (len-l.toNat))else none:=by simp[slP]
def AwC{α:Type}{l:List α}{n:Int} (h:0<=n):l[n.toNat]?=idx l n:=by grind[idx]
def AuW{α β:Type}{f:α->β}{l:List α}{k:Nat}{v:α}:(List.map f l).set k (f v)=List.map f (l.set k v):=List.map_set.symm
theorem AzU:unA .not (.bool p)=some (.bool (!p)):=rfl
theorem Aye:unA .neg (.int k a)=some (.int k (wr k (0-a))):=rfl
end
def AQU (n:Nat):List Bool:=List.replicate n false
def ADj{n:Nat}:(AQU n).length=n:=by simp[AQU]
def AiF{l:List Bool}:stripL (List.map AVal.bool l)=List.map AVal.bool l:=by induction l<;>grind[stripL,AVal.strip]
def Ag3{k:IntKind}{l:List Int}:stripL (List.map (AVal.int k) l)=List.map (AVal.int k) l:=by induction l<;>grind[stripL,AVal.strip]
def Ah6{l:List Bool}{n:Nat} (h:l.length=n):List.take n (List.map AVal.bool l)=List.map AVal.bool l:=by grind[List.take_of_length_le]
def AhT{k:IntKind}{l:List Int}{n:Nat} (h:l.length=n):List.take n (List.map (AVal.int k) l)=List.map (AVal.int k) l:=by grind[List.take_of_length_le]
def Uc: ∀(l q p:List AVal),q.length=l.length->putCells (p++q) p.length l=p++l|[],q,p,h=>by grind[putCells]|x::l,q,p,h=>by cases q with|nil=>grind|cons y q=>rw[putCells];have e:(p++y::q).set p.length x=(p++[x])++q:=fN;have f:p.length+1=(p++[x]).length:=fN;rw[e,f,Uc l q (p++[x]) (by grind)];simp
def AmS{l q:List Bool} (h:q.length=l.length):putCells (List.map AVal.bool q) 0 (List.map AVal.bool l)=List.map AVal.bool l:=by have:=Uc (List.map AVal.bool l) (List.map AVal.bool q) [] (by grind);grind
def AnF{k:IntKind}{l q:List Int} (h:q.length=l.length):putCells (List.map (AVal.int k) q) 0 (List.map (AVal.int k) l)=List.map (AVal.int k) l:=by have:=Uc (List.map (AVal.int k) l) (List.map (AVal.int k) q) [] (by grind);grind
def Awo:AVal.strip (.any)=.any:=by simp[AVal.strip]
def Amz{b:Bool}:AVal.strip (.bool b)=.bool b:=by simp[AVal.strip]
def Awv{k:IntKind}{n:Int}:AVal.strip (.int k n)=.int k n:=by simp[AVal.strip]
def AwA{l:B8}:AVal.strip (.str l)=.str l:=by simp[AVal.strip]
def At3{w i o l:Nat}:AVal.strip (.bsl w i o l)=.bsl w i o l:=by simp[AVal.strip]
def Afr{i n:Nat}{T:TypeId}:AVal.strip (.nself i T n)=.nself i T n:=by simp[AVal.strip]
def Asr{e:TypeId}{l:B8}{o:Bool}:AVal.strip (.buf e l o)=.buf e l false:=by simp[AVal.strip]
def AoX{e:TypeId}{l:B8}{o:Bool}:AVal.strip (.bufp e l o)=.bufp e l false:=by simp[AVal.strip]
theorem Awf{w i o l:Nat}:Aa (.bsl w i o l)=[.bsl w i o l]:=rfl
theorem Ai5{i n:Nat}{T:TypeId}:Aa (.nself i T n)=[.nself i T n]:=rfl
theorem Av5{e:TypeId}{l:B8}{o:Bool}:Aa (.buf e l o)=[.buf e l o]:=rfl
theorem Aaf{i:Nat}:(AVal.sh i).strip=.sh i:=rfl
theorem AlL{i w n:Nat}:(AVal.sptr i w n).strip=.sptr i w n:=rfl
theorem AoS{i:Nat}:Aa (.sh i)=[.sh i]:=rfl
theorem AmW{i w n:Nat}:Aa (.sptr i w n)=[.sptr i w n]:=rfl
theorem Aqs{i:Nat}:Ch (.sh i)=true:=rfl
theorem Akt{i w n:Nat}:Ch (.sptr i w n)=true:=rfl
theorem Avk{w i o l:Nat}:Ch (.bsl w i o l)=true:=rfl
theorem Ahz{i n:Nat}{T:TypeId}:Ch (.nself i T n)=true:=rfl
theorem AvF{e:TypeId}{l:B8}{o:Bool}:Ch (.buf e l o)=true:=rfl
def AxC{i o:Nat}:AVal.strip (.ptr i o)=.ptr i o:=by simp[AVal.strip]
def ApY:AVal.strip (.nilp)=.nilp:=by simp[AVal.strip]
def AoQ{l:List AVal}:AVal.strip (.cptr l)=.cptr l:=by simp[AVal.strip]
def A0G{f:Fn}{p q:List AVal}:AVal.strip (.fn f p q)=.fn f p q:=by simp[AVal.strip]
def Ahn:AVal.strip (.nilFn)=.nilFn:=by simp[AVal.strip]
def AiK{t:TypeId}{x:AVal}:AVal.strip (.iface t x)=.iface t x:=by simp[AVal.strip]
def AJA:AVal.strip (.nilIface)=.nilIface:=by simp[AVal.strip]
theorem Asv:Aa (.any)=[.any]:=rfl
theorem AmQ{b:Bool}:Aa (.bool b)=[.bool b]:=rfl
theorem Atw{k:IntKind}{n:Int}:Aa (.int k n)=[.int k n]:=rfl
theorem Atk{l:B8}:Aa (.str l)=[.str l]:=rfl
theorem AwK{i o:Nat}:Aa (.ptr i o)=[.ptr i o]:=rfl
theorem Akn:Aa (.nilp)=[.nilp]:=rfl
theorem Anf{l:List AVal}:Aa (.cptr l)=[.cptr l]:=rfl
theorem A01{f:Fn}{p q:List AVal}:Aa (.fn f p q)=[.fn f p q]:=rfl
theorem AfQ:Aa (.nilFn)=[.nilFn]:=rfl
theorem Af0{t:TypeId}{x:AVal}:Aa (.iface t x)=[.iface t x]:=rfl
theorem AI3:Aa (.nilIface)=[.nilIface]:=rfl
theorem Ah3{l:List AVal}:Aa (.tuple l)=[.tuple l]:=rfl
theorem AdT{w:Nat}{l:List AVal}{o:Bool}:Aa (.slice w l o)=[.slice w l o]:=rfl
theorem AkH{b:Bool}:Ch (.bool b)=true:=rfl
theorem Ati{k:IntKind}{n:Int}:Ch (.int k n)=true:=rfl
theorem Avj{l:B8}:Ch (.str l)=true:=rfl
theorem Atd{i o:Nat}:Ch (.ptr i o)=true:=rfl
theorem AoU:Ch (.nilp)=true:=rfl
theorem AoA{l:List AVal}:Ch (.cptr l)=true:=rfl
theorem A0g{f:Fn}{p q:List AVal}:Ch (.fn f p q)=true:=rfl
theorem AhJ:Ch (.nilFn)=true:=rfl
theorem Afb{t:TypeId}{x:AVal}:Ch (.iface t x)=true:=rfl
theorem ALa:Ch (.nilIface)=true:=rfl
theorem AtV{l:List AVal}:Ch (.agg l)=true:=rfl
theorem Ae7{w:Nat}{l:List AVal}{o:Bool}:Ch (.slice w l o)=true:=rfl
theorem AiA{af:List AVal}{v:Value}:stripAt af (.const v)=af:=rfl
theorem AlW{af:List AVal}{v:Nat}:stripAt af (.global v)=af:=rfl
theorem Akv{af:List AVal}{v:FuncId}:stripAt af (.func v)=af:=rfl
end Go.VM
namespace Go.VM
section
variable{E:Env}{st:St}{t:TypeId}
def Avs{w:Nat}{xs:List AVal}:AVal.strip (.vec w xs)=.any:=by rw[AVal.strip]
theorem AmI{i w n k:Nat}:AVal.strip (.vptr i w n k)=.vptr i w n k:=rfl
theorem AkQ{i w n k:Nat}:NB (.vptr i w n k)=false:=rfl
def A1L{i:Nat}{y:AVal}:ACz (.sh i) y=U2 y:=by simp[ACz,U2]
def A1X{e f:TypeId}{i:Nat}{y:AVal}:Jr E e f (.sh i) y=none:=by cases y<;>rfl
def avS (i:Nat) (x:Option AVal) (st:St):Option St:=match x with|some (.slice w zs _)=>some {m:=(st.next,[.vec w zs])::A9 st.m i [.any],next:=st.next+1}|_=>none
theorem AlH{i w:Nat}{e:List AVal}{o:Bool}:avS i (some (.slice w e o)) st=some {m:=(st.next,[.vec w e])::A9 st.m i [.any],next:=st.next+1}:=rfl
def avR (e:Option (Nat×Nat)) (k:Option IntKind) (b:Bool) (y:AVal) (x:Option (Nat×Nat×List AVal)) (st:St):Option St:=match x with|some (i,wd,xs)=>avS i (AaW e k b wd xs (RX wd y)) st|none=>none
theorem A11{j f:TypeId}{i:Nat}{y:AVal}:ABo E j f (.sh i) y st=avR (KZ E.P j) (I4 E.P f) (Ai E.P f) y (LG st (.sh i)) st:=by
 unfold ABo avR AaW avS;rcases LG st (.sh i)with _|⟨i,wd,xs⟩;·rfl
 ·simp only;rcases KZ E.P j with _|⟨z,b⟩;·rfl
  ·rcases RX wd y with _|ys;·rfl
   ·simp only;have e:(z=wd/\I4 E.P f=none/\Ai E.P f=true/\(xs.length+ys.length) * b<=140737488355328/\xs.length+ys.length<=Ca)<->(z=wd/\I4 E.P f=none/\Ai E.P f=true/\Af (xs.length+ys.length) b):=Iff.rfl;by_cases hc:z=wd/\I4 E.P f=none/\Ai E.P f=true/\Af (xs.length+ys.length) b;·rw[an (e.2 hc),an hc]
    ·rw[aj (λh=>hc (e.1 h)),aj hc]
theorem Apc{e:Option (Nat×Nat)}{k:Option IntKind}{b:Bool}{i wd:Nat}{xs:List AVal}{y:AVal}:avR e k b y (some (i,wd,xs)) st=avS i (AaW e k b wd xs (RX wd y)) st:=rfl
theorem A1o{i:Nat}{lo hi mx:Option Int}:GZ E t (.sh i) lo hi mx=none:=rfl
def svR (e:Option Nat) (x:Option (Nat×Nat×List AVal)) (lo hi:Option Int) (st:St):Option St:=match x with|some (i,wd,xs)=>avS i (AMP e wd false (sub xs (lo.getD 0) (hi.getD xs.length))) st|none=>none
def A1d{i:Nat}{lo hi:Option Int}:TN E t (.sh i) lo hi none st=svR (Bh E.P t) (LG st (.sh i)) lo hi st:=by
 unfold TN svR;rcases LG st (.sh i)with _|⟨i,wd,xs⟩;·rfl
 ·simp only[AMP,sub,avS];by_cases h1:Bh E.P t=some wd<;>by_cases h2:0<=lo.getD 0/\lo.getD 0<=hi.getD xs.length/\hi.getD xs.length<=xs.length<;>simp[h1,h2]
theorem An9{e:Option Nat}{i wd:Nat}{xs:List AVal}{lo hi:Option Int}:svR e (some (i,wd,xs)) lo hi st=avS i (AMP e wd false (sub xs (lo.getD 0) (hi.getD xs.length))) st:=rfl
theorem A1k{i:Nat}{k:IntKind}{n:Int}:Da E t (.sh i) (.int k n)=none:=rfl
def ioR (e:Option Nat) (j:Nat) (n:Int) (y:Option (List AVal)):Option AVal:=match y with|some [.slop w xs]=>if e=some w/\n=xs.length then some (.sptr j w xs.length)else none|_=>none
def A1a{j:Nat}{k:IntKind}{n:Int}:Hy E t (.sh j) (.int k n) st=ioR (Bh E.P t) j n (Aj st.m j):=by unfold Hy ioR YR;grind
theorem Awd{e:Option Nat}{j w:Nat}{n:Int}{xs:List AVal}:ioR e j n (some [.vec w xs])=none:=rfl
def ivS (e:Option Nat) (j w:Nat) (n:Int) (y:Option AVal):Option AVal:=match y with|some _=>if e=some w then some (.vptr j w n.toNat 0)else none|none=>none
def ivR (e:Option Nat) (y:Option (Nat×Nat×List AVal)) (n:Int):Option AVal:=match y with|some (j,w,xs)=>ivS e j w n (idx xs n)|none=>none
def A13{j:Nat}{k:IntKind}{n:Int}:Ry E t (.sh j) (.int k n) st=ivR (Bh E.P t) (LG st (.sh j)) n:=by
 unfold Ry ivR ivS idx;rcases LG st (.sh j)with _|⟨i,wd,xs⟩;·rfl
 ·simp only;by_cases h1:Bh E.P t=some wd<;>by_cases h2:0<=n<;>by_cases h3:n<xs.length<;>simp[h1,h2,h3]<;>grind
theorem Aqt{e:Option Nat}{j w:Nat}{n:Int}{xs:List AVal}:ivR e (some (j,w,xs)) n=ivS e j w n (idx xs n):=rfl
def AqJ{j w:Nat}{n:Int}{y:AVal}:ivS (some w) j w n (some y)=some (.vptr j w n.toNat 0):=by simp[ivS]
def caI (w w' k:Nat) (y:Option AVal):Option (List AVal):=match y with|some x=>if w'=w/\Ch x=true then some ((Aa x).drop k)else none|none=>none
def caR (w n k:Nat) (y:Option (List AVal)):Option (List AVal):=match y with|some [.vec w' xs]=>caI w w' k xs[n]?|_=>none
def AuD{i w n k:Nat}:UT st (.vptr i w n k)=caR w n k (Aj st.m i):=by
 unfold UT caR caI;simp only;rcases Aj st.m i with _|(_|⟨y,_|_⟩)<;>try rfl
 ·cases y<;>try rfl
  rename_i w' xs;simp only;by_cases h:n<xs.length;·rw[aS h];simp[h,List.getD]
  ·rw[fw (ed h)];simp[h]
 ·cases y<;>rfl
theorem Atn{w w' n k:Nat}{xs:List AVal}:caR w n k (some [.vec w' xs])=caI w w' k xs[n]?:=rfl
def Ak2{w k:Nat}{x:AVal}:caI w w k (some x)=if Ch x=true then some ((Aa x).drop k)else none:=by simp[caI]
def Auz{i w n k:Nat}{v:AVal}:QA E t (.vptr i w n k) v st=shS (NB v) (VN E t (.vptr i w n k) v st) (AAd E t (.vptr i w n k) v st):=AAz
def seR (e:Option Nat) (i w n k:Nat) (v:AVal) (y:Option (List AVal)) (st:St):Option St:=match y with|some [.vec w' xs]=>if w'=w/\k=0/\n<xs.length/\Ch v=true/\e=some w/\(Aa v).length=w then some {st with m:=A9 st.m i [.vec w (xs.set n v.strip)]}else none|_=>none
def sfI (e:Option Nat) (i w:Nat) (xs:List AVal) (n k:Nat) (v:AVal) (x:Option AVal) (st:St):Option St:=match x with|some x=>if Ch v=true/\Ch x=true/\(Aa x).length=w/\e=some (Aa v).length/\k+(Aa v).length<=w then some {st with m:=A9 st.m i [.vec w (xs.set n (.agg (putCells (Aa x) k (stripL (Aa v)))))]}else none|none=>none
def sfR (e:Option Nat) (i w n k:Nat) (v:AVal) (y:Option (List AVal)) (st:St):Option St:=match y with|some [.vec w' xs]=>if w'=w then sfI e i w xs n k v xs[n]? st else none|_=>none
def svK (x y:Option St):Option St:=match x with|some s=>some s|none=>y
theorem Aq9{s:St}{y:Option St}:svK (some s) y=some s:=rfl
theorem Al5{y:Option St}:svK none y=y:=rfl
def Awj{i w n k:Nat}{v:AVal}:AAd E t (.vptr i w n k) v st=svK (seR (BV E.P t) i w n k v (Aj st.m i) st) (sfR (BV E.P t) i w n k v (Aj st.m i) st):=by
 have e:ADu E t (.vptr i w n k) v st=seR (BV E.P t) i w n k v (Aj st.m i) st:=by unfold ADu seR;simp only;rcases Aj st.m i with _|(_|⟨y,_|_⟩)<;>first|rfl|(cases y<;>rfl)
 have f:ADT E t (.vptr i w n k) v st=sfR (BV E.P t) i w n k v (Aj st.m i) st:=by
  unfold ADT sfR sfI;simp only;rcases Aj st.m i with _|(_|⟨y,_|_⟩)<;>first|rfl|(cases y<;>rfl)|skip
  cases y<;>try rfl
  rename_i w' xs;simp only[];by_cases hw:w'=w
  ·by_cases hn:n<xs.length;·simp[hw,hn,List.getD]
   ·simp[hw,hn]
  ·simp[hw]
 unfold AAd svK;rw[e,f];cases seR (BV E.P t) i w n k v (Aj st.m i) st<;>rfl
def A2S{e:Option Nat}{i w n k:Nat}{v:AVal}{y:Option (List AVal)} (h:k≠0):seR e i w n k v y st=none:=by unfold seR;split<;>simp[h]
def A14{z i w n k:Nat}{v:AVal}{y:Option (List AVal)} (h:z≠w):seR (some z) i w n k v y st=none:=by
 unfold seR;split;·rename_i w' xs;simp[h]
 ·rfl
def AuY{e:Option Nat}{i w n k:Nat}{v:AVal}{xs:List AVal}:sfR e i w n k v (some [.vec w xs]) st=sfI e i w xs n k v xs[n]? st:=by simp[sfR]
def Ape{z i w n k:Nat}{v x:AVal}{xs:List AVal}:sfI (some z) i w xs n k v (some x) st=if Ch v=true/\Ch x=true/\(Aa x).length=w/\z=(Aa v).length/\k+(Aa v).length<=w then some {st with m:=A9 st.m i [.vec w (xs.set n (.agg (putCells (Aa x) k (stripL (Aa v)))))]}else none:=by simp[sfI]
def seI (i w n:Nat) (v:AVal) (xs:List AVal) (x:Option AVal) (st:St):Option St:=match x with|some _=>if Ch v=true/\(Aa v).length=w then some {st with m:=A9 st.m i [.vec w (xs.set n v.strip)]}else none|none=>none
theorem AmK{i w n:Nat}{v x:AVal}{xs:List AVal}:seI i w n v xs (some x) st=if Ch v=true/\(Aa v).length=w then some {st with m:=A9 st.m i [.vec w (xs.set n v.strip)]}else none:=rfl
def AtY{α:Type}{f:α->AVal}{l:List α}{i w n:Nat}{v:AVal}:seR (some w) i w n 0 v (some [.vec w (List.map f l)]) st=seI i w n v (List.map f l) (List.map f l)[n]? st:=by
 by_cases h:n<l.length;·simp[seR,seI,h]
 ·simp[seR,seI,h]
theorem A2e{e f:TypeId}{i:Nat}{y:AVal}:RS E e f (.sh i) y=none:=rfl
def afR (x:Option St):Option (AVal×St):=match x with|some ⟨(n,[.vec w zs])::m,k⟩=>some (.slice w zs false,⟨m,k⟩)|_=>none
def A2C{e f:TypeId}{i:Nat}{y:AVal}:ASU E e f (.sh i) y st=afR (ABo E e f (.sh i) y st):=by unfold ASU afR;rfl
theorem Apu{n w k:Nat}{e:List AVal}{m:List (Nat×List AVal)}:afR (some ⟨(n,[.vec w e])::m,k⟩)=some (.slice w e false,⟨m,k⟩):=rfl
def Ayh{m:AVal}{s:B8}{e:Bool}{st:St}:Vu E t m (.str s) e st=SB E t m (.str s) e st:=by
 have:AA6 E t m (.str s) e st=none:=by unfold AA6;split<;>simp_all
 unfold Vu;rw[this];cases SB E t m (.str s) e st<;>rfl
def A0t{m:AVal}{c:List AVal}{e:Bool}{st:St}:Vu E t m (.agg c) e st=AA6 E t m (.agg c) e st:=by
 have:SB E t m (.agg c) e st=none:=by unfold SB;split<;>simp_all
 unfold Vu;rw[this]
def A0N{m x:AVal}{s:B8}{st:St}:Wz E t m (.str s) x st=ACo E t m (.str s) x st:=by
 have:AUa E t m (.str s) x st=none:=by unfold AUa;split<;>simp_all
 unfold Wz;rw[this];cases ACo E t m (.str s) x st<;>rfl
def Az0{m x:AVal}{c:List AVal}{st:St}:Wz E t m (.agg c) x st=AUa E t m (.agg c) x st:=by
 have:ACo E t m (.agg c) x st=none:=by unfold ACo;split<;>simp_all
 unfold Wz;rw[this]
def lhR (b e:Bool) (x:Option (List (B8×Int))) (k:B8×Int):Option AVal:=if b=true then x.map λks=>XP e (ks.contains k)else none
def uhR (b:Bool) (i:Nat) (x:Option (List (B8×Int))) (k:B8×Int) (st:St):Option St:=if b=true then x.map λks=> {st with m:=A9 st.m i [.hset (AGy ks k)]}else none
def A15{i:Nat}{s:B8}{p:Int}{e:Bool}{st:St}:AA6 E t (.sh i) (.agg [.str s,.int .i64 p]) e st=lhR (hpT E.P t) e (hsA (Aj st.m i)) (s,p):=by unfold AA6 lhR;cases hpT E.P t<;>rfl
def A1Y{i:Nat}{s:B8}{p:Int}{st:St}:AUa E t (.sh i) (.agg [.str s,.int .i64 p]) (.bool true) st=uhR (hpT E.P t) i (hsA (Aj st.m i)) (s,p) st:=by unfold AUa uhR;cases hpT E.P t<;>rfl
theorem ApP{e:Bool}{ks:List (B8×Int)}{k:B8×Int}:lhR true e (some ks) k=some (XP e (ks.contains k)):=rfl
theorem AlQ{i:Nat}{ks:List (B8×Int)}{k:B8×Int}{st:St}:uhR true i (some ks) k st=some {st with m:=A9 st.m i [.hset (AGy ks k)]}:=rfl
theorem A1T{ks:List (B8×Int)}:hsA (some [.hset ks])=some ks:=rfl
theorem A1C:hsA (some [.map [] []])=some []:=rfl
theorem A2T{b:Bool}:XP false b=.bool b:=rfl
theorem A2K{b:Bool}:XP true b=.tuple [.bool b,.bool b]:=rfl
def A0C{f e:TypeId}{i:Tmp}{ax y:AVal}:appW E (.tmp i) f e ax y st=ASU E f e ax y st:=by unfold appW ArN;cases ASU E f e ax y st<;>rfl
def anR (a:Option (Nat×Nat)) (f:Nat->Option (List AVal)) (c:Bool) (st:St):Option (AVal×St):=match a with
 |some (z,b)=>match f z with|some ys=>if c=true then(if Af ys.length b then some (.sh st.next,{m:=(st.next,[.vec z ys])::st.m,next:=st.next+1})else none)else none|none=>none
 |none=>none
theorem AyU{f e:TypeId}{w:Nat}{xs ys:List AVal}{o p:Bool}:appW E (.const (.slice none 0 0)) f e (.slice w xs o) (.slice w ys p) st=anR (KZ E.P f) (λz=>RX z (.slice w ys p)) (decide (I4 E.P e=none)&&Ai E.P e) st:=by
 have:ASU E f e (.slice w xs o) (.slice w ys p) st=none:=rfl;unfold appW;rw[this];unfold ArN anR;rcases KZ E.P f with _|⟨z,b⟩;·rfl
 ·simp only[];cases RX z (.slice w ys p)with|none=>rfl|some ys=>simp only[Af,Ca,aw,au];by_cases h1:I4 E.P e=none<;>by_cases h2:Ai E.P e=true<;>simp[h1,h2]<;>congr 1<;>simp[and_comm]
def AqS{z b:Nat}{f:Nat->Option (List AVal)}:anR (some (z,b)) f true st=match f z with|some ys=>(if Af ys.length b then some (.sh st.next,{m:=(st.next,[.vec z ys])::st.m,next:=st.next+1})else none)|none=>none:=by simp[anR]
end
end Go.VM
namespace Go.VM
abbrev MS:=List (Nat×List AVal)
abbrev PQ:=AVal->St->Prop
structure Gl (P:Prop):Prop where go:P
inductive An where|z|q (a b:An)|c (a b:An)|r (mv:List Tmp)
def Kk (F:List AVal->St->Prop) (K:APost):APost:=λe af st=>match e with|.normal=>F af st|e=>K e af st
def ABw (f:Nat) (K:APost):APost:=λe af st=>match e with|.exit id'=>if id'=f then K .normal af st else K (.exit id') af st|e=>K e af st
def nK (K:APost) (af:List AVal) (st:St):Prop:=K .normal af st
def WG (x:AVal) (X Y:List AVal->St->Prop) (af:List AVal) (st:St):Prop:=match x with|.bool b=>if b=true then X af st else Y af st|_=>False
theorem AG9{E:Env}{c:Code}{Q:APost}{af:List AVal}{st:St} (h:AWp E c Q af st):AWp E (.scope c) Q af st:=⟨λF O w a hd hs=>wp_scope_straight (fm (h.go F O w a hd hs) λe f w' q=>by cases e<;>first|exact q|exact q.1.elim)⟩
def wpc (E:Env):Code->An->APost->List AVal->St->Prop|.skip,_,K=>λaf st=>K .normal af st|.ret,_,K=>λaf st=>K .ret af st|.exit id,_,K=>λaf st=>K (.exit id) af st|.seq x y,.q a b,K=>wpc E x a (Kk (wpc E y b K) K)|.cond c x y,.c a b,K=>λaf st=>WG (rd E af 0 c) (wpc E x a K) (wpc E y b K) af st|.block id c,a,K=>wpc E c a (ABw id K)|.scope c,a,K=>wpc E c a K|.region _ os false,.r mv,K=>NL E mv os os.toList (nK K)|c,_,K=>AWp E c K
section
variable{E:Env}{K:APost}{af:List AVal}{st:St}{x y:Code}{a b:An}{F:List AVal->St->Prop}
def Akp:wpc E .skip a K af st=K .normal af st:=by rw[wpc]
def Aws:wpc E .ret a K af st=K .ret af st:=by rw[wpc]
def Aqk{e:Nat}:wpc E (.exit e) a K af st=K (.exit e) af st:=by rw[wpc]
def AuJ:wpc E (.seq x y) (.q a b) K af st=wpc E x a (Kk (wpc E y b K) K) af st:=by rw[wpc]
def Ao1{c:Operand}:wpc E (.cond c x y) (.c a b) K af st=WG (rd E af 0 c) (wpc E x a K) (wpc E y b K) af st:=by rw[wpc]
def Aij{e:Nat}:wpc E (.block e x) a K af st=wpc E x a (ABw e K) af st:=by rw[wpc]
def Aei:wpc E (.scope x) a K af st=wpc E x a K af st:=by rw[wpc]
def Aae{e:Nat}{os:List Oper}{mv:List Tmp}:wpc E (.region e (List.toArray os) false) (.r mv) K af st=NL E mv ⟨os⟩ os (nK K) af st:=by rw[wpc]
def A1b:wpc E (.seq x y) .z K af st=AWp E (.seq x y) K af st:=by rw[wpc]<;>simp
def AoC:wpc E (.loop x) a K af st=AWp E (.loop x) K af st:=by rw[wpc]<;>simp
def Akb{e:Nat}{os:Array Oper}:wpc E (.region e os true) a K af st=AWp E (.region e os true) K af st:=by rw[wpc]<;>simp
theorem At5:Kk F K .normal af st=F af st:=rfl
theorem Awa:Kk F K .ret af st=K .ret af st:=rfl
theorem AwI{e:Nat}:Kk F K (.exit e) af st=K (.exit e) af st:=rfl
theorem Ayf{e:Nat}:ABw e K .normal af st=K .normal af st:=rfl
theorem AzZ{e:Nat}:ABw e K .ret af st=K .ret af st:=rfl
def A0y{e:Nat}:ABw e K (.exit e) af st=K .normal af st:=by simp[ABw]
def A0D{f e:Nat} (h:e≠f):ABw f K (.exit e) af st=K (.exit e) af st:=by grind[ABw]
theorem Ayi:nK K af st=K .normal af st:=rfl
theorem Ack{X Y:List AVal->St->Prop}:WG (.bool true) X Y af st=X af st:=rfl
theorem AdG{X Y:List AVal->St->Prop}:WG (.bool false) X Y af st=Y af st:=rfl
def Re: ∀ {c:Code} (a:An){K:APost}{af:List AVal}{st:St},wpc E c a K af st->AWp E c K af st:=by
 intro c;induction c with
 |skip=>intro a K af st h;rw[wpc]at h;exact AUz h
 |ret=>intro a K af st h;rw[wpc]at h;exact AcX h
 |exit G=>intro a K af st h;rw[wpc]at h;exact AUj h
 |seq x y j z=>
  intro a K af st h;cases a with
  |q a b=>rw[wpc]at h;refine WO ((j a h).mono λe af' A _ q=>?_);cases e with|normal=>exact z b q|_=>exact q
  |_=>(rw[wpc]at h;exact h)<;>(intros;simp_all)
 | cond c x y j z=>
  intro a K af st h;cases a with
  |c a b=>
   rw[wpc]at h;unfold WG at h;split at h;·rename_i C H;refine ASV C H ?_;cases C with|true=>simp only[az]at h⊢;grind|false=>simp only[ap,aA]at h⊢;grind
   grind
  |_=>(rw[wpc]at h;exact h)<;>(intros;simp_all)
 |block G c B=>intro a K af st h;rw[wpc]at h;exact AG4 ((B a h).mono λe af' A _ q=>by cases e<;>exact q)
 |region G os d=>intro a K af st h;cases d with|true=>(rw[wpc]at h;exact h)<;>(intros;simp_all)|false=>cases a with|r mv=>rw[wpc]at h;exact X5 mv h|_=>(rw[wpc]at h;exact h)<;>(intros;simp_all)
 |loop c B=>intro a K af st h;(rw[wpc]at h;exact h)<;>(intros;simp_all)
 |rangeFunc f ps x y j z=>intro a K af st h;(rw[wpc]at h;exact h)<;>(intros;simp_all)
 |scope c B=>intro a K af st h;rw[wpc]at h;grind[AG9]
 |label l=>intro a K af st h;(rw[wpc]at h;exact h)<;>(intros;simp_all)
 |goto l=>intro a K af st h;(rw[wpc]at h;exact h)<;>(intros;simp_all)
 |refuse w=>intro a K af st h;(rw[wpc]at h;exact h)<;>(intros;simp_all)
end
inductive GTk (X Y:Prop):Type|mk
def gK (g:Option Bool) (X Y:Prop) (u:GTk X Y):Prop:=match g with|some true=>X|some false=>Y|none=>False
theorem A3c{X Y:Prop}{u:GTk X Y}:gK (some true) X Y u=X:=rfl
theorem A3g{X Y:Prop}{u:GTk X Y}:gK (some false) X Y u=Y:=rfl
def nxK (b:Bool) (X Y:Prop) (u:GTk X Y):Prop:=if b=true then X else Y
def A2E{X Y:Prop}{u:GTk X Y}:nxK true X Y u=X:=by simp[nxK]
def A17{X Y:Prop}{u:GTk X Y}:nxK false X Y u=Y:=by simp[nxK]
section
variable{E:Env}{mv:List Tmp}{ops:Array Oper}{K:List AVal->St->Prop}{af:List AVal}{st:St}{d:Option Tmp}{ty:TypeId}{pos:String}{aft:Array Edge}{g:Option (Nat×Bool)}
def Ayz{h:Op}{f os:List Oper}{j:Nat}{e:Bool}:NL E mv ⟨f⟩ (⟨d,h,ty,pos,aft,some (j,e)⟩::os) K af st=gK (gdD (RJ f j) af e) (DN E mv ⟨d,h,ty,pos,aft,some (j,e)⟩ af st (NL E mv ⟨f⟩ os K)) (NL E mv ⟨f⟩ os K (Ae af d (.tuple [])) st) .mk:=by grind[NL,AYn,gK,gdD,RJ]
def A3M{h:Op}{f:List Oper}{j:Nat}{e:Bool}:gWp E mv ⟨f⟩ ⟨d,h,ty,pos,aft,some (j,e)⟩ af st K=gK (gdD (RJ f j) af e) (DN E mv ⟨d,h,ty,pos,aft,some (j,e)⟩ af st K) (K (Ae af d (.tuple [])) st) .mk:=by grind[gWp,AYn,gK,gdD,RJ]
def AwH{t:Tmp}{s:B8}{p:Nat}:AC1 (.iter s p) t d K af st=nxK (decide (p<s.length)) (K (Ae (af.set t (.iter s (p+(Df s p).2))) d (.tuple [.bool true,.int .i64 p,.int .i32 (Df s p).1])) st) (K (Ae af d (.tuple [.bool false])) st) .mk:=by rw[AX6];rfl
end
section cong
@[congr] theorem A1J{E:Env}{mv:List Tmp}{ops:Array Oper}{os:List Oper}{K:List AVal->St->Prop}{af:List AVal}{st:St}{af':List AVal}{e:St} (h0:af=af') (f:st=e):NL E mv ops os K af st=NL E mv ops os K af' e:=by grind
@[congr] theorem A2y{E:Env}{mv:List Tmp}{o:Oper}{af:List AVal}{st:St}{K:List AVal->St->Prop}{af':List AVal}{e:St} (h0:af=af') (f:st=e):DN E mv o af st K=DN E mv o af' e K:=by grind
@[congr] theorem A2r{x:Option AVal}{d:Option Tmp}{K:List AVal->St->Prop}{af:List AVal}{st:St}{f:Option AVal}{af':List AVal}{e:St} (h0:x=f) (h:af=af') (j:st=e):UB x d K af st=UB f d K af' e:=by grind
@[congr] theorem A08{x:Option AVal}{d:Option Tmp}{K:List AVal->St->Prop}{af:List AVal}{st:St}{f:Option AVal}{af':List AVal}{e:St} (h0:x=f) (h:af=af') (j:st=e):Ou x d K af st=Ou f d K af' e:=by grind
@[congr] theorem A2V{z:Option (AVal×St)}{d:Option Tmp}{K:List AVal->St->Prop}{af:List AVal}{e:Option (AVal×St)}{af':List AVal} (h0:z=e) (f:af=af'):SA z d K af=SA e d K af':=by grind
@[congr] theorem A20{b:Bool}{v:AVal}{d:Option Tmp}{K:List AVal->St->Prop}{af:List AVal}{st:St}{h:Bool}{f:AVal}{af':List AVal}{e:St} (h0:b=h) (l:v=f) (z:af=af') (j:st=e):Ahc b v d K af st=Ahc h f d K af' e:=by grind
@[congr] theorem A02{x:Option (List AVal)}{d:Option Tmp}{K:List AVal->St->Prop}{af:List AVal}{st:St}{f:Option (List AVal)}{af':List AVal}{e:St} (h0:x=f) (h:af=af') (j:st=e):AD6 x d K af st=AD6 f d K af' e:=by grind
@[congr] theorem A07{s:Option St}{K:List AVal->St->Prop}{af:List AVal}{e:Option St}{af':List AVal} (h0:s=e) (f:af=af'):UW s K af=UW e K af':=by grind
@[congr] theorem A06{E:Env}{t:TypeId}{v:AVal}{lo:Option (Option Int)}{hi:Option (Option Int)}{mx:Option (Option Int)}{d:Option Tmp}{K:List AVal->St->Prop}{af:List AVal}{st:St}{l:AVal}{e:Option (Option Int)}{f:Option (Option Int)}{j:Option (Option Int)}{af':List AVal}{h:St} (h0:v=l) (B:lo=e) (G:hi=f) (z:mx=j) (A:af=af') (C:st=h):AD1 E t v lo hi mx d K af st=AD1 E t l e f j d K af' h:=by grind
@[congr] theorem A05{b:Bool}{v:AVal}{d:Option Tmp}{K:List AVal->St->Prop}{af:List AVal}{st:St}{h:Bool}{f:AVal}{af':List AVal}{e:St} (h0:b=h) (l:v=f) (z:af=af') (j:st=e):ADP b v d K af st=ADP h f d K af' e:=by grind
@[congr] theorem A2P{v:AVal}{h:Tmp}{d:Option Tmp}{K:List AVal->St->Prop}{af:List AVal}{st:St}{f:AVal}{af':List AVal}{e:St} (h0:v=f) (j:af=af') (l:st=e):AC1 v h d K af st=AC1 f h d K af' e:=by grind
@[congr] theorem A1g{E:Env}{v:AVal}{l:List AVal}{d:Option Tmp}{K:List AVal->St->Prop}{af:List AVal}{st:St}{h:AVal}{f:List AVal}{af':List AVal}{e:St} (h0:v=h) (z:l=f) (A:af=af') (j:st=e):AUD E v l d K af st=AUD E h f d K af' e:=by grind
@[congr] theorem A26{b z:Bool}{u:Operand}{t:TypeId}{E:Env}{d:Option Tmp}{K:List AVal->St->Prop}{af:List AVal}{st:St}{f h:Bool}{af':List AVal}{e:St} (h0:b=f) (j:z=h) (l:af=af') (A:st=e):mvK b z u t E d K af st=mvK f h u t E d K af' e:=by grind
@[congr] theorem A35{z:Bool}{y:Option (Nat×Nat×List AVal)}{j:Tmp}{v:AVal}{d:Option Tmp}{K:List AVal->St->Prop}{af:List AVal}{st:St}{l:Bool}{h:Option (Nat×Nat×List AVal)}{f:AVal}{af':List AVal}{e:St} (h0:z=l) (A:y=h) (B:v=f) (C:af=af') (G:st=e):fzK z y j v d K af st=fzK l h j f d K af' e:=by grind
@[congr] theorem A3V{b:Bool}{t:TypeId}{v:AVal}{E:Env}{d:Option Tmp}{K:List AVal->St->Prop}{af:List AVal}{st:St}{h:Bool}{f:AVal}{af':List AVal}{e:St} (h0:b=h) (l:v=f) (z:af=af') (j:st=e):ldK b t v E d K af st=ldK h t f E d K af' e:=by grind
@[congr] theorem A2f{F:List AVal->St->Prop}{L:APost}{e:Exit}{af:List AVal}{st:St}{h:Exit}{af':List AVal}{f:St} (h0:e=h) (j:af=af') (l:st=f):Kk F L e af st=Kk F L h af' f:=by grind
@[congr] theorem A2w{j:Nat}{L:APost}{e:Exit}{af:List AVal}{st:St}{h:Exit}{af':List AVal}{f:St} (h0:e=h) (l:af=af') (z:st=f):ABw j L e af st=ABw j L h af' f:=by grind
@[congr] theorem A36{L:APost}{af:List AVal}{st:St}{af':List AVal}{e:St} (h0:af=af') (f:st=e):nK L af st=nK L af' e:=by grind
@[congr] theorem A1F{v:AVal}{F:List AVal->St->Prop}{G:List AVal->St->Prop}{af:List AVal}{st:St}{f:AVal}{af':List AVal}{e:St} (h0:v=f) (h:af=af') (j:st=e):WG v F G af st=WG f F G af' e:=by grind
@[congr] theorem A3z{E:Env}{c:Code}{a:An}{L:APost}{af:List AVal}{st:St}{af':List AVal}{e:St} (h0:af=af') (f:st=e):wpc E c a L af st=wpc E c a L af' e:=by grind
@[congr] theorem A3d{E:Env}{c:Code}{L:APost}{af:List AVal}{st:St}{af':List AVal}{e:St} (h0:af=af') (f:st=e):AWp E c L af st=AWp E c L af' e:=by grind
@[congr] theorem A2h{E:Env}{f:FuncId}{l:List AVal}{st:St}{Q:AVal->St->Prop}{h:List AVal}{e:St} (h0:l=h) (j:st=e):AE E f l st Q=AE E f h e Q:=by grind
@[congr] theorem A04{E:Env}{mv:List Tmp}{ops:Array Oper}{p:Plan}{tv:List (Nat×AVal)}{K:List AVal->St->Prop}{af:List AVal}{st:St}{f:List (Nat×AVal)}{af':List AVal}{e:St} (h0:tv=f) (h:af=af') (j:st=e):IG E mv ops p tv K af st=IG E mv ops p f K af' e:=by grind
@[congr] theorem A3E{E:Env}{mv:List Tmp}{os:List Oper}{x:Option AVal}{i:Nat}{d:Option Tmp}{p:Plan}{tv:List (Nat×AVal)}{K:List AVal->St->Prop}{af:List AVal}{st:St}{h:Option AVal}{e:List (Nat×AVal)}{af':List AVal}{f:St} (h0:x=h) (l:tv=e) (z:af=af') (j:st=f):tkR E mv os x i d p tv K af st=tkR E mv os h i d p e K af' f:=by grind
@[congr] theorem A3f{E:Env}{mv:List Tmp}{os:List Oper}{w:Option Oper}{i:Nat}{p:Plan}{tv:List (Nat×AVal)}{K:List AVal->St->Prop}{af:List AVal}{st:St}{w':Option Oper}{f:List (Nat×AVal)}{af':List AVal}{e:St} (h0:w=w') (j:tv=f) (l:af=af') (h:st=e):tkO E mv os w i p tv K af st=tkO E mv os w' i p f K af' e:=by grind
@[congr] theorem A2z{E:Env}{mv:List Tmp}{os:List Oper}{chk:List Nat}{p:Plan}{tv:List (Nat×AVal)}{K:List AVal->St->Prop}{af:List AVal}{st:St}{f:List (Nat×AVal)}{af':List AVal}{e:St} (h0:tv=f) (h:af=af') (j:st=e):Apk E mv os chk p tv K af st=Apk E mv os chk p f K af' e:=by grind
@[congr] theorem A2v{E:Env}{mv:List Tmp}{os:List Oper}{w:Option Oper}{chk:List Nat}{p:Plan}{tv:List (Nat×AVal)}{K:List AVal->St->Prop}{af:List AVal}{st:St}{w':Option Oper}{f:List (Nat×AVal)}{af':List AVal}{e:St} (h0:w=w') (j:tv=f) (l:af=af') (h:st=e):Avf E mv os w chk p tv K af st=Avf E mv os w' chk p f K af' e:=by grind
@[congr] theorem A25{E:Env}{mv:List Tmp}{ops:Array Oper}{o:Oper}{af:List AVal}{st:St}{K:List AVal->St->Prop}{af':List AVal}{e:St} (h0:af=af') (f:st=e):gWp E mv ops o af st K=gWp E mv ops o af' e K:=by grind
@[congr] theorem A37{g:Option Bool}{X:Prop}{Y:Prop}{u:GTk X Y}{e:Option Bool} (h0:g=e):gK g X Y u=gK e X Y u:=by grind
@[congr] theorem A2x{d:Option Tmp}{K:List AVal->St->Prop}{af:List AVal}{r:AVal}{f:St}{af':List AVal}{h:AVal}{e:St} (h0:af=af') (j:r=h) (l:f=e):Ad6 d K af r f=Ad6 d K af' h e:=by grind
@[congr] theorem A3G{b:Bool}{X:Prop}{Y:Prop}{u:GTk X Y}{e:Bool} (h0:b=e):nxK b X Y u=nxK e X Y u:=by grind
end cong
section rules
variable{E:Env}{K Q:APost}{af:List AVal}{st:St}{x y c:Code}
def ent{f:FuncId}{l:Func}{C:Nat}{z:List ResultVar}{j:List AVal}{m B:MS}{n:Nat}{G:AVal}{Q:PQ} (H: ∀n',n<=n'->Gl (Q G ⟨B,n'⟩)) (L:E.P.funcs[f]?=some l) (S:l.body=some c) (V:l.ntmps=C) (M:l.results=z.toArray) (a:An) (h: ∀R:APost,(∀af st xs m0 m1 n',Sm E z af st=some (xs,⟨m1,n'⟩)->m0.Sublist m1->m0=B->n<=n'->Uv xs=G->R .ret af st/\R .normal af st)->Gl (wpc E c a R (j++List.replicate (C-j.length) .any) ⟨m,n⟩)):AE E f j ⟨m,n⟩ Q:=by
 refine Nh L S ?_;have X:=Re a (h (Ko E l Q) ?_).go;·grind
 ·intro af st xs m0 m1 n' W I h0 A U;subst h0;have e:l.results.toList=z:=by rw[M]
  subst U;exact⟨LW (by rw[e];omega) I (H n' A).go,Ld (by rw[e];omega) I (H n' A).go⟩
def A1z{f:FuncId}{l:Func}{G:Nat}{z:List ResultVar}{j:List AVal}{m C:MS}{n:Nat}{H:AVal}{Q:PQ} (I: ∀n',n<=n'->Gl (Q H ⟨C,n'⟩)) (M:E.P.funcs[f]?=some l) (U:l.body=some c) (W:l.ntmps=G) (S:l.results=z.toArray) (a:An) (h: ∀R:APost,(∀af st xs m0 m1 n',Sm E z af st=some (xs,⟨m1,n'⟩)->m0.Sublist m1->m0=C->n<=n'->(Uv xs).strip=H->R .ret af st/\R .normal af st)->Gl (wpc E c a R (j++List.replicate (G-j.length) .any) ⟨m,n⟩)):AE E f j ⟨m,n⟩ Q:=by
 refine AE.strip (Nh M U ?_);have Y:=Re a (h (Ko E l λr A=>Q r.strip A) ?_).go;·grind
 ·intro af st xs m0 m1 n' X L h0 B V;subst h0;have e:l.results.toList=z:=by rw[S]
  subst V;exact⟨LW (by rw[e];omega) L (I n' B).go,Ld (by rw[e];omega) L (I n' B).go⟩
def RV{l:Nat}{os:List Oper} (mv:List Tmp) (e:Plan) (j:E.P.follows .mixedOrders=true) (f:KJ (List.toArray os) e false (Array.replicate (List.toArray os).size false) []=true) (h:Gl (IG E mv ⟨os⟩ e [] (nK Q) af st)):AWp E (.region l (List.toArray os) true) Q af st:=Uz mv e j f h.go
def VO{α β γ:Type}{k0:α->Option β}{body:(α->Option β)->Option β}{r:β}{m:MS}{n:Nat}{T:Prop}{d:JD α} (h:T/\AA k0 body d=some r) (js cs:List Tmp) (V:α->γ->List AVal) (M:α->γ->MS) (a:An) (rest: ∀j g n',n<=n'->keysLt n' (M j g)->((M j g).map (·.1)).Nodup->T/\k0 j=some r->AWp E y Q (setVals (Al js af) cs (V j g)) ⟨M j g,n'⟩) (first: ∀(k:α->Option β) (J:List AVal->St->Prop),(∀j g af' m0 m1 n',k j=some r->m0.Sublist m1->m0=M j g->Al cs (Al js af')=Al cs (Al js af)->Co (Al js af') cs=V j g->n<=n'->J af' ⟨m1,n'⟩)->T/\body k=some r->Gl (wpc E x a (Kk J Q) af ⟨m,n⟩)):AWp E (.seq x y) Q af ⟨m,n⟩:=by
 refine WO ?_;have key:=Re a (first k0 (λaf' f=>AWp E y Q af' ⟨f.m,f.next⟩) ?_ h).go;·exact key.mono λe af' f _ q=>by cases e<;>exact q
 ·intro j g af' m0 m1 n' C z l B G A;subst l;refine Vt js (Agk (m:=M j g) z ?_);grind[AWp.known,AWp.nodup,Mm]
def AnC{σ β γ:Type}{r:β}{m:MS}{n:Nat}{T:Prop} (G:Nat->σ->Option β) (V:σ->γ->List AVal) (M:σ->γ->MS) (js cs:List Tmp) (z:σ) (B:γ){k0:Nat} (h:T/\G k0 z=some r) (X: ∀s,G 0 s=none) (H:m=M z B) (W:Co (Al js af) cs=V z B) (round: ∀k s g n',n<=n'->keysLt n' (M s g)->T/\G (k+1) s=some r->∀J:List AVal->St->Prop,(∀l A af' m0 m1 f,G k l=some r->m0.Sublist m1->m0=M l A->Al cs (Al js af')=Al cs (Al js af)->Co (Al js af') cs=V l A->n'<=f->J af' ⟨m1,f⟩)->AWp E c (Kk J Q) (setVals (Al js af) cs (V s g)) ⟨M s g,n'⟩):AWp E (.loop c) Q af ⟨m,n⟩:=by
 refine ADz js cs (λk vs j=>∃s g,vs=V s g/\j.m=M s g/\n<=j.next/\G k s=some r) k0 ⟨z,B,W,H,av _,h.2⟩ ?_;rintro k vs ⟨Y,n'⟩ ⟨s,g,rfl,hm',hn,hG⟩ J hJ;simp only at hm' hn;subst hm';cases k with
 |zero=>grind
 |succ k=>
  refine AWp.known λ_ P=>?_;refine(round k s g n' hn P ⟨h.1,hG⟩ J ?_).mono λe af' j _ q=>by cases e<;>first|exact Pm q|exact .oth fN q
  intro l A af' m0 m1 f I U C R S L;exact hJ k af' ⟨m1,f⟩ m0 (fe _) U R ⟨l,A,S,C,bK hn L,I⟩
def AiS{α:Type}{L pre e:List α}{x:α} (h:L=pre++x::e) (f:AL L.length):decide ((pre.length:Int)<(L.length:Int))=true/\idx L (pre.length:Int)=some x/\wr .i64 ((pre.length:Int)+1)=(pre.length:Int)+1:=by subst h;unfold AL at f;simp only[ag,ae]at f;refine⟨by simp only[au,ag,ae];omega,by simp[idx],?_⟩;grind[wr,IntKind.wrap,IntKind.bits,IntKind.signed]
def AmD{σ β γ:Type}{r:β}{m:MS}{n:Nat}{T:Prop} (i0 b:Int) (hL: -4611686018427387904<=i0/\b<=4611686018427387904) (G:Nat->Int->σ->Option β) (V:Int->σ->γ->List AVal) (M:Int->σ->γ->MS) (js cs:List Tmp) (B:σ) (H:γ) (h:T/\G (b-i0).toNat i0 B=some r) (P:m=M i0 B H) (Z:Co (Al js af) cs=V i0 B H) (A: ∀i s g n',n<=n'->keysLt n' (M i s g)->(decide (i<b)=false/\T)/\G 0 i s=some r->AWp E c (Kk (λ_ _=>False) Q) (setVals (Al js af) cs (V i s g)) ⟨M i s g,n'⟩) (l: ∀k i s g n',n<=n'->keysLt n' (M i s g)->(decide (i<b)=true/\wr .i64 (i+1)=i+1/\T)/\G (k+1) i s=some r->∀J:List AVal->St->Prop,(∀z C af' m0 m1 j,G k (i+1) z=some r->m0.Sublist m1->m0=M (i+1) z C->Al cs (Al js af')=Al cs (Al js af)->Co (Al js af') cs=V (i+1) z C->n'<=j->J af' ⟨m1,j⟩)->AWp E c (Kk J Q) (setVals (Al js af) cs (V i s g)) ⟨M i s g,n'⟩):AWp E (.loop c) Q af ⟨m,n⟩:=by
 refine ADz js cs (λk vs f=>∃i s g,i0<=i/\k=(b-i).toNat/\vs=V i s g/\f.m=M i s g/\n<=f.next/\G k i s=some r) (b-i0).toNat ⟨i0,B,H,bE _,rfl,Z,P,av _,h.2⟩ ?_;rintro k vs ⟨m',n'⟩ ⟨i,s,g,hi,hk',rfl,hm',hn,hG⟩ J hJ;simp only at hm' hn;subst hm';cases k with
 |zero=>refine AWp.known λ_ I=>?_;refine(A _ s g n' hn I ⟨⟨by grind,h.1⟩,hG⟩).mono λe af' f _ q=>by cases e<;>first|exact q.elim|exact .oth fN q
 |succ k=>
  refine AWp.known λ_ I=>?_;have X:wr .i64 (i+1)=i+1:=by grind[wr,IntKind.wrap,IntKind.bits,IntKind.signed]
  refine(l k i s g n' hn I ⟨⟨by simp only[au];omega,X,h.1⟩,hG⟩ J ?_).mono λe af' f _ q=>by cases e<;>first|exact Pm q|exact .oth fN q
  intro z C af' m0 m1 j R Y L U W S;exact hJ k af' ⟨m1,j⟩ m0 fN Y U ⟨i+1,z,C,fM,fM,W,L,bK hn S,R⟩
def Cy (a:An) (h:Gl (wpc E c a K af st)):AWp E c K af st:=Re a h.go
end rules
def AaM{A B:Prop} (a:Gl A) (b:Gl B):Gl (A/\B):=⟨a.go,b.go⟩
def L6{α:Type}{c:Bool}{x y:Option α}{r:α}{T:Prop} (h:T/\(if c=true then x else y)=some r):((c=true/\T)/\x=some r)\/((c=false/\T)/\y=some r):=by
 cases c;·exact .inr ⟨⟨rfl,h.1⟩,h.2⟩
 ·exact .inl ⟨⟨rfl,h.1⟩,h.2⟩
def GY{α β:Type}{x:Option α}{f:α->Option β}{r:β}{T:Prop} (h:T/\Option.bind x f=some r): ∃y,(x=some y/\T)/\f y=some r:=by obtain⟨y,e,j⟩:=bind_some h.2;grind
def Ow{α:Type}{c:Prop} [Decidable c]{x:Option α}{r:α}{T:Prop} (h:T/\grd c x=some r):c/\T/\x=some r:=by grind[ADY]
def Lp{A B C:Prop} (a:A) (h:B/\C):(A/\B)/\C:=⟨⟨a,h.1⟩,h.2⟩
end Go.VM
set_option maxRecDepth 100000
namespace Go.VM
section
variable{E:Env}{af:List AVal}{t:TypeId}
def fdA (r:Option (Nat×Nat×Bool)) (cs:List AVal):Option AVal:=match r with|some (off,z,g)=>Xe cs off z g|none=>none
def AvK{s:TypeId}{cs:List AVal}{f:Nat}:Xy E s (.agg cs) f=fdA (AU E.P s f) cs:=by unfold Xy fdA;rcases AU E.P s f with _|⟨_,_,_⟩<;>rfl
theorem Ams{off z:Nat}{g:Bool}{cs:List AVal}:fdA (some (off,z,g)) cs=Xe cs off z g:=rfl
theorem Atx{r:AVal}:Uv [r]=r:=rfl
theorem AtN:Uv []=.tuple []:=rfl
theorem AuL{a b:AVal}{l:List AVal}:Uv (a::b::l)=.tuple (a::b::l):=rfl
theorem AnD:Al [] af=af:=rfl
theorem Ai9{j:Tmp}{js:List Tmp}:Al (j::js) af=Al js (af.set j .any):=rfl
def A0Y{vs:List AVal}:setVals af [] vs=af:=by cases vs<;>rfl
theorem AvQ{c:Tmp}{cs:List Tmp}{v:AVal}{vs:List AVal}:setVals af (c::cs) (v::vs)=setVals (af.set c v) cs vs:=rfl
theorem Ay2:Co af []=[]:=rfl
theorem Asu{c:Tmp}{cs:List Tmp}:Co af (c::cs)=af.getD c .any::Co af cs:=rfl
theorem ArE{r:AVal}:Ae af none r=af:=rfl
theorem AoT{d:Tmp}{r:AVal}:Ae af (some d) r=af.set d r:=rfl
theorem Aso{i:Tmp}:stripAt af (.tmp i)=af.set i (af.getD i .any).strip:=rfl
def Au6{l:List AVal}:AVal.strip (.agg l)=.agg (stripL l):=by rw[AVal.strip]
def AeP{l:List AVal}:AVal.strip (.tuple l)=.tuple (stripL l):=by rw[AVal.strip]
def Ag7{w:Nat}{l:List AVal}{o:Bool}:AVal.strip (.slice w l o)=.slice w l false:=by rw[AVal.strip]
def ApT{s:B8}{p:Nat}:AVal.strip (.iter s p)=.any:=by rw[AVal.strip]
def An7:stripL []=[]:=by rw[stripL]
def AzC{x:AVal}{e:List Bool}{xs:List AVal}:stripB (true::e) (x::xs)=x.strip::stripB e xs:=by rw[stripB]
def AyZ{x:AVal}{e:List Bool}{xs:List AVal}:stripB (false::e) (x::xs)=x::stripB e xs:=by rw[stripB]
def Ayo{xs:List AVal}:stripB [] xs=xs:=by rw[stripB]
def Agl{x:AVal}{l:List AVal}:stripL (x::l)=x.strip::stripL l:=by rw[stripL]
theorem A0k{i:Tmp}:rd E af t (.tmp i)=af.getD i .any:=rfl
theorem Aop{v:Value}:rd E af t (.const v)=Kq (JM E.P t) v:=rfl
theorem Av0{g:FuncId}:rd E af t (.func g)=.fn (.func g) [] []:=rfl
end
def vmC:=ac (ac (ac (ac (ac (ac (ac (ac (ac (@Ahj) (@AYL)) (ac (@AX4) (@AgJ))) (ac (ac (@AUm) (@AVU)) (ac (@AQk) (ac (@AKM) (@AVb))))) (ac (ac (ac (@ApM) (@AoP)) (ac (@ApA) (ac (@AkV) (@Aiu)))) (ac (ac (@Ak0) (@AeU)) (ac (@Aur) (ac (@Ahr) (@AnI)))))) (ac (ac (ac (ac (@Ayv) (@Ak9)) (ac (@AFT) (@At0))) (ac (ac (@AnG) (@AYc)) (ac (@AmZ) (ac (@AgT) (@Aou))))) (ac (ac (ac (@Abd) (@Awu)) (ac (@AvT) (ac (@AYi) (@As7)))) (ac (ac (@AVN) (@AmF)) (ac (@AuI) (ac (@AZy) (@AWY))))))) (ac (ac (ac (ac (ac (@AIU) (@ApW)) (ac (@AKB) (@AlV))) (ac (ac (@AyH) (@AzX)) (ac (@AzK) (ac (@Awx) (@AlC))))) (ac (ac (ac (@Ag1) (@Atl)) (ac (@ASF) (ac (@AvE) (@At1)))) (ac (ac (@AV5) (@Aof)) (ac (@AE3) (ac (@Awg) (@AVA)))))) (ac (ac (ac (ac (@ApK) (@Awi)) (ac (@AZB) (@AV0))) (ac (ac (@APx) (@AlJ)) (ac (@AMY) (ac (@ApL) (@Azq))))) (ac (ac (ac (@Ayl) (@AyS)) (ac (@Aza) (ac (@Al7) (@Amv)))) (ac (ac (@Aep) (@Ame)) (ac (@AhF) (ac (@Ai0) (@AdU)))))))) (ac (ac (ac (ac (ac (ac (@AqT) (@AtS)) (ac (@ApV) (@Ag8))) (ac (ac (@A2R) (@A1y)) (ac (@A2D) (ac (@A2O) (@Akx))))) (ac (ac (ac (@AoW) (@Awp)) (ac (@AwV) (ac (@AqK) (@AeG)))) (ac (ac (@AyL) (@AiJ)) (ac (@Azv) (ac (@Aim) (@Aog)))))) (ac (ac (ac (ac (@Afh) (@AeO)) (ac (@AkX) (@Ags))) (ac (ac (@AbQ) (@Ak1)) (ac (@ALU) (ac (@Zl) (@Abv))))) (ac (ac (ac (@Abj) (@Ri)) (ac (@A0J) (ac (@AyF) (@AyN)))) (ac (ac (@A0m) (@AzB)) (ac (@Ay9) (ac (@A1N) (@Azl))))))) (ac (ac (ac (ac (ac (@Ad9) (@Ay5)) (ac (@Az8) (@AyT))) (ac (ac (@Ayb) (@A0B)) (ac (@Ayt) (ac (@Az6) (@A0r))))) (ac (ac (ac (@Ave) (@Aud)) (ac (@AvN) (ac (@AvR) (@Au8)))) (ac (ac (@Av3) (@AuH)) (ac (@At2) (ac (@AuV) (@Azt)))))) (ac (ac (ac (ac (@AfY) (@Agf)) (ac (@AyE) (ac (@AmM) (@Asn)))) (ac (ac (@A0z) (@Akz)) (ac (@Am6) (ac (@AY2) (@bytesOf_map))))) (ac (ac (ac (@Ul) (@ATn)) (ac (@ASQ) (ac (@AzU) (ac (@Aye) (@Az9))))) (ac (ac (@List.append_eq.{0}) (@cF.{0,0})) (ac (@ag.{0}) (ac (@bE) (@Int.natCast_nonneg))))))))) (ac (ac (ac (ac (ac (ac (ac (@c9.{0}) (@dy.{0})) (ac (@bw) (@eP))) (ac (ac (@bM) (@bo)) (ac (@ba) (ac (@cq.{0,0}) (@Nat.left_eq_add))))) (ac (ac (ac (@fp) (@Nat.one_ne_zero)) (ac (@Nat.succ_ne_self) (ac (@fg) (@cH)))) (ac (ac (@ae.{0}) (@aq.{0})) (ac (@dH.{0}) (ac (@List.replicate_zero.{0}) (@bD.{0})))))) (ac (ac (ac (ac (@bl.{0}) (@bm.{0})) (ac (@dJ.{0}) (@cZ.{0}))) (ac (ac (@ci.{0}) (@cI.{0})) (ac (@aP.{0,0}) (ac (@bT.{0,0}) (@aa.{0,0}))))) (ac (ac (ac (@Option.bind_none.{0,0}) (@dY.{0})) (ac (@bA.{0}) (ac (@List.elem_nil.{0}) (@List.elem_cons.{0})))) (ac (ac (@az.{1}) (@aA.{1})) (ac (@ap) (ac (@dP) (@aN.{0}))))))) (ac (ac (ac (ac (ac (@dI.{0}) (@cp.{0})) (ac (@bW) (@bJ))) (ac (ac (@cn.{0}) (@fh.{0})) (ac (@d9.{0}) (ac (@fI) (@cO))))) (ac (ac (ac (@cV) (@bk)) (ac (@dj.{0}) (ac (@Option.isNone_some.{0}) (@dR.{0})))) (ac (ac (@cj.{0}) (@fy)) (ac (@eF) (ac (@and_self) (@dW)))))) (ac (ac (ac (ac (@cG) (@av)) (ac (@dq.{0}) (ac (@dD.{0}) (@ck.{0})))) (ac (ac (@ite_self.{1}) (@aH.{0,0})) (ac (@cw.{0,0}) (ac (@List.range_succ) (@List.range_zero))))) (ac (ac (ac (@aQ.{0}) (@dZ.{0})) (ac (@dm) (ac (@cU) (@ah.{0})))) (ac (ac (@bG) (@true_or)) (ac (@or_true) (ac (@false_or) (@eM)))))))) (ac (ac (ac (ac (ac (ac (@cQ) (@not_false_eq_true)) (ac (@eA.{1}) (@rdL.eq_1))) (ac (ac (@rdL.eq_2) (@rdL.eq_3)) (ac (@rdo.eq_1) (ac (@rdo.eq_2) (@Bg.eq_1))))) (ac (ac (ac (@Bg.eq_2) (@Q7.eq_1)) (ac (@Q7.eq_2) (ac (@RJ.eq_1) (@RJ.eq_2)))) (ac (ac (@RJ.eq_3) (@opAt.eq_1)) (ac (@opAt.eq_2) (ac (@opAt.eq_3) (@ZL.eq_1)))))) (ac (ac (ac (ac (@ZL.eq_2) (@Aa.eq_1)) (ac (@Ch.eq_1) (@Ch.eq_2))) (ac (ac (@Ch.eq_3) (@putCells.eq_1)) (ac (@putCells.eq_2) (ac (@Xe.eq_1) (@Tm.eq_1))))) (ac (ac (ac (@Tc.eq_1) (@Tc.eq_2)) (ac (@UT.eq_1) (ac (@UT.eq_2) (@P5.eq_1)))) (ac (ac (@AvK) (@Ams)) (ac (@Oi.eq_1) (ac (@Oi.eq_2) (@Oi.eq_3))))))) (ac (ac (ac (ac (ac (@Oi.eq_4) (@Kq.eq_1)) (ac (@Kq.eq_2) (@Kq.eq_3))) (ac (ac (@Kq.eq_4) (@Kq.eq_5)) (ac (@Kq.eq_6) (ac (@Kq.eq_7) (@Kq.eq_8))))) (ac (ac (ac (@V4.eq_1) (@ABP.eq_1)) (ac (@ABP.eq_2) (ac (@Ik.eq_1) (@TS.eq_1)))) (ac (ac (@TS.eq_2) (@Ahq.eq_1)) (ac (@Ahq.eq_2) (ac (@Aii.eq_1) (@Aii.eq_2)))))) (ac (ac (ac (ac (@Ca.eq_1) (@Sm.eq_1)) (ac (@Sm.eq_2) (ac (@Sm.eq_3) (@Yn.eq_1)))) (ac (ac (@Yn.eq_2) (@Asv)) (ac (@AmQ) (ac (@Atw) (@Atk))))) (ac (ac (ac (@AwK) (@Akn)) (ac (@Anf) (ac (@A01) (@AfQ)))) (ac (ac (@Af0) (@AI3)) (ac (@Ah3) (ac (@AdT) (@AkH)))))))))) (ac (ac (ac (ac (ac (ac (ac (ac (@Ati) (@Avj)) (ac (@Atd) (@AoU))) (ac (ac (@AoA) (@A0g)) (ac (@AhJ) (ac (@Afb) (@ALa))))) (ac (ac (ac (@AtV) (@Ae7)) (ac (@Ayz) (ac (@A3M) (@AwH)))) (ac (ac (@A3c) (@A3g)) (ac (@A2E) (ac (@A17) (@Akp)))))) (ac (ac (ac (ac (@Aws) (@Aqk)) (ac (@AuJ) (@Ao1))) (ac (ac (@Aij) (@Aei)) (ac (@Aae) (ac (@A1b) (@AoC))))) (ac (ac (ac (@Akb) (@At5)) (ac (@Awa) (ac (@AwI) (@Ayf)))) (ac (ac (@AzZ) (@A0y)) (ac (@A0D) (ac (@Ayi) (@Ack))))))) (ac (ac (ac (ac (ac (@AdG) (@Atx)) (ac (@AtN) (@AuL))) (ac (ac (@AnD) (@Ai9)) (ac (@A0Y) (ac (@AvQ) (@Ay2))))) (ac (ac (ac (@Asu) (@ArE)) (ac (@AoT) (ac (@Aso) (@AiA)))) (ac (ac (@AlW) (@Akv)) (ac (@Awo) (ac (@Amz) (@Awv)))))) (ac (ac (ac (ac (@AwA) (@AxC)) (ac (@ApY) (ac (@AoQ) (@A0G)))) (ac (ac (@Ahn) (@AiK)) (ac (@AJA) (ac (@Au6) (@AeP))))) (ac (ac (ac (@Ag7) (@ApT)) (ac (@An7) (ac (@Agl) (@AzC)))) (ac (ac (@AyZ) (@Ayo)) (ac (@A0k) (ac (@Aop) (@Av0)))))))) (ac (ac (ac (ac (ac (ac (@AtQ) (@AvS)) (ac (@AgC) (@AgH))) (ac (ac (@Af3) (@AMK)) (ac (@Aql) (ac (@AtC) (@AyM))))) (ac (ac (ac (@Ayc) (@Az3)) (ac (@Azi) (ac (@AyX) (@A0x)))) (ac (ac (@Azb) (@A0H)) (ac (@AzW) (ac (@Aoq) (@Ap7)))))) (ac (ac (ac (ac (@AzJ) (@Am4)) (ac (@A0i) (@Aqd))) (ac (ac (@Ate) (@A0s)) (ac (@ArG) (ac (@A0W) (@AmL))))) (ac (ac (ac (@A3k) (@Az1)) (ac (@Azo) (ac (@Ap0) (@Azj)))) (ac (ac (@AzT) (@A0j)) (ac (@AzF) (ac (@Ay3) (@AzY))))))) (ac (ac (ac (ac (ac (@Awq) (@AtX)) (ac (@Ayx) (@AwC))) (ac (ac (@AuW) (@Azh)) (ac (@An8) (ac (@At3) (@Afr))))) (ac (ac (ac (@Asr) (@AoX)) (ac (@Awf) (ac (@Ai5) (@Av5)))) (ac (ac (@Avk) (@Ahz)) (ac (@AvF) (ac (@ADj) (@AiF)))))) (ac (ac (ac (ac (@Ag3) (@Ah6)) (ac (@AhT) (ac (@AmS) (@AnF)))) (ac (ac (@AgI) (@AC2)) (ac (@Adv) (ac (@AdS) (@Av8))))) (ac (ac (ac (@AwG) (@Af6)) (ac (@Aqa) (ac (@AaK) (@AAO)))) (ac (ac (@Zt) (@Agg)) (ac (@Axr) (ac (@Axk) (@AzA))))))))) (ac (ac (ac (ac (ac (ac (ac (@AcD) (@AAu.eq_1)) (ac (@AvV) (@AlA))) (ac (ac (@AtZ) (@Au9)) (ac (@AuF) (ac (@AeV) (@AiW))))) (ac (ac (ac (@Av9) (@Ao8)) (ac (@ApR) (ac (@A0E) (@Agw)))) (ac (ac (@AfA) (@AK8)) (ac (@Avx) (ac (@AfT) (@Awh)))))) (ac (ac (ac (ac (@ArJ) (@Aig)) (ac (@Aaf) (@AlL))) (ac (ac (@AoS) (@AmW)) (ac (@Aqs) (ac (@Akt) (@Azx))))) (ac (ac (ac (@AwW) (@A0O)) (ac (@Anu) (ac (@Al9) (@Atr)))) (ac (ac (@AtB) (@AnT)) (ac (@AkY) (ac (@Akl) (@Ala))))))) (ac (ac (ac (ac (ac (@Ao6) (@Aq7)) (ac (@Amg) (@Apn))) (ac (ac (@AxF) (@Ao3)) (ac (@AoO) (ac (@AuZ) (@A2g))))) (ac (ac (ac (@Ap6) (@Azm)) (ac (@A1i) (ac (@A1O) (@Aya)))) (ac (ac (@A0R) (@A1u)) (ac (@A1B) (ac (@AoJ) (@Ayg)))))) (ac (ac (ac (ac (@Azn) (@AyP)) (ac (@Ayu) (ac (@Ax9) (@A0M)))) (ac (ac (@Azr) (@As0)) (ac (@A3P) (ac (ac (@Aw7) (ac (@A0U) (@A2L))) (ac (@AtW) (@At7)))))) (ac (ac (ac (@A1H) (@A2o)) (ac (@ApF) (ac (@As2) (@Azk)))) (ac (ac (@AoB) (@ApX)) (ac (@Ad8) (ac (@Aq6) (@AmU)))))))) (ac (ac (ac (ac (ac (ac (@As4) (@AuB)) (ac (@AlT) (@Ayw))) (ac (ac (@A0Z) (@Ay6)) (ac (@Au2) (ac (@AyQ) (@Az2))))) (ac (ac (ac (@AnL) (@AlU)) (ac (@Ayd) (ac (@AyO) (@Avt)))) (ac (ac (ac (@A1l) (ac (ac (@Ai6) (@Ahm)) (ac (@A2k) (ac (@A2c) (@A2I))))) (@Azd)) (ac (@Azf) (ac (@Avn) (@Anm)))))) (ac (ac (ac (ac (@AlS) (@Ank)) (ac (@Ao0) (@AkN))) (ac (ac (@Aq2) (@AvU)) (ac (@Azs) (ac (@Ap5) (@Aeq))))) (ac (ac (ac (@A19) (@A0u)) (ac (@Ans) (ac (@AfI) (@AgX)))) (ac (ac (@AqF) (@Amr)) (ac (@A2F) (ac (@AqB) (@Akm))))))) (ac (ac (ac (ac (ac (@A1A) (@Am8)) (ac (@AzI) (@Ap9))) (ac (ac (@Am7) (@AqC)) (ac (@Aqz) (ac (@Apg) (@Avs))))) (ac (ac (ac (@AmI) (@AkQ)) (ac (@A1L) (ac (@A1X) (@A11)))) (ac (ac (@AlH) (@Apc)) (ac (@A1o) (ac (@A1d) (@An9)))))) (ac (ac (ac (ac (@A1k) (@A1a)) (ac (@Awd) (ac (@A13) (@Aqt)))) (ac (ac (@AqJ) (@AuD)) (ac (@Atn) (ac (@Ak2) (@Auz))))) (ac (ac (ac (ac (@Awj) (ac (@AtY) (@AmK))) (ac (ac (ac (@Aq9) (@Al5)) (ac (@A2S) (@A14))) (ac (@AuY) (@Ape)))) (ac (@A2e) (ac (ac (ac (@A2C) (@Apu)) (ac (ac (@A0C) (@AyU)) (@AqS))) (ac (ac (ac (@Ayh) (@A0t)) (ac (@A0N) (@Az0))) (ac (ac (ac (@A15) (@A1Y)) (ac (@ApP) (@AlQ))) (ac (ac (@A1T) (@A1C)) (ac (@A2T) (@A2K)))))))) (ac (ac (@bV.{0}) (@List.getElem?_map.{0,0})) (ac (@b9.{0}) (ac (@fF) (@cu.{0}))))))))))
def liE:=ac (ac (ac (ac (ac (ac (@List.append_eq.{0}) (@cF.{0,0})) (ac (@ag.{0}) (ac (@bE) (@Int.natCast_nonneg)))) (ac (ac (@c9.{0}) (@dy.{0})) (ac (@bw) (ac (@eP) (@bM))))) (ac (ac (ac (@bo) (@ba)) (ac (@cq.{0,0}) (ac (@Nat.left_eq_add) (@fp)))) (ac (ac (@Nat.one_ne_zero) (ac (@Nat.succ_ne_self) (@fg))) (ac (@cH) (ac (@ae.{0}) (@aq.{0})))))) (ac (ac (ac (ac (@dH.{0}) (@List.replicate_zero.{0})) (ac (@bD.{0}) (ac (@bl.{0}) (@bm.{0})))) (ac (ac (@dJ.{0}) (@cZ.{0})) (ac (@ci.{0}) (ac (@cI.{0}) (@aP.{0,0}))))) (ac (ac (ac (@bT.{0,0}) (@aa.{0,0})) (ac (@Option.bind_none.{0,0}) (ac (@dY.{0}) (@bA.{0})))) (ac (ac (@List.elem_nil.{0}) (ac (@List.elem_cons.{0}) (@az.{1}))) (ac (@aA.{1}) (ac (@ap) (@dP))))))) (ac (ac (ac (ac (ac (@aN.{0}) (@dI.{0})) (ac (@cp.{0}) (ac (@bW) (@bJ)))) (ac (ac (@cn.{0}) (@fh.{0})) (ac (@d9.{0}) (ac (@fI) (@cO))))) (ac (ac (ac (@cV) (@bk)) (ac (@dj.{0}) (ac (@Option.isNone_some.{0}) (@dR.{0})))) (ac (ac (@cj.{0}) (ac (@fy) (@eF))) (ac (@and_self) (ac (@dW) (@cG)))))) (ac (ac (ac (ac (@av) (@dq.{0})) (ac (@dD.{0}) (ac (@ck.{0}) (@ite_self.{1})))) (ac (ac (@aH.{0,0}) (ac (@cw.{0,0}) (@List.range_succ))) (ac (@List.range_zero) (ac (@aQ.{0}) (@dZ.{0}))))) (ac (ac (ac (@dm) (@cU)) (ac (@ah.{0}) (ac (@bG) (@true_or)))) (ac (ac (@or_true) (ac (@false_or) (@eM))) (ac (@cQ) (ac (@not_false_eq_true) (@eA.{1})))))))
end Go.VM
namespace Go.VM
abbrev DT:=List (Nat×List Tmp×Plan)
def ACr:DT->Nat->List Tmp|[],_=>[]|(i,m,_)::D,j=>if i=j then m else ACr D j
def Awm:DT->Nat->Plan|[],_=>.done|(i,_,p)::D,j=>if i=j then p else Awm D j
inductive DD (D:DT):Prop|mk
def Abi (l:List Tmp) (F:List Tmp->Prop):Prop:=F l
def UY:Plan->Bool|.stop=>true|_=>false
def AdY:DT->Nat->Bool|[],_=>false|(i,_,p)::D,j=>if i=j then UY p else AdY D j
def AJg (b:Bool) (X Y:Prop):Prop:=if b=true then X else Y
def wpd (E:Env) (D:DT):Code->APost->List AVal->St->Prop|.skip,K=>λaf st=>K .normal af st|.label _,K=>λaf st=>K .normal af st|.ret,K=>λaf st=>K .ret af st|.exit id,K=>λaf st=>K (.exit id) af st|.seq (.region id os false) y,K=>λaf st=>AJg (AdY D id) (AWp E (.seq (.region id os false) y) K af st) (Abi (ACr D id) λmv=>NL E mv os os.toList (nK (Kk (wpd E D y K) K)) af st)|.cond c x y,K=>λaf st=>WG (rd E af 0 c) (wpd E D x K) (wpd E D y K) af st|.block id c,K=>wpd E D c (ABw id K)|.scope c,K=>wpd E D c K|.region id os false,K=>λaf st=>Abi (ACr D id) λmv=>NL E mv os os.toList (nK K) af st|c,K=>AWp E c K
section
variable{E:Env}{D:DT}{K:APost}{af:List AVal}{st:St}{x y:Code}{F:List AVal->St->Prop}
def Am0:wpd E D .skip K af st=K .normal af st:=by rw[wpd]
def AhE{l:Nat}:wpd E D (.label l) K af st=K .normal af st:=by rw[wpd]
def Aw3:wpd E D .ret K af st=K .ret af st:=by rw[wpd]
def Als{e:Nat}:wpd E D (.exit e) K af st=K (.exit e) af st:=by rw[wpd]
def AnU{e:Nat}{os:List Oper}:wpd E D (.seq (.region e (List.toArray os) false) y) K af st=AJg (AdY D e) (AWp E (.seq (.region e (List.toArray os) false) y) K af st) (Abi (ACr D e) λmv=>NL E mv ⟨os⟩ os (nK (Kk (wpd E D y K) K)) af st):=by rw[wpd]
def AzE{X Y:Prop}:AJg true X Y=X:=by simp[AJg]
def A0f{X Y:Prop}:AJg false X Y=Y:=by simp[AJg]
theorem Anh{j:Nat}:AdY [] j=false:=rfl
theorem Aix{i j:Nat}{m:List Tmp}{p:Plan}:AdY ((i,m,p)::D) j=if i=j then UY p else AdY D j:=rfl
theorem An4:UY .stop=true:=rfl
theorem ApB:UY .done=false:=rfl
theorem ArH{i:Nat}{p:Plan}:UY (.take i p)=false:=rfl
theorem AuS{i:Nat}{c:List Nat}{p q:Plan}:UY (.alt i c p q)=false:=rfl
theorem AzO{i k:Nat}{p:Plan}:UY (.tk i (k+1) p)=false:=rfl
theorem Ayy{i:Nat}{c:List (Nat×Nat)}{p:Plan}:UY (.al i c p)=false:=rfl
theorem A0I{i:Nat}{c:List (Nat×Nat)}{p q:Plan}:UY (.ar i c p q)=false:=rfl
@[congr] theorem A2t{b e:Bool}{X Y:Prop} (h:b=e):AJg b X Y=AJg e X Y:=by grind
def Akr{c:Operand}:wpd E D (.cond c x y) K af st=WG (rd E af 0 c) (wpd E D x K) (wpd E D y K) af st:=by rw[wpd]
def Ag2{e:Nat}:wpd E D (.block e x) K af st=wpd E D x (ABw e K) af st:=by rw[wpd]
def Agd:wpd E D (.scope x) K af st=wpd E D x K af st:=by rw[wpd]
def AYC{e:Nat}{os:List Oper}:wpd E D (.region e (List.toArray os) false) K af st=Abi (ACr D e) λmv=>NL E mv ⟨os⟩ os (nK K) af st:=by rw[wpd]
theorem AmT{l:List Tmp}{F:List Tmp->Prop}:Abi l F=F l:=rfl
def Alb{e:Nat}{os:Array Oper}:wpd E D (.region e os true) K af st=AWp E (.region e os true) K af st:=by rw[wpd]<;>simp
def Alq:wpd E D (.loop x) K af st=AWp E (.loop x) K af st:=by rw[wpd]<;>simp
def AyV{a b:Code}:wpd E D (.seq (.seq a b) y) K af st=AWp E (.seq (.seq a b) y) K af st:=by rw[wpd]<;>simp
def Ay0{c:Operand}{a b:Code}:wpd E D (.seq (.cond c a b) y) K af st=AWp E (.seq (.cond c a b) y) K af st:=by rw[wpd]<;>simp
def Azy{e:Nat}{a:Code}:wpd E D (.seq (.block e a) y) K af st=AWp E (.seq (.block e a) y) K af st:=by rw[wpd]<;>simp
def AzL{l:Nat}:wpd E D (.seq (.label l) y) K af st=AWp E (.seq (.label l) y) K af st:=by rw[wpd]<;>simp
def AzN{a:Code}:wpd E D (.seq (.loop a) y) K af st=AWp E (.seq (.loop a) y) K af st:=by rw[wpd]<;>simp
def A0b{e:Nat}{os:Array Oper}:wpd E D (.seq (.region e os true) y) K af st=AWp E (.seq (.region e os true) y) K af st:=by rw[wpd]<;>simp
def A0e{a:Code}:wpd E D (.seq (.scope a) y) K af st=AWp E (.seq (.scope a) y) K af st:=by rw[wpd]<;>simp
def Az5:wpd E D (.seq .skip y) K af st=AWp E (.seq .skip y) K af st:=by rw[wpd]<;>simp
theorem AV3{j:Nat}:ACr [] j=[]:=rfl
theorem AGR{i j:Nat}{m:List Tmp}{p:Plan}:ACr ((i,m,p)::D) j=if i=j then m else ACr D j:=rfl
theorem Aih{i j:Nat}{m:List Tmp}{p:Plan}:Awm ((i,m,p)::D) j=if i=j then p else Awm D j:=rfl
def FO: ∀ {c:Code}{K:APost}{af:List AVal}{st:St},wpd E D c K af st->AWp E c K af st:=by
 intro c;induction c with
 |skip=>intro K af st h;rw[wpd]at h;exact AUz h
 |ret=>intro K af st h;rw[wpd]at h;exact AcX h
 |exit z=>intro K af st h;rw[wpd]at h;exact AUj h
 | seq x y A j=>
  intro K af st h;cases x with
  | region z os d=>
   cases d with
   |true=>(rw[wpd]at h;exact h)<;>(intros;simp_all)
   |false=>
    rw[wpd]at h;unfold AJg at h;split at h;·exact h
    refine WO ((X5 (ACr D z) h).mono λe af' B _ q=>?_);cases e with|normal=>exact j q|_=>exact q
  |_=>(rw[wpd]at h;exact h)<;>(intros;simp_all)
 |cond c x y A j=>
  intro K af st h;rw[wpd]at h;unfold WG at h;split at h;·rename_i b G;refine ASV b G ?_;cases b with|true=>simp_all|false=>simp_all
  grind
 |block z c C=>intro K af st h;rw[wpd]at h;exact AG4 ((C h).mono λe af' B _ q=>by cases e<;>exact q)
 |region z os d=>intro K af st h;cases d with|true=>(rw[wpd]at h;exact h)<;>(intros;simp_all)|false=>rw[wpd]at h;exact X5 (ACr D z) h
 |loop c C=>intro K af st h;(rw[wpd]at h;exact h)<;>(intros;simp_all)
 |rangeFunc f ps x y A j=>intro K af st h;(rw[wpd]at h;exact h)<;>(intros;simp_all)
 |scope c C=>intro K af st h;rw[wpd]at h;grind[AG9]
 |label l=>intro K af st h;rw[wpd]at h;exact Ae6 h
 |goto l=>intro K af st h;(rw[wpd]at h;exact h)<;>(intros;simp_all)
 |refuse w=>intro K af st h;(rw[wpd]at h;exact h)<;>(intros;simp_all)
@[congr] theorem A3A{c:Code}{L:APost}{af':List AVal}{e:St} (h0:af=af') (f:st=e):wpd E D c L af st=wpd E D c L af' e:=by grind
def rgs:List (Nat×Nat)->List Tmp|[]=>[]|(a,n)::l=>List.range' a n++rgs l
def Aat:Nat->List AVal->List AVal|n+1,_::l=>.any::Aat n l|_,l=>l
def maskN:Nat->Nat->List AVal->List AVal|0,n,l=>Aat n l|a+1,n,x::l=>x::maskN a n l|_+1,_,[]=>[]
def Cn:List (Nat×Nat)->List AVal->List AVal|[],af=>af|(a,n)::l,af=>Cn l (maskN a n af)
def AGC: ∀(js ks:List Tmp) (af:List AVal),Al (js++ks) af=Al ks (Al js af)|[],_,_=>rfl|j::js,ks,af=>by rw[bD,Al,Al,AGC js]
def YA: ∀(js:List Tmp) (x:AVal) (l:List AVal),Al (js.map (· +1)) (x::l)=x::Al js l|[],_,_=>rfl|j::js,x,l=>by rw[aH,Al,cI,YA js,Al]
def AAn: ∀js:List Tmp,Al js []=[]|[]=>rfl|j::js=>by rw[Al,List.set_nil,AAn js]
def ADX: ∀(a n:Nat),List.range' (a+1) n=(List.range' a n).map (· +1)|a,0=>rfl|a,n+1=>by rw[dc,dc,aH,ADX (a+1) n]
def ADQ: ∀(a n:Nat) (l:List AVal),maskN a n l=Al (List.range' a n) l|0,0,l=>by rw[maskN];cases l<;>rfl|0,n+1,[]=>by rw[AAn];rfl|0,n+1,x::l=>by rw[maskN,Aat,dc,Al,ci,show List.range' (0+1) n=(List.range' 0 n).map (· +1)from ADX _ _,YA,<-ADQ 0 n l,maskN]|a+1,n,[]=>by rw[AAn];rfl|a+1,n,x::l=>by rw[maskN,show List.range' (a+1) n=(List.range' a n).map (· +1)from ADX _ _,YA,ADQ a n l]
def Dx: ∀(js:List (Nat×Nat)) (af:List AVal),Cn js af=Al (rgs js) af|[],_=>rfl|(a,n)::js,af=>by rw[Cn,ADQ,Dx js,rgs,AGC]
theorem A0T:Cn [] af=af:=rfl
theorem Aw4{a n:Nat}{l:List (Nat×Nat)}:Cn ((a,n)::l) af=Cn l (maskN a n af):=rfl
theorem A3W{a n:Nat}{v:AVal}{l:List AVal}:maskN (a+1) n (v::l)=v::maskN a n l:=rfl
def A3C{n:Nat}{l:List AVal}:maskN 0 n l=Aat n l:=by cases l<;>rfl
theorem A3t{n:Nat}{v:AVal}{l:List AVal}:Aat (n+1) (v::l)=.any::Aat n l:=rfl
def A3r{l:List AVal}:Aat 0 l=l:=by cases l<;>rfl
def ABu:List PC->List AVal->List AVal|.k::l,x::xs=>x::ABu l xs|.w::l,x::xs=>x.strip::ABu l xs|.v y::l,_::xs=>y::ABu l xs|_,xs=>xs
def reB:List BX->MS->MS|.k::l,p::m=>p::reB l m|.d::l,_::m=>reB l m|.s c::l,p::m=>(p.1,c)::reB l m|.t c::l,p::m=>(p.1,c p.1)::reB l m|.p ps::l,p::m=>(p.1,ABu ps p.2)::reB l m|_,m=>m
def A23{m:MS}:reB [] m=m:=by cases m<;>rfl
theorem A3J{l:List BX}{p:Nat×List AVal}{m:MS}:reB (.k::l) (p::m)=p::reB l m:=rfl
theorem A3N{l:List BX}{p:Nat×List AVal}{m:MS}:reB (.d::l) (p::m)=reB l m:=rfl
theorem A3T{l:List BX}{c x:List AVal}{i:Nat}{m:MS}:reB (.s c::l) ((i,x)::m)=(i,c)::reB l m:=rfl
theorem A3S{l:List BX}{c:Nat->List AVal}{x:List AVal}{i:Nat}{m:MS}:reB (.t c::l) ((i,x)::m)=(i,c i)::reB l m:=rfl
theorem A3F{l:List BX}{ps:List PC}{x:List AVal}{i:Nat}{m:MS}:reB (.p ps::l) ((i,x)::m)=(i,ABu ps x)::reB l m:=rfl
def A3a{xs:List AVal}:ABu [] xs=xs:=by cases xs<;>rfl
theorem A34{l:List PC}{x:AVal}{xs:List AVal}:ABu (.k::l) (x::xs)=x::ABu l xs:=rfl
theorem A3q{l:List PC}{x:AVal}{xs:List AVal}:ABu (.w::l) (x::xs)=x.strip::ABu l xs:=rfl
theorem A3X{l:List PC}{x y:AVal}{xs:List AVal}:ABu (.v y::l) (x::xs)=y::ABu l xs:=rfl
def Ym:Code->Nat×Nat|.seq x y=>((Ym x).1,(Ym x).2+(Ym y).2+1)|.cond _ x y=>((Ym x).1,(Ym x).2+(Ym y).2+1)|.block id x=>(id,(Ym x).2+1)|.loop x=>((Ym x).1,(Ym x).2+1)|.scope x=>((Ym x).1,(Ym x).2+1)|.region id _ _=>(id,1)|_=>(0,1)
end
inductive Wk:AVal->AVal->Prop|same (x:AVal):Wk x x|strip (x:AVal):Wk x x.strip
inductive WkL:List AVal->List AVal->Prop|nil:WkL [] []|cons{x y:AVal}{xs ys:List AVal} (h:Wk x y) (t:WkL xs ys):WkL (x::xs) (y::ys)
inductive SubW:MS->MS->Prop|refl (m:MS):SubW m m|keep{m0 m1:MS}{i:Nat}{cs cs':List AVal} (h:WkL cs cs') (t:SubW m0 m1):SubW ((i,cs')::m0) ((i,cs)::m1)|drop{m0 m1:MS}{p:Nat×List AVal} (t:SubW m0 m1):SubW m0 (p::m1)
def WkL.refl: ∀xs:List AVal,WkL xs xs|[]=>.nil|x::xs=>.cons (.same x) (WkL.refl xs)
theorem WkL.stripB{xs ys:List AVal} (h:WkL xs ys): ∃e,VM.stripB e xs=ys:=by induction h with|nil=>exact⟨[],rfl⟩|cons h t f=>obtain⟨e,rfl⟩:=f;cases h with|same=>exact⟨false::e,by rw[VM.stripB]⟩|strip=>exact⟨true::e,by rw[VM.stripB]⟩
def WkL.set{v u:AVal} (h:Wk u v): ∀ {xs ys:List AVal} (c:Nat),WkL xs ys->WkL (xs.set c u) (ys.set c v)|_,_,_,.nil=>by simpa using WkL.nil|_,_,0,.cons _ t=>.cons h t|_,_,c+1,.cons k t=>.cons k (WkL.set h c t)
theorem WkL.setVals: ∀ {cs:List Tmp}{us vs xs ys:List AVal},WkL xs ys->WkL us vs->WkL (VM.setVals xs cs us) (VM.setVals ys cs vs)|[],us,vs,xs,ys,h,k=>by cases k<;>(rw[VM.setVals,VM.setVals];exact h)<;>simp|c::cs,_,_,xs,ys,h,.nil=>by grind[VM.setVals]|c::cs,_,_,xs,ys,h,.cons h1 t=>by rw[VM.setVals,VM.setVals];exact WkL.setVals (WkL.set h1 c h) t
section
variable{E:Env}{F:Nat->Nat}{O:At}{st:St}{w:World}{af af2:List AVal}{a:Act}{Q:APost}{c:Code}{n:Nat}
def Sim.wkF (hs:Sim E F O st w af a.tmps.toList) (h:WkL af af2):Sim E F O st w af2 a.tmps.toList:=by obtain⟨e,rfl⟩:=h.stripB;exact {hs with rep:=Rw e _ _ hs.rep,own:=SV e _ _ hs.own,tok:=λb=>by have:=Ru b e af a.tmps.toList;have:=hs.tok b;omega}
def Abk: ∀ {pre m:MS}{i:Nat}{cs:List AVal},((pre++(i,cs)::m).map (·.1)).Nodup->Aj (pre++(i,cs)::m) i=some cs/\∀x,A9 (pre++(i,cs)::m) i x=pre++(i,x)::m
 |[],m,i,cs,_=>⟨ALU,λx=>Abv⟩
 |(j,d)::pre,m,i,cs,h=>by
  rw[bD,aH,bZ]at h;have e:i≠j:=by rintro rfl;grind
  have:=Abk (pre:=pre) h.2;rw[bD,Zl e];exact⟨this.1,λx=>by rw[Abj e,this.2 x,bD]⟩
def Sim.wkM{m0 m1:MS} (h:SubW m0 m1): ∀ {pre:MS},Sim E F O ⟨pre++m1,n⟩ w af a.tmps.toList->Sim E F O ⟨pre++m0,n⟩ w af a.tmps.toList:=by
 induction h with
 |refl m=>simp
 | @drop m0 m1 p t ih=>intro pre hs;exact ih (hs.fewer (m:=pre++m1) (List.Sublist.append (bU _) (cD _ (bU _))))
 | @keep m0 m1 i cs cs' h t ih=>
  intro pre hs;obtain⟨f,rfl⟩:=h.stripB;obtain⟨j,l⟩:=Abk hs.keys;have:=hs.stripCells f j;rw[l]at this;have e: ∀m:MS,pre++(i,VM.stripB f cs)::m=(pre++[(i,VM.stripB f cs)])++m:=λm=>by simp
  grind
def AWp.wk{m e:MS} (h:AWp E c Q af2 ⟨e,n⟩) (f:WkL af af2) (j:SubW e m):AWp E c Q af ⟨m,n⟩:=⟨λF O w a hd hs=>h.go F O w a hd ((Sim.wkM (pre:=[]) j hs).wkF f)⟩
def Xl (js cs:List Tmp) (I:Nat->List AVal->St->Prop) (n₀:Nat){l:List AVal}{m m0:MS} (Z:WkL (Co (Al js af) cs) l) (V:SubW m0 m) (h₀:I n₀ l ⟨m0,n⟩) (round: ∀k vs f,I k vs f->∀J:List AVal->St->Prop,(∀z af' f m j,z<k->SubW m f.m->Al cs (Al js af')=Al cs (Al js af)->WkL (Co (Al js af') cs) j->I z j {f with m:=m}->J af' f)->AWp E c (kPost J Q) (setVals (Al js af) cs vs) f):AWp E (.loop c) Q af ⟨m,n⟩:=by
 refine Vt js ?_;constructor;intro F O w a hd hs;have S:Sim E F O ⟨m0,n⟩ w (setVals (Al js af) cs l) a.tmps.toList:=by have G:=Sim.wkM (pre:=[]) V hs;rw[Mm cs _ _ (rfl:Al cs (Al js af)=Al cs (Al js af))]at G;exact G.wkF (WkL.setVals (WkL.refl _) Z)
 refine wp_loop_ghost (λk R w'=>R.defers=[]/\∃O' vs f,Ext F O w O' w'/\n<=f.next/\Sim E F O' f w' (setVals (Al js af) cs vs) R.tmps.toList/\I k vs f) n₀ ⟨hd,O,l,⟨m0,n⟩,Ext.refl _ _ _,av _,S,h₀⟩ ?_;intro k a₁ w₁ ⟨hd1,O₁,vs₁,st₁,h2,h3,h4,h5⟩;refine fm ((round k vs₁ st₁ h5 (λaf' f=>∃z m j,z<k/\SubW m f.m/\Al cs (Al js af')=Al cs (Al js af)/\WkL (Co (Al js af') cs) j/\I z j {f with m:=m}) (λz af' f m j H A C B M=>⟨z,m,j,H,A,C,B,M⟩)).go F O₁ w₁ a₁ hd1 h4) ?_;intro e R w' L;have L:=X8 h2 h3 L;cases e with|normal=>obtain⟨_,H,O',af',f,A,C,B,P⟩:=L;obtain⟨z,m,j,M,Y,X,U,W⟩:=P.get;refine⟨z,M,H,O',j,{f with m:=m},A,C,?_,W⟩;have G:=Sim.wkM (pre:=[]) Y (B.mask js);rw[Mm cs _ _ X]at G;exact G.wkF (WkL.setVals (WkL.refl _) U)|_=>obtain⟨k0,H,O',af',f,A,C,B,P⟩:=L;exact⟨k0,H,O',af',f,A,C,B,P.out fN⟩
end
@[congr] theorem A2s{l e:List Tmp}{F:List Tmp->Prop} (h:l=e):Abi l F=Abi e F:=by grind
def stp (b:Bool) (v:AVal):AVal:=if b=true then v.strip else v
theorem Ab3{v:AVal}:stp true v=v.strip:=rfl
theorem AdM{v:AVal}:stp false v=v:=rfl
structure RH (E:Env) (rs:List ResultVar) (R:APost) (b:Bool) (m':MS) (n:Nat) (r':AVal):Prop where go: ∀af st xs m0 m1 n',Sm E rs af st=some (xs,⟨m1,n'⟩)->m0.Sublist m1->m0=m'->n<=n'->stp b (Uv xs)=r'->R .ret af st/\R .normal af st
structure JOK{α β:Type} (k:α->Option β) (r:β) (js:List (Nat×Nat)) (cs:List Tmp) (V:α->List AVal) (Ms:α->List BX) (af0:List AVal) (m:MS) (n:Nat) (J:List AVal->St->Prop):Prop where go: ∀j af' m0 m1 n',k j=some r->SubW m0 m1->m0=reB (Ms j) m->Al cs (Cn js af')=Al cs (Cn js af0)->WkL (Co (Cn js af') cs) (V j)->n<=n'->J af' ⟨m1,n'⟩
def AUR:AVal->Nat|.ptr i _=>i|.sh i=>i|_=>0
theorem AvI{i:Nat}:AUR (.sh i)=i:=rfl
theorem Aoa{i o:Nat}:AUR (.ptr i o)=i:=rfl
structure JNK{α β:Type} (k:α->Option β) (r:β) (js:List (Nat×Nat)) (cs:List Tmp) (p:Tmp) (V:α->Nat->List AVal) (Ms:α->Nat->List BX) (C:α->Nat->List AVal) (af0:List AVal) (m:MS) (n:Nat) (J:List AVal->St->Prop):Prop where go: ∀j g af' m0 m1 n',k j=some r->SubW m0 m1->m0=(g,C j g)::reB (Ms j g) m->Al cs (Cn js af')=Al cs (Cn js af0)->WkL (Co (Cn js af') cs) (V j g)->n<=g/\g<n'->J af' ⟨m1,n'⟩
structure LOK{σ β:Type} (G:Nat->σ->Option β) (r:β) (k:Nat) (js:List (Nat×Nat)) (cs:List Tmp) (V:σ->List AVal) (Ms:σ->List BX) (af0:List AVal) (m:MS) (n:Nat) (J:List AVal->St->Prop):Prop where go: ∀s af' m0 m1 n',G k s=some r->SubW m0 m1->m0=reB (Ms s) m->Al cs (Cn js af')=Al cs (Cn js af0)->WkL (Co (Cn js af') cs) (V s)->n<=n'->J af' ⟨m1,n'⟩
structure ROK{α σ β:Type} (G:List α->Int->σ->Option β) (r:β) (xs:List α) (i:Int) (js:List (Nat×Nat)) (cs:List Tmp) (V:Int->σ->List AVal) (Ms:Int->σ->List BX) (af0:List AVal) (m:MS) (n:Nat) (J:List AVal->St->Prop):Prop where go: ∀s af' m0 m1 n',G xs i s=some r->SubW m0 m1->m0=reB (Ms i s) m->Al cs (Cn js af')=Al cs (Cn js af0)->WkL (Co (Cn js af') cs) (V i s)->n<=n'->J af' ⟨m1,n'⟩
structure COK{σ β:Type} (G:Nat->Int->σ->Option β) (r:β) (k:Nat) (i:Int) (js:List (Nat×Nat)) (cs:List Tmp) (V:Int->σ->List AVal) (Ms:Int->σ->List BX) (af0:List AVal) (m:MS) (n:Nat) (J:List AVal->St->Prop):Prop where go: ∀s af' m0 m1 n',G k i s=some r->SubW m0 m1->m0=reB (Ms i s) m->Al cs (Cn js af')=Al cs (Cn js af0)->WkL (Co (Cn js af') cs) (V i s)->n<=n'->J af' ⟨m1,n'⟩
class CF (E:Env){ρ:Type} (X:Option ρ) (f:outParam FuncId) (args:outParam (List AVal)) (er:outParam (ρ->AVal)):Prop where go: ∀ {r:ρ}{n:Nat}{m:MS}{Q:PQ},X=some r->(∀n',n<=n'->Gl (Q (er r) ⟨m,n'⟩))->AE E f args ⟨m,n⟩ Q
theorem CF.freeze{E:Env}{ρ:Type}{X:Option ρ}{f:FuncId}{e:List AVal}{w:Nat}{g:ρ->List AVal} (h:CF E (Aa6 X) f e λr=>.vec w (g r)):CF E X f e λr=>.slice w (g r) false:=⟨λA l=>AE.giveS (h.go A λn' j=>⟨⟨w,_,rfl,λk z=>(l k (bK j z)).go⟩⟩)⟩
class CB (E:Env){ρ:Type} (X:Option ρ) (f:outParam FuncId) (args:outParam (Nat->List AVal)) (pre:outParam (Nat->List AVal)) (er:outParam (ρ->AVal)) (post:outParam (Nat->ρ->List AVal)):Prop where go: ∀ {r:ρ}{n i:Nat}{m:MS}{Q:PQ},X=some r->Aj m i=some (pre i)->(∀n',n<=n'->Gl (Q (er r) ⟨A9 m i (post i r),n'⟩))->AE E f (args i) ⟨m,n⟩ Q
class CT (E:Env){ρ:Type} (X:Option ρ) (f:outParam FuncId) (pre:outParam (Nat->List AVal)) (er:outParam (ρ->AVal)) (post:outParam (Nat->ρ->List AVal)):Prop where go: ∀ {r:ρ}{n i j:Nat}{m:MS}{Q:PQ},X=some r->Aj m j=some [.ptr i 0]->Aj m i=some (pre i)->i≠j->(∀n',n<=n'->Gl (Q (er r) ⟨A9 m i (post i r),n'⟩))->AE E f [.ptr j 0] ⟨m,n⟩ Q
class XC (E:Env) (f:FuncId) (args:List AVal) (r:outParam AVal):Prop where go: ∀ {st:St}{Q:PQ},Gl (Q r st)->ABj E f args st Q
class CN (E:Env){ρ:Type} (X:Option ρ) (f:outParam FuncId) (args:outParam (List AVal)) (rv:outParam (Nat->AVal)) (cells:outParam (ρ->Nat->List AVal)):Prop where go: ∀ {r:ρ}{n:Nat}{m:MS}{Q:PQ},X=some r->(∀i n',n<=i->i<n'->Gl (Q (rv i) ⟨(i,cells r i)::m,n'⟩))->AE E f args ⟨m,n⟩ Q
class LF{β:Type} (X:Option β){σ:outParam Type} (G B:outParam (Nat->σ->Option β)) (k:outParam Nat) (s:outParam σ) (js:outParam (List (Nat×Nat))) (cs:outParam (List Tmp)) (V:outParam (σ->List AVal)) (Ms:outParam (σ->List BX)):Prop where
  eq:X=G k s
  z: ∀s,G 0 s=none
  u: ∀k s,G (k+1) s=B k s
class LR{β:Type} (X:Option β){α σ:outParam Type} (G:outParam (List α->Int->σ->Option β)) (Bn:outParam (Int->σ->Option β)) (Bc:outParam (α->List α->Int->σ->Option β)) (L:outParam (List α)) (i:outParam Int) (s:outParam σ) (js:outParam (List (Nat×Nat))) (cs:outParam (List Tmp)) (V:outParam (Int->σ->List AVal)) (Ms:outParam (Int->σ->List BX)):Prop where
  eq:X=G L i s
  un: ∀i s,G [] i s=Bn i s
  uc: ∀x xs i s,G (x::xs) i s=Bc x xs i s
class LQ{β:Type} (X:Option β){α σ:outParam Type} (G:outParam (List α->Int->σ->Option β)) (Bn:outParam (Int->σ->Option β)) (Bc:outParam (α->List α->Int->σ->Option β)) (L:outParam (List α)) (s:outParam σ) (js:outParam (List (Nat×Nat))) (cs:outParam (List Tmp)) (V:outParam (Int->σ->List AVal)) (Ms:outParam (Int->σ->List BX)):Prop where
  eq: ∀i,X=G L i s
  un: ∀i s,G [] i s=Bn i s
  uc: ∀x xs i s,G (x::xs) i s=Bc x xs i s
class LC{β:Type} (X:Option β){σ:outParam Type} (G:outParam (Nat->Int->σ->Option β)) (Bn:outParam (Int->σ->Option β)) (Bc:outParam (Nat->Int->σ->Option β)) (k:outParam Nat) (i:outParam Int) (s:outParam σ) (js:outParam (List (Nat×Nat))) (cs:outParam (List Tmp)) (V:outParam (Int->σ->List AVal)) (Ms:outParam (Int->σ->List BX)):Prop where
  eq:X=G k i s
  un: ∀i s,G 0 i s=Bn i s
  uc: ∀k i s,G (k+1) i s=Bc k i s
class LU{β:Type} (X:Option β){σ:outParam Type} (G:outParam (Nat->Int->σ->Option β)) (Bn:outParam (Int->σ->Option β)) (Bc:outParam (Nat->Int->σ->Option β)) (k:outParam Nat) (s:outParam σ) (js:outParam (List (Nat×Nat))) (cs:outParam (List Tmp)) (V:outParam (Int->σ->List AVal)) (Ms:outParam (Int->σ->List BX)):Prop where
  eq: ∀i,X=G k i s
  un: ∀i s,G 0 i s=Bn i s
  uc: ∀k i s,G (k+1) i s=Bc k i s
section loops
variable{β α σ:Type}
theorem lq (G:List α->Int->σ->Option β) (L:List α) (s:σ) (js:List (Nat×Nat)) (cs:List Tmp){j:Int->σ->Option β}{l:α->List α->Int->σ->Option β} (e: ∀i s,G [] i s=j i s) (f: ∀x xs i s,G (x::xs) i s=l x xs i s) (V:Int->σ->List AVal:=λi _=>[.int .i64 i]) (Ms:Int->σ->List BX:=λ_ _=>[]) (X:Option β:=G L 0 s) (h: ∀i,X=G L i s:=by exact λ_=>rfl):LQ X G j l L s js cs V Ms:=⟨h,e,f⟩
theorem lr (G:List α->Int->σ->Option β) (L:List α) (i:Int) (s:σ) (js:List (Nat×Nat)) (cs:List Tmp){j:Int->σ->Option β}{l:α->List α->Int->σ->Option β} (e: ∀i s,G [] i s=j i s) (f: ∀x xs i s,G (x::xs) i s=l x xs i s) (V:Int->σ->List AVal:=λi _=>[.int .i64 i]) (Ms:Int->σ->List BX:=λ_ _=>[]) (X:Option β:=G L i s) (h:X=G L i s:=by exact rfl):LR X G j l L i s js cs V Ms:=⟨h,e,f⟩
theorem lc (G:Nat->Int->σ->Option β) (k:Nat) (i:Int) (s:σ) (js:List (Nat×Nat)) (cs:List Tmp){j:Int->σ->Option β}{l:Nat->Int->σ->Option β} (e: ∀i s,G 0 i s=j i s) (f: ∀k i s,G (k+1) i s=l k i s) (V:Int->σ->List AVal:=λi _=>[.int .i64 i]) (Ms:Int->σ->List BX:=λ_ _=>[]) (X:Option β:=G k i s) (h:X=G k i s:=by exact rfl):LC X G j l k i s js cs V Ms:=⟨h,e,f⟩
theorem lu (G:Nat->Int->σ->Option β) (k:Nat) (s:σ) (js:List (Nat×Nat)) (cs:List Tmp){j:Int->σ->Option β}{l:Nat->Int->σ->Option β} (e: ∀i s,G 0 i s=j i s) (f: ∀k i s,G (k+1) i s=l k i s) (V:Int->σ->List AVal:=λi _=>[.int .i64 i]) (Ms:Int->σ->List BX:=λ_ _=>[]) (X:Option β:=G k 0 s) (h: ∀i,X=G k i s:=by exact λ_=>rfl):LU X G j l k s js cs V Ms:=⟨h,e,f⟩
theorem lf (G:Nat->σ->Option β) (k:Nat) (s:σ) (js:List (Nat×Nat)) (cs:List Tmp) (V:σ->List AVal){B:Nat->σ->Option β} (e: ∀s,G 0 s=none) (f: ∀k s,G (k+1) s=B k s) (Ms:σ->List BX:=λ_=>[]) (X:Option β:=G k s) (h:X=G k s:=by exact rfl):LF X G B k s js cs V Ms:=⟨h,e,f⟩
end loops
class MX (E:Env):Prop where ok:E.P.follows .mixedOrders=true
section rules
variable{E:Env}{D:DT}{β ρ:Type}{r:β}{T:Prop}{n n':Nat}{m m0 m1:MS}{af af0:List AVal}{st:St}{Q K:APost}{x y c:Code}{js:List (Nat×Nat)}{cs:List Tmp}{J:List AVal->St->Prop}
theorem mkF{X B:Option ρ}{f:FuncId}{l:Func}{U:Nat}{I:List ResultVar}{j:List AVal}{L:ρ->AVal} (M:X=B) (S:E.P.funcs[f]?=some l) (V:l.body=some c) (Z:l.ntmps=U) (W:l.results=I.toArray) (D:DT) (b:Bool) (w: ∀(r:ρ) (n:Nat) (m:MS) (R:APost),RH E I R b m n (L r)->True/\B=some r->DD D->Gl (wpd E D c R (j++List.replicate (U-j.length) .any) ⟨m,n⟩)):CF E X f j L:=by
 constructor;intro r n m Q h G;subst Z;have e:l.results.toList=I:=by rw[W]
 cases b with|false=>refine Nh S V (FO (w r n m (Ko E l Q) ⟨?_⟩ ⟨trivial,M▸h⟩ ⟨⟩).go);intro af st xs m0 m1 n' Y C h0 A z;subst h0;rw[AdM]at z;exact⟨LW (by rw[e];omega) C (z▸(G n' A).go),Ld (by rw[e];omega) C (z▸(G n' A).go)⟩|true=>refine AE.strip (Nh S V (FO (w r n m (Ko E l λr H=>Q r.strip H) ⟨?_⟩ ⟨trivial,M▸h⟩ ⟨⟩).go));intro af st xs m0 m1 n' Y C h0 A z;subst h0;rw[Ab3]at z;exact⟨LW (by rw[e];omega) C (by rw[z];exact(G n' A).go),Ld (by rw[e];omega) C (by rw[z];exact(G n' A).go)⟩
theorem mkB{X B:Option ρ}{f:FuncId}{l:Func}{U:Nat}{I:List ResultVar}{j:Nat->List AVal}{pre:Nat->List AVal}{L:ρ->AVal}{post:Nat->ρ->List AVal} (M:X=B) (S:E.P.funcs[f]?=some l) (V:l.body=some c) (hn:l.ntmps=U) (W:l.results=I.toArray) (D:DT) (b:Bool) (w: ∀(r:ρ) (n i:Nat) (m:MS) (R:APost),i<n->RH E I R b ((i,post i r)::m) n (L r)->True/\B=some r->DD D->Gl (wpd E D c R (j i++List.replicate (U-(j i).length) .any) ⟨(i,pre i)::m,n⟩)):CB E X f j pre L post:=by
 constructor;intro r n i m Q h hi H;subst hn;have e:l.results.toList=I:=by rw[W]
 refine AE.front hi λC=>?_;cases b with|false=>refine Nh S V (FO (w r n i _ (Ko E l _) C ⟨?_⟩ ⟨trivial,M▸h⟩ ⟨⟩).go);intro af st xs m0 m1 n' Z G h0 A z;subst h0;rw[AdM]at z;exact⟨LW (by rw[e];omega) G ⟨_,rfl,z▸(H n' A).go⟩,Ld (by rw[e];omega) G ⟨_,rfl,z▸(H n' A).go⟩⟩|true=>refine AE.strip (Nh S V (FO (w r n i _ (Ko E l λr Y=>_) C ⟨?_⟩ ⟨trivial,M▸h⟩ ⟨⟩).go));intro af st xs m0 m1 n' Z G h0 A z;subst h0;rw[Ab3]at z;exact⟨LW (by rw[e];omega) G ⟨_,rfl,by rw[z];exact(H n' A).go⟩,Ld (by rw[e];omega) G ⟨_,rfl,by rw[z];exact(H n' A).go⟩⟩
def A1G{b:Bool}{u v:Option β}{A B:List AVal->St->Prop} (h:T/\(if b=true then u else v)=some r) (a:(b=true/\T)/\u=some r->Gl (A af st)) (e:(b=false/\T)/\v=some r->Gl (B af st)):Gl (WG (.bool b) A B af st):=by
 rcases L6 h with h|h;·grind[Ack]
 grind[AdG]
theorem Zg{X:Option ρ}{f:FuncId}{e args':List AVal}{j:ρ->AVal}{y:ρ}{Q:PQ} [i:CF E X f e j] (h:X=some y) (l:args'=e) (k: ∀n',n<=n'->Gl (Q (j y) ⟨m,n'⟩)):Gl (AE E f args' ⟨m,n⟩ Q):=⟨l▸i.go h k⟩
theorem AVz{X:Option ρ}{f:FuncId}{e:Nat->List AVal}{z:List AVal}{pre:Nat->List AVal}{l:ρ->AVal}{post:Nat->ρ->List AVal}{y:ρ}{Q:PQ}{j:Nat} [i:CB E X f e pre l post] (h:X=some y) (A: .ptr j 0::z=e j) (B:Aj m j=some (pre j)) (k: ∀n',n<=n'->Gl (Q (l y) ⟨A9 m j (post j y),n'⟩)):Gl (AE E f (.ptr j 0::z) ⟨m,n⟩ Q):=⟨A▸i.go h B k⟩
theorem AYm{X:Option ρ}{f:FuncId}{e:Nat->List AVal}{x:AVal}{g:Fn}{pre:Nat->List AVal}{l:ρ->AVal}{post:Nat->ρ->List AVal}{y:ρ}{Q:PQ}{j:Nat} [i:CB E X f e pre l post] (h:X=some y) (z:[x,.fn g [] [.ptr j 0]]=e j) (A:Aj m j=some (pre j)) (k: ∀n',n<=n'->Gl (Q (l y) ⟨A9 m j (post j y),n'⟩)):Gl (AE E f [x,.fn g [] [.ptr j 0]] ⟨m,n⟩ Q):=⟨z▸i.go h A k⟩
theorem AaH{X:Option ρ}{f:FuncId}{e:Nat->List AVal}{x:AVal}{g:Fn}{pre:Nat->List AVal}{l:ρ->AVal}{post:Nat->ρ->List AVal}{y:ρ}{Q:PQ}{j:Nat} [i:CB E X f e pre l post] (h:X=some y) (z:[x,.fn g [.ptr j 0] []]=e j) (A:Aj m j=some (pre j)) (k: ∀n',n<=n'->Gl (Q (l y) ⟨A9 m j (post j y),n'⟩)):Gl (AE E f [x,.fn g [.ptr j 0] []] ⟨m,n⟩ Q):=⟨z▸i.go h A k⟩
theorem A16{f:FuncId}{e:List AVal}{x:AVal}{Q:PQ} [i:XC E f e x] (h:Gl (Q x st)):Gl (ABj E f e st Q):=⟨i.go h⟩
theorem Aqc{X:Option ρ}{f:FuncId}{e args':List AVal}{j:Nat->AVal}{cells:ρ->Nat->List AVal}{y:ρ}{Q:PQ} [i:CN E X f e j cells] (h:X=some y) (l:args'=e) (k: ∀i n',n<=i->i<n'->Gl (Q (j i) ⟨(i,cells y i)::m,n'⟩)):Gl (AE E f args' ⟨m,n⟩ Q):=⟨l▸i.go h k⟩
theorem AqD{X:Option ρ}{f:FuncId}{pre:Nat->List AVal}{l:ρ->AVal}{post:Nat->ρ->List AVal}{y:ρ}{Q:PQ}{i j:Nat} [c:CT E X f pre l post] (h:X=some y) (z:Aj m j=some [.ptr i 0]) (A:Aj m i=some (pre i)) (e:i≠j) (k: ∀n',n<=n'->Gl (Q (l y) ⟨A9 m i (post i y),n'⟩)):Gl (AE E f [.ptr j 0] ⟨m,n⟩ Q):=⟨c.go h z A e k⟩
theorem AYM{X:Option ρ}{f:FuncId}{e:Nat->List AVal}{x:AVal}{z:List AVal}{pre:Nat->List AVal}{l:ρ->AVal}{post:Nat->ρ->List AVal}{y:ρ}{Q:PQ}{j:Nat} [i:CB E X f e pre l post] (h:X=some y) (A:x:: .ptr j 0::z=e j) (B:Aj m j=some (pre j)) (k: ∀n',n<=n'->Gl (Q (l y) ⟨A9 m j (post j y),n'⟩)):Gl (AE E f (x:: .ptr j 0::z) ⟨m,n⟩ Q):=⟨A▸i.go h B k⟩
theorem AYd{X:Option ρ}{f:FuncId}{e:Nat->List AVal}{x y:AVal}{pre:Nat->List AVal}{z:ρ->AVal}{post:Nat->ρ->List AVal}{l:ρ}{Q:PQ}{j:Nat} [i:CB E X f e pre z post] (h:X=some l) (A:[x,y,.ptr j 0]=e j) (B:Aj m j=some (pre j)) (k: ∀n',n<=n'->Gl (Q (z l) ⟨A9 m j (post j l),n'⟩)):Gl (AE E f [x,y,.ptr j 0] ⟨m,n⟩ Q):=⟨A▸i.go h B k⟩
theorem A24{e:Nat}{os:List Oper}{mv:List Tmp}{p:Plan} (j:DD D) [i:MX E] (l:ACr D e=mv) (hp:Awm D e=p) (f:KJ (List.toArray os) p false (Array.replicate (List.toArray os).size false) []=true) (h:Gl (IG E mv ⟨os⟩ p [] (nK Q) af st)):Gl (AWp E (.region e (List.toArray os) true) Q af st):=⟨Uz mv p i.ok f h.go⟩
def A3O (j:DD D) (h:Gl (wpd E D x (Kk (wpd E D y Q) Q) af st)):Gl (AWp E (.seq x y) Q af st):=⟨WO ((FO h.go).mono λe af' f _ q=>by cases e<;>first|exact FO q|exact q)⟩
def AxU{α:Type}{l:Nat×Nat}{V:α->List AVal}{Ms:α->List BX}{k0:α->Option β}{body:(α->Option β)->Option β} (h:T/\AA k0 body (.b l js cs V Ms)=some r) (L:DD D) (C:Ym x=l) (rest: ∀j n',n<=n'->T/\k0 j=some r->Gl (wpd E D y Q (setVals (Cn js af) cs (V j)) ⟨reB (Ms j) m,n'⟩)) (first: ∀(k:α->Option β) (J:List AVal->St->Prop),JOK k r js cs V Ms af m n J->T/\body k=some r->Gl (wpd E D x (Kk J Q) af ⟨m,n⟩)):Gl (AWp E (.seq x y) Q af ⟨m,n⟩):=by
 refine⟨WO ?_⟩;have key:=FO (first k0 (λaf' f=>AWp E y Q af' ⟨f.m,f.next⟩) ⟨?_⟩ h).go;·exact key.mono λe af' f _ q=>by cases e<;>exact q
 ·intro j af' m0 m1 n' H I B z A G;subst B;refine Vt (rgs js) ?_;have:=FO (rest j n' G ⟨h.1,H⟩).go;rw[Dx,Dx]at z;rw[Dx]at A this;rw[Mm cs _ _ z];exact this.wk (WkL.setVals (WkL.refl _) A) I
def A2W{α:Type}{f:Nat×Nat}{V:α->List AVal}{k0:α->Option β}{body:(α->Option β)->Option β} (h:T/\AA k0 body (.a f js cs V)=some r) (l:DD D) (e:Ym x=f) (rest: ∀j n',n<=n'->T/\k0 j=some r->Gl (wpd E D y Q (setVals (Cn js af) cs (V j)) ⟨m,n'⟩)) (first: ∀(k:α->Option β) (J:List AVal->St->Prop),JOK k r js cs V (λ_=>[]) af m n J->T/\body k=some r->Gl (wpd E D x (Kk J Q) af ⟨m,n⟩)):Gl (AWp E (.seq x y) Q af ⟨m,n⟩):=by refine AxU (Ms:=λ_=>[]) (k0:=k0) (body:=body) h l e (λj n' z h=>?_) first;grind[reB]
def A1K{α:Type}{l:Nat×Nat}{p:Tmp}{V:α->Nat->List AVal}{Ms:α->Nat->List BX}{C:α->Nat->List AVal}{k0:α->Option β}{body:(α->Option β)->Option β} (h:T/\AA k0 body (.n l js cs p V Ms C)=some r) (M:DD D) (G:Ym x=l) (rest: ∀j n' g,n<=g/\g<n'->T/\k0 j=some r->Gl (wpd E D y Q (setVals (Cn js af) cs (V j g)) ⟨(g,C j g)::reB (Ms j g) m,n'⟩)) (first: ∀(k:α->Option β) (J:List AVal->St->Prop),JNK k r js cs p V Ms C af m n J->True->T/\body k=some r->Gl (wpd E D x (Kk J Q) af ⟨m,n⟩)):Gl (AWp E (.seq x y) Q af ⟨m,n⟩):=by
 refine⟨WO ?_⟩;have key:=FO (first k0 (λaf' f=>AWp E y Q af' ⟨f.m,f.next⟩) ⟨?_⟩ trivial h).go;·exact key.mono λe af' f _ q=>by cases e<;>exact q
 ·intro j g af' m0 m1 n' I L B z A H;subst B;refine Vt (rgs js) ?_;have:=FO (rest j n' g H ⟨h.1,I⟩).go;rw[Dx,Dx]at z;rw[Dx]at A this;rw[Mm cs _ _ z];exact this.wk (WkL.setVals (WkL.refl _) A) L
def A3u{α:Type}{p:Tmp}{V:α->Nat->List AVal}{Ms:α->Nat->List BX}{C:α->Nat->List AVal}{k:α->Option β}{v:α} (f:JNK k r js cs p V Ms C af0 m n J) (h:T/\k v=some r) (z:SubW ((AUR (af.getD p .any),C v (AUR (af.getD p .any)))::reB (Ms v (AUR (af.getD p .any))) m) m1) (e:Al cs (Cn js af)=Al cs (Cn js af0)) (j:WkL (Co (Cn js af) cs) (V v (AUR (af.getD p .any)))) (l:n<=AUR (af.getD p .any)/\AUR (af.getD p .any)<n'):Gl (J af ⟨m1,n'⟩):=⟨f.go v _ af _ m1 n' h.2 z rfl e j l⟩
def A3h{α:Type}{V:α->List AVal}{Ms:α->List BX}{k:α->Option β}{v:α} (f:JOK k r js cs V Ms af0 m n J) (h:T/\k v=some r) (z:SubW (reB (Ms v) m) m1) (e:Al cs (Cn js af)=Al cs (Cn js af0)) (j:WkL (Co (Cn js af) cs) (V v)) (l:n<=n'):Gl (J af ⟨m1,n'⟩):=⟨f.go v af _ m1 n' h.2 z rfl e j l⟩
theorem A2Y{σ:Type}{V:σ->List AVal}{Ms:σ->List BX}{X:Option β}{G B:Nat->σ->Option β}{k:Nat}{s:σ} [i:LF X G B k s js cs V Ms] (h:T/\X=some r) (f:LOK G r k js cs V Ms af0 m n J) (l:SubW (reB (Ms s) m) m1) (e:Al cs (Cn js af)=Al cs (Cn js af0)) (j:WkL (Co (Cn js af) cs) (V s)) (z:n<=n'):Gl (J af ⟨m1,n'⟩):=⟨f.go s af _ m1 n' (i.eq▸h.2) l rfl e j z⟩
theorem A2N{α σ:Type}{V:Int->σ->List AVal}{Ms:Int->σ->List BX}{X:Option β}{G:List α->Int->σ->Option β}{j:Int->σ->Option β}{A:α->List α->Int->σ->Option β}{L:List α}{i:Int}{s:σ} [ii:LR X G j A L i s js cs V Ms] (h:T/\X=some r) (f:ROK G r L i js cs V Ms af0 m n J) (z:SubW (reB (Ms i s) m) m1) (e:Al cs (Cn js af)=Al cs (Cn js af0)) (l:WkL (Co (Cn js af) cs) (V i s)) (B:n<=n'):Gl (J af ⟨m1,n'⟩):=⟨f.go s af _ m1 n' (ii.eq▸h.2) z rfl e l B⟩
def A3U{R:APost}{e:List ResultVar}{b:Bool}{f:AVal}{xs:List AVal} (j:RH E e R b m n f) (l:Sm E e af st=some (xs,⟨m1,n'⟩)) (A:m.Sublist m1) (h:n<=n') (z:stp b (Uv xs)=f):Gl (R .ret af st):=⟨(j.go af st xs m m1 n' l A rfl h z).1⟩
def A27{R:APost}{e:List ResultVar}{b:Bool}{f:AVal}{xs:List AVal} (j:RH E e R b m n f) (l:Sm E e af st=some (xs,⟨m1,n'⟩)) (A:m.Sublist m1) (h:n<=n') (z:stp b (Uv xs)=f):Gl (R .normal af st):=⟨(j.go af st xs m m1 n' l A rfl h z).2⟩
def A0S{v:β} (h:T/\some v=some r):T/\v=r:=⟨h.1,cE h.2⟩
theorem A1m{σ:Type}{V:σ->List AVal}{Ms:σ->List BX}{X:Option β}{G B:Nat->σ->Option β}{k:Nat}{s:σ} [i:LF X G B k s js cs V Ms] (h:T/\X=some r) (W:DD D) (M:SubW (reB (Ms s) m) m) (H:WkL (Co (Cn js af) cs) (V s)) (round: ∀k s n',n<=n'->T/\B k s=some r->∀J,LOK G r k js cs V Ms af m n' J->Gl (wpd E D c (Kk J Q) (setVals (Cn js af) cs (V s)) ⟨reB (Ms s) m,n'⟩)):Gl (AWp E (.loop c) Q af ⟨m,n⟩):=by
 rw[Dx]at H;refine⟨Xl (rgs js) cs (λk vs f=>∃s,vs=V s/\f.m=reB (Ms s) m/\n<=f.next/\G k s=some r) k H M ⟨s,rfl,rfl,av _,i.eq▸h.2⟩ ?_⟩;rintro k vs ⟨U,n'⟩ ⟨s,rfl,hm',hn,hG⟩ J hJ;simp only at hm' hn;subst hm';cases k with
 |zero=>rw[i.z]at hG;grind
 |succ k=>
  have key:=λl=>FO (round k s n' hn ⟨h.1,i.u k s▸hG⟩ J l).go;rw[Dx]at key;refine(key ⟨λL af' m0 m1 j P S I A C R=>?_⟩).mono λe af' f _ q=>by cases e<;>first|exact Pm q|exact .oth fN q
  subst I;rw[Dx,Dx]at A;rw[Dx]at C;exact hJ k af' ⟨m1,j⟩ _ _ (fe _) S A C ⟨L,rfl,rfl,bK hn R,P⟩
theorem Ak3{α σ:Type}{V:Int->σ->List AVal}{Ms:Int->σ->List BX}{X:Option β}{G:List α->Int->σ->Option β}{I:Int->σ->Option β}{P:α->List α->Int->σ->Option β}{L:List α}{s:σ} [ii:LR X G I P L 0 s js cs V Ms] (h:T/\X=some r) (hD:DD D) (Z:AL L.length) (hm:SubW (reB (Ms 0 s) m) m) (U:WkL (Co (Cn js af) cs) (V 0 s)) (z: ∀i s n',n<=n'->(decide (i<(L.length:Int))=false/\T)/\I i s=some r->Gl (wpd E D c (Kk (λ_ _=>False) Q) (setVals (Cn js af) cs (V i s)) ⟨reB (Ms i s) m,n'⟩)) (l: ∀x xs i s n',n<=n'->(decide (i<(L.length:Int))=true/\(idx L i=some x/\L[i.toNat]?=some x)/\wr .i64 (i+1)=i+1/\T)/\P x xs i s=some r->∀J,ROK G r xs (i+1) js cs V Ms af m n' J->Gl (wpd E D c (Kk J Q) (setVals (Cn js af) cs (V i s)) ⟨reB (Ms i s) m,n'⟩)):Gl (AWp E (.loop c) Q af ⟨m,n⟩):=by
 rw[Dx]at U;refine⟨Xl (rgs js) cs (λk vs j=>∃pre f s,L=pre++f/\k=f.length/\vs=V pre.length s/\j.m=reB (Ms pre.length s) m/\n<=j.next/\G f pre.length s=some r) L.length U hm ⟨[],L,s,rfl,rfl,rfl,rfl,av _,ii.eq▸h.2⟩ ?_⟩;rintro k vs ⟨m',n'⟩ ⟨pre,f,s,hp,rfl,rfl,hm',hn,hG⟩ J hJ;simp only at hm' hn;subst hm';cases f with
 |nil=>have key:=FO (z _ s n' hn ⟨⟨by grind,h.1⟩,ii.un _ s▸hG⟩).go;rw[Dx]at key;exact key.mono λe af' j _ q=>by cases e<;>first|exact q.elim|exact .oth fN q
 |cons x xs=>
  obtain⟨f1,S,W⟩:=AiS hp Z;have key:=λC=>FO (l x xs _ s n' hn ⟨⟨f1,⟨S,Acv S⟩,W,h.1⟩,ii.uc x xs _ s▸hG⟩ J C).go;rw[Dx]at key;refine(key ⟨λY af' m0 m1 A M h2 H R B h6=>?_⟩).mono λe af' j _ q=>by cases e<;>first|exact Pm q|exact .oth fN q
  have e1:((pre.length:Int)+1)=((pre++[x]).length:Int):=fN;rw[e1]at M H B;subst H;rw[Dx,Dx]at R;rw[Dx]at B;exact hJ xs.length af' ⟨m1,A⟩ _ _ fN h2 R B ⟨pre++[x],xs,Y,by grind,rfl,rfl,rfl,bK hn h6,M⟩
theorem A1s{α σ:Type}{V:Int->σ->List AVal}{Ms:Int->σ->List BX}{X:Option β}{G:List α->Int->σ->Option β}{j:Int->σ->Option β}{A:α->List α->Int->σ->Option β}{L:List α}{i:Int}{s:σ} [ii:LQ X G j A L s js cs V Ms] (h:T/\X=some r) (f:ROK G r L i js cs V Ms af0 m n J) (z:SubW (reB (Ms i s) m) m1) (e:Al cs (Cn js af)=Al cs (Cn js af0)) (l:WkL (Co (Cn js af) cs) (V i s)) (B:n<=n'):Gl (J af ⟨m1,n'⟩):=⟨f.go s af _ m1 n' (ii.eq i▸h.2) z rfl e l B⟩
theorem AyI{α σ:Type}{V:Int->σ->List AVal}{Ms:Int->σ->List BX}{X:Option β}{G:List α->Int->σ->Option β}{j:Int->σ->Option β}{l:α->List α->Int->σ->Option β}{L:List α}{s:σ} [ii:LQ X G j l L s js cs V Ms] (h:T/\X=some r) (z:DD D) (A:AL L.length) (B:SubW (reB (Ms 0 s) m) m) (C:WkL (Co (Cn js af) cs) (V 0 s))
    (f: ∀i s n',n<=n'->(decide (i<(L.length:Int))=false/\T)/\j i s=some r->Gl (wpd E D c (Kk (λ_ _=>False) Q) (setVals (Cn js af) cs (V i s)) ⟨reB (Ms i s) m,n'⟩))
    (e: ∀x xs i s n',n<=n'->(decide (i<(L.length:Int))=true/\(idx L i=some x/\L[i.toNat]?=some x)/\wr .i64 (i+1)=i+1/\T)/\l x xs i s=some r-> ∀J,ROK G r xs (i+1) js cs V Ms af m n' J->Gl (wpd E D c (Kk J Q) (setVals (Cn js af) cs (V i s)) ⟨reB (Ms i s) m,n'⟩)):Gl (AWp E (.loop c) Q af ⟨m,n⟩):=
  haveI:LR X G j l L 0 s js cs V Ms:=⟨ii.eq 0,ii.un,ii.uc⟩
  Ak3 h z A B C f e
theorem A1n{σ:Type}{V:Int->σ->List AVal}{Ms:Int->σ->List BX}{X:Option β}{G:Nat->Int->σ->Option β}{j:Int->σ->Option β}{A:Nat->Int->σ->Option β}{k:Nat}{i:Int}{s:σ} [ii:LC X G j A k i s js cs V Ms] (h:T/\X=some r) (f:COK G r k i js cs V Ms af0 m n J) (z:SubW (reB (Ms i s) m) m1) (e:Al cs (Cn js af)=Al cs (Cn js af0)) (l:WkL (Co (Cn js af) cs) (V i s)) (B:n<=n'):Gl (J af ⟨m1,n'⟩):=⟨f.go s af _ m1 n' (ii.eq▸h.2) z rfl e l B⟩
theorem A2i{σ:Type}{V:Int->σ->List AVal}{Ms:Int->σ->List BX}{X:Option β}{G:Nat->Int->σ->Option β}{j:Int->σ->Option β}{A:Nat->Int->σ->Option β}{k:Nat}{i:Int}{s:σ} [ii:LU X G j A k s js cs V Ms] (h:T/\X=some r) (f:COK G r k i js cs V Ms af0 m n J) (z:SubW (reB (Ms i s) m) m1) (e:Al cs (Cn js af)=Al cs (Cn js af0)) (l:WkL (Co (Cn js af) cs) (V i s)) (B:n<=n'):Gl (J af ⟨m1,n'⟩):=⟨f.go s af _ m1 n' (ii.eq i▸h.2) z rfl e l B⟩
theorem AmY{σ:Type}{V:Int->σ->List AVal}{Ms:Int->σ->List BX}{X:Option β}{G:Nat->Int->σ->Option β}{B:Int->σ->Option β}{I:Nat->Int->σ->Option β}{i0 b:Int}{s:σ} [ii:LC X G B I (b-i0).toNat i0 s js cs V Ms] (h:T/\X=some r) (hD:DD D) (Z: -4611686018427387904<=i0/\b<=4611686018427387904) (R:SubW (reB (Ms i0 s) m) m) (L:WkL (Co (Cn js af) cs) (V i0 s)) (l: ∀i s n',n<=n'->(decide (i<b)=false/\T)/\B i s=some r->Gl (wpd E D c (Kk (λ_ _=>False) Q) (setVals (Cn js af) cs (V i s)) ⟨reB (Ms i s) m,n'⟩)) (j: ∀k i s n',n<=n'->(decide (i<b)=true/\wr .i64 (i+1)=i+1/\T)/\I k i s=some r->∀J,COK G r k (i+1) js cs V Ms af m n' J->Gl (wpd E D c (Kk J Q) (setVals (Cn js af) cs (V i s)) ⟨reB (Ms i s) m,n'⟩)):Gl (AWp E (.loop c) Q af ⟨m,n⟩):=by
 rw[Dx]at L;refine⟨Xl (rgs js) cs (λk vs f=>∃i s,i0<=i/\k=(b-i).toNat/\vs=V i s/\f.m=reB (Ms i s) m/\n<=f.next/\G k i s=some r) (b-i0).toNat L R ⟨i0,s,bE _,rfl,rfl,rfl,av _,ii.eq▸h.2⟩ ?_⟩;rintro k vs ⟨m',n'⟩ ⟨i,s,hi,hk',rfl,hm',hn,hG⟩ J hJ;simp only at hm' hn;subst hm';cases k with
 |zero=>have key:=FO (l _ s n' hn ⟨⟨by grind,h.1⟩,ii.un _ s▸hG⟩).go;rw[Dx]at key;exact key.mono λe af' f _ q=>by cases e<;>first|exact q.elim|exact .oth fN q
 |succ k=>
  have W:wr .i64 (i+1)=i+1:=by grind[wr,IntKind.wrap,IntKind.bits,IntKind.signed]
  have key:=λA=>FO (j k i s n' hn ⟨⟨by simp only[au];omega,W,h.1⟩,ii.uc k i s▸hG⟩ J A).go;rw[Dx]at key;refine(key ⟨λP af' m0 m1 z S Y M C H U=>?_⟩).mono λe af' f _ q=>by cases e<;>first|exact Pm q|exact .oth fN q
  subst M;rw[Dx,Dx]at C;rw[Dx]at H;exact hJ k af' ⟨m1,z⟩ _ _ fN Y C H ⟨i+1,P,fM,fM,rfl,rfl,bK hn U,S⟩
theorem A00{σ:Type}{V:Int->σ->List AVal}{Ms:Int->σ->List BX}{X:Option β}{G:Nat->Int->σ->Option β}{j:Int->σ->Option β}{l:Nat->Int->σ->Option β}{i0 b:Int}{s:σ} [ii:LU X G j l (b-i0).toNat s js cs V Ms] (h:T/\X=some r) (z:DD D) (A: -4611686018427387904<=i0/\b<=4611686018427387904) (B:SubW (reB (Ms i0 s) m) m) (C:WkL (Co (Cn js af) cs) (V i0 s))
    (f: ∀i s n',n<=n'->(decide (i<b)=false/\T)/\j i s=some r->Gl (wpd E D c (Kk (λ_ _=>False) Q) (setVals (Cn js af) cs (V i s)) ⟨reB (Ms i s) m,n'⟩))
    (e: ∀k i s n',n<=n'->(decide (i<b)=true/\wr .i64 (i+1)=i+1/\T)/\l k i s=some r-> ∀J,COK G r k (i+1) js cs V Ms af m n' J->Gl (wpd E D c (Kk J Q) (setVals (Cn js af) cs (V i s)) ⟨reB (Ms i s) m,n'⟩)):Gl (AWp E (.loop c) Q af ⟨m,n⟩):=
  haveI:LC X G j l (b-i0).toNat i0 s js cs V Ms:=⟨ii.eq i0,ii.un,ii.uc⟩
  AmY h z A B C f e
def A1V{G:Prop} (h:T/\(none:Option β)=some r):G:=by grind
def A3H{α:Type}{u:α}{f:α->Option β} (h:T/\letL u f=some r): ∃y,u=y/\T/\f y=some r:=⟨u,rfl,h⟩
def Axj{α:Type}{l:List α}{i:Int}{f:α->Option β} (h:T/\Option.bind (idx l i) f=some r): ∃y,((idx l i=some y/\l[i.toNat]?=some y)/\T)/\f y=some r:=by obtain⟨y,e,j⟩:=GY h;exact⟨y,⟨⟨e.1,Acv e.1⟩,e.2⟩,j⟩
def A0c{α:Type}{l:List α}{f:α->Option β} (h:T/\Option.bind (idx l 0) f=some r): ∃y,((idx l 0=some y/\l[0]?=some y)/\T)/\f y=some r:=Axj h
def A1Z{α:Type}{l:List α}{i j:Int}{f:List α->Option β} (h:T/\Option.bind (sub l i j) f=some r): ∃y,(sub l i j=some y/\T)/\f y=some r:=GY h
def isW (x:Gl (wpd E D c K af st)):Gl (wpd E D c K af st):=x
def isC{f:FuncId}{e:List AVal}{Q:PQ} (x:Gl (AE E f e st Q)):Gl (AE E f e st Q):=x
def isA (x:Gl (AWp E c K af st)):Gl (AWp E c K af st):=x
end rules
end Go.VM
namespace Go.VM
def tD{G:Prop} (x:G:=by first|(simp(disch:=omega) only[vm,seval,h.1];done)|rfl):G:=x
def tR{G:Prop} (x:G:=by
 obtain⟨H,h⟩:=h;cases h;simp(disch:=omega) only[vm,seval,H];refine⟨(hR _ _ _ _ _ _ (by simp(disch:=omega) only[vm,seval,H];rfl) ?_ rfl fM ?_).1⟩;·first|((repeat (first|exact bU _|apply cD));done)|(simp(disch:=omega) only[vm,seval,H];(repeat (first|exact bU _|apply cD));done)
 ·first|(simp(disch:=omega) only[vm,seval,H];done)|rfl):G:=x
def tJ{A G:Prop} (a:A) (x:A->G:=by
  intro e
  simp(disch:=omega) only[vm,seval,h.1]
  refine⟨e _ _ _ _ h.2 ?_ rfl ?_ ?_ fM⟩
  . first|((repeat (first|exact bU _|apply cD));done)|(simp(disch:=omega) only[vm,seval,h.1];(repeat (first|exact bU _|apply cD));done)
  all_goals first|(simp(disch:=omega) only[vm,seval,h.1];done)|rfl):G:=x a
end Go.VM
