import Derived.Test.YtmalodjbhonipaaGreatDoorVM2
import Derived.Below
import Derived.Deep.Slices
import Derived.ChangeArms
import Derived.ChangeSame
import Derived.DataReads
import Derived.SizedLaws
import Derived.ProofKit
import Derived.ReadAgain
import Derived.LaidLaws
import Derived.Lib.LaidTab
set_option linter.unusedSimpArgs false
set_option linter.unusedVariables false
namespace Go.VM
def F3 (W:World):Ghost:=⟨fun b=>match W.heap[b]? with|some (.cells arr _ _)=>some arr.toList|_=>none,fun _=>none,fun _=>none,fun _=>none,fun _=>none⟩
theorem AZL{E:Env}{W:World} (hT: ∀g cs,E.T g=some cs→Rep (F3 W) (.cptr cs) (.pointer (some ⟨g,0,none⟩))){args:List AVal}{vs:List Value} (h:RepL (F3 W) args vs):Sim E (fun b=>if b<W.heap.size then 1 else 0) (F3 W) ⟨[],0⟩ W (stripL args) vs where
  com_ok b cs hb:=by
    simp only[F3]at hb
    split at hb
    · rename_i arr e fz hh
      simp only[ac]at hb;subst hb
      exact⟨arr,e,fz,hh,⟨[],eU⟩,fun T h=>by cases h⟩
    · cases hb
  box_ok p hp:=by simp at hp
  sx_next i v h:=by simp[F3]at h
  keys:=eU
  inj i j b h:=by simp[F3]at h
  bx_lt i b h:=by simp[F3]at h
  bx_next i b h:=by simp[F3]at h
  tyd:=⟨fun i x h=>(by cases h),fun b e h=>(by cases h)⟩
  bx_F p b hp:=by simp at hp
  F_lt b hb:=by simp;omega
  glob:=hT
  rep:=h.strip
  own:=GN _ _ _ _
  tok b:=by rw[FW];simp[Aa];split<;>omega
theorem ACall.shell{E:Env}{W:World} (hT: ∀g cs,E.T g=some cs→Rep (F3 W) (.cptr cs) (.pointer (some ⟨g,0,none⟩))){f:FuncId}{args args':List AVal}{cargs:Array Value}{Q:AVal→St→Prop} (hr:RepL (F3 W) args' cargs.toList) (e:stripL args'=args) (h:ACall E f args ⟨[],0⟩ Q):Calls E.P f cargs W fun e W'=>∃v,e=.returned v∧Go.RowKit.Below W.heap.size W W'∧∃Γ' r st',Rep Γ' r v∧Q r st':=by subst e;refine(h.go _ _ W cargs (AZL hT hr)).mono ?_;rintro e W' ⟨v,he,Γ',r,st',hx,_,hs,hq⟩;refine⟨v,he,⟨hx.os,hx.tape,hx.output,hx.size,fun k hk=>(hx.keep k (by simp[hk])).1⟩,Γ',r,st',?_,hq⟩;have:=hs.rep;cases this;assumption
end Go.VM
set_option linter.unusedVariables false
namespace Go.VM
def Rds (P:Program) (t:TypeId) (z:Nat){α:Type} (cells:α→List AVal) (ok:α→Prop) (N:Nat):Prop:=∀(H:Type) (enc:TypeId×Value→H) (w:World) (held:Bool) (n:Nat) (cs:List Value) (x:DataW H×List MemPlace),n≤N→DataW.trod enc P w 0 (fun _=>true) held n t cs=some x→(∀y,y∈x.1.weights P t→y≤reachBytes)→cs.length=z∧(∀c,c∈cs→c.oneCell'=true)∧∃a:α,RepL (F3 w) (cells a) cs∧ok a
section
variable{P:Program}{t e:TypeId}{N:Nat}
theorem ADs (ht:P.underlying t=some .bool):Rds P t 1 (fun b:Bool=>[.bool b]) (fun _=>True) N:=by intro H enc w held n cs x _ h _;obtain⟨b,rfl,_⟩:=DataW.trod_bool ht h;exact⟨rfl,by simp[Value.oneCell'],b,.cons (.bool _) .nil,trivial⟩
theorem Mt (ht:P.underlying t=some .string):Rds P t 1 (fun s:List UInt8=>[.str s]) (fun s=>s.length≤reachBytes) N:=by intro H enc w held n cs x _ h hw;obtain⟨s,rfl,rfl,hm⟩:=DataW.trod_string ht h;have hl:s.data.toList.length≤reachBytes:=hw _ (by simp[DataW.weights]);refine⟨rfl,by simp[Value.oneCell'],s.data.toList,.cons (.str _ ?_) .nil,hl⟩;have e2:reachBytes≤DY:=eV;omega
def RF (P:Program) (Fs:List Field) (o z:Nat){β:Type} (cells:β→List AVal) (ok:β→Prop) (N:Nat):Prop:=∀(H:Type) (enc:TypeId×Value→H) (w:World) (held:Bool) (n:Nat) (cs:List Value) (xs:List (DataW H×List MemPlace)),n≤N→xs.length=Fs.length→o+z≤cs.length→(∀(i:Nat) (f:Field),Fs[i]?=some f→DataW.trod enc P w 0 (fun _=>true) held n f.type ((cs.drop f.offset).take (P.cellsOf f.type))=xs[i]?)→(∀y,y∈DataW.weightsEach P (Fs.map (·.type)) (xs.map (·.1))→y≤reachBytes)→(∀c,c∈(cs.drop o).take z→c.oneCell'=true)∧∃b:β,RepL (F3 w) (cells b) ((cs.drop o).take z)∧ok b
theorem AO1{o:Nat}:RF P [] o 0 (fun _:Unit=>[]) (fun _=>True) N:=by intro H enc w held n cs xs _ _ _ _ _;simp only[dQ];exact⟨eU,(),.nil,trivial⟩
theorem RepL.app{Γ:Ghost}{xs ys:List AVal}{us vs:List Value} (h:RepL Γ xs us) (k:RepL Γ ys vs):RepL Γ (xs++ys) (us++vs):=by induction xs generalizing us with |nil=>cases h;exact k|cons x xs ih=>cases h with|cons h t=>exact .cons h (ih t)
theorem LY{f:Field}{Fs:List Field}{o s z:Nat}{α β:Type}{ca:α→List AVal}{oa:α→Prop}{cb:β→List AVal}{ob:β→Prop} (ho:f.offset=o) (hs:P.cellsOf f.type=s) (ha:Rds P f.type s ca oa N) (hb:RF P Fs (o+s) z cb ob N):RF P (f::Fs) o (s+z) (fun p:α×β=>ca p.1++cb p.2) (fun p=>oa p.1∧ob p.2) N:=by
 subst ho;subst hs;intro H enc w held n cs xs hn hl hle hx hw;cases xs with
 |nil=>simp at hl
 | cons x xs=>
  have h0:=hx 0 f rfl;simp only[db]at h0;simp only[aK,DataW.weightsEach]at hw;obtain⟨a1,a2,a,a3,a4⟩:=ha H enc w held n _ x hn h0 (fun y hy=>hw y (cB _ hy));obtain⟨b1,b,b2,b3⟩:=hb H enc w held n cs xs hn (by simpa using hl) eT (fun i g hg=>by simpa using hx (i+1) g (by simpa using hg)) (fun y hy=>hw y (cr _ hy));have e:(cs.drop f.offset).take (P.cellsOf f.type+z)=(cs.drop f.offset).take (P.cellsOf f.type)++(cs.drop (f.offset+P.cellsOf f.type)).take z:=by rw[List.take_add,a8]
  rw[e];refine⟨fun c hc=>?_,(a,b),a3.app b2,a4,b3⟩;rcases aV.1 hc with hc|hc;·exact a2 c hc
  ·exact b1 c hc
theorem AHD{fs:Array Field}{z:Nat}{β γ:Type}{cells:β→List AVal}{ok:β→Prop} (ht:P.underlying t=some (.struct fs)) (hz:P.cellsOf t=z) (hf:RF P fs.toList 0 z cells ok N){cg:γ→List AVal}{og:γ→Prop} (g:β→γ) (h1: ∀b,cg (g b)=cells b) (h2: ∀b,ok b→og (g b)):Rds P t z cg og (N+1):=by intro H enc w held n cs x hn h hw;obtain⟨xs,n',rfl,rfl,hl,hxl,hx⟩:=DataW.trod_struct ht h;simp only[DataW.weights,ht]at hw;obtain⟨k1,b,k2,k3⟩:=hf H enc w held n' cs xs eT (by simpa using hxl) eT (fun i f hi=>hx i f (by simpa using hi)) hw;rw[aT,aM eT]at k1 k2;exact⟨eT,k1,g b,by rw[h1];exact k2,h2 b k3⟩
theorem Rds.mono{α:Type}{cells:α→List AVal}{ok:α→Prop}{z M:Nat} (h:Rds P t z cells ok N) (hm:M≤N):Rds P t z cells ok M:=fun H enc w held n cs x hn=>h H enc w held n cs x (bB hn hm)
theorem APY{α:Type}{cells:α→List AVal}{ok:α→Prop}{z:Nat}:Rds P t z cells ok 0:=by intro H enc w held n cs x hn h;obtain rfl:n=0:=eT;simp[DataW.trod]at h
end
theorem Rn{P:Program}{t:TypeId}{fs:Array Field}{z:Nat}{β γ:Type}{cells:β→List AVal}{ok:β→Prop} (ht:P.underlying t=some (.struct fs)) (hz:P.cellsOf t=z) (hf: ∀N,RF P fs.toList 0 z cells ok N){cg:γ→List AVal}{og:γ→Prop} (g:β→γ) (h1: ∀b,cg (g b)=cells b) (h2: ∀b,ok b→og (g b)): ∀N,Rds P t z cg og N |0=>APY|N+1=>AHD ht hz (hf N) g h1 h2
theorem AFS{P:Program}{t:TypeId}{fs:Array Field}{W:World}{r:Reach}{base:Nat}{Γ:Ghost}{xs:List AVal}{v:Value} (ht:P.underlying t=some (.struct fs)) (hval:Value.okWide P W r base t v) (hr:RepL Γ xs v.cells.toList) (ho: ∀c,c∈v.cells.toList→c.oneCell'=true):Rep Γ (.agg xs) v:=by unfold Value.okWide at hval;rw[ht]at hval;obtain⟨cs,rfl,_⟩:=hval;exact .agg hr ho
theorem Ov{H:Type}{P:Program}{ts:List TypeId}{ds:List (DataW H)} (h:(DataW.weightsEach P ts ds).all (· ≤reachBytes)=true){j:Nat}{t:TypeId}{d:DataW H} (ht:ts[j]?=some t) (hd:ds[j]?=some d): ∀y,y∈d.weights P t→y≤reachBytes:=fun y hy=>by have:=br.1 h y (DataW.weights_mem_each ht hd y hy);simpa using this
end Go.VM
set_option linter.unusedVariables false
namespace Go.VM
open Go.ChangeShapes Go.WideShapes Go.ChangeAt Go.RowKit
section
variable{H:Type}{enc:TypeId×Value→H}{P:Program}
theorem Oc{w w':World}{sp:Nat→Bool}{held:Bool}: ∀ {ts:List TypeId}{vs:List Value}{ds:List (DataW H)}{ps:List MemPlace},DataW.TrodAll enc P w 0 sp held ts vs ds ps→(∀p∈ps,w.sameAt w' p)→DataW.TrodAll enc P w' 0 sp held ts vs ds ps |[],[],[],_,h,_=>h|_::_,_::_,_::_,_,⟨p,q,⟨n,h1⟩,h2,e⟩,hs=>⟨p,q,⟨n,DataW.trod_carry n _ _ _ h1 (fun x hx=>hs x (by rw[e];exact cB _ hx))⟩,Oc h2 (fun x hx=>hs x (by rw[e];exact cr _ hx)),e⟩
theorem AOd{f:Func}{s:ChangeSpec}{apart fresh handsOn again:Bool}{W W':World}{args:Array Value}{ds:List (DataW H)}{before:List MemPlace}{T:TypeId→Prop}{tb:TypeId} (hW:DataW.Whole enc P f.params.toList s.vars apart W args.toList ds [] before) (hv:s.vars=[]) (hb:Below W.heap.size W W') (K:Kids P T) (hz: ∀t e,T t→P.underlying t=some (.slice e)→0<P.cellsOf e) (hT: ∀t,t∈f.params.toList→T t) (hr:(s.fn H (ds++[])).results=[.lit (.bool true)]) (ha:(s.fn H (ds++[])).args=ds) (hvs:(s.fn H (ds++[])).vars=[]) (hrt:f.resultTypes= #[tb]) (htb:P.underlying tb=some .bool):s.post enc P f apart fresh handsOn again W args (.bool true) W':=by
 have hlt:=hW.lt;have hW':=hW;obtain⟨p,q,hA,hV,hps,hfz,hnd⟩:=hW;have hq:q=[]:=by rw[hv]at hV;exact hV
 subst hq;rw[aI]at hps;subst hps;have hk:W.keptBut W' (· ∈before):=hb.frame _;have hA': ∀sp:Nat→Bool,(∀p∈before,sp p.block=true)→DataW.TrodAll enc P W' 0 sp true f.params.toList args.toList ds before:=by intro sp hsp;refine DataW.TrodAll.respare K hz hT ?_ hsp;exact Oc hA fun p hp=>hb.same (hlt p hp)
 have hres: ∀(b:Nat) (sp:Nat→Bool) (hd:Bool),DataW.TrodAll enc P W' b sp hd f.resultTypes.toList (Value.resultList f.resultTypes.size (.bool true)) (s.fn H (ds++[])).results []:=by intro b sp hd;rw[hr,hrt];exact trodAll_mk1 (shut_bool htb _)
 have hvars: ∀sp:Nat→Bool,DataW.TrodVars enc P W' sp s.vars (s.fn H (ds++[])).vars []:=by intro sp;rw[hv,hvs];rfl
 have hold: ∀p∈before,(fun b=>decide (b<W.heap.size)) p.block=true:=fun p hp=>by simpa using hlt p hp
 refine⟨ds,[],before,[],before,[],hW',hres _ _ _,by rw[ha];exact hA' _ hold,hvars _,World.keptBut_mono (fun p hp=>⟨hp,.inr (.inl hp)⟩) hk,fun _=>?_⟩;refine⟨ok_one hrt (by rfl) (okWide_bool_mk htb _),_,_,([]++before)++[],⟨[]++before,[],trodAll_append (hA' _ (fun _ _=>rfl)) (hres _ _ _),hvars _,rfl,?_,?_⟩,?_⟩
 ·intro b off hp;have hp':MemPlace.cell b off∈before:=by simpa using hp
  have:=hfz b off (by simpa using hp');rw[←this];exact hb.frozen (hlt _ hp')
 ·intro h;have:=hnd h;simpa using this
 ·intro p hp _;simpa using hp
end
end Go.VM
set_option linter.unusedVariables false
namespace Go.VM
open Go.Lib
section
variable{P:Program}{w:World}{base:Nat}{sp:Nat→Bool}{held:Bool}{Γ:Ghost}
def CellsOK (Γ:Ghost) (avs:List AVal) (cs:List Value):Prop:=RepL Γ avs cs∧ ∀v,v∈cs→v.oneCell'=true
theorem CellsOK.app{a b:List AVal}{x y:List Value} (h:CellsOK Γ a x) (k:CellsOK Γ b y):CellsOK Γ (a++b) (x++y):=⟨h.1.append k.1,fun v hv=>(aV.1 hv).elim (h.2 v) (k.2 v)⟩
theorem laidMetH.met{laid:List (String×DataW Unit)} (h:laidMetH P laid w) (hn:(laid.filter fun x=>x.2.handleName?.isSome)=[]):laidMet P laid w:=by unfold laidMetH at h;rw[hn]at h;exact h
end
theorem AOn{w:World}{g:Nat}{k:IntKind}{m:Int} (h:w.cell? ⟨g,0,none⟩=some (.int k m)):Rep (F3 w) (.cptr [.num k]) (.pointer (some ⟨g,0,none⟩)):=by
 unfold World.cell? at h;cases hw:w.heap[g]? with
 |none=>simp[hw]at h
 | some o=>
  cases o with
  | cells cs t f=>
   have h0:cs.toList[0]?=some (Value.int k m):=by simpa[hw]using h
   cases hl:cs.toList with
   |nil=>simp[hl]at h0
   | cons x l=>
    rw[hl]at h0;obtain rfl:x=Value.int k m:=by simpa using h0
    have hh:(F3 w).com g=some (Value.int k m::l):=by simp only[F3,hw,hl]
    exact .cptr (vs:=[Value.int k m]) (rest:=l) hh rfl (.cons (.num k m) .nil) (fun v hv=>by rw[bh.1 hv];rfl)
  |_=>simp[hw]at h
def AUz (h:Array Obj) (g:Nat) (vs:Array Value):Array Obj:=h.modify g fun |.cells _ t frozen=>.cells vs t frozen|o=>o
mutual def AQC:DataW Unit→List Value |.lit (.bool b)=>[.bool b]|.lit (.int k z)=>[.int k z]|.agg ds=>ANZ ds|_=>[] def ANZ:List (DataW Unit)→List Value |[]=>[]|d::ds=>AQC d++ANZ ds end
end Go.VM
