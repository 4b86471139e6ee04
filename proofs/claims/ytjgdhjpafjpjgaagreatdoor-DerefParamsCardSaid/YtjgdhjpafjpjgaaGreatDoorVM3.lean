import Derived.Test.YtjgdhjpafjpjgaaGreatDoorVM2
import Derived.Below
import Derived.Deep.Slices
import Derived.ChangeArms
import Derived.ChangeSame
import Derived.DataReads
import Derived.SizedLaws
import Derived.ProofKit
import Derived.ReadAgain
import Derived.LaidLaws
import Derived.Lib.LaidTab
set_option linter.unusedSimpArgs false
set_option linter.unusedVariables false
namespace Go.VM
def GJ (W:World):Ghost:=⟨fun b=>match W.heap[b]? with|some (.cells arr _ _)=>some arr.toList|_=>none,fun _=>none,fun _=>none,fun _=>none,fun _=>none⟩
theorem ANO{E:Env}{W:World} (hT: ∀g cs,E.T g=some cs→Rep (GJ W) (.cptr cs) (.pointer (some ⟨g,0,none⟩))){args:List AVal}{vs:List Value} (h:RepL (GJ W) args vs):Sim E (fun b=>if b<W.heap.size then 1 else 0) (GJ W) ⟨[],0⟩ W (stripL args) vs where
  com_ok b cs hb:=by
    simp only[GJ]at hb
    split at hb
    · rename_i arr e fz hh
      simp only[Option.some.injEq]at hb;subst hb
      exact⟨arr,e,fz,hh,⟨[],by simp⟩,fun T h=>by cases h⟩
    · cases hb
  box_ok p hp:=by simp at hp
  sx_next i v h:=by simp[GJ]at h
  keys:=by simp
  inj i j b h:=by simp[GJ]at h
  bx_lt i b h:=by simp[GJ]at h
  bx_next i b h:=by simp[GJ]at h
  tyd:=⟨fun i x h=>(by cases h),fun b e h=>(by cases h)⟩
  bx_F p b hp:=by simp at hp
  F_lt b hb:=by simp;omega
  glob:=hT
  rep:=h.strip
  own:=Ev _ _ _ _
  tok b:=by rw[ET];simp[AZ];split<;>omega
theorem ACall.shell{E:Env}{W:World} (hT: ∀g cs,E.T g=some cs→Rep (GJ W) (.cptr cs) (.pointer (some ⟨g,0,none⟩))){f:FuncId}{args args':List AVal}{cargs:Array Value}{Q:AVal→St→Prop} (hr:RepL (GJ W) args' cargs.toList) (e:stripL args'=args) (h:ACall E f args ⟨[],0⟩ Q):
    Calls E.P f cargs W fun e W'=> ∃v,e=.returned v∧Go.RowKit.Below W.heap.size W W'∧ ∃Γ' r st',Rep Γ' r v∧Q r st':=by
  subst e
  refine(h.go _ _ W cargs (ANO hT hr)).mono ?_
  rintro e W' ⟨v,he,Γ',r,st',hx,_,hs,hq⟩
  refine⟨v,he,⟨hx.os,hx.tape,hx.output,hx.size,fun k hk=>(hx.keep k (by simp[hk])).1⟩,Γ',r,st',?_,hq⟩
  have:=hs.rep
  cases this;assumption
end Go.VM
set_option linter.unusedVariables false
namespace Go.VM
def Rds (P:Program) (t:TypeId) (z:Nat){α:Type} (cells:α→List AVal) (ok:α→Prop) (N:Nat):Prop:=
  ∀(H:Type) (enc:TypeId×Value→H) (w:World) (held:Bool) (n:Nat) (cs:List Value) (x:DataW H×List MemPlace),n≤N→DataW.trod enc P w 0 (fun _=>true) held n t cs=some x→
    (∀y,y∈x.1.weights P t→y≤reachBytes)→cs.length=z∧(∀c,c∈cs→c.oneCell'=true)∧ ∃a:α,RepL (GJ w) (cells a) cs∧ok a
section
variable{P:Program}{t e:TypeId}{N:Nat}
theorem AJ8 (ht:P.underlying t=some .string):Rds P t 1 (fun s:List UInt8=>[.str s]) (fun s=>s.length≤reachBytes) N:=by
  intro H enc w held n cs x _ h hw
  obtain⟨s,rfl,rfl,hm⟩:=DataW.trod_string ht h
  have hl:s.data.toList.length≤reachBytes:=hw _ (by simp[DataW.weights])
  refine⟨rfl,by simp[Value.oneCell'],s.data.toList,.cons (.str _ ?_) .nil,hl⟩
  have e2:reachBytes≤Bw:=by decide
  omega
theorem Rds.mono{α:Type}{cells:α→List AVal}{ok:α→Prop}{z M:Nat} (h:Rds P t z cells ok N) (hm:M≤N):Rds P t z cells ok M:=fun H enc w held n cs x hn=>h H enc w held n cs x (Nat.le_trans hn hm)
end
theorem AA4{H:Type}{P:Program}{ts:List TypeId}{ds:List (DataW H)} (h:(DataW.weightsEach P ts ds).all (· ≤reachBytes)=true){j:Nat}{t:TypeId}{d:DataW H} (ht:ts[j]?=some t) (hd:ds[j]?=some d): ∀y,y∈d.weights P t→y≤reachBytes:=fun y hy=>by
  have:=List.all_eq_true.1 h y (DataW.weights_mem_each ht hd y hy)
  simpa using this
end Go.VM
set_option linter.unusedVariables false
namespace Go.VM
open Go.ChangeShapes Go.WideShapes Go.ChangeAt Go.RowKit
section
variable{H:Type}{enc:TypeId×Value→H}{P:Program}
theorem Kl{w w':World}{sp:Nat→Bool}{held:Bool}: ∀ {ts:List TypeId}{vs:List Value}{ds:List (DataW H)}{ps:List MemPlace},DataW.TrodAll enc P w 0 sp held ts vs ds ps→(∀p∈ps,w.sameAt w' p)→DataW.TrodAll enc P w' 0 sp held ts vs ds ps
  |[],[],[],_,h,_=>h
  |_::_,_::_,_::_,_,⟨p,q,⟨n,h1⟩,h2,e⟩,hs=>⟨p,q,⟨n,DataW.trod_carry n _ _ _ h1 (fun x hx=>hs x (by rw[e];exact List.mem_append_left _ hx))⟩,Kl h2 (fun x hx=>hs x (by rw[e];exact List.mem_append_right _ hx)),e⟩
theorem AHT{f:Func}{s:ChangeSpec}{apart fresh handsOn again:Bool}{W W':World}{args:Array Value}{ds:List (DataW H)}{before:List MemPlace}{T:TypeId→Prop}{tb:TypeId}
    (hW:DataW.Whole enc P f.params.toList s.vars apart W args.toList ds [] before) (hv:s.vars=[]) (hb:Below W.heap.size W W')
    (K:Kids P T) (hz: ∀t e,T t→P.underlying t=some (.slice e)→0<P.cellsOf e) (hT: ∀t,t∈f.params.toList→T t)
    (hr:(s.fn H (ds++[])).results=[.lit (.bool true)]) (ha:(s.fn H (ds++[])).args=ds) (hvs:(s.fn H (ds++[])).vars=[])
    (hrt:f.resultTypes= #[tb]) (htb:P.underlying tb=some .bool):s.post enc P f apart fresh handsOn again W args (.bool true) W':=by
  have hlt:=hW.lt
  have hW':=hW
  obtain⟨p,q,hA,hV,hps,hfz,hnd⟩:=hW
  have hq:q=[]:=by
    rw[hv]at hV
    exact hV
  subst hq
  rw[List.append_nil]at hps
  subst hps
  have hk:W.keptBut W' (· ∈before):=hb.frame _
  have hA': ∀sp:Nat→Bool,(∀p∈before,sp p.block=true)→DataW.TrodAll enc P W' 0 sp true f.params.toList args.toList ds before:=by
    intro sp hsp
    refine DataW.TrodAll.respare K hz hT ?_ hsp
    exact Kl hA fun p hp=>hb.same (hlt p hp)
  have hres: ∀(b:Nat) (sp:Nat→Bool) (hd:Bool),DataW.TrodAll enc P W' b sp hd f.resultTypes.toList (Value.resultList f.resultTypes.size (.bool true)) (s.fn H (ds++[])).results []:=by
    intro b sp hd
    rw[hr,hrt]
    exact trodAll_mk1 (shut_bool htb _)
  have hvars: ∀sp:Nat→Bool,DataW.TrodVars enc P W' sp s.vars (s.fn H (ds++[])).vars []:=by
    intro sp;rw[hv,hvs];rfl
  have hold: ∀p∈before,(fun b=>decide (b<W.heap.size)) p.block=true:=fun p hp=>by simpa using hlt p hp
  refine⟨ds,[],before,[],before,[],hW',hres _ _ _,by rw[ha];exact hA' _ hold,hvars _,World.keptBut_mono (fun p hp=>⟨hp,.inr (.inl hp)⟩) hk,fun _=>?_⟩
  refine⟨ok_one hrt (by rfl) (okWide_bool_mk htb _),_,_,([]++before)++[],⟨[]++before,[],trodAll_append (hA' _ (fun _ _=>rfl)) (hres _ _ _),hvars _,rfl,?_,?_⟩,?_⟩
  · intro b off hp
    have hp':MemPlace.cell b off∈before:=by simpa using hp
    have:=hfz b off (by simpa using hp')
    rw[←this]
    exact hb.frozen (hlt _ hp')
  · intro h
    have:=hnd h
    simpa using this
  · intro p hp _
    simpa using hp
end
end Go.VM
set_option linter.unusedVariables false
namespace Go.VM
open Go.Lib
section
variable{P:Program}{w:World}{base:Nat}{sp:Nat→Bool}{held:Bool}{Γ:Ghost}
theorem laidMetH.met{laid:List (String×DataW Unit)} (h:laidMetH P laid w) (hn:(laid.filter fun x=>x.2.handleName?.isSome)=[]):laidMet P laid w:=by
  unfold laidMetH at h;rw[hn]at h;exact h
end
def AKc (h:Array Obj) (g:Nat) (vs:Array Value):Array Obj:=h.modify g fun
  |.cells _ t frozen=>.cells vs t frozen
  |o=>o
mutual
def AH2:DataW Unit→List Value
  |.lit (.bool b)=>[.bool b]
  |.lit (.int k z)=>[.int k z]
  |.agg ds=>AFc ds
  |_=>[]
def AFc:List (DataW Unit)→List Value
  |[]=>[]
  |d::ds=>AH2 d++AFc ds
end
end Go.VM
