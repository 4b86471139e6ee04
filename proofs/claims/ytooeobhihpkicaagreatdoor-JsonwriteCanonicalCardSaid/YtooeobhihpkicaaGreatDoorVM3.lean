import Derived.Test.YtooeobhihpkicaaGreatDoorVM2
import Derived.Below
import Derived.Deep.Slices
import Derived.ChangeArms
import Derived.ChangeSame
import Derived.DataReads
import Derived.SizedLaws
import Derived.ProofKit
import Derived.ReadAgain
import Derived.LaidLaws
import Derived.Lib.LaidTab
set_option linter.unusedSimpArgs false
set_option linter.unusedVariables false
namespace Go.VM
def Gw (W:World):Ghost:=⟨fun b=>match W.heap[b]? with|some (.cells arr _ _)=>some arr.toList|_=>none,fun _=>none,fun _=>none,fun _=>none,fun _=>none⟩
theorem AMs{E:Env}{W:World} (hT: ∀g cs,E.T g=some cs→Rep (Gw W) (.cptr cs) (.pointer (some ⟨g,0,none⟩))){args:List AVal}{vs:List Value} (h:RepL (Gw W) args vs):Sim E (fun b=>if b<W.heap.size then 1 else 0) (Gw W) ⟨[],0⟩ W (stripL args) vs where
  com_ok b cs hb:=by
    simp only[Gw]at hb
    split at hb
    · rename_i arr e fz hh
      simp only[Option.some.injEq]at hb;subst hb
      exact⟨arr,e,fz,hh,⟨[],by simp⟩,fun T h=>by cases h⟩
    · cases hb
  box_ok p hp:=by simp at hp
  sx_next i v h:=by simp[Gw]at h
  keys:=by simp
  inj i j b h:=by simp[Gw]at h
  bx_lt i b h:=by simp[Gw]at h
  bx_next i b h:=by simp[Gw]at h
  tyd:=⟨fun i x h=>(by cases h),fun b e h=>(by cases h)⟩
  bx_F p b hp:=by simp at hp
  F_lt b hb:=by simp;omega
  glob:=hT
  rep:=h.strip
  own:=Gs _ _ _ _
  tok b:=by rw[GD];simp[BV];split<;>omega
theorem ACall.shell{E:Env}{W:World} (hT: ∀g cs,E.T g=some cs→Rep (Gw W) (.cptr cs) (.pointer (some ⟨g,0,none⟩))){f:FuncId}{args args':List AVal}{cargs:Array Value}{Q:AVal→St→Prop} (hr:RepL (Gw W) args' cargs.toList) (e:stripL args'=args) (h:ACall E f args ⟨[],0⟩ Q):
    Calls E.P f cargs W fun e W'=> ∃v,e=.returned v∧Go.RowKit.Below W.heap.size W W'∧ ∃Γ' r st',Rep Γ' r v∧Q r st':=by
  subst e
  refine(h.go _ _ W cargs (AMs hT hr)).mono ?_
  rintro e W' ⟨v,he,Γ',r,st',hx,_,hs,hq⟩
  refine⟨v,he,⟨hx.os,hx.tape,hx.output,hx.size,fun k hk=>(hx.keep k (by simp[hk])).1⟩,Γ',r,st',?_,hq⟩
  have:=hs.rep
  cases this;assumption
end Go.VM
set_option linter.unusedVariables false
namespace Go.VM
def Rds (P:Program) (t:TypeId) (z:Nat){α:Type} (cells:α→List AVal) (ok:α→Prop) (N:Nat):Prop:=
  ∀(H:Type) (enc:TypeId×Value→H) (w:World) (held:Bool) (n:Nat) (cs:List Value) (x:DataW H×List MemPlace),n≤N→DataW.trod enc P w 0 (fun _=>true) held n t cs=some x→
    (∀y,y∈x.1.weights P t→y≤reachBytes)→cs.length=z∧(∀c,c∈cs→c.oneCell'=true)∧ ∃a:α,RepL (Gw w) (cells a) cs∧ok a
section
variable{P:Program}{t e:TypeId}{N:Nat}
theorem AIp (ht:P.underlying t=some .string):Rds P t 1 (fun s:List UInt8=>[.str s]) (fun s=>s.length≤reachBytes) N:=by
  intro H enc w held n cs x _ h hw
  obtain⟨s,rfl,rfl,hm⟩:=DataW.trod_string ht h
  have hl:s.data.toList.length≤reachBytes:=hw _ (by simp[DataW.weights])
  refine⟨rfl,by simp[Value.oneCell'],s.data.toList,.cons (.str _ ?_) .nil,hl⟩
  have e2:reachBytes≤F5:=by decide
  omega
theorem RepL.app{Γ:Ghost}{xs ys:List AVal}{us vs:List Value} (h:RepL Γ xs us) (k:RepL Γ ys vs):RepL Γ (xs++ys) (us++vs):=by
  induction xs generalizing us with
  |nil=>cases h;exact k
  |cons x xs ih=>cases h with|cons h t=>exact .cons h (ih t)
theorem Rds.mono{α:Type}{cells:α→List AVal}{ok:α→Prop}{z M:Nat} (h:Rds P t z cells ok N) (hm:M≤N):Rds P t z cells ok M:=fun H enc w held n cs x hn=>h H enc w held n cs x (Nat.le_trans hn hm)
end
theorem ABm{H:Type}{P:Program}{ts:List TypeId}{ds:List (DataW H)} (h:(DataW.weightsEach P ts ds).all (· ≤reachBytes)=true){j:Nat}{t:TypeId}{d:DataW H} (ht:ts[j]?=some t) (hd:ds[j]?=some d): ∀y,y∈d.weights P t→y≤reachBytes:=fun y hy=>by
  have:=List.all_eq_true.1 h y (DataW.weights_mem_each ht hd y hy)
  simpa using this
end Go.VM
set_option linter.unusedVariables false
namespace Go.VM
open Go.ChangeShapes Go.WideShapes Go.ChangeAt Go.RowKit
section
variable{H:Type}{enc:TypeId×Value→H}{P:Program}
theorem M5{w w':World}{sp:Nat→Bool}{held:Bool}: ∀ {ts:List TypeId}{vs:List Value}{ds:List (DataW H)}{ps:List MemPlace},DataW.TrodAll enc P w 0 sp held ts vs ds ps→(∀p∈ps,w.sameAt w' p)→DataW.TrodAll enc P w' 0 sp held ts vs ds ps
  |[],[],[],_,h,_=>h
  |_::_,_::_,_::_,_,⟨p,q,⟨n,h1⟩,h2,e⟩,hs=>⟨p,q,⟨n,DataW.trod_carry n _ _ _ h1 (fun x hx=>hs x (by rw[e];exact List.mem_append_left _ hx))⟩,M5 h2 (fun x hx=>hs x (by rw[e];exact List.mem_append_right _ hx)),e⟩
theorem AG6{f:Func}{s:ChangeSpec}{apart fresh handsOn again:Bool}{W W':World}{args:Array Value}{ds:List (DataW H)}{before:List MemPlace}{T:TypeId→Prop}{tb:TypeId}
    (hW:DataW.Whole enc P f.params.toList s.vars apart W args.toList ds [] before) (hv:s.vars=[]) (hb:Below W.heap.size W W')
    (K:Kids P T) (hz: ∀t e,T t→P.underlying t=some (.slice e)→0<P.cellsOf e) (hT: ∀t,t∈f.params.toList→T t)
    (hr:(s.fn H (ds++[])).results=[.lit (.bool true)]) (ha:(s.fn H (ds++[])).args=ds) (hvs:(s.fn H (ds++[])).vars=[])
    (hrt:f.resultTypes= #[tb]) (htb:P.underlying tb=some .bool):s.post enc P f apart fresh handsOn again W args (.bool true) W':=by
  have hlt:=hW.lt
  have hW':=hW
  obtain⟨p,q,hA,hV,hps,hfz,hnd⟩:=hW
  have hq:q=[]:=by
    rw[hv]at hV
    exact hV
  subst hq
  rw[List.append_nil]at hps
  subst hps
  have hk:W.keptBut W' (· ∈before):=hb.frame _
  have hA': ∀sp:Nat→Bool,(∀p∈before,sp p.block=true)→DataW.TrodAll enc P W' 0 sp true f.params.toList args.toList ds before:=by
    intro sp hsp
    refine DataW.TrodAll.respare K hz hT ?_ hsp
    exact M5 hA fun p hp=>hb.same (hlt p hp)
  have hres: ∀(b:Nat) (sp:Nat→Bool) (hd:Bool),DataW.TrodAll enc P W' b sp hd f.resultTypes.toList (Value.resultList f.resultTypes.size (.bool true)) (s.fn H (ds++[])).results []:=by
    intro b sp hd
    rw[hr,hrt]
    exact trodAll_mk1 (shut_bool htb _)
  have hvars: ∀sp:Nat→Bool,DataW.TrodVars enc P W' sp s.vars (s.fn H (ds++[])).vars []:=by
    intro sp;rw[hv,hvs];rfl
  have hold: ∀p∈before,(fun b=>decide (b<W.heap.size)) p.block=true:=fun p hp=>by simpa using hlt p hp
  refine⟨ds,[],before,[],before,[],hW',hres _ _ _,by rw[ha];exact hA' _ hold,hvars _,World.keptBut_mono (fun p hp=>⟨hp,.inr (.inl hp)⟩) hk,fun _=>?_⟩
  refine⟨ok_one hrt (by rfl) (okWide_bool_mk htb _),_,_,([]++before)++[],⟨[]++before,[],trodAll_append (hA' _ (fun _ _=>rfl)) (hres _ _ _),hvars _,rfl,?_,?_⟩,?_⟩
  · intro b off hp
    have hp':MemPlace.cell b off∈before:=by simpa using hp
    have:=hfz b off (by simpa using hp')
    rw[←this]
    exact hb.frozen (hlt _ hp')
  · intro h
    have:=hnd h
    simpa using this
  · intro p hp _
    simpa using hp
end
end Go.VM
set_option linter.unusedVariables false
namespace Go.VM
open Go.Lib
mutual
def Tu (P:Program):Nat→TypeId→DataW Unit→Option (List AVal)
  |0,_,_=>none
  | n+1,t,d=>
    match P.underlying t,d with
    |some .bool,.lit (.bool b)=>some [.bool b]
    |some (.int k),.lit (.int k' z)=>if k'=k then some [.int k z]else none
    |some (.struct fs),.agg ds=>PH P n (P.cellsOf t) 0 (fs.toList.map fun f=>(f.offset,f.type)) ds
    |some (.array m e),.agg ds=>if m * P.cellsOf e=P.cellsOf t then PD P n e m ds else none
    |_,_=>none
def PH (P:Program):Nat→Nat→Nat→List (Nat×TypeId)→List (DataW Unit)→Option (List AVal)
  |_,z,pos,[],[]=>if pos=z then some []else none
  |0,_,_,_,_=>none
  | n+1,z,pos,f::fs,d::ds=>
    if f.1=pos then
      match Tu P n f.2 d,PH P n z (pos+P.cellsOf f.2) fs ds with
      |some x,some y=>if x.length=P.cellsOf f.2 then some (x++y)else none
      |_,_=>none
    else none
  |_,_,_,_,_=>none
def PD (P:Program):Nat→TypeId→Nat→List (DataW Unit)→Option (List AVal)
  |_,_,0,[]=>some []
  |0,_,_,_=>none
  | n+1,e,m+1,d::ds=>
    match Tu P n e d,PD P n e m ds with
    |some x,some y=>if x.length=P.cellsOf e then some (x++y)else none
    |_,_=>none
  |_,_,_,_=>none
end
section
variable{P:Program}{w:World}{base:Nat}{sp:Nat→Bool}{held:Bool}{Γ:Ghost}
def CellsOK (Γ:Ghost) (avs:List AVal) (cs:List Value):Prop:=RepL Γ avs cs∧ ∀v,v∈cs→v.oneCell'=true
theorem CellsOK.app{a b:List AVal}{x y:List Value} (h:CellsOK Γ a x) (k:CellsOK Γ b y):CellsOK Γ (a++b) (x++y):=
  ⟨h.1.append k.1,fun v hv=>(List.mem_append.1 hv).elim (h.2 v) (k.2 v)⟩
theorem Tt{α:Type} (cs:List α) (p z:Nat):(cs.drop p).take z++cs.drop (p+z)=cs.drop p:=by
  rw[←List.drop_drop];exact List.take_append_drop _ _
mutual
theorem Lg: ∀(n:Nat) (t:TypeId) (d:DataW Unit) (avs:List AVal),Tu P n t d=some avs→ ∀(fuel:Nat) (cs:List Value) (p:List MemPlace),DataW.trod (fun _=>()) P w base sp held fuel t cs=some (d,p)→CellsOK Γ avs cs
  |0,t,d,avs,h,fuel,cs,p,k=>by simp[Tu]at h
  | n + 1, t, d,avs,h,fuel,cs,p,k=>by
    unfold Tu at h
    split at h
    · rename_i b hu
      simp only[Option.some.injEq]at h;subst h
      obtain⟨b',rfl,e⟩:=DataW.trod_bool hu k
      cases e
      exact⟨.cons (.bool _) .nil,by simp[Value.oneCell']⟩
    · rename_i kk k' z hu
      split at h
      · rename_i e;subst e
        simp only[Option.some.injEq]at h;subst h
        obtain⟨z',rfl,e,_⟩:=DataW.trod_int hu k
        cases e
        exact⟨.cons (.int _ _) .nil,by simp[Value.oneCell']⟩
      · cases h
    · rename_i fs ds hu
      obtain⟨xs,m,rfl,hx,hl,hxl,hall⟩:=DataW.trod_struct hu k
      have hx1:ds=xs.map (·.1):=by
        have:=congrArg Prod.fst hx
        simpa using this
      have:=PG n (P.cellsOf t) 0 _ ds avs h m cs hl xs hx1 (fun i f hf=>by
        rw[List.getElem?_map,Option.map_eq_some_iff]at hf
        obtain⟨g,hg,rfl⟩:=hf
        exact hall i g (by simpa using hg)) (by simp[hxl])
      simpa using this
    · rename_i m e ds hu
      split at h
      · rename_i hm
        cases fuel with
        |zero=>simp[DataW.trod]at k
        | succ fuel=>
          simp only[DataW.trod,hu]at k
          split at k
          · rename_i hl
            obtain⟨xs,hmap,hx⟩:=Option.map_eq_some_iff.1 k
            have hx1:ds=xs.map (·.1):=by
              have:=congrArg Prod.fst hx
              simpa using this.symm
            have:=O6 n e m ds avs h fuel cs 0 (by rw[hl,←hm];simp) xs hx1 (by have:=mapM_length hmap;simpa using this) (fun i hi=>by
              obtain⟨b,hb,hf⟩:=mapM_at hmap i i (by simp[hi])
              rw[hb,Nat.zero_add];exact hf)
            simpa using this
          · cases k
      · cases h
    · cases h
theorem PG: ∀(n z pos:Nat) (fs:List (Nat×TypeId)) (ds:List (DataW Unit)) (avs:List AVal),PH P n z pos fs ds=some avs→ ∀(fuel:Nat) (cs:List Value),cs.length=z→ ∀xs:List (DataW Unit×List MemPlace),ds=xs.map (·.1)→
      (∀(i:Nat) (f:Nat×TypeId),fs[i]?=some f→DataW.trod (fun _=>()) P w base sp held fuel f.2 ((cs.drop f.1).take (P.cellsOf f.2))=xs[i]?)→xs.length=fs.length→CellsOK Γ avs (cs.drop pos)
  | n,z,pos,[],[],avs,h,fuel,cs,hl,xs,hd,hall,hxl=>by
    have:PH P n z pos [] []=if pos=z then some []else none:=by cases n<;>rfl
    rw[this]at h
    split at h
    · rename_i e
      simp only[Option.some.injEq]at h;subst h
      rw[List.drop_of_length_le (by omega)]
      exact⟨.nil,by simp⟩
    · cases h
  |n,z,pos,[],d::ds,avs,h,fuel,cs,hl,xs,hd,hall,hxl=>by cases n<;>simp[PH]at h
  |n,z,pos,f::fs,[],avs,h,fuel,cs,hl,xs,hd,hall,hxl=>by cases n<;>simp[PH]at h
  |0,z,pos,f::fs,d::ds,avs,h,fuel,cs,hl,xs,hd,hall,hxl=>by simp[PH]at h
  | n + 1, z, pos,f::fs,d::ds,avs,h,fuel,cs,hl,xs,hd,hall,hxl=>by
    unfold PH at h
    split at h
    · rename_i hp
      split at h
      · rename_i x y h1 h2
        split at h
        · rename_i hxlen
          simp only[Option.some.injEq]at h;subst h
          cases xs with
          |nil=>simp at hd
          | cons b xs=>
            simp only[List.map_cons,List.cons.injEq]at hd
            have h0:=hall 0 f rfl
            simp only[List.getElem?_cons_zero]at h0
            obtain⟨bd,bp⟩:=b
            obtain⟨hd1,hd2⟩:=hd
            simp only at hd1;subst hd1
            have r1:=Lg n f.2 _ x h1 fuel _ bp h0
            have r2:=PG n z (pos+P.cellsOf f.2) fs ds y h2 fuel cs hl xs hd2 (fun i g hg=>by
              have:=hall (i+1) g (by simpa using hg)
              simpa using this) (by simpa using hxl)
            have:=r1.app r2
            rw[hp,Tt]at this
            exact this
        · cases h
      · cases h
    · cases h
theorem O6: ∀(n:Nat) (e:TypeId) (m:Nat) (ds:List (DataW Unit)) (avs:List AVal),PD P n e m ds=some avs→ ∀(fuel:Nat) (cs:List Value) (s:Nat),cs.length=(s+m) * P.cellsOf e→ ∀xs:List (DataW Unit×List MemPlace),ds=xs.map (·.1)→xs.length=m→
      (∀i,i<m→DataW.trod (fun _=>()) P w base sp held fuel e ((cs.drop ((s+i) * P.cellsOf e)).take (P.cellsOf e))=xs[i]?)→CellsOK Γ avs (cs.drop (s * P.cellsOf e))
  | n,e,0,[],avs,h,fuel,cs,s,hl,xs,hd,hxl,hall=>by
    have:PD P n e 0 []=some []:=by cases n<;>rfl
    rw[this]at h
    simp only[Option.some.injEq]at h;subst h
    rw[List.drop_of_length_le (by simp[hl])]
    exact⟨.nil,by simp⟩
  |n,e,0,d::ds,avs,h,fuel,cs,s,hl,xs,hd,hxl,hall=>by cases n<;>simp[PD]at h
  |n,e,m+1,[],avs,h,fuel,cs,s,hl,xs,hd,hxl,hall=>by cases n<;>simp[PD]at h
  |0,e,m+1,d::ds,avs,h,fuel,cs,s,hl,xs,hd,hxl,hall=>by simp[PD]at h
  | n+1,e,m+1,d::ds,avs,h,fuel,cs,s,hl,xs,hd,hxl,hall=>by
    unfold PD at h
    split at h
    · rename_i x y h1 h2
      split at h
      · rename_i hxlen
        simp only[Option.some.injEq]at h;subst h
        cases xs with
        |nil=>simp at hd
        | cons b xs=>
          simp only[List.map_cons,List.cons.injEq]at hd
          have h0:=hall 0 (by omega)
          simp only[List.getElem?_cons_zero,Nat.add_zero]at h0
          obtain⟨bd,bp⟩:=b
          obtain⟨hd1,hd2⟩:=hd
          simp only at hd1;subst hd1
          have r1:=Lg n e _ x h1 fuel _ bp h0
          have r2:=O6 n e m ds y h2 fuel cs (s+1) (by rw[hl];congr 1;omega) xs hd2 (by simpa using hxl) (fun i hi=>by
            have:=hall (i+1) (by omega)
            simp only[List.getElem?_cons_succ]at this
            rw[←this,show s+(i+1)=s+1+i by omega])
          have:=r1.app r2
          rw[Nat.succ_mul,Tt]at this
          exact this
      · cases h
    · cases h
end
theorem laidMetH.met{laid:List (String×DataW Unit)} (h:laidMetH P laid w) (hn:(laid.filter fun x=>x.2.handleName?.isSome)=[]):laidMet P laid w:=by
  unfold laidMetH at h;rw[hn]at h;exact h
theorem Lx: ∀ {l:List (String×DataW Unit)}{ps:List MemPlace},DataW.LaidVars P w l ps→ ∀(i:Nat) (n:String) (d:DataW Unit),l[i]?=some (n,d)→
    ∃g t cs fuel p,P.globalNamed n=some g∧(P.globals[g]?).map (·.type)=some t∧w.var? P n=some cs∧DataW.trod (fun _=>()) P w 0 (fun _=>true) false fuel t cs.toList=some (d,p)
  |[],_,_,_,_,_,hm=>by simp at hm
  | (n',d')::r,ps,h,i,n,d,hm=>by
    obtain⟨g,t,cs,fuel,p,q,h1,h2,h3,h4,h5,_⟩:=h
    cases i with
    | zero=>
      simp only[List.getElem?_cons_zero,Option.some.injEq,Prod.mk.injEq]at hm
      obtain⟨rfl,rfl⟩:=hm
      exact⟨g,t,cs,fuel,p,h1,h2,h3,h4⟩
    |succ i=>exact Lx h5 i n d (by simpa using hm)
theorem AEl{laid:List (String×DataW Unit)}{name:String}{d:DataW Unit}{g:Nat}{t:TypeId}{avs:List AVal}{n i:Nat} (hL:laidMet P laid w) (hm:laid[i]?=some (name,d)) (hg:P.globalNamed name=some g) (hty:(P.globals[g]?).map (·.type)=some t)
    (hf:Tu P n t d=some avs):Rep (Gw w) (.cptr avs) (.pointer (some ⟨g,0,none⟩)):=by
  obtain⟨ps,hv,_⟩:=hL
  obtain⟨g',t',cs,fuel,p,h1,h2,h3,h4⟩:=Lx hv i name d hm
  obtain rfl:=Option.some.inj (hg.symm.trans h1)
  obtain rfl:=Option.some.inj (hty.symm.trans h2)
  have hr:=Lg (Γ:=Gw w) n t d avs hf fuel _ p h4
  have hh:(Gw w).com g=some cs.toList:=by
    unfold World.var? at h3
    rw[hg]at h3
    simp only[Option.bind_some]at h3
    simp only[Gw]
    cases hw:w.heap[g]? with
    |none=>rw[hw]at h3;cases h3
    | some o=>
      rw[hw]at h3
      cases o<;>simp at h3
      subst h3;rfl
  exact .cptr (rest:=[]) hh (by simp) hr.1 hr.2
end
def AHh (h:Array Obj) (g:Nat) (vs:Array Value):Array Obj:=h.modify g fun
  |.cells _ t frozen=>.cells vs t frozen
  |o=>o
mutual
def ABu:DataW Unit→List Value
  |.lit (.bool b)=>[.bool b]
  |.lit (.int k z)=>[.int k z]
  |.agg ds=>AF2 ds
  |_=>[]
def AF2:List (DataW Unit)→List Value
  |[]=>[]
  |d::ds=>ABu d++AF2 ds
end
end Go.VM
