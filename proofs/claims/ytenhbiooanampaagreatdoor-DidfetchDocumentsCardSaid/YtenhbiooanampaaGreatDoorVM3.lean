import Derived.Test.YtenhbiooanampaaGreatDoorVM2
import Derived.Below
import Derived.Deep.Slices
import Derived.ChangeArms
import Derived.ChangeSame
import Derived.DataReads
import Derived.SizedLaws
import Derived.ProofKit
import Derived.ReadAgain
import GoSem.ClaimSeven
import Derived.LaidLaws
import Derived.Lib.LaidTab
set_option linter.defProp false
set_option linter.unusedSimpArgs false
set_option linter.unusedVariables false
namespace Go.VM
def GA (W:World):Ghost:=⟨λb=>match W.heap[b]? with|some (.cells arr _ _)=>some arr.toList|_=>none,λ_=>none,λ_=>none,λ_=>none,λ_=>none⟩
def AzT{E:Env}{W:World} (hT: ∀g cs,E.T g=some cs->Rep (GA W) (.cptr cs) (.pointer (some ⟨g,0,none⟩))){args:List AVal}{vs:List Value} (h:RepL (GA W) args vs):Sim E (λb=>if b<W.heap.size then 1 else 0) (GA W) ⟨[],0⟩ W (stripL args) vs where
  com_ok b cs hb:=by
    simp only[GA]at hb
    split at hb
    . rename_i arr e fz hh
      simp only[ag]at hb;subst hb
      exact⟨arr,e,fz,hh,⟨[],fI⟩,λT h=>by cases h⟩
    grind
  box_ok p hp:=by grind
  sx_next i v h:=by grind[GA]
  keys:=fI
  inj i j b h:=by grind[GA]
  bx_lt i b h:=by grind[GA]
  bx_next i b h:=by grind[GA]
  tyd:=⟨λi x h=>(by cases h),λb e h=>(by cases h)⟩
  bx_F p b hp:=by grind
  F_lt b hb:=by grind
  glob:=hT
  rep:=h.strip
  own:=J8 _ _ _ _
  tok b:=by rw[Ig];simp[Ap];split<;>omega
def ACall.shell{E:Env}{W:World} (hT: ∀g cs,E.T g=some cs->Rep (GA W) (.cptr cs) (.pointer (some ⟨g,0,none⟩))){f:FuncId}{args args':List AVal}{cargs:Array Value}{Q:AVal->St->Prop} (hr:RepL (GA W) args' cargs.toList) (e:stripL args'=args) (h:ACall E f args ⟨[],0⟩ Q):Calls E.P f cargs W λe W'=>∃v,e=.returned v/\Go.RowKit.Below W.heap.size W W'/\∃O' r st',Rep O' r v/\Q r st':=by subst e;refine(h.go _ _ W cargs (AzT hT hr)).mono ?_;rintro e W' ⟨v,he,O',r,st',hx,_,hs,hq⟩;refine⟨v,he,⟨hx.os,hx.tape,hx.output,hx.size,λk hk=>(hx.keep k (by grind)).1⟩,O',r,st',?_,hq⟩;have:=hs.rep;cases this;omega
end Go.VM
namespace Go.VM
def Rds (P:Program) (t:TypeId) (z:Nat){α:Type} (cells:α->List AVal) (ok:α->Prop) (N:Nat):Prop:=∀(H:Type) (enc:TypeId×Value->H) (w:World) (held:Bool) (n:Nat) (cs:List Value) (x:DataW H×List MemPlace),n<=N->DataW.trod enc P w 0 (λ_=>true) held n t cs=some x->(∀y,y∈x.1.weights P t->y<=reachBytes)->cs.length=z/\(∀c,c∈cs->c.oneCell'=true)/\∃a:α,RepL (GA w) (cells a) cs/\ok a
section
variable{P:Program}{t e:TypeId}{N:Nat}
def AF8{k:IntKind} (ht:P.underlying t=some (.int k)):Rds P t 1 (λn:Int=>[.int k n]) (λn=>(Lit.int k n).wf=true) N:=by intro H enc w held n cs x _ h _;obtain⟨b,rfl,_,hw⟩:=DataW.trod_int ht h;exact⟨rfl,by simp[Value.oneCell'],b,.cons (.int _ _) .nil,hw⟩
def AaJ (ht:P.underlying t=some .string):Rds P t 1 (λs:B8=>[.str s]) (λs=>s.length<=reachBytes) N:=by intro H enc w held n cs x _ h hw;obtain⟨s,rfl,rfl,hm⟩:=DataW.trod_string ht h;have hl:s.data.toList.length<=reachBytes:=hw _ (by simp[DataW.weights]);refine⟨rfl,by simp[Value.oneCell'],s.data.toList,.cons (.str _ ?_) .nil,hl⟩;grind[reachBytes,CX]
theorem cells?_get{w:World}{a:Addr}{n:Nat}{cs:List Value} (h:w.cells? 0 a n=some cs):cs.length=n/\∀i,i<n->w.cell? (a.add i)=cs[i]?:=by unfold World.cells? at h;rw[an (aK _)]at h;have h1:=mapM_some_length h;rw[List.length_range]at h1;exact⟨h1,λi hi=>mapM_some_get h i i (by grind)⟩
def T9{H:Type}{d:DataW H}{y:Nat} (hy:y∈d.weights P e): ∀ {l:List (DataW H)},d∈l->y∈DataW.weightsAll P e l
 |[],h=>by grind
 |x::l,h=>by
  rw[DataW.weightsAll];rcases aM.1 h with rfl|h;·grind
  ·exact cJ _ (T9 hy h)
def AgO{α:Type}{cells:α->List AVal}{ok:α->Prop}{z:Nat} (ht:P.underlying t=some (.slice e)) (hz:P.cellsOf e=z) (hz0:0<z) (hb:1<=P.bytesOf e) (he:Rds P e z cells ok N) (f:α->AVal) (hf: ∀O a cs,RepL O (cells a) cs->cs.length=z->(∀c,c∈cs->c.oneCell'=true)->∃v:Value,Rep O (f a) v/\v.cells.toList=cs):Rds P t 1 (λl:List α=>[.slice z (l.map f) false]) (λl=>l.length<=reachBytes/\∀a,a∈l->ok a) (N+1):=by
 subst hz;intro H enc w held n cs x hn h hw;rcases DataW.trod_slice ht h with⟨rfl,rfl⟩|⟨a,len,cap,elems,rest,n',rfl,rfl,rfl,_,hlc,hcm,hlen,hel,hsr,_⟩;·exact⟨rfl,by simp[Value.oneCell'],[],.cons (.snil _ _ _) .nil,fI,fI⟩
 ·refine ⟨rfl,by simp[Value.oneCell'],?_⟩;simp only[DataW.weights,ht]at hw;have hle:len<=reachBytes:=by have h1:=hw _ (dK ..);simp only[cp,hlen]at h1;have h2:(len+rest.length) * 1<=(len+rest.length) * P.bytesOf e:=Nat.mul_le_mul_left _ hb;omega
  have hN:reachBytes<=CX:=fJ;have elem: ∀i,i<len->∃c:List Value,w.cells? 0 (a.add (i * P.cellsOf e)) (P.cellsOf e)=some c/\c.length=P.cellsOf e/\(∀u,u∈c->u.oneCell'=true)/\∃b,RepL (GA w) (cells b) c/\ok b:=by intro i hi;have h1:=hel i hi;rw[aS fH]at h1;obtain⟨c,h2,h3⟩:=c7.1 h1;obtain⟨k1,k2,k3⟩:=he H enc w held n' c _ fH h3 (λy hy=>hw y (aX _ (cQ _ (T9 hy (eu (List.getElem_mem _))))));grind
  rcases eM cap with h0|hpos;·subst h0;obtain rfl:len=0:=fH;exact⟨[],.cons (.snil _ _ _) .nil,fI,fI⟩
  ·obtain⟨c0,h2,h3⟩: ∃c0,w.cells? 0 (a.add (0 * P.cellsOf e)) (P.cellsOf e)=some c0/\c0.length=P.cellsOf e:=by
    rcases eM len with h0|hl;·subst h0;obtain⟨r1,r2⟩:=hsr rfl;grind[List.getElem?_eq_getElem,Option.bind_eq_some_iff,cells?_get]
    grind
   obtain⟨_,g0⟩:=cells?_get h2;have g1:=g0 0 hz0;rw[aS fH]at g1;have ea:(a.add (0 * P.cellsOf e)).add 0=a:=by simp[Addr.add]
   rw[ea]at g1;unfold World.cell? at g1;split at g1
   ·rename_i arr el fz hh;split at g1;·grind
    ·rename_i hsp;have hsp':a.spot=none:=by simp_all
     obtain⟨ab,ao,asp⟩:=a;simp only at hsp' hh;subst hsp';have hcom:(GA w).com ab=some arr.toList:=by grind[GA]
     have cellEq: ∀j,w.cell? ⟨ab,j,none⟩=arr.toList[j]?:=by grind[World.cell?]
     have key: ∀k,k<=len->∃l:List α,l.length=k/\(∀b,b∈l->ok b)/\RepS (GA w) (P.cellsOf e) (l.map f) (arr.toList.drop (ao+(len-k) * P.cellsOf e)):=by
      intro k;induction k with
      |zero=>intro _;exact⟨[],rfl,fI,.nil _ _⟩
      | succ k ih=>
       intro hk;obtain⟨l,l1,l2,l3⟩:=ih fH;obtain⟨c,c1,c2,c3,b,c4,c5⟩:=elem (len-(k+1)) fH;obtain⟨v,v1,v2⟩:=hf _ b c c4 c2 c3;refine⟨b::l,by grind,?_,?_⟩;·simp_all
       ·obtain⟨_,g⟩:=cells?_get c1;have hd:arr.toList.drop (ao+(len-(k+1)) * P.cellsOf e)=c++arr.toList.drop (ao+(len-k) * P.cellsOf e):=by
         have e1:(len-k) * P.cellsOf e=(len-(k+1)) * P.cellsOf e+P.cellsOf e:=by rw[show len-k=len-(k+1)+1 by omega,bG]
         rw[e1,<-cG,<-aT (i:=P.cellsOf e)];generalize hD:arr.toList.drop (ao+(len-(k+1)) * P.cellsOf e)=D;have:D.take (P.cellsOf e)=c:=by
          apply cd;intro i;rw[dc];split;·rename_i hi;rw[<-g i hi,<-hD,bV,addr_add,addr_add,cellEq]
          grind
         grind[List.take_append_drop]
        rw[hd,aF,<-v2];refine .cons v1 ⟨?_,?_⟩ l3<;>grind[Array.length_toList]
     obtain⟨l,l1,l2,l3⟩:=key len (av _);rw[dv,eA,bW]at l3;exact⟨l,.cons (.slice false hcom (by grind) ⟨hlc,fH⟩ l3 (λh=>by cases h)) .nil,fH,l2⟩
   grind
def RF (P:Program) (Fs:List Field) (o z:Nat){β:Type} (cells:β->List AVal) (ok:β->Prop) (N:Nat):Prop:=∀(H:Type) (enc:TypeId×Value->H) (w:World) (held:Bool) (n:Nat) (cs:List Value) (xs:List (DataW H×List MemPlace)),n<=N->xs.length=Fs.length->o+z<=cs.length->(∀(i:Nat) (f:Field),Fs[i]?=some f->DataW.trod enc P w 0 (λ_=>true) held n f.type ((cs.drop f.offset).take (P.cellsOf f.type))=xs[i]?)->(∀y,y∈DataW.weightsEach P (Fs.map (·.type)) (xs.map (·.1))->y<=reachBytes)->(∀c,c∈(cs.drop o).take z->c.oneCell'=true)/\∃b:β,RepL (GA w) (cells b) ((cs.drop o).take z)/\ok b
def AvV{o:Nat}:RF P [] o 0 (λ_:Unit=>[]) (λ_=>True) N:=by intro H enc w held n cs xs _ _ _ _ _;simp only[dr];exact⟨fI,(),.nil,trivial⟩
def RepL.app{O:Ghost}{xs ys:List AVal}{us vs:List Value} (h:RepL O xs us) (k:RepL O ys vs):RepL O (xs++ys) (us++vs):=by induction xs generalizing us with|nil=>cases h;exact k|cons x xs ih=>cases h with|cons h t=>exact .cons h (ih t)
def AZx{f:Field}{Fs:List Field}{o s z:Nat}{α β:Type}{ca:α->List AVal}{oa:α->Prop}{cb:β->List AVal}{ob:β->Prop} (ho:f.offset=o) (hs:P.cellsOf f.type=s) (ha:Rds P f.type s ca oa N) (hb:RF P Fs (o+s) z cb ob N):RF P (f::Fs) o (s+z) (λp:α×β=>ca p.1++cb p.2) (λp=>oa p.1/\ob p.2) N:=by
 subst ho;subst hs;intro H enc w held n cs xs hn hl hle hx hw;cases xs with
 |nil=>grind
 |cons x xs=>
  have h0:=hx 0 f rfl;simp only[cm]at h0;simp only[aF,DataW.weightsEach]at hw;obtain⟨a1,a2,a,a3,a4⟩:=ha H enc w held n _ x hn h0 (λy hy=>hw y (cQ _ hy));obtain⟨b1,b,b2,b3⟩:=hb H enc w held n cs xs hn (by grind) fH (λi g hg=>by simpa using hx (i+1) g (by grind)) (λy hy=>hw y (cJ _ hy));have e:(cs.drop f.offset).take (P.cellsOf f.type+z)=(cs.drop f.offset).take (P.cellsOf f.type)++(cs.drop (f.offset+P.cellsOf f.type)).take z:=by rw[List.take_add,aT]
  rw[e];refine⟨λc hc=>?_,(a,b),a3.app b2,a4,b3⟩;grind
def AWS{fs:Array Field}{z:Nat}{β γ:Type}{cells:β->List AVal}{ok:β->Prop} (ht:P.underlying t=some (.struct fs)) (hz:P.cellsOf t=z) (hf:RF P fs.toList 0 z cells ok N){cg:γ->List AVal}{og:γ->Prop} (g:β->γ) (h1: ∀b,cg (g b)=cells b) (h2: ∀b,ok b->og (g b)):Rds P t z cg og (N+1):=by intro H enc w held n cs x hn h hw;obtain⟨xs,n',rfl,rfl,hl,hxl,hx⟩:=DataW.trod_struct ht h;simp only[DataW.weights,ht]at hw;obtain⟨k1,b,k2,k3⟩:=hf H enc w held n' cs xs fH fH fH (λi f hi=>hx i f (by grind)) hw;grind
def Rds.mono{α:Type}{cells:α->List AVal}{ok:α->Prop}{z M:Nat} (h:Rds P t z cells ok N) (hm:M<=N):Rds P t z cells ok M:=λH enc w held n cs x hn=>h H enc w held n cs x (bJ hn hm)
def AVB{α:Type}{cells:α->List AVal}{ok:α->Prop}{z:Nat}:Rds P t z cells ok 0:=by intro H enc w held n cs x hn h;obtain rfl:n=0:=fH;simp[DataW.trod]at h
end
def ABX{P:Program}{t e:TypeId}{α:Type}{cells:α->List AVal}{ok:α->Prop}{z:Nat} (ht:P.underlying t=some (.slice e)) (hz:P.cellsOf e=z) (hz0:0<z) (hb:1<=P.bytesOf e) (he: ∀N,Rds P e z cells ok N) (f:α->AVal) (hf: ∀O a cs,RepL O (cells a) cs->cs.length=z->(∀c,c∈cs->c.oneCell'=true)->∃v:Value,Rep O (f a) v/\v.cells.toList=cs):∀N,Rds P t 1 (λl:List α=>[.slice z (l.map f) false]) (λl=>l.length<=reachBytes/\∀a,a∈l->ok a) N|0=>AVB|N+1=>AgO ht hz hz0 hb (he N) f hf
def APn{P:Program}{t:TypeId}{fs:Array Field}{z:Nat}{β γ:Type}{cells:β->List AVal}{ok:β->Prop} (ht:P.underlying t=some (.struct fs)) (hz:P.cellsOf t=z) (hf: ∀N,RF P fs.toList 0 z cells ok N){cg:γ->List AVal}{og:γ->Prop} (g:β->γ) (h1: ∀b,cg (g b)=cells b) (h2: ∀b,ok b->og (g b)): ∀N,Rds P t z cg og N|0=>AVB|N+1=>AWS ht hz (hf N) g h1 h2
def one_cell{α:Type} (f:α->AVal): ∀(O:Ghost) (a:α) (cs:List Value),RepL O [f a] cs->cs.length=1->(∀c,c∈cs->c.oneCell'=true)->∃v:Value,Rep O (f a) v/\v.cells.toList=cs:=by intro O a cs h hl ho;clear hl;cases h with|cons h t=>cases t;rename_i v;refine⟨v,h,?_⟩;have:=ho v fI;cases v<;>simp[Value.oneCell']at this<;>rfl
def AZI{P:Program}{t:TypeId}{fs:Array Field}{W:World}{r:Reach}{base:Nat}{O:Ghost}{xs:List AVal}{v:Value} (ht:P.underlying t=some (.struct fs)) (hval:Value.okWide P W r base t v) (hr:RepL O xs v.cells.toList) (ho: ∀c,c∈v.cells.toList->c.oneCell'=true):Rep O (.agg xs) v:=by unfold Value.okWide at hval;rw[ht]at hval;obtain⟨cs,rfl,_⟩:=hval;exact .agg hr ho
def TM{H:Type}{P:Program}{ts:List TypeId}{ds:List (DataW H)} (h:(DataW.weightsEach P ts ds).all (· <=reachBytes)=true){j:Nat}{t:TypeId}{d:DataW H} (ht:ts[j]?=some t) (hd:ds[j]?=some d): ∀y,y∈d.weights P t->y<=reachBytes:=λy hy=>by have:=aL.1 h y (DataW.weights_mem_each ht hd y hy);grind
end Go.VM
namespace Go.VM
open Go.ChangeShapes Go.WideShapes Go.ChangeAt Go.RowKit
section
variable{H:Type}{enc:TypeId×Value->H}{P:Program}
def V3{w w':World}{sp:Nat->Bool}{held:Bool}: ∀ {ts:List TypeId}{vs:List Value}{ds:List (DataW H)}{ps:List MemPlace},DataW.TrodAll enc P w 0 sp held ts vs ds ps->(∀p∈ps,w.sameAt w' p)->DataW.TrodAll enc P w' 0 sp held ts vs ds ps|[],[],[],_,h,_=>h|_::_,_::_,_::_,_,⟨p,q,⟨n,h1⟩,h2,e⟩,hs=>⟨p,q,⟨n,DataW.trod_carry n _ _ _ h1 (λx hx=>hs x (by grind))⟩,V3 h2 (λx hx=>hs x (by grind)),e⟩
def AnH{f:Func}{s:ChangeSpec}{apart fresh handsOn again:Bool}{W W':World}{args:Array Value}{ds:List (DataW H)}{before:List MemPlace}{T:TypeId->Prop}{tb:TypeId} (hW:DataW.Whole enc P f.params.toList s.vars apart W args.toList ds [] before) (hv:s.vars=[]) (hb:Below W.heap.size W W') (K:Kids P T) (hz: ∀t e,T t->P.underlying t=some (.slice e)->0<P.cellsOf e) (hT: ∀t,t∈f.params.toList->T t) (hr:(s.fn H (ds++[])).results=[.lit (.bool true)]) (ha:(s.fn H (ds++[])).args=ds) (hvs:(s.fn H (ds++[])).vars=[]) (hrt:f.resultTypes= #[tb]) (htb:P.underlying tb=some .bool):s.post enc P f apart fresh handsOn again W args (.bool true) W':=by
 have hlt:=hW.lt;have hW':=hW;obtain⟨p,q,hA,hV,hps,hfz,hnd⟩:=hW;have hq:q=[]:=by rw[hv]at hV;exact hV
 subst hq;rw[bo]at hps;subst hps;have hk:W.keptBut W' (· ∈before):=hb.frame _;have hA': ∀sp:Nat->Bool,(∀p∈before,sp p.block=true)->DataW.TrodAll enc P W' 0 sp true f.params.toList args.toList ds before:=by intro sp hsp;refine DataW.TrodAll.respare K hz hT ?_ hsp;exact V3 hA λp hp=>hb.same (hlt p hp)
 have hres: ∀(b:Nat) (sp:Nat->Bool) (hd:Bool),DataW.TrodAll enc P W' b sp hd f.resultTypes.toList (Value.resultList f.resultTypes.size (.bool true)) (s.fn H (ds++[])).results []:=by intro b sp hd;rw[hr,hrt];exact trodAll_mk1 (shut_bool htb _)
 have hvars: ∀sp:Nat->Bool,DataW.TrodVars enc P W' sp s.vars (s.fn H (ds++[])).vars []:=by intro sp;rw[hv,hvs];rfl
 have hold: ∀p∈before,(λb=>decide (b<W.heap.size)) p.block=true:=λp hp=>by grind
 refine⟨ds,[],before,[],before,[],hW',hres _ _ _,by grind,hvars _,World.keptBut_mono (λp hp=>⟨hp,.inr (.inl hp)⟩) hk,λ_=>?_⟩;refine⟨ok_one hrt (by rfl) (okWide_bool_mk htb _),_,_,([]++before)++[],⟨[]++before,[],trodAll_append (hA' _ (λ_ _=>rfl)) (hres _ _ _),hvars _,rfl,?_,?_⟩,?_⟩
 ·intro b off hp;have hp':MemPlace.cell b off∈before:=by grind
  have:=hfz b off fH;rw[<-this];exact hb.frozen (hlt _ hp')
 ·grind
 grind
end
end Go.VM
namespace Go.VM
open Go.Lib
mutual def AFZ (P:Program):Nat->TypeId->DataW Unit->Option (List AVal)|0,_,_=>none|n+1,t,d=>match P.underlying t,d with|some .bool,.lit (.bool b)=>some [.bool b]|some (.int k),.lit (.int k' z)=>if k'=k then some [.int k z]else none|some (.struct fs),.agg ds=>Zt P n (P.cellsOf t) 0 (fs.toList.map λf=>(f.offset,f.type)) ds|some (.array m e),.agg ds=>if m * P.cellsOf e=P.cellsOf t then Zj P n e m ds else none|_,_=>none def Zt (P:Program):Nat->Nat->Nat->List (Nat×TypeId)->List (DataW Unit)->Option (List AVal)
 |_,z,pos,[],[]=>if pos=z then some []else none
 |0,_,_,_,_=>none
 |n+1,z,pos,f::fs,d::ds=>if f.1=pos then match AFZ P n f.2 d,Zt P n z (pos+P.cellsOf f.2) fs ds with|some x,some y=>if x.length=P.cellsOf f.2 then some (x++y)else none|_,_=>none else none
 |_,_,_,_,_=>none def Zj (P:Program):Nat->TypeId->Nat->List (DataW Unit)->Option (List AVal)
 |_,_,0,[]=>some []
 |0,_,_,_=>none
 |n+1,e,m+1,d::ds=>match AFZ P n e d,Zj P n e m ds with|some x,some y=>if x.length=P.cellsOf e then some (x++y)else none|_,_=>none
 |_,_,_,_=>none end
section
variable{P:Program}{w:World}{base:Nat}{sp:Nat->Bool}{held:Bool}{O:Ghost}
def CellsOK (O:Ghost) (avs:List AVal) (cs:List Value):Prop:=RepL O avs cs/\ ∀v,v∈cs->v.oneCell'=true
theorem CellsOK.app{a b:List AVal}{x y:List Value} (h:CellsOK O a x) (k:CellsOK O b y):CellsOK O (a++b) (x++y):=⟨h.1.append k.1,λv hv=>(aZ.1 hv).elim (h.2 v) (k.2 v)⟩
theorem AEf{α:Type} (cs:List α) (p z:Nat):(cs.drop p).take z++cs.drop (p+z)=cs.drop p:=by grind[List.drop_drop,List.take_append_drop]
mutual theorem Uc: ∀(n:Nat) (t:TypeId) (d:DataW Unit) (avs:List AVal),AFZ P n t d=some avs->∀(fuel:Nat) (cs:List Value) (p:List MemPlace),DataW.trod (λ_=>()) P w base sp held fuel t cs=some (d,p)->CellsOK O avs cs
 |0,t,d,avs,h,fuel,cs,p,k=>by simp[AFZ]at h
 | n+1,t,d,avs,h,fuel,cs,p,k=>by
  unfold AFZ at h;split at h;·rename_i b hu;simp only[ag]at h;subst h;obtain⟨b',rfl,e⟩:=DataW.trod_bool hu k;cases e;exact⟨.cons (.bool _) .nil,by simp[Value.oneCell']⟩
  ·rename_i kk k' z hu;split at h;·rename_i e;subst e;simp only[ag]at h;subst h;obtain⟨z',rfl,e,_⟩:=DataW.trod_int hu k;cases e;exact⟨.cons (.int _ _) .nil,by simp[Value.oneCell']⟩
   grind
  ·rename_i fs ds hu;obtain⟨xs,m,rfl,hx,hl,hxl,hall⟩:=DataW.trod_struct hu k;have hx1:ds=xs.map (·.1):=by simp_all
   have:=Zl n (P.cellsOf t) 0 _ ds avs h m cs hl xs hx1 (λi f hf=>by rw[List.getElem?_map,aV]at hf;obtain⟨g,hg,rfl⟩:=hf;grind) (by grind);grind
  ·rename_i m e ds hu;split at h
   ·rename_i hm;cases fuel with
    |zero=>simp[DataW.trod]at k
    | succ fuel=>
     simp only[DataW.trod,hu]at k;split at k
     ·rename_i hl;obtain⟨xs,hmap,hx⟩:=aV.1 k;have hx1:ds=xs.map (·.1):=by simp_all
      have:=AAJ n e m ds avs h fuel cs 0 (by grind) xs hx1 (by have:=mapM_length hmap;grind) (λi hi=>by obtain⟨b,hb,hf⟩:=mapM_at hmap i i (by grind);simp_all);grind
     grind
   grind
  grind theorem Zl: ∀(n z pos:Nat) (fs:List (Nat×TypeId)) (ds:List (DataW Unit)) (avs:List AVal),Zt P n z pos fs ds=some avs->∀(fuel:Nat) (cs:List Value),cs.length=z->∀xs:List (DataW Unit×List MemPlace),ds=xs.map (·.1)->(∀(i:Nat) (f:Nat×TypeId),fs[i]?=some f->DataW.trod (λ_=>()) P w base sp held fuel f.2 ((cs.drop f.1).take (P.cellsOf f.2))=xs[i]?)->xs.length=fs.length->CellsOK O avs (cs.drop pos)
 |n,z,pos,[],[],avs,h,fuel,cs,hl,xs,hd,hall,hxl=>by
  have:Zt P n z pos [] []=if pos=z then some []else none:=by cases n<;>rfl
  rw[this]at h;split at h;·rename_i e;simp only[ag]at h;subst h;rw[bK fH];exact⟨.nil,fI⟩
  grind
 |n,z,pos,[],d::ds,avs,h,fuel,cs,hl,xs,hd,hall,hxl=>by cases n<;>simp[Zt]at h
 |n,z,pos,f::fs,[],avs,h,fuel,cs,hl,xs,hd,hall,hxl=>by cases n<;>simp[Zt]at h
 |0,z,pos,f::fs,d::ds,avs,h,fuel,cs,hl,xs,hd,hall,hxl=>by grind[Zt]
 | n+1,z,pos,f::fs,d::ds,avs,h,fuel,cs,hl,xs,hd,hall,hxl=>by
  unfold Zt at h;split at h
  ·rename_i hp;split at h
   ·rename_i x y h1 h2;split at h;·rename_i hxlen;simp only[ag]at h;subst h;cases xs with|nil=>grind|cons b xs=>simp only[aF,dg]at hd;have h0:=hall 0 f rfl;simp only[cm]at h0;obtain⟨bd,bp⟩:=b;obtain⟨hd1,hd2⟩:=hd;simp only at hd1;subst hd1;have r1:=Uc n f.2 _ x h1 fuel _ bp h0;have r2:=Zl n z (pos+P.cellsOf f.2) fs ds y h2 fuel cs hl xs hd2 (λi g hg=>by have:=hall (i+1) g (by grind);grind) (by grind);have:=r1.app r2;grind[AEf]
    grind
   grind
  grind theorem AAJ: ∀(n:Nat) (e:TypeId) (m:Nat) (ds:List (DataW Unit)) (avs:List AVal),Zj P n e m ds=some avs->∀(fuel:Nat) (cs:List Value) (s:Nat),cs.length=(s+m) * P.cellsOf e->∀xs:List (DataW Unit×List MemPlace),ds=xs.map (·.1)->xs.length=m->(∀i,i<m->DataW.trod (λ_=>()) P w base sp held fuel e ((cs.drop ((s+i) * P.cellsOf e)).take (P.cellsOf e))=xs[i]?)->CellsOK O avs (cs.drop (s * P.cellsOf e))
 |n,e,0,[],avs,h,fuel,cs,s,hl,xs,hd,hxl,hall=>by
  have:Zj P n e 0 []=some []:=by cases n<;>rfl
  rw[this]at h;simp only[ag]at h;subst h;rw[bK (by grind)];exact⟨.nil,fI⟩
 |n,e,0,d::ds,avs,h,fuel,cs,s,hl,xs,hd,hxl,hall=>by cases n<;>simp[Zj]at h
 |n,e,m+1,[],avs,h,fuel,cs,s,hl,xs,hd,hxl,hall=>by cases n<;>simp[Zj]at h
 |0,e,m+1,d::ds,avs,h,fuel,cs,s,hl,xs,hd,hxl,hall=>by grind[Zj]
 | n+1,e,m+1,d::ds,avs,h,fuel,cs,s,hl,xs,hd,hxl,hall=>by
  unfold Zj at h;split at h
  ·rename_i x y h1 h2;split at h;·rename_i hxlen;simp only[ag]at h;subst h;cases xs with|nil=>grind|cons b xs=>simp only[aF,dg]at hd;have h0:=hall 0 fH;simp only[cm,bW]at h0;obtain⟨bd,bp⟩:=b;obtain⟨hd1,hd2⟩:=hd;simp only at hd1;subst hd1;have r1:=Uc n e _ x h1 fuel _ bp h0;have r2:=AAJ n e m ds y h2 fuel cs (s+1) (by grind) xs hd2 (by grind) (λi hi=>by grind);have:=r1.app r2;grind[Nat.succ_mul,AEf]
   grind
  grind end
theorem laidMetH.met{laid:List (String×DataW Unit)} (h:laidMetH P laid w) (hn:(laid.filter λx=>x.2.handleName?.isSome)=[]):laidMet P laid w:=by grind[laidMetH]
theorem U0: ∀ {l:List (String×DataW Unit)}{ps:List MemPlace},DataW.LaidVars P w l ps->∀(i:Nat) (n:String) (d:DataW Unit),l[i]?=some (n,d)->∃g t cs fuel p,P.globalNamed n=some g/\(P.globals[g]?).map (·.type)=some t/\w.var? P n=some cs/\DataW.trod (λ_=>()) P w 0 (λ_=>true) false fuel t cs.toList=some (d,p)|[],_,_,_,_,_,hm=>by grind|(n',d')::r,ps,h,i,n,d,hm=>by obtain⟨g,t,cs,fuel,p,q,h1,h2,h3,h4,h5,_⟩:=h;cases i with|zero=>simp only[cm,ag,aA]at hm;obtain⟨rfl,rfl⟩:=hm;grind|succ i=>exact U0 h5 i n d (by grind)
theorem Acv{laid:List (String×DataW Unit)}{name:String}{d:DataW Unit}{g:Nat}{t:TypeId}{avs:List AVal}{n i:Nat} (hL:laidMet P laid w) (hm:laid[i]?=some (name,d)) (hg:P.globalNamed name=some g) (hty:(P.globals[g]?).map (·.type)=some t) (hf:AFZ P n t d=some avs):Rep (GA w) (.cptr avs) (.pointer (some ⟨g,0,none⟩)):=by
 obtain⟨ps,hv,_⟩:=hL;obtain⟨g',t',cs,fuel,p,h1,h2,h3,h4⟩:=U0 hv i name d hm;obtain rfl:=cD (hg.symm.trans h1);obtain rfl:=cD (hty.symm.trans h2);have hr:=Uc (O:=GA w) n t d avs hf fuel _ p h4;have hh:(GA w).com g=some cs.toList:=by grind[World.var?,GA]
 exact .cptr (rest:=[]) hh fI hr.1 hr.2
end
def Ajk{w:World}{g:Nat}{k:IntKind}{m:Int} (h:w.cell? ⟨g,0,none⟩=some (.int k m)):Rep (GA w) (.cptr [.num k]) (.pointer (some ⟨g,0,none⟩)):=by
 unfold World.cell? at h;cases hw:w.heap[g]? with
 |none=>grind
 | some o=>
  cases o with
  | cells cs t f=>
   have h0:cs.toList[0]?=some (Value.int k m):=by grind
   cases hl:cs.toList with
   |nil=>grind
   |cons x l=>
    rw[hl]at h0;obtain rfl:x=Value.int k m:=by grind
    have hh:(GA w).com g=some (Value.int k m::l):=by grind[GA]
    exact .cptr (vs:=[Value.int k m]) (rest:=l) hh rfl (.cons (.num k m) .nil) (λv hv=>by rw[aY.1 hv];rfl)
  |_=>simp[hw]at h
def Ahg (h:Array Obj) (g:Nat) (vs:Array Value):Array Obj:=h.modify g λ|.cells _ t frozen=>.cells vs t frozen|o=>o
mutual def AaA:DataW Unit->List Value|.lit (.bool b)=>[.bool b]|.lit (.int k z)=>[.int k z]|.agg ds=>Als ds|_=>[] def Als:List (DataW Unit)->List Value|[]=>[]|d::ds=>AaA d++Als ds end
theorem AqH{P:Program}{c:OpenClaim} (hs:c.start=.entering) (h:P.funcs.any Func.goes=false):false=c.goesBy P:=by
 have hf: ∀f,P.goes f=false:=by intro f;unfold Program.goes;rw[h,Bool.and_false,di,eT];intro g _;cases hg:P.funcs[g]? with|none=>simp|some fn=>obtain⟨hlt,rfl⟩:=aU.1 hg;rw[Array.any_eq_false]at h;simpa using h g hlt
 unfold OpenClaim.goesBy Program.goesAt Program.goesFrom;rw[hs];cases P.funcNamed c.func with|none=>rfl|some f=>simp[hf]
end Go.VM
