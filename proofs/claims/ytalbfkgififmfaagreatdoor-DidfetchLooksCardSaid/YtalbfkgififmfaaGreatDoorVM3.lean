import Derived.Test.YtalbfkgififmfaaGreatDoorVM2
import Derived.Below
import Derived.Deep.Slices
import Derived.ChangeArms
import Derived.ChangeSame
import Derived.DataReads
import Derived.SizedLaws
import Derived.ProofKit
import Derived.ReadAgain
import GoSem.ClaimSeven
import Derived.LaidLaws
import Derived.Lib.LaidTab
set_option linter.defProp false
set_option linter.unusedSimpArgs false
set_option linter.unusedVariables false
namespace Go.VM
def F3 (W:World):At:=⟨λb=>match W.heap[b]? with|some (.cells arr _ _)=>some arr.toList|_=>none,λ_=>none,λ_=>none,λ_=>none,λ_=>none⟩
def A3i{E:Env}{W:World} (d: ∀g cs,E.T g=some cs->Rep (F3 W) (.cptr cs) (.pointer (some ⟨g,0,none⟩))){a:List AVal}{vs:List Value} (h:RepL (F3 W) a vs):Sim E (λb=>if b<W.heap.size then 1 else 0) (F3 W) ⟨[],0⟩ W (stripL a) vs where
  com_ok b cs hb:=by
    simp only[F3]at hb
    split at hb
    . rename_i arr e fz c
      simp only[ah]at hb;subst hb
      exact⟨arr,e,fz,c,⟨[],fN⟩,λT h=>by cases h⟩
    grind
  box_ok p hp:=by grind
  sx_next i v h:=by grind[F3]
  keys:=fN
  inj i j b h:=by grind[F3]
  bx_lt i b h:=by grind[F3]
  bx_next i b h:=by grind[F3]
  tyd:=⟨λi x h=>(by cases h),λb e h=>(by cases h)⟩
  bx_F p b hp:=by grind
  F_lt b hb:=by grind
  glob:=d
  rep:=h.strip
  own:=K3 _ _ _ _
  tok b:=by rw[JK];simp[Aq];split<;>omega
def AE.shell{E:Env}{W:World} (m: ∀g cs,E.T g=some cs->Rep (F3 W) (.cptr cs) (.pointer (some ⟨g,0,none⟩))){f:FuncId}{b args':List AVal}{a:Array Value}{Q:AVal->St->Prop} (l:RepL (F3 W) args' a.toList) (e:stripL args'=b) (h:AE E f b ⟨[],0⟩ Q):Calls E.P f a W λe i=>∃v,e=.returned v/\Go.RowKit.Below W.heap.size W i/\∃O' r c,Rep O' r v/\Q r c:=by subst e;refine(h.go _ _ W a (A3i m l)).mono ?_;rintro e i ⟨v,j,O',r,c,d,_,hs,n⟩;refine⟨v,j,⟨d.os,d.tape,d.output,d.size,λk p=>(d.keep k (by grind)).1⟩,O',r,c,?_,n⟩;have:=hs.rep;cases this;omega
end Go.VM
namespace Go.VM
def Rds (P:Program) (t:TypeId) (z:Nat){α:Type} (cells:α->List AVal) (b:α->Prop) (N:Nat):Prop:=∀(H:Type) (enc:TypeId×Value->H) (w:World) (held:Bool) (n:Nat) (cs:List Value) (x:DataW H×List MemPlace),n<=N->DataW.trod enc P w 0 (λ_=>true) held n t cs=some x->(∀y,y∈x.1.weights P t->y<=reachBytes)->cs.length=z/\(∀c,c∈cs->c.oneCell'=true)/\∃a:α,RepL (F3 w) (cells a) cs/\b a
section
variable{P:Program}{t e:TypeId}{N:Nat}
def Z4{k:IntKind} (c:P.underlying t=some (.int k)):Rds P t 1 (λn:Int=>[.int k n]) (λn=>(Lit.int k n).wf=true) N:=by intro H enc w held n cs x _ h _;obtain⟨b,rfl,_,a⟩:=DataW.trod_int c h;exact⟨rfl,by simp[Value.oneCell'],b,.cons (.int _ _) .nil,a⟩
def PO (c:P.underlying t=some .string):Rds P t 1 (λs:B8=>[.str s]) (λs=>s.length<=reachBytes) N:=by intro H enc w held n cs x _ h b;obtain⟨s,rfl,rfl,d⟩:=DataW.trod_string c h;have a:s.data.toList.length<=reachBytes:=b _ (by simp[DataW.weights]);refine⟨rfl,by simp[Value.oneCell'],s.data.toList,.cons (.str _ ?_) .nil,a⟩;grind[reachBytes,Ca]
theorem cells?_get{w:World}{a:Addr}{n:Nat}{cs:List Value} (h:w.cells? 0 a n=some cs):cs.length=n/\∀i,i<n->w.cell? (a.add i)=cs[i]?:=by unfold World.cells? at h;rw[an (aM _)]at h;have b:=mapM_some_length h;rw[List.length_range]at b;exact⟨b,λi hi=>mapM_some_get h i i (by grind)⟩
def V9{H:Type}{d:DataW H}{y:Nat} (a:y∈d.weights P e): ∀ {l:List (DataW H)},d∈l->y∈DataW.weightsAll P e l
 |[],h=>by grind
 |x::l,h=>by
  rw[DataW.weightsAll];rcases aO.1 h with rfl|h;·grind
  ·exact cK _ (V9 a h)
def Adz{α:Type}{cells:α->List AVal}{s:α->Prop}{z:Nat} (S:P.underlying t=some (.slice e)) (W:P.cellsOf e=z) (Q:0<z) (hb:1<=P.bytesOf e) (he:Rds P e z cells s N) (f:α->AVal) (hf: ∀O a cs,RepL O (cells a) cs->cs.length=z->(∀c,c∈cs->c.oneCell'=true)->∃v:Value,Rep O (f a) v/\v.cells.toList=cs):Rds P t 1 (λl:List α=>[.slice z (l.map f) false]) (λl=>l.length<=reachBytes/\∀a,a∈l->s a) (N+1):=by
 subst W;intro H enc w held n cs x hn h J;rcases DataW.trod_slice S h with⟨rfl,rfl⟩|⟨a,len,cap,I,rest,Y,rfl,rfl,rfl,_,M,hcm,q,K,G,_⟩;·exact⟨rfl,by simp[Value.oneCell'],[],.cons (.snil _ _ _) .nil,fN,fN⟩
 ·refine ⟨rfl,by simp[Value.oneCell'],?_⟩;simp only[DataW.weights,S]at J;have hle:len<=reachBytes:=by have A:=J _ (dQ ..);simp only[cq,q]at A;have F:(len+rest.length) * 1<=(len+rest.length) * P.bytesOf e:=Nat.mul_le_mul_left _ hb;omega
  have hN:reachBytes<=Ca:=fO;have elem: ∀i,i<len->∃c:List Value,w.cells? 0 (a.add (i * P.cellsOf e)) (P.cellsOf e)=some c/\c.length=P.cellsOf e/\(∀u,u∈c->u.oneCell'=true)/\∃b,RepL (F3 w) (cells b) c/\s b:=by intro i hi;have A:=K i hi;rw[aS fM]at A;obtain⟨c,F,R⟩:=db.1 A;obtain⟨k1,k2,k3⟩:=he H enc w held Y c _ fM R (λy hy=>J y (aY _ (cS _ (V9 hy (eC (List.getElem_mem _))))));grind
  rcases eT cap with h0|hpos;·subst h0;obtain rfl:len=0:=fM;exact⟨[],.cons (.snil _ _ _) .nil,fN,fN⟩
  ·obtain⟨L,F,R⟩: ∃L,w.cells? 0 (a.add (0 * P.cellsOf e)) (P.cellsOf e)=some L/\L.length=P.cellsOf e:=by
    rcases eT len with h0|hl;·subst h0;obtain⟨r1,r2⟩:=G rfl;grind[List.getElem?_eq_getElem,Option.bind_eq_some_iff,cells?_get]
    grind
   obtain⟨_,g0⟩:=cells?_get F;have r:=g0 0 Q;rw[aS fM]at r;have ea:(a.add (0 * P.cellsOf e)).add 0=a:=by simp[Addr.add]
   rw[ea]at r;unfold World.cell? at r;split at r
   ·rename_i arr el fz hh;split at r;·grind
    ·rename_i hsp;have m:a.spot=none:=by simp_all
     obtain⟨U,C,asp⟩:=a;simp only at m hh;subst m;have p:(F3 w).com U=some arr.toList:=by grind[F3]
     have d: ∀j,w.cell? ⟨U,j,none⟩=arr.toList[j]?:=by grind[World.cell?]
     have key: ∀k,k<=len->∃l:List α,l.length=k/\(∀b,b∈l->s b)/\RepS (F3 w) (P.cellsOf e) (l.map f) (arr.toList.drop (C+(len-k) * P.cellsOf e)):=by
      intro k;induction k with
      |zero=>intro _;exact⟨[],rfl,fN,.nil _ _⟩
      | succ k ih=>
       intro hk;obtain⟨l,l1,T,B⟩:=ih fM;obtain⟨c,c1,X,c3,b,c4,c5⟩:=elem (len-(k+1)) fM;obtain⟨v,v1,V⟩:=hf _ b c c4 X c3;refine⟨b::l,by grind,?_,?_⟩;·simp_all
       ·obtain⟨_,g⟩:=cells?_get c1;have hd:arr.toList.drop (C+(len-(k+1)) * P.cellsOf e)=c++arr.toList.drop (C+(len-k) * P.cellsOf e):=by
         have e1:(len-k) * P.cellsOf e=(len-(k+1)) * P.cellsOf e+P.cellsOf e:=by rw[show len-k=len-(k+1)+1 by omega,bH]
         rw[e1,<-cH,<-aT (i:=P.cellsOf e)];generalize Z:arr.toList.drop (C+(len-(k+1)) * P.cellsOf e)=D;have:D.take (P.cellsOf e)=c:=by
          apply ce;intro i;rw[di];split;·rename_i hi;rw[<-g i hi,<-Z,bV,addr_add,addr_add,d]
          grind
         grind[List.take_append_drop]
        rw[hd,aH,<-V];refine .cons v1 ⟨?_,?_⟩ B<;>grind[Array.length_toList]
     obtain⟨l,l1,T,B⟩:=key len (av _);rw[dh,eH,bW]at B;exact⟨l,.cons (.slice false p (by grind) ⟨M,fM⟩ B (λh=>by cases h)) .nil,fM,T⟩
   grind
def RF (P:Program) (a:List Field) (o z:Nat){β:Type} (cells:β->List AVal) (d:β->Prop) (N:Nat):Prop:=∀(H:Type) (enc:TypeId×Value->H) (w:World) (held:Bool) (n:Nat) (cs:List Value) (xs:List (DataW H×List MemPlace)),n<=N->xs.length=a.length->o+z<=cs.length->(∀(i:Nat) (f:Field),a[i]?=some f->DataW.trod enc P w 0 (λ_=>true) held n f.type ((cs.drop f.offset).take (P.cellsOf f.type))=xs[i]?)->(∀y,y∈DataW.weightsEach P (a.map (·.type)) (xs.map (·.1))->y<=reachBytes)->(∀c,c∈(cs.drop o).take z->c.oneCell'=true)/\∃b:β,RepL (F3 w) (cells b) ((cs.drop o).take z)/\d b
def AII{o:Nat}:RF P [] o 0 (λ_:Unit=>[]) (λ_=>True) N:=by intro H enc w held n cs xs _ _ _ _ _;simp only[dy];exact⟨fN,(),.nil,trivial⟩
def RepL.app{O:At}{xs ys:List AVal}{us vs:List Value} (h:RepL O xs us) (k:RepL O ys vs):RepL O (xs++ys) (us++vs):=by induction xs generalizing us with|nil=>cases h;exact k|cons x xs a=>cases h with|cons h t=>exact .cons h (a t)
def Kr{f:Field}{r:List Field}{o s z:Nat}{α β:Type}{j:α->List AVal}{q:α->Prop}{v:β->List AVal}{m:β->Prop} (D:f.offset=o) (hs:P.cellsOf f.type=s) (A:Rds P f.type s j q N) (G:RF P r (o+s) z v m N):RF P (f::r) o (s+z) (λp:α×β=>j p.1++v p.2) (λp=>q p.1/\m p.2) N:=by
 subst D;subst hs;intro H enc w held n cs xs l L J k h;cases xs with
 |nil=>grind
 |cons x xs=>
  have h0:=k 0 f rfl;simp only[cn]at h0;simp only[aH,DataW.weightsEach]at h;obtain⟨R,Q,a,I,F⟩:=A H enc w held n _ x l h0 (λy d=>h y (cS _ d));obtain⟨K,b,C,B⟩:=G H enc w held n cs xs l (by grind) fM (λi g S=>by simpa using k (i+1) g (by grind)) (λy d=>h y (cK _ d));have e:(cs.drop f.offset).take (P.cellsOf f.type+z)=(cs.drop f.offset).take (P.cellsOf f.type)++(cs.drop (f.offset+P.cellsOf f.type)).take z:=by rw[List.take_add,aT]
  rw[e];refine⟨λc M=>?_,(a,b),I.app C,F,B⟩;grind
def AYD{fs:Array Field}{z:Nat}{β γ:Type}{cells:β->List AVal}{j:β->Prop} (d:P.underlying t=some (.struct fs)) (r:P.cellsOf t=z) (p:RF P fs.toList 0 z cells j N){a:γ->List AVal}{c:γ->Prop} (g:β->γ) (C: ∀b,a (g b)=cells b) (D: ∀b,j b->c (g b)):Rds P t z a c (N+1):=by intro H enc w held n cs x v h k;obtain⟨xs,m,rfl,rfl,A,l,q⟩:=DataW.trod_struct d h;simp only[DataW.weights,d]at k;obtain⟨s,b,y,B⟩:=p H enc w held m cs xs fM fM fM (λi f hi=>q i f (by grind)) k;grind
def Rds.mono{α:Type}{cells:α->List AVal}{a:α->Prop}{z M:Nat} (h:Rds P t z cells a N) (c:M<=N):Rds P t z cells a M:=λH enc w held n cs x b=>h H enc w held n cs x (bK b c)
def AR9{α:Type}{cells:α->List AVal}{a:α->Prop}{z:Nat}:Rds P t z cells a 0:=by intro H enc w held n cs x b h;obtain rfl:n=0:=fM;simp[DataW.trod]at h
end
def MK{P:Program}{t e:TypeId}{α:Type}{cells:α->List AVal}{d:α->Prop}{z:Nat} (k:P.underlying t=some (.slice e)) (g:P.cellsOf e=z) (b:0<z) (j:1<=P.bytesOf e) (h: ∀N,Rds P e z cells d N) (f:α->AVal) (i: ∀O a cs,RepL O (cells a) cs->cs.length=z->(∀c,c∈cs->c.oneCell'=true)->∃v:Value,Rep O (f a) v/\v.cells.toList=cs):∀N,Rds P t 1 (λl:List α=>[.slice z (l.map f) false]) (λl=>l.length<=reachBytes/\∀a,a∈l->d a) N|0=>AR9|N+1=>Adz k g b j (h N) f i
def TF{P:Program}{t:TypeId}{fs:Array Field}{z:Nat}{β γ:Type}{cells:β->List AVal}{d:β->Prop} (k:P.underlying t=some (.struct fs)) (f:P.cellsOf t=z) (h: ∀N,RF P fs.toList 0 z cells d N){a:γ->List AVal}{c:γ->Prop} (g:β->γ) (i: ∀b,a (g b)=cells b) (j: ∀b,d b->c (g b)): ∀N,Rds P t z a c N|0=>AR9|N+1=>AYD k f (h N) g i j
def one_cell{α:Type} (f:α->AVal): ∀(O:At) (a:α) (cs:List Value),RepL O [f a] cs->cs.length=1->(∀c,c∈cs->c.oneCell'=true)->∃v:Value,Rep O (f a) v/\v.cells.toList=cs:=by intro O a cs h d b;clear d;cases h with|cons h t=>cases t;rename_i v;refine⟨v,h,?_⟩;have:=b v fN;cases v<;>simp[Value.oneCell']at this<;>rfl
def ADo{α:Type}{z:Nat}{cells:α->List AVal} (f:α->AVal) (b: ∀a,f a=.agg (cells a)): ∀(O:At) (a:α) (cs:List Value),RepL O (cells a) cs->cs.length=z->(∀c,c∈cs->c.oneCell'=true)->∃v:Value,Rep O (f a) v/\v.cells.toList=cs:=by intro O a cs h _ d;exact⟨.agg cs.toArray,by rw[b];exact .agg fM fM,by simp[Value.cells]⟩
def ADE{P:Program}{t:TypeId}{fs:Array Field}{W:World}{r:Reach}{base:Nat}{O:At}{xs:List AVal}{v:Value} (f:P.underlying t=some (.struct fs)) (a:Value.okWide P W r base t v) (d:RepL O xs v.cells.toList) (b: ∀c,c∈v.cells.toList->c.oneCell'=true):Rep O (.agg xs) v:=by unfold Value.okWide at a;rw[f]at a;obtain⟨cs,rfl,_⟩:=a;exact .agg d b
def SQ{H:Type}{P:Program}{ts:List TypeId}{a:List (DataW H)} (h:(DataW.weightsEach P ts a).all (· <=reachBytes)=true){j:Nat}{t:TypeId}{d:DataW H} (c:ts[j]?=some t) (hd:a[j]?=some d): ∀y,y∈d.weights P t->y<=reachBytes:=λy b=>by have:=aK.1 h y (DataW.weights_mem_each c hd y b);grind
end Go.VM
namespace Go.VM
open Go.ChangeShapes Go.WideShapes Go.ChangeAt Go.RowKit
section
variable{H:Type}{enc:TypeId×Value->H}{P:Program}
def Xb{w w':World}{sp:Nat->Bool}{held:Bool}: ∀ {ts:List TypeId}{vs:List Value}{a:List (DataW H)}{ps:List MemPlace},DataW.TrodAll enc P w 0 sp held ts vs a ps->(∀p∈ps,w.sameAt w' p)->DataW.TrodAll enc P w' 0 sp held ts vs a ps|[],[],[],_,h,_=>h|_::_,_::_,_::_,_,⟨p,q,⟨n,h1⟩,h2,e⟩,hs=>⟨p,q,⟨n,DataW.trod_carry n _ _ _ h1 (λx b=>hs x (by grind))⟩,Xb h2 (λx b=>hs x (by grind)),e⟩
def Aq5{f:Func}{s:ChangeSpec}{c fresh g k:Bool}{W l:World}{h:Array Value}{i:List (DataW H)}{a:List MemPlace}{T:TypeId->Prop}{L:TypeId} (x:DataW.Whole enc P f.params.toList s.vars c W h.toList i [] a) (I:s.vars=[]) (z:Below W.heap.size W l) (K:Kids P T) (S: ∀t e,T t->P.underlying t=some (.slice e)->0<P.cellsOf e) (V: ∀t,t∈f.params.toList->T t) (M:(s.fn H (i++[])).results=[.lit (.bool true)]) (Y:(s.fn H (i++[])).args=i) (y:(s.fn H (i++[])).vars=[]) (n:f.resultTypes= #[L]) (m:P.underlying L=some .bool):s.post enc P f c fresh g k W h (.bool true) l:=by
 have v:=x.lt;have C:=x;obtain⟨p,q,Q,J,r,D,R⟩:=x;have X:q=[]:=by rw[I]at J;exact J
 subst X;rw[bm]at r;subst r;have U:W.keptBut l (· ∈a):=z.frame _;have B: ∀sp:Nat->Bool,(∀p∈a,sp p.block=true)->DataW.TrodAll enc P l 0 sp true f.params.toList h.toList i a:=by intro sp F;refine DataW.TrodAll.respare K S V ?_ F;exact Xb Q λp hp=>z.same (v p hp)
 have j: ∀(b:Nat) (sp:Nat->Bool) (hd:Bool),DataW.TrodAll enc P l b sp hd f.resultTypes.toList (Value.resultList f.resultTypes.size (.bool true)) (s.fn H (i++[])).results []:=by intro b sp hd;rw[M,n];exact trodAll_mk1 (shut_bool m _)
 have d: ∀sp:Nat->Bool,DataW.TrodVars enc P l sp s.vars (s.fn H (i++[])).vars []:=by intro sp;rw[I,y];rfl
 have G: ∀p∈a,(λb=>decide (b<W.heap.size)) p.block=true:=λp hp=>by grind
 refine⟨i,[],a,[],a,[],C,j _ _ _,by grind,d _,World.keptBut_mono (λp hp=>⟨hp,.inr (.inl hp)⟩) U,λ_=>?_⟩;refine⟨ok_one n (by rfl) (okWide_bool_mk m _),_,_,([]++a)++[],⟨[]++a,[],trodAll_append (B _ (λ_ _=>rfl)) (j _ _ _),d _,rfl,?_,?_⟩,?_⟩
 ·intro b off hp;have A:MemPlace.cell b off∈a:=by grind
  have:=D b off fM;rw[<-this];exact z.frozen (v _ A)
 ·grind
 grind
end
end Go.VM
namespace Go.VM
open Go.Lib
mutual def AFw (P:Program):Nat->TypeId->DataW Unit->Option (List AVal)|0,_,_=>none|n+1,t,d=>match P.underlying t,d with|some .bool,.lit (.bool b)=>some [.bool b]|some (.int k),.lit (.int k' z)=>if k'=k then some [.int k z]else none|some (.struct fs),.agg ds=>ABO P n (P.cellsOf t) 0 (fs.toList.map λf=>(f.offset,f.type)) ds|some (.array m e),.agg ds=>if m * P.cellsOf e=P.cellsOf t then AA3 P n e m ds else none|_,_=>none def ABO (P:Program):Nat->Nat->Nat->List (Nat×TypeId)->List (DataW Unit)->Option (List AVal)
 |_,z,pos,[],[]=>if pos=z then some []else none
 |0,_,_,_,_=>none
 |n+1,z,pos,f::fs,d::ds=>if f.1=pos then match AFw P n f.2 d,ABO P n z (pos+P.cellsOf f.2) fs ds with|some x,some y=>if x.length=P.cellsOf f.2 then some (x++y)else none|_,_=>none else none
 |_,_,_,_,_=>none def AA3 (P:Program):Nat->TypeId->Nat->List (DataW Unit)->Option (List AVal)
 |_,_,0,[]=>some []
 |0,_,_,_=>none
 |n+1,e,m+1,d::ds=>match AFw P n e d,AA3 P n e m ds with|some x,some y=>if x.length=P.cellsOf e then some (x++y)else none|_,_=>none
 |_,_,_,_=>none end
section
variable{P:Program}{w:World}{base:Nat}{sp:Nat->Bool}{held:Bool}{O:At}
def CellsOK (O:At) (a:List AVal) (cs:List Value):Prop:=RepL O a cs/\ ∀v,v∈cs->v.oneCell'=true
theorem CellsOK.app{a b:List AVal}{x y:List Value} (h:CellsOK O a x) (k:CellsOK O b y):CellsOK O (a++b) (x++y):=⟨h.1.append k.1,λv c=>(aZ.1 c).elim (h.2 v) (k.2 v)⟩
theorem AGK{α:Type} (cs:List α) (p z:Nat):(cs.drop p).take z++cs.drop (p+z)=cs.drop p:=by grind[List.drop_drop,List.take_append_drop]
mutual theorem Vx: ∀(n:Nat) (t:TypeId) (d:DataW Unit) (avs:List AVal),AFw P n t d=some avs->∀(fuel:Nat) (cs:List Value) (p:List MemPlace),DataW.trod (λ_=>()) P w base sp held fuel t cs=some (d,p)->CellsOK O avs cs
 |0,t,d,avs,h,fuel,cs,p,k=>by simp[AFw]at h
 | n+1,t,d,avs,h,fuel,cs,p,k=>by
  unfold AFw at h;split at h;·rename_i b hu;simp only[ah]at h;subst h;obtain⟨b',rfl,e⟩:=DataW.trod_bool hu k;cases e;exact⟨.cons (.bool _) .nil,by simp[Value.oneCell']⟩
  ·rename_i kk k' z hu;split at h;·rename_i e;subst e;simp only[ah]at h;subst h;obtain⟨z',rfl,e,_⟩:=DataW.trod_int hu k;cases e;exact⟨.cons (.int _ _) .nil,by simp[Value.oneCell']⟩
   grind
  ·rename_i fs ds hu;obtain⟨xs,m,rfl,hx,hl,hxl,hall⟩:=DataW.trod_struct hu k;have hx1:ds=xs.map (·.1):=by simp_all
   have:=ABE n (P.cellsOf t) 0 _ ds avs h m cs hl xs hx1 (λi f hf=>by rw[List.getElem?_map,aX]at hf;obtain⟨g,hg,rfl⟩:=hf;grind) (by grind);grind
  ·rename_i m e ds hu;split at h
   ·rename_i hm;cases fuel with
    |zero=>simp[DataW.trod]at k
    | succ fuel=>
     simp only[DataW.trod,hu]at k;split at k
     ·rename_i hl;obtain⟨xs,hmap,hx⟩:=aX.1 k;have hx1:ds=xs.map (·.1):=by simp_all
      have:=ABL n e m ds avs h fuel cs 0 (by grind) xs hx1 (by have:=mapM_length hmap;grind) (λi hi=>by obtain⟨b,hb,hf⟩:=mapM_at hmap i i (by grind);simp_all);grind
     grind
   grind
  grind theorem ABE: ∀(n z pos:Nat) (fs:List (Nat×TypeId)) (ds:List (DataW Unit)) (avs:List AVal),ABO P n z pos fs ds=some avs->∀(fuel:Nat) (cs:List Value),cs.length=z->∀xs:List (DataW Unit×List MemPlace),ds=xs.map (·.1)->(∀(i:Nat) (f:Nat×TypeId),fs[i]?=some f->DataW.trod (λ_=>()) P w base sp held fuel f.2 ((cs.drop f.1).take (P.cellsOf f.2))=xs[i]?)->xs.length=fs.length->CellsOK O avs (cs.drop pos)
 |n,z,pos,[],[],avs,h,fuel,cs,hl,xs,hd,hall,hxl=>by
  have:ABO P n z pos [] []=if pos=z then some []else none:=by cases n<;>rfl
  rw[this]at h;split at h;·rename_i e;simp only[ah]at h;subst h;rw[bL fM];exact⟨.nil,fN⟩
  grind
 |n,z,pos,[],d::ds,avs,h,fuel,cs,hl,xs,hd,hall,hxl=>by cases n<;>simp[ABO]at h
 |n,z,pos,f::fs,[],avs,h,fuel,cs,hl,xs,hd,hall,hxl=>by cases n<;>simp[ABO]at h
 |0,z,pos,f::fs,d::ds,avs,h,fuel,cs,hl,xs,hd,hall,hxl=>by grind[ABO]
 | n+1,z,pos,f::fs,d::ds,avs,h,fuel,cs,hl,xs,hd,hall,hxl=>by
  unfold ABO at h;split at h
  ·rename_i hp;split at h
   ·rename_i x y h1 h2;split at h;·rename_i hxlen;simp only[ah]at h;subst h;cases xs with|nil=>grind|cons b xs=>simp only[aH,dl]at hd;have h0:=hall 0 f rfl;simp only[cn]at h0;obtain⟨bd,bp⟩:=b;obtain⟨hd1,hd2⟩:=hd;simp only at hd1;subst hd1;have r1:=Vx n f.2 _ x h1 fuel _ bp h0;have r2:=ABE n z (pos+P.cellsOf f.2) fs ds y h2 fuel cs hl xs hd2 (λi g hg=>by have:=hall (i+1) g (by grind);grind) (by grind);have:=r1.app r2;grind[AGK]
    grind
   grind
  grind theorem ABL: ∀(n:Nat) (e:TypeId) (m:Nat) (ds:List (DataW Unit)) (avs:List AVal),AA3 P n e m ds=some avs->∀(fuel:Nat) (cs:List Value) (s:Nat),cs.length=(s+m) * P.cellsOf e->∀xs:List (DataW Unit×List MemPlace),ds=xs.map (·.1)->xs.length=m->(∀i,i<m->DataW.trod (λ_=>()) P w base sp held fuel e ((cs.drop ((s+i) * P.cellsOf e)).take (P.cellsOf e))=xs[i]?)->CellsOK O avs (cs.drop (s * P.cellsOf e))
 |n,e,0,[],avs,h,fuel,cs,s,hl,xs,hd,hxl,hall=>by
  have:AA3 P n e 0 []=some []:=by cases n<;>rfl
  rw[this]at h;simp only[ah]at h;subst h;rw[bL (by grind)];exact⟨.nil,fN⟩
 |n,e,0,d::ds,avs,h,fuel,cs,s,hl,xs,hd,hxl,hall=>by cases n<;>simp[AA3]at h
 |n,e,m+1,[],avs,h,fuel,cs,s,hl,xs,hd,hxl,hall=>by cases n<;>simp[AA3]at h
 |0,e,m+1,d::ds,avs,h,fuel,cs,s,hl,xs,hd,hxl,hall=>by grind[AA3]
 | n+1,e,m+1,d::ds,avs,h,fuel,cs,s,hl,xs,hd,hxl,hall=>by
  unfold AA3 at h;split at h
  ·rename_i x y h1 h2;split at h;·rename_i hxlen;simp only[ah]at h;subst h;cases xs with|nil=>grind|cons b xs=>simp only[aH,dl]at hd;have h0:=hall 0 fM;simp only[cn,bW]at h0;obtain⟨bd,bp⟩:=b;obtain⟨hd1,hd2⟩:=hd;simp only at hd1;subst hd1;have r1:=Vx n e _ x h1 fuel _ bp h0;have r2:=ABL n e m ds y h2 fuel cs (s+1) (by grind) xs hd2 (by grind) (λi hi=>by grind);have:=r1.app r2;grind[Nat.succ_mul,AGK]
   grind
  grind end
theorem laidMetH.met{a:List (String×DataW Unit)} (h:laidMetH P a w) (b:(a.filter λx=>x.2.handleName?.isSome)=[]):laidMet P a w:=by grind[laidMetH]
theorem Vr: ∀ {l:List (String×DataW Unit)}{ps:List MemPlace},DataW.LaidVars P w l ps->∀(i:Nat) (n:String) (d:DataW Unit),l[i]?=some (n,d)->∃g t cs a p,P.globalNamed n=some g/\(P.globals[g]?).map (·.type)=some t/\w.var? P n=some cs/\DataW.trod (λ_=>()) P w 0 (λ_=>true) false a t cs.toList=some (d,p)|[],_,_,_,_,_,hm=>by grind|(n',d')::r,ps,h,i,n,d,hm=>by obtain⟨g,t,cs,a,p,q,j,k,c,f,b,_⟩:=h;cases i with|zero=>simp only[cn,ah,aB]at hm;obtain⟨rfl,rfl⟩:=hm;grind|succ i=>exact Vr b i n d (by grind)
theorem AfO{a:List (String×DataW Unit)}{name:String}{d:DataW Unit}{g:Nat}{t:TypeId}{b:List AVal}{n i:Nat} (q:laidMet P a w) (r:a[i]?=some (name,d)) (j:P.globalNamed name=some g) (f:(P.globals[g]?).map (·.type)=some t) (k:AFw P n t d=some b):Rep (F3 w) (.cptr b) (.pointer (some ⟨g,0,none⟩)):=by
 obtain⟨ps,x,_⟩:=q;obtain⟨A,z,cs,c,p,s,v,y,m⟩:=Vr x i name d r;obtain rfl:=cE (j.symm.trans s);obtain rfl:=cE (f.symm.trans v);have h:=Vx (O:=F3 w) n t d b k c _ p m;have l:(F3 w).com g=some cs.toList:=by grind[World.var?,F3]
 exact .cptr (rest:=[]) l fN h.1 h.2
end
def Amh{w:World}{g:Nat}{k:IntKind}{m:Int} (h:w.cell? ⟨g,0,none⟩=some (.int k m)):Rep (F3 w) (.cptr [.num k]) (.pointer (some ⟨g,0,none⟩)):=by
 unfold World.cell? at h;cases hw:w.heap[g]? with
 |none=>grind
 | some o=>
  cases o with
  | cells cs t f=>
   have h0:cs.toList[0]?=some (Value.int k m):=by grind
   cases hl:cs.toList with
   |nil=>grind
   |cons x l=>
    rw[hl]at h0;obtain rfl:x=Value.int k m:=by grind
    have a:(F3 w).com g=some (Value.int k m::l):=by grind[F3]
    exact .cptr (vs:=[Value.int k m]) (rest:=l) a rfl (.cons (.num k m) .nil) (λv b=>by rw[aV.1 b];rfl)
  |_=>simp[hw]at h
def ApO (h:Array Obj) (g:Nat) (vs:Array Value):Array Obj:=h.modify g λ|.cells _ t frozen=>.cells vs t frozen|o=>o
mutual def Abw:DataW Unit->List Value|.lit (.bool b)=>[.bool b]|.lit (.int k z)=>[.int k z]|.agg ds=>AkM ds|_=>[] def AkM:List (DataW Unit)->List Value|[]=>[]|d::ds=>Abw d++AkM ds end
theorem Awc{P:Program}{c:OpenClaim} (hs:c.start=.entering) (h:P.funcs.any Func.goes=false):false=c.goesBy P:=by
 have b: ∀f,P.goes f=false:=by intro f;unfold Program.goes;rw[h,Bool.and_false,cV,dX];intro g _;cases hg:P.funcs[g]? with|none=>simp|some d=>obtain⟨a,rfl⟩:=aU.1 hg;rw[Array.any_eq_false]at h;simpa using h g a
 unfold OpenClaim.goesBy Program.goesAt Program.goesFrom;rw[hs];cases P.funcNamed c.func with|none=>rfl|some f=>simp[b]
end Go.VM
