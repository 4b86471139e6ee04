import Derived.Laws.MakeOwn
import Derived.Laws.IdiomStrings
import Derived.Test.YtalbfkgififmfaaGreatDoorVM1
import Derived.Lib.UnsafeStr
import Derived.Lib.Bytealg
import Derived.MapKept
import Derived.WideKeyRuns
set_option linter.defProp false
set_option linter.unusedSimpArgs false
set_option linter.unusedVariables false
namespace Go.VM
def XV (P:Program) (t:TypeId):Option (Nat×AVal):=match P.underlying t with
 |some (.slice e)=>match P.info? e,Cr P e with|some i,some (.int k n)=>if i.size=1 then some (i.bytes,.int k n)else none|some i,some (.bool b)=>if i.size=1 then some (i.bytes,.bool b)else none|some i,some (.str [])=>if i.size=1 then some (i.bytes,.str [])else none|_,_=>none
 |_=>none
def Zw (E:Env) (t:TypeId) (x y:AVal) (st:St):Option (AVal×St):=match x,y,XV E.P t with|.int _ n,.int _ n',some (b,z)=>if n=n'/\0<=n/\n<=Ca/\n * b<=140737488355328 then some (.bsl 1 st.next 0 n.toNat,{m:=(st.next,List.replicate n.toNat z)::st.m,next:=st.next+1})else none|_,_,_=>none
def AdB (E:Env) (t:TypeId) (x y:AVal) (st:St):Option (AVal×St):=match x,y,XV E.P t with|.int _ n,.int _ n',some (b,.int kz z)=>if 0<=n/\n<=n'/\n'<=Ca/\n' * b<=140737488355328 then some (.gsl 1 st.next n.toNat,{m:=(st.next,List.replicate n.toNat (.int kz z))::st.m,next:=st.next+1})else none|_,_,_=>none
def Tw (E:Env) (s d:TypeId) (x:AVal) (st:St):Option (AVal×St):=match x with
 |.str l=>if u8T E.P d=true/\Di E.P s=true then some (.bsl 1 st.next 0 l.length,{m:=(st.next,l.map λc=>.int .u8 (AJ c))::st.m,next:=st.next+1})else none
 |.bsl w i off len=>if w=1/\(u8T E.P s&&Di E.P d)=true then match Aj st.m i with
 |some cs=>match bytesOf ((cs.drop off).take len)with|some l=>if l.length=len/\len<=Ca then some (.str l,st)else none|none=>none
 |none=>none else none
 |.gsl w i len=>if w=1/\(u8T E.P s&&Di E.P d)=true then match Aj st.m i with
 |some cs=>match bytesOf (cs.take len)with|some l=>if l.length=len/\len<=Ca then some (.str l,st)else none|none=>none
 |none=>none else none
 |_=>none
section
variable{E:Env}{F:Nat->Nat}{O:At}{st:St}{w:World}{af:List AVal}{a:Act}
theorem RepL.replicate{x:AVal}{v:Value} (h:Rep O x v): ∀n,RepL O (List.replicate n x) (List.replicate n v)|0=>.nil|n+1=>.cons h (RepL.replicate h n)
def Uk: ∀(xs:List AVal) (vs:List Value),(∀x,x∈xs->∀v,VM.own O w x v)->ownL O w xs vs|[],_,_=>by simp[ownL]|_::_,[],_=>by simp[ownL]|x::xs,v::vs,h=>by rw[ownL];exact⟨h x fN v,Uk xs vs λy b=>h y (by grind)⟩
def Ug (b:Nat): ∀(xs:List AVal) (vs:List Value),(∀x,x∈xs->∀v,cnt b x v=0)->AR b xs vs=0|[],_,_=>by simp[AR]|_::_,[],_=>by simp[AR]|x::xs,v::vs,h=>by rw[AR,h x fN v,Ug b xs vs λy c=>h y (by grind)]
theorem WH (v:Value) (n:Nat):(madeCells #[v] n).toList=List.replicate n v:=by
 apply List.ext_getElem;·simp[madeCells]
 ·intro i c b;simp[madeCells,Nat.mod_one]
def Xc (hs:Sim E F O st w af a.tmps.toList){o:Oper}{w1:World}{cells:Array Value}{e:TypeId}{cs:List AVal}{fz:Nat×Nat}{cap:Nat} (c:Sim E F O st w1 af a.tmps.toList) (f:Ext F O w O w1) (g: ∀j,j<cells.size->¬(fz.1<=j/\j<fz.2)) (q:RepL O cs (cells.toList.take cs.length)) (A: ∀v,v∈cells.toList.take cs.length->v.oneCell'=true) (i: ∀x,x∈cs->(∀v,VM.own O w1 x v)/\∀b v,cnt b x v=0) (n:cs.length<=cap/\cs.length<=Ca) (d:(execOp a.eval o).run E.P w=.ok (.value (.slice (some ⟨w1.heap.size,0,none⟩) cs.length cap)) (w1.alloc (.cells cells e fz))):∃s w' y O',AM E F O st w a o (Ae af o.dst (.bsl 1 st.next 0 cs.length)) {m:=(st.next,cs)::st.m,next:=st.next+1} s w' y O':=by
 have z: ∀b vs,AR b cs vs=0:=λb vs=>Ug b cs vs λx f=>(i x f).2 b;obtain⟨k,p,t⟩:=c.newBox (e:=e) (cells:=cells) (cs:=cs) (fz:=fz) g (q.mono (c.le_box _)) (Uk _ _ λx f=>(i x f).1) A (λb=>by rw[z];have:=c.tok b;omega);have r:(O.box st.next w1.heap.size (e,cells.size)).bx st.next=some w1.heap.size:=by cases t with|ptr h=>exact h
 refine⟨_,_,_,_,d,λK Q l=>l,put_defers _ _ _,f.trans p,fN,?_⟩;refine k.put o.dst (.bsl r (.inr rfl) n) (by simp[VM.own]) λb=>?_;have:=k.tok b;grind[cnt]
def ABi (hs:Sim E F O st w af a.tmps.toList){o:Oper}{w1:World}{cells:Array Value}{e:TypeId}{cs:List AVal}{fz:Nat×Nat}{cap len:Nat}{r:AVal} (c:Sim E F O st w1 af a.tmps.toList) (d:Ext F O w O w1) (k: ∀j,j<cells.size->¬(fz.1<=j/\j<fz.2)) (s:RepL O cs (cells.toList.take cs.length)) (A: ∀v,v∈cells.toList.take cs.length->v.oneCell'=true) (l: ∀x,x∈cs->(∀v,VM.own O w1 x v)/\∀b v,cnt b x v=0) (g: ∀O':At,O'.bx st.next=some w1.heap.size->O'.bt st.next=some (e,cells.size)->Rep O' r (.slice (some ⟨w1.heap.size,0,none⟩) len cap)) (i: ∀O' w' v,VM.own O' w' r v) (p: ∀b v,cnt b r v=0) (f:(execOp a.eval o).run E.P w=.ok (.value (.slice (some ⟨w1.heap.size,0,none⟩) len cap)) (w1.alloc (.cells cells e fz))):∃C w' y O',AM E F O st w a o (Ae af o.dst r) {m:=(st.next,cs)::st.m,next:=st.next+1} C w' y O':=by
 have z: ∀b vs,AR b cs vs=0:=λb vs=>Ug b cs vs λx d=>(l x d).2 b;obtain⟨n,q,t⟩:=c.newBox (e:=e) (cells:=cells) (cs:=cs) (fz:=fz) k (s.mono (c.le_box _)) (Uk _ _ λx d=>(l x d).1) A (λb=>by rw[z];have:=c.tok b;omega);have D:(O.box st.next w1.heap.size (e,cells.size)).bx st.next=some w1.heap.size:=by cases t with|ptr h=>exact h
 refine⟨_,_,_,_,f,λK Q B=>B,put_defers _ _ _,d.trans q,fN,?_⟩;refine n.put o.dst (g _ D (by simp[At.box])) (i _ _ _) λb=>?_;have:=n.tok b;grind
def ARa (hs:Sim E F O st w af a.tmps.toList){o:Oper}{w1:World}{cells:Array Value}{e:TypeId}{cs:List AVal}{fz:Nat×Nat}{cap len:Nat} (f:Sim E F O st w1 af a.tmps.toList) (l:Ext F O w O w1) (d: ∀j,j<cells.size->¬(fz.1<=j/\j<fz.2)) (k:RepL O cs (cells.toList.take cs.length)) (g: ∀v,v∈cells.toList.take cs.length->v.oneCell'=true) (q: ∀x,x∈cs->(∀v,VM.own O w1 x v)/\∀b v,cnt b x v=0) (i:len<=cap/\len<=Ca) (h:cap=cells.size) (c:(execOp a.eval o).run E.P w=.ok (.value (.slice (some ⟨w1.heap.size,0,none⟩) len cap)) (w1.alloc (.cells cells e fz))):∃n w' p O',AM E F O st w a o (Ae af o.dst (.gsl 1 st.next len)) {m:=(st.next,cs)::st.m,next:=st.next+1} n w' p O':=ABi hs f l d k g q (λO' g r=>.gsl g r i fM) (λ_ _ _=>by simp[VM.own]) (λ_ _=>by simp[cnt]) c
def ADv{P:Program}{t:TypeId}{b:Nat}{z:AVal} (c:XV P t=some (b,z)): ∃e i v,P.underlying t=some (.slice e)/\P.info? e=some i/\i.zero=some v/\i.size=1/\i.bytes=b/\FV z v=true/\v.cells= #[v]/\v.oneCell'=true/\∀O w,(∀u,VM.own O w z u)/\∀b u,cnt b z u=0:=by
 unfold XV at c;split at c
 ·rename_i e m;split at c
  ·rename_i j k0 n0 h k;split at c;·rename_i d;simp only[ah,aB]at c;obtain⟨rfl,rfl⟩:=c;obtain⟨n,v,f,l,g⟩:=Mc k;rw[h]at f;cases f;refine⟨e,j,v,m,h,l,d,rfl,g,?_⟩;cases v<;>simp[FV]at g;exact⟨rfl,rfl,λO w=>⟨λu=>by simp[VM.own],λb u=>by simp[cnt]⟩⟩
   grind
  ·rename_i j p h k;split at c;·rename_i d;simp only[ah,aB]at c;obtain⟨rfl,rfl⟩:=c;obtain⟨n,v,f,l,g⟩:=Mc k;rw[h]at f;cases f;refine⟨e,j,v,m,h,l,d,rfl,g,?_⟩;cases v<;>simp[FV]at g;exact⟨rfl,rfl,λO w=>⟨λu=>by simp[VM.own],λb u=>by simp[cnt]⟩⟩
   grind
  ·rename_i j h k;split at c;·rename_i d;simp only[ah,aB]at c;obtain⟨rfl,rfl⟩:=c;obtain⟨n,v,f,l,g⟩:=Mc k;rw[h]at f;cases f;refine⟨e,j,v,m,h,l,d,rfl,g,?_⟩;cases v<;>simp[FV]at g;exact⟨rfl,rfl,λO w=>⟨λu=>by simp[VM.own],λb u=>by simp[cnt]⟩⟩
   grind
  grind
 grind
theorem AdV (hs:Sim E F O st w af a.tmps.toList){o:Oper}{t:TypeId}{x y:Operand}{r:AVal}{c:St} (I:o.op=.makeSlice t x y) (h:Zw E t (rd E af 0 x) (rd E af 0 y) st=some (r,c)):∃M w' H O',AM E F O st w a o (Ae af o.dst r) c M w' H O':=by
 have f:=hs.rd 0 x;have j:=hs.rd 0 y;generalize rd E af 0 x=ax at *;generalize rd E af 0 y=ay at *;unfold Zw at h;split at h
 ·rename_i k n A Q b z q;split at h;·rename_i s;obtain⟨rfl,h0,T,S⟩:=s;simp only[ah,aB]at h;obtain⟨rfl,rfl⟩:=h;generalize p:a.eval x=vx at f;generalize L:a.eval y=vy at j;cases f;cases j;obtain⟨e,i,v,K,D,C,G,R,J,g⟩:=ADv q;have m:=(KM O w z v J).rep;have d:=run_make (P:=E.P) w t e i v K D C k A n n h0 (bE _) (by grind) (by grind[Ca]);rw[g.1,G,fF]at d;have l:(List.replicate n.toNat z).length=n.toNat:=cu;have key:=Xc (o:=o) (w1:=w) (cells:=madeCells #[v] n.toNat) (e:=e) (cs:=List.replicate n.toNat z) (fz:=(0,0)) (cap:=n.toNat) hs hs (Ext.refl _ _ _) fN (by grind[WH,List.take_of_length_le,RepL.replicate]) (by rw[WH];intro u B;have:=dv B;rw[cX this];exact g.2.1) (λx f=>by rw[cX f];exact g.2.2 _ _) fM (by simp_all[execOp]);grind
  grind
 grind
def AZE (hs:Sim E F O st w af a.tmps.toList){o:Oper}{t:TypeId}{x y:Operand}{r:AVal}{c:St} (M:o.op=.makeSlice t x y) (h:AdB E t (rd E af 0 x) (rd E af 0 y) st=some (r,c)):∃T w' L O',AM E F O st w a o (Ae af o.dst r) c T w' L O':=by
 have l:=hs.rd 0 x;have s:=hs.rd 0 y;generalize rd E af 0 x=ax at *;generalize rd E af 0 y=ay at *;unfold AdB at h;split at h
 ·rename_i k n D f b q z B;split at h
  ·rename_i C;obtain⟨h0,p,W,V⟩:=C;simp only[ah,aB]at h;obtain⟨rfl,rfl⟩:=h;generalize A:a.eval x=vx at l;generalize S:a.eval y=vy at s;cases l;cases s;obtain⟨e,i,v,R,J,I,K,U,Q,m⟩:=ADv B;have j:=(KM O w (AVal.int q z) v Q).rep;have g:=run_make (P:=E.P) w t e i v R J I k D n f h0 p (by grind) (by grind[Ca]);rw[m.1,K,fF]at g;have d:(List.replicate n.toNat (AVal.int q z)).length=n.toNat:=cu;have H:(madeCells #[v] f.toNat).size=f.toNat:=by grind[Array.length_toList,WH]
   exact ARa (o:=o) (w1:=w) (cells:=madeCells #[v] f.toNat) (e:=e) (cs:=List.replicate n.toNat (AVal.int q z)) (fz:=(0,0)) (cap:=f.toNat) (len:=n.toNat) hs hs (Ext.refl _ _ _) fN (by rw[WH,d,List.take_replicate,fo fM];exact RepL.replicate j _) (by rw[WH];intro u G;have:=dv G;rw[cX this];exact m.2.1) (λx l=>by rw[cX l];exact m.2.2 _ _) ⟨fM,fM⟩ fM (by simp_all[execOp])
  grind
 grind
def TY: ∀ {xs:List AVal}{l:B8}{vs:List Value},bytesOf xs=some l->RepL O xs vs->∃b:List Int,b.length=xs.length/\(∀j,j<b.length->vs[j]?=some (.int .u8 (b.getD j 0)))/\l=b.map Fg
 |[],l,vs,h,_=>by simp[bytesOf]at h;subst h;exact⟨[],rfl,fN,rfl⟩
 | x::xs,l,vs,h,hr=>by
  cases hr with
  |cons d t=>
   rename_i v vs;unfold bytesOf at h;split at h;·grind
   ·rename_i n c e;cases e;cases d;cases hb:bytesOf xs with|none=>grind|some g=>simp[hb]at h;subst h;obtain⟨b,i,k,f⟩:=TY hb t;refine⟨n::b,by grind,?_,by grind⟩;grind
   grind
def RepL.takeN{xs:List AVal}{vs:List Value} (h:RepL O xs vs): ∀n,RepL O (xs.take n) (vs.take n):=by induction xs generalizing vs with|nil=>intro n;cases h;simpa using RepL.nil|cons x xs b=>intro n;cases h with|cons h t=>cases n with|zero=>grind|succ n=>exact .cons h (b t n)
theorem Aaj (hs:Sim E F O st w af a.tmps.toList){o:Oper}{s d:TypeId}{x:Operand}{r:AVal}{H:St} (U:o.op=.convert s d x) (h:Tw E s d (rd E af s x) st=some (r,H)):∃nx w' a' O',AM E F O st w a o (Ae af o.dst r) H nx w' a' O':=by
 have y:=hs.rd s x;generalize rd E af s x=ax at *;unfold Tw at h;split at h
 ·rename_i l;split at h
  ·rename_i G;simp only[ah,aB]at h;obtain⟨rfl,rfl⟩:=h;generalize M:a.eval x=v at y;cases y with
   |str b hn=>
    obtain⟨e,I,L⟩:=ZQ G.1;have J:=run_bytes_of_string (P:=E.P) w s d e b (CU G.2) I L;have p:b.size=b.data.toList.length:=fN;have B:(b.data.toList.map λc=>AVal.int .u8 (AJ c)).length=b.size:=fN;have Z:(bytesRow b (grownCap w b.size 0 e)).toList=(b.data.toList.map λc=>Value.int .u8 (AJ c))++List.replicate (grownCap w b.size 0 e-b.size) (.int .u8 0):=by simp[bytesRow,AJ]
    have m:(bytesRow b (grownCap w b.size 0 e)).toList.take b.size=b.data.toList.map λc=>Value.int .u8 (AJ c):=by grind
    have z:b.size<=grownCap w b.size 0 e:=ek w b.size 0 e;have key:=Xc (o:=o) (w1:=w.drew) (cells:=bytesRow b (grownCap w b.size 0 e)) (e:=e) (cs:=b.data.toList.map λc=>.int .u8 (AJ c)) (fz:=((bytesRow b (grownCap w b.size 0 e)).size,(bytesRow b (grownCap w b.size 0 e)).size+1)) (cap:=grownCap w b.size 0 e) hs hs.drew ⟨O.le_refl,λ_ _=>⟨rfl,rfl⟩,av _,rfl,rfl,rfl⟩ (λj hj=>by omega) (by rw[B,m];generalize b.data.toList=l;induction l with|nil=>exact .nil|cons c l ih=>exact .cons (.int _ _) ih) (by rw[B,m];intro v M;obtain⟨c,_,rfl⟩:=bv.1 M;rfl) (λx y=>by obtain⟨c,_,rfl⟩:=bv.1 y;grind[VM.own,cnt]) fM (by rw[B];simp only[execOp,U,M];rw[aL,J];rfl);grind
  grind
 ·rename_i wd i off len;split at h
  ·rename_i G;obtain⟨rfl,C⟩:=G;simp only[aw]at C;split at h
   ·rename_i cs S;split at h
    ·rename_i l X;split at h
     ·rename_i hl;simp only[ah,aB]at h;obtain⟨rfl,rfl⟩:=h;generalize M:a.eval x=v at y;cases y with
      |bsl A ho z=>
       rename_i t b cap;obtain⟨D,arr,e',f⟩:=hs.box S A;have:D=b:=by have:=f.bx;grind
       subst this;obtain⟨lo,hi,hh,hf⟩:=f.heap;obtain⟨e,I,L⟩:=ZQ C.1;obtain⟨k,n1,Y,W⟩:=TY X ((f.rep.drop off).takeN len);have R:k.length=len:=by simp_all
       have g: ∀j,j<len->w.cell? ⟨D,t+j,none⟩=some (.int .u8 (k.getD j 0)):=by grind[World.cell?]
       have key:=d6 w s e I L D t len cap k fM g d (CU C.2);have p:(strOfNums k).data.toList=l:=by rw[fD,W];rfl
       refine⟨.value (.string (strOfNums k)),w,a.put o.dst (.string (strOfNums k)),O,by simp_all[execOp],λK Q V=>V,put_defers _ _ _,Ext.refl _ _ _,av _,?_⟩;rw[<-p];refine hs.put o.dst (.str _ (by grind)) (by simp[VM.own]) λn=>?_;have:=hs.tok n;grind[cnt]
     grind
    grind
   grind
  grind
 ·rename_i wd i len;split at h
  ·rename_i G;obtain⟨rfl,C⟩:=G;simp only[aw]at C;split at h
   ·rename_i cs S;split at h
    ·rename_i l X;split at h
     ·rename_i hl;simp only[ah,aB]at h;obtain⟨rfl,rfl⟩:=h;generalize M:a.eval x=v at y;cases y with
      |gsl A hbt z hcz=>
       rename_i b cap nn T;obtain⟨D,arr,e',f⟩:=hs.box S A;have:D=b:=by have:=f.bx;grind
       subst this;obtain⟨lo,hi,hh,hf⟩:=f.heap;obtain⟨e,I,L⟩:=ZQ C.1;obtain⟨k,n1,Y,W⟩:=TY X (f.rep.takeN len);have R:k.length=len:=by simp_all
       have g: ∀j,j<len->w.cell? ⟨D,0+j,none⟩=some (.int .u8 (k.getD j 0)):=by intro j hj;have q:=Y j fM;have q1:=List.getElem?_take_some q;have q2:=List.getElem?_take_some q1;simp_all[World.cell?]
       have key:=d6 w s e I L D 0 len cap k fM g d (CU C.2);have p:(strOfNums k).data.toList=l:=by rw[fD,W];rfl
       refine⟨.value (.string (strOfNums k)),w,a.put o.dst (.string (strOfNums k)),O,by simp_all[execOp],λK Q V=>V,put_defers _ _ _,Ext.refl _ _ _,av _,?_⟩;rw[<-p];refine hs.put o.dst (.str _ (by grind)) (by simp[VM.own]) λn=>?_;have:=hs.tok n;grind[cnt]
     grind
    grind
   grind
  grind
 grind
end
end Go.VM
namespace Go.VM
def Zn (P:Program) (s d T:TypeId) (n:Nat):Bool:=match P.underlying s,P.underlying d with
 |some (.pointer t),some .unsafePointer=>(match P.info? t with|some j=>j.size !=0&&decide (0<n)|none=>false)
 |some .unsafePointer,some (.pointer u)=>(match P.info? u with|some _=>liesAt P P.depth T (n / P.cellsOf T) 0 u 1|none=>false)
 |_,_=>false
def Vn (E:Env) (s d:TypeId) (x:AVal) (st:St):Option AVal:=match x with
 |.ptr i 0=>match Aj st.m i with|some (.nself j T n::_)=>if j=i/\Zn E.P s d T n=true then some (.ptr i 0)else none|_=>none
 |_=>none
def VB (x:AVal):Option AVal:=match x with|.buf e l o=>some (.bufp e l o)|_=>none
def ptrTo (P:Program) (t e:TypeId):Bool:=match P.underlying t with|some (.pointer e')=>e'==e&&P.cellsOf e==1|_=>false
def ZK (E:Env) (b:TypeId) (x y:AVal):Option AVal:=match x,y with|.bufp e l true,.int .i64 n=>if ptrTo E.P b e=true/\n=l.length then some (.str l)else none|_,_=>none
section
variable{E:Env}{F:Nat->Nat}{O:At}{st:St}{w:World}{af:List AVal}{a:Act}
theorem Aaq (hs:Sim E F O st w af a.tmps.toList){o:Oper}{s d:TypeId}{x:Operand}{r:AVal} (C:o.op=.convert s d x) (h:Vn E s d (rd E af s x) st=some r):∃H w' z O',AM E F O st w a o (Ae af o.dst r) st H w' z O':=by
 have k:=hs.rd s x;generalize rd E af s x=ax at *;generalize v:a.eval x=vx at k;unfold Vn at h;split at h
 ·rename_i i;split at h
  ·rename_i j T n rest B;split at h
   ·rename_i A;obtain⟨rfl,c⟩:=A;cases h;obtain⟨p,hbx0⟩: ∃p,O.bx j=some p:=by cases k with|ptr f=>grind
    obtain⟨b,arr,e,g⟩:=hs.box B hbx0;obtain⟨lo,hi,S,R⟩:=g.heap;have l:O.bt j=some (T,n):=by have:=g.rep;generalize arr.toList.take _=vs at this;cases this with|cons h _=>cases h;omega
    obtain⟨rfl,I⟩:=g.ty _ _ l;cases k with
    | ptr f=>
     have:_=b:=cE (f.symm.trans g.bx);subst this;rename_i b;have D:w.shape? b=some (e,n):=by grind[World.shape?]
     have q:(convert s d (.pointer (some ⟨b,0,none⟩))).run E.P w=.ok (.pointer (some ⟨b,0,none⟩)) w:=by
      unfold Zn at c;split at c
      ·rename_i t J y;split at c;·rename_i M L;simp only[aw,fj,eA,au]at c;grind[Go.Lib.run_to_unsafe]
       grind
      ·grind[Go.Lib.run_from_unsafe]
      grind
     refine⟨.value (.pointer (some ⟨b,0,none⟩)),w,a.put o.dst _,O,by simp_all[execOp],λK Q G=>G,put_defers _ _ _,Ext.refl _ _ _,av _,?_⟩;refine hs.put o.dst (.ptr f) (by simp[VM.own]) λm=>?_;have:=hs.tok m;grind[cnt]
   grind
  grind
 grind
theorem AYO (hs:Sim E F O st w af a.tmps.toList){o:Oper}{x:Operand}{d:TypeId}{ts:List TypeId}{r:AVal} (J:o.op=.call {callee:=.builtin .unsafeSliceData,args:=⟨[x]⟩,argTypes:=⟨d::ts⟩}) (h:VB (rd E af d x)=some r):∃L w' I O',AM E F O st w a o (Ae (stripAt af x) o.dst r) st L w' I O':=by
 have g:=hs.rd d x;have j:=hs.rd_own d x;have k:=λb=>hs.rd_cnt d x b;have m:=hs.stripAt x;have p:=hs.tok;generalize rd E af d x=ax at *;generalize G:a.eval x=vx at *;unfold VB at h;split at h
 ·rename_i e l s;cases h;have t:Array.map a.eval ⟨[x]⟩= #[vx]:=by grind
  have c: ∀v,(Builtin.unsafeSliceData_ ⟨d::ts⟩ o.type #[vx]).run E.P w=.ok v w->(execOp a.eval o).run E.P w=.ok (.value v) w:=by simp_all[execOp,resolve,invoke,builtin]
  cases g with
  | buf _ g f=>
   have i:(u8s l).length=l.length:=by simp[u8s]
   cases vx with
   | slice base len cap=>
    cases base with
    |none=>
     obtain⟨rfl,rfl⟩:=f;have y:l=[]:=by generalize u8s l=q at g i;cases g;grind
     subst y;refine⟨_,w,a.put o.dst _,O,c _ (Go.Lib.run_unsafeSliceData_nil w _ _ 0 0),λK Q f=>f,put_defers _ _ _,Ext.refl _ _ _,av _,?_⟩;refine m.put o.dst (.bnil _ _) ?_ λb=>?_;·cases s<;>simp[VM.own,ACn,Sv]
     ·have:=p b;have:=k b;cases s<;>simp only[cnt,Sv]<;>omega
    | some ad=>
     obtain⟨b,off,R⟩:=ad;obtain⟨A,D,H,B⟩:=f;simp only at A D B;subst A;subst D;obtain⟨cells,z,C,hlm⟩: ∃cells,O.com b=some cells/\RepS O 1 (u8s l) cells/\l.length<=Ca:=by generalize u8s l=q at g i;cases g with|snil=>omega|slice _ S y z C M=>grind
     refine⟨_,w,a.put o.dst _,O,c _ (Go.Lib.run_unsafeSliceData_row w _ _ ⟨b,0,none⟩ len cap H),λK Q f=>f,put_defers _ _ _,Ext.refl _ _ _,av _,?_⟩;refine m.put o.dst (.bufp _ z B C hlm) ?_ λn=>?_
     ·cases s;·simp[VM.own]
      ·simp only[VM.own]at j⊢;exact j.2
     ·have:=p n;have T:=k n;cases s;·grind[cnt]
      ·have:Sv n (.pointer (some ⟨b,0,none⟩))=CP n (.slice (some ⟨b,0,none⟩) len cap):=rfl;grind[cnt]
   |_=>exact f.elim
 grind
theorem Sim.freeze (hs:Sim E F O st w af a.tmps.toList){b:Nat}{cells:List Value}{arr:Array Value}{e:TypeId}{fz fz':Nat×Nat}{w':World} (z:O.com b=some cells) (M:w.heap[b]?=some (.cells arr e fz)) (P:w'.heap[b]?=some (.cells arr e fz')) (g: ∀k,k≠b->w'.heap[k]?=w.heap[k]?) (B:w'.heap.size=w.heap.size) (G:w'.os=w.os) (r:w'.output=w.output) (l:w'.tape=w.tape) (Q:F b+AR b af a.tmps.toList+Aq O w b st.m=0):Sim E F O st w' af a.tmps.toList/\Ext F O w O w':=by
 have d: ∀p,p∈st.m->∀k,O.bx p.1=some k->k≠b:=by
  intro p hp k x q;rcases hs.box_ok p hp with⟨L,ar,K,c⟩|⟨v,j⟩;rotate_left;·have:=j.bx;grind
  have A:=c.bx;rw[x]at A;cases A;have:=c.com;grind
 have t: ∀n,Aq O w' n st.m=Aq O w n st.m:=λn=>GD λp hp=>⟨rfl,λk s=>g k (d p hp k s)⟩;refine⟨?_,⟨O.le_refl,λn f=>⟨g n (λe=>by grind),rfl⟩,fM,G,r,l⟩⟩;refine {hs with com_ok:=?_,box_ok:=?_,bx_lt:=?_,F_lt:=?_,own:=?_,tok:=?_};·intro n cs h;obtain⟨ar,q,fz2,C,y⟩:=hs.com_ok n cs h;grind
 ·intro p hp;rcases hs.box_ok p hp with⟨k,ar,q,c⟩|⟨v,j⟩;rotate_left;·refine .inr ⟨v,j.keep O.le_refl j.bx λn f=>⟨g n λe=>?_,rfl⟩⟩;subst e;have:=j.cnt n;have:=Yp (O:=O) (w:=w) (b:=n) hp;omega
  obtain⟨D,C,y,H⟩:=c.heap;have I:=d p hp k c.bx;refine .inl ⟨k,ar,q,c.bx,⟨D,C,by grind,H⟩,c.rep,Bz O.le_refl _ _ c.own λn f=>⟨g n λe=>?_,rfl⟩,c.com,c.one,c.ty⟩;subst e;have J:DR O w n p=AR n p.2 ar.toList:=by simp only[DR,c.bx,hcells,y]
  have:=ASp (O:=O) (w:=w) (b:=n) hp;omega
 ·intro i n h;rw[B];exact hs.bx_lt i n h
 ·intro n f;rw[B]at f;exact hs.F_lt n f
 ·exact Bz O.le_refl _ _ hs.own λn f=>⟨g n λe=>by grind,rfl⟩
 ·intro n;rw[t n];exact hs.tok n
theorem RepS.u8_get{O:At}: ∀ {l:B8}{cells:List Value},RepS O 1 (u8s l) cells->l.length<=cells.length/\∀(j:Nat) (x:UInt8),l[j]?=some x->cells[j]?=some (Value.int .u8 x.toNat)
 |[],cells,_=>⟨aM _,λj x h=>by grind⟩
 | c::l,cells,h=>by
  have b:RepS O 1 (.int .u8 c.toNat::u8s l) cells:=h;generalize e:AVal.int .u8 c.toNat::u8s l=q at b;cases b with
  |nil=>grind
  |cons h g t=>
   cases e;cases h;obtain⟨f,i⟩:=RepS.u8_get (l:=l) t;refine⟨?_,λj x d=>?_⟩;·rw[ag,ae];have:(Value.int IntKind.u8 ↑c.toNat).cells.toList.length=1:=rfl;omega
   ·cases j with|zero=>simp at d;subst d;rfl|succ j=>grind
theorem AiV (hs:Sim E F O st w af a.tmps.toList){o:Oper}{x y:Operand}{f g:TypeId}{r:AVal} (hop:o.op=.call {callee:=.builtin .unsafeString,args:=⟨[x,y]⟩,argTypes:=⟨[f,g]⟩}) (h:ZK E f (rd E af f x) (rd E af g y)=some r):∃nx w' a' O',AM E F O st w a o (Ae (stripAt af x) o.dst r) st nx w' a' O':=by
 have L:=hs.rd f x;have S:=hs.rd g y;have W:=λb=>hs.rd_cnt f x b;have q:=hs.stripAt x;have X:=hs.tok;generalize rd E af f x=ax at *;generalize rd E af g y=ay at *;generalize M:a.eval x=vx at *;generalize hvy:a.eval y=vy at *;unfold ZK at h;split at h
 ·rename_i e l n;split at h
  ·rename_i U;obtain⟨c,rfl⟩:=U;cases h;have A:Array.map a.eval ⟨[x,y]⟩= #[vx,vy]:=by grind
   cases S;have d: ∀v w',(Builtin.unsafeString_ #[f,g] o.type #[vx,.int .i64 l.length]).run E.P w=.ok v w'->(execOp a.eval o).run E.P w=.ok (.value v) w':=by simp_all[execOp,resolve,invoke,builtin]
   obtain⟨t,hc1⟩:E.P.underlying f=some (.pointer e)/\E.P.cellsOf e=1:=by
    unfold ptrTo at c;split at c;·rename_i z t;simp only[aw,be]at c;obtain⟨rfl,J⟩:=c;exact⟨t,J⟩
    ·cases c
   by_cases hl0:l=[]
   ·subst hl0;obtain⟨p,rfl⟩: ∃p,vx=.pointer p:=by cases L<;>exact⟨_,rfl⟩
    refine⟨_,w,a.put o.dst _,O,d _ _ (Go.Lib.run_unsafeString_none w f g o.type p),λK Q i=>i,put_defers _ _ _,Ext.refl _ _ _,av _,?_⟩;refine q.put o.dst (.str .empty fN) (by simp[VM.own]) λn=>?_;grind[cnt]
   ·cases L with
    |bnil=>grind
    | bufp _ hb hct hS hlm=>
     rename_i b cells;obtain⟨arr,z,fz,hh,⟨T,Y⟩,C⟩:=hs.com_ok _ _ hb;have:=C _ hct;subst this;obtain⟨hlc,hg⟩:=hS.u8_get;have D:cells.length+T.length=arr.size:=by grind[List.length_append,Array.length_toList]
     have I:l.length<=4611686018427387904:=hlm;have s:=Go.Lib.run_unsafeString_row (P:=E.P) w f g o.type z t hc1 b arr.size (by grind[World.shape?]) l hl0 fM fM (λj x Z=>by
      have h1:=hg j x Z;have J:arr.toList[j]?=some (.int .u8 x.toNat):=by grind
      grind[Addr.add,World.cell?]);have hcb:cnt b (.bufp z l true) (.pointer (some ⟨b,0,none⟩))=1:=by simp[cnt,Sv]
     have V:F b+AR b (stripAt af x) a.tmps.toList+Aq O w b st.m=0:=by grind
     have G:l.length≠0:=λh=>hl0 (bC h);obtain⟨H,R⟩:=q.freeze (w':=w.freeze ⟨b,0,none⟩ l.length) (fz':=if fz.1==fz.2 then(0,0+l.length)else(min fz.1 0,max fz.2 (0+l.length))) hb hh (by grind[World.freeze]) (λk i=>by simp only[World.freeze,aj G,d7];rw[aj (λe=>i e.symm)]) (by grind[World.freeze]) (by grind[World.freeze]) (by grind[World.freeze]) (by grind[World.freeze]) V;refine⟨_,_,a.put o.dst _,O,d _ _ s,λK Q i=>i,put_defers _ _ _,R,av _,?_⟩;have B:Rep O (.str l) (.string ⟨l.toArray⟩):=Rep.str (O:=O) ⟨l.toArray⟩ fM;refine H.put o.dst B (by simp[VM.own]) λn=>?_;have:=H.tok n;grind[cnt]
  grind
 grind
end
end Go.VM
namespace Go.VM
def MP:List B8->List AVal->B8->Option AVal|k::ks,v::vs,s=>if s=k then some v else MP ks vs s|_,_,_=>none
def MC:List B8->List AVal->B8->AVal->List AVal|k::ks,v::vs,s,x=>if s=k then x::vs else v::MC ks vs s x|_,_,_,x=>[x]
def IB:List B8->B8->List B8|k::ks,s=>if s=k then k::ks else k::IB ks s|[],s=>[s]
def U6 (P:Program) (t:TypeId):Option TypeId:=match P.underlying t with|some (.map k e)=>if Di P k=true then some e else none|_=>none
def XT (st:St) (x:AVal):Option (Nat×List B8×List AVal):=match x with
 |.sh i=>match Aj st.m i with|some [.map ks vs]=>some (i,ks,vs)|_=>none
 |_=>none
def SB (E:Env) (t:TypeId) (m k:AVal) (b:Bool) (st:St):Option AVal:=
  match U6 E.P t,XT st m,k with
  | some e,some (_,ks,vs),.str s=>
    match Cr E.P e with
    | some z=>
      let r:=match MP ks vs s with|some x=>x.strip|none=>z.strip
      some (if b then .tuple [r,.bool (MP ks vs s).isSome]else r)
    |none=>none
  |_,_,_=>none
def ACo (E:Env) (t:TypeId) (m k x:AVal) (st:St):Option St:=match U6 E.P t,XT st m,k with|some _,some (i,ks,vs),.str s=>some {st with m:=A9 st.m i [.map (IB ks s) (MC ks vs s x)]}|_,_,_=>none
def At.num (O:At) (i:Nat) (v:Value):At:= {O with sx:=λj=>if j=i then some v else O.sx j}
section
variable{E:Env}{F:Nat->Nat}{O:At}{st:St}{w:World}{af:List AVal}{a:Act}
def ACP (hs:Sim E F O st w af a.tmps.toList){b:Nat} (h:0<Aq O w b st.m):b<w.heap.size:=by
 have: ∀m,(∀p,p∈m->p∈st.m)->0<Aq O w b m->b<w.heap.size:=by
  intro m;induction m with
  |nil=>grind[Aq]
  | cons p m ih=>
   intro e h;rw[Aq]at h;rcases hs.box_ok p (e p fN)with⟨k,arr,e',hb⟩|⟨v,hv⟩;rotate_left
   ·have c:=hv.cnt b;rcases bf 0 (AR b p.2 [v])with h'|h';·exact(CG _ _ hv.own h').1
    grind
   obtain⟨lo,hi,d,f⟩:=hb.heap;have c:DR O w b p=AR b p.2 arr.toList:=by simp[DR,hb.bx,hcells,d]
   rcases bf 0 (AR b p.2 arr.toList)with h'|h';·exact(CG _ _ hb.own h').1
   grind
 grind
def Sim.elsewhere (hs:Sim E F O st w af a.tmps.toList){w':World}{b:Nat} (g: ∀n,n<w.heap.size->n≠b->w'.heap[n]?=w.heap[n]?) (D:w.heap.size<=w'.heap.size) (B:O.com b=none) (z: ∀i,i∈st.m.map (·.1)->O.bx i≠some b) (A:AR b af a.tmps.toList=0) (H:Aq O w b st.m=0):Sim E F O st w' af a.tmps.toList:=by
 have s: ∀p,p∈st.m->∀k,O.bx p.1=some k->w'.heap[k]?=w.heap[k]?:=λp hp k l=>g k (hs.bx_lt _ _ l) (λe=>z p.1 (eC hp) (by grind));have d: ∀p,p∈st.m->DR O w b p=0:=by
  intro p hp;have: ∀m,p∈m->DR O w b p<=Aq O w b m:=by
   intro m;induction m with
   |nil=>simp
   |cons q m C=>
    intro h;rw[Aq];rcases aO.1 h with rfl|h;·omega
    grind
  grind
 refine {hs with com_ok:=?_,box_ok:=?_,bx_lt:=?_,F_lt:=?_,own:=?_,tok:=?_};·intro n cs h;obtain⟨ar,r,fz,G,t⟩:=hs.com_ok n cs h;grind
 ·intro p hp;rcases hs.box_ok p hp with⟨k,ar,r,c⟩|⟨v,j⟩;rotate_left;·have h0:=d p hp;have:=j.cnt b;exact .inr ⟨v,j.keep O.le_refl j.bx λn f=>⟨g n (CG _ _ j.own f).1 (λe=>by grind),rfl⟩⟩
  obtain⟨lo,hi,t,x⟩:=c.heap;have y:DR O w b p=AR b p.2 ar.toList:=by simp[DR,c.bx,hcells,t]
  have h0:=d p hp;refine .inl ⟨k,ar,r,c.bx,⟨lo,hi,by rw[s p hp k c.bx];omega,x⟩,c.rep,Bz O.le_refl _ _ c.own λn f=>?_,c.com,c.one,c.ty⟩;exact⟨g n (CG _ _ c.own f).1 (λe=>by grind),rfl⟩
 ·intro i n h;have:=hs.bx_lt i n h;omega
 ·intro n f;exact hs.F_lt n fM
 ·exact Bz O.le_refl _ _ hs.own λn f=>⟨g n (CG _ _ hs.own f).1 (λe=>by grind),rfl⟩
 ·intro n;rw[GD (w:=w) λp hp=>⟨rfl,s p hp⟩];exact hs.tok n
def Sim.le_num{c:List Value} (hs:Sim E F O st w af c) (v:Value):O.le (O.num st.next v):=by refine⟨λb cs h=>⟨[],by grind[At.num]⟩,λ_ _ h=>h,λ_ _ h=>h,λ_ _ h=>h,λi u h=>?_⟩;simp only[At.num];have:=(hs.sx_next i u h).1;rw[aj fM];exact h
def Sim.newSh{j:List Value} (hs:Sim E F O st w af j){x:AVal}{v:Value} (r:Rep O x v) (s:VM.own O w x v) (B: ∀b,F b+AR b af j+cnt b x v+Aq O w b st.m<=1):Sim E F (O.num st.next v) {m:=(st.next,[x])::st.m,next:=st.next+1} w af j/\Ext F O w (O.num st.next v) w:=by
 have c:=hs.le_num v;have f:O.bx st.next=none:=by cases h:O.bx st.next with|none=>rfl|some b=>exact absurd (hs.bx_next _ _ h) fM
 refine⟨?_,⟨c,λ_ _=>⟨rfl,rfl⟩,av _,rfl,rfl,rfl⟩⟩;refine {com_ok:=hs.com_ok,box_ok:=?_,sx_next:=?_,keys:=?_,inj:=hs.inj,bx_lt:=hs.bx_lt,bx_next:=λi b h=>?_,tyd:=hs.tyd,bx_F:=?_,F_lt:=hs.F_lt,glob:=λg cs h=>(hs.glob g cs h).mono c,rep:=hs.rep.mono c,own:=Bz c _ _ hs.own λ_ _=>⟨rfl,rfl⟩,tok:=λb=>?_}
 ·intro p hp;rcases aO.1 hp with rfl|hp;·exact .inr ⟨v,by simp[At.num],f,.cons (r.mono c) .nil,by rw[ownL];exact⟨AVf c _ _ s λ_ _=>⟨rfl,rfl⟩,by simp[ownL]⟩⟩
  ·rcases hs.box_ok p hp with⟨k,ar,q,d⟩|⟨u,n⟩;·exact .inl ⟨k,ar,q,d.bx,d.heap,d.rep.mono c,Bz c _ _ d.own λ_ _=>⟨rfl,rfl⟩,d.com,d.one,d.ty⟩
   ·exact .inr ⟨u,n.keep c n.bx λ_ _=>⟨rfl,rfl⟩⟩
 ·intro i u h;show i<st.next+1/\_;simp only[At.num]at h;split at h;·rename_i e;subst e;exact⟨fM,f⟩
  ·obtain⟨A,y⟩:=hs.sx_next i u h;exact⟨fM,y⟩
 ·simp only[aH,bZ];refine⟨λt=>?_,hs.keys⟩;obtain⟨p,hp,e⟩:=bv.1 t;have:=hs.key_lt hp;omega
 ·have:=hs.bx_next i b h;grind
 ·intro p b hp d;rcases aO.1 hp with rfl|hp;·have:O.bx st.next=some b:=d;grind
  ·exact hs.bx_F p b hp d
 ·have l:Aq (O.num st.next v) w b st.m=Aq O w b st.m:=GD (λp hp=>⟨rfl,λ_ _=>rfl⟩) (λp hp=>by have:=hs.key_lt hp;simp only[At.num];grind);rw[Aq,l];have z:DR (O.num st.next v) w b (st.next,[x])=cnt b x v:=by simp_all[At.num,DR,AR]
  grind
def Sim.fresh (hs:Sim E F O st w af a.tmps.toList) (o:Obj):Sim E F O st (w.alloc o) af a.tmps.toList/\Ext F O w O (w.alloc o)/\F w.heap.size=0/\AR w.heap.size af a.tmps.toList=0/\Aq O (w.alloc o) w.heap.size st.m=0:=by
 have c: ∀n,n<w.heap.size->(w.alloc o).heap[n]?=w.heap[n]?:=λn d=>alloc_old o d;have e:AR w.heap.size af a.tmps.toList=0:=by
  rcases bf 0 (AR w.heap.size af a.tmps.toList)with h|h;·have:=(CG _ _ hs.own h).1;omega
  omega
 have g:Aq O w w.heap.size st.m=0:=by
  rcases bf 0 (Aq O w w.heap.size st.m)with h|h;·have:=ACP hs h;omega
  omega
 refine⟨hs.elsewhere (b:=w.heap.size) (λn d _=>c n d) fN (hs.com_none (av _)) (λi hi h=>?_) e g,⟨O.le_refl,λn d=>⟨c n (hs.F_of d),rfl⟩,fN,rfl,rfl,rfl⟩,hs.F_lt _ (av _),e,?_⟩;·have:=hs.bx_lt _ _ h;omega
 ·rw[GD (O:=O) (w:=w) λp hp=>⟨rfl,λk f=>c k (hs.bx_lt _ _ f)⟩];omega
theorem AJ6 (hs:Sim E F O st w af a.tmps.toList){o:Oper}{t:TypeId} (d:o.op=.makeMap t none):∃j w' k O',AM E F O st w a o (Ae af o.dst (.sh st.next)) {m:=(st.next,[.map [] []])::st.m,next:=st.next+1} j w' k O':=by
 obtain⟨e,g,l,p,n⟩:=hs.fresh (.map #[] 0);have c: ∀b,cnt b (.map [] []) (.map (some w.heap.size))=if w.heap.size=b then 1 else 0:=λb=>by simp[cnt,QL]
 obtain⟨f,h⟩:=e.newSh (x:=.map [] []) (v:=.map (some w.heap.size)) (.map _ _ _) (by simp only[VM.own];exact⟨_,#[],0,rfl,OU _,.nil⟩) (λb=>by
  rw[c];split;·grind
  ·have:=e.tok b;omega);refine⟨.value (.map (some w.heap.size)),w.alloc (.map #[] 0),a.put o.dst (.map (some w.heap.size)),_,?_,λK Q i=>i,put_defers _ _ _,g.trans h,fN,?_⟩;·simp only[execOp,d];rfl
 ·refine f.put o.dst (.sh (by simp[At.num]) ⟨rfl,rfl⟩) (by simp[VM.own]) λb=>?_;have:=f.tok b;grind[cnt]
def AF8{P:Program}{t e:TypeId} (h:U6 P t=some e): ∃k,P.underlying t=some (.map k e)/\P.underlying k=some .string:=by grind[U6,CU]
def AEJ (hs:Sim E F O st w af a.tmps.toList){x:AVal}{v:Value}{i:Nat}{ks:List B8}{vs:List AVal} (h:XT st x=some (i,ks,vs)) (g:Rep O x v):Aj st.m i=some [.map ks vs]/\Dd O w (i,[.map ks vs]) v/\AQX O w ks vs v:=by
 unfold XT at h;split at h
 ·rename_i j;split at h
  ·rename_i f c d;cases h;cases g with
   | sh hsx hk=>
    rcases hs.box_ok _ (Mt d)with⟨b,arr,e,hb⟩|⟨u,hv⟩;·have:=(hs.sx_next _ _ hsx).2;have k:=hb.bx;grind
    ·have:u=v:=by have:=hv.sx;grind
     subst this;have:=hv.own;grind[ownL,VM.own]
  grind
 grind
theorem Zi{a b:ByteArray}:Value.string a=Value.string b<->a.data.toList=b.data.toList:=by
 constructor;·grind
 ·intro h;obtain⟨a⟩:=a;simp_all
def RepK.find{ks:List B8}{vs:List AVal}{f:List MapEntry} (h:RepK O ks vs f) (s:ByteArray): ∀i,(Instr.findNow .string (.string s) f i=some none/\MP ks vs s.data.toList=none/\∀x c d,Rep O x c->RepK O (IB ks s.data.toList) (MC ks vs s.data.toList x) (f++[⟨.string s,c,d⟩]))\/∃j e0 l,Instr.findNow .string (.string s) f i=some (some (i+j,e0.val))/\f[j]?=some e0/\e0.key=.string s/\MP ks vs s.data.toList=some l/\Rep O l e0.val/\∀x c,Rep O x c->RepK O (IB ks s.data.toList) (MC ks vs s.data.toList x) (f.modify j λe=>{e with key:=.string s,val:=c}):=by
 induction h with
 |nil=>exact λi=>.inl ⟨rfl,rfl,λx c d n=>.cons rfl n .nil⟩
 | @cons b x e ks vs f hk hv t ih=>
  intro i;by_cases he:s=b
  ·subst he;have p:(s==s)=true:=(eu s s).2 rfl;refine .inr ⟨0,e,x,?_,rfl,hk,by simp[MP],hv,λy c k=>?_⟩;·grind[Instr.findNow,Instr.sameNow]
   ·simp only[IB,MC,az,List.modify_zero_cons];exact .cons rfl k t
  ·have p:(s==b)=false:=by grind[absurd,Go.MapKept.bytes_beq]
   have g: ¬s.data.toList=b.data.toList:=λh=>he (by grind[Zi]);have m:Instr.findNow .string (.string s) (e::f) i=Instr.findNow .string (.string s) f (i+1):=by grind[Instr.findNow,Instr.sameNow]
   rw[m];rcases ih (i+1)with⟨h1,h2,h3⟩|⟨j,e0,l,h1,h2,h3,h4,h5,h6⟩;·exact .inl ⟨h1,by simp_all[MP],λy c d k=>by rw[IB,MC,aj g,aj g];exact .cons hk hv (h3 y c d k)⟩
   ·refine .inr ⟨j+1,e0,l,by grind,by grind,h3,by simp_all[MP],h5,λy c k=>?_⟩;rw[IB,MC,aj g,aj g,List.modify_succ_cons];exact .cons hk hv (h6 y c k)
def AS7 (hs:Sim E F O st w af a.tmps.toList){o:Oper}{t:TypeId}{m k:Operand}{c:Bool}{r:AVal} (U:o.op=.lookup t m k c) (h:SB E t (rd E af t m) (rd E af 0 k) c st=some r):∃W w' S O',AM E F O st w a o (Ae af o.dst r) st W w' S O':=by
 have R:=hs.rd t m;have q:=hs.rd 0 k;generalize rd E af t m=am at *;generalize rd E af 0 k=ak at *;generalize V:a.eval m=vm at *;generalize L:a.eval k=vk at *;unfold SB at h;split at h
 ·rename_i e i ks vs s M y;split at h
  ·rename_i z T;simp only[ah]at h;subst h;obtain⟨kt,G,f⟩:=AF8 M;obtain⟨_,_,b,es,n,rfl,H,Y⟩:=AEJ hs y R;obtain⟨A,v,C⟩:=Sr (O:=O) (w:=w) T;cases q with
   | str sb hn=>
    have key: ∃u B,(Instr.lookup t (.map (some b)) (.string sb) c).run E.P w=.ok u w/\Rep O (if c then .tuple [(match MP ks vs sb.data.toList with|some x=>x.strip|none=>z.strip),.bool (MP ks vs sb.data.toList).isSome]else(match MP ks vs sb.data.toList with|some x=>x.strip|none=>z.strip)) u/\(if c then .tuple [(match MP ks vs sb.data.toList with|some x=>x.strip|none=>z.strip),.bool (MP ks vs sb.data.toList).isSome]else(match MP ks vs sb.data.toList with|some x=>x.strip|none=>z.strip))=AVal.strip B:=by
     rcases Y.find sb 0 with⟨p,Z,_⟩|⟨j,e0,I,p,_,_,X,J,_⟩
     ·rw[Z];refine⟨if c then .tuple #[A,.bool false]else A,if c then .tuple [z,.bool false]else z,?_,?_,?_⟩;·cases c<;>simp[Instr.lookup,aI G,bR H,df f (d:=.string) (k:=.string sb) trivial,dk f p,v,Result.andThen]
      ·cases c;·exact C.rep.strip
       ·exact .tuple (.cons C.rep.strip (.cons (.bool _) .nil))
      grind[AVal.strip,stripL]
     ·rw[X];refine⟨if c then .tuple #[e0.val,.bool true]else e0.val,if c then .tuple [I,.bool true]else I,?_,?_,?_⟩;·cases c<;>simp[Instr.lookup,aI G,bR H,df f (d:=.string) (k:=.string sb) trivial,dk f p,Result.andThen]
      ·cases c;·exact J.strip
       ·exact .tuple (.cons J.strip (.cons (.bool _) .nil))
      grind[AVal.strip,stripL]
    obtain⟨u,B,D,g,l⟩:=key;refine⟨.value u,w,a.put o.dst u,O,?_,λK Q q=>q,put_defers _ _ _,Ext.refl _ _ _,av _,?_⟩;·simp_all[execOp]
    ·refine hs.put o.dst g (by grind[NG]) λb=>?_;rw[l,JU];exact hs.tok b
  grind
 grind
def ADJ (hs:Sim E F O st w af a.tmps.toList){o:Oper}{i b g clock':Nat}{M es':Array MapEntry}{cs:List AVal}{y:AVal} (A:Aj st.m i=some cs) (h:Dd O w (i,cs) (.map (some b))) (hb:w.heap[b]?=some (.map M g)) (l: ∀n,AR n cs [.map (some b)]=if b=n then 1 else 0) (R:Rep O y (.map (some b))) (s:VM.own O {w with heap:=w.heap.setIfInBounds b (.map es' clock')} y (.map (some b))) (B: ∀n,cnt n y (.map (some b))=if b=n then 1 else 0) (hd:o.dst=none) (q:(execOp a.eval o).run E.P w=.ok .skip {w with heap:=w.heap.setIfInBounds b (.map es' clock')}): ∃nx w' W O',AM E F O st w a o af {st with m:=A9 st.m i [y]} nx w' W O':=by
 have Z:b<w.heap.size:=AId hb;have r: ∀n,Aq O w n (A9 st.m i [.any])+(if b=n then 1 else 0)=Aq O w n st.m:=λn=>by
  have e1:=JQ (O:=O) (O':=O) (w:=w) (w':=w) (b:=n) (x:=[.any]) hs.keys A (λp hp hne=>rfl);have L:=h.cnt n;rw[l]at L;have e3:DR O w n (i,[.any])=0:=by simp only[DR,h.bx,h.sx];simp[AR,cnt]
  omega
 have v:Sim E F O {st with m:=A9 st.m i [.any]} w af a.tmps.toList:=hs.setSh A h (.cons (.any _) .nil) (by simp[ownL,VM.own]) (λn=>by rw[l];have:=hs.tok n;grind[AR,cnt]);have Y:=hs.tok b;have C:=r b;rw[an rfl]at C;have d: ∀n,n≠b->({w with heap:=w.heap.setIfInBounds b (.map es' clock')}:World).heap[n]?=w.heap[n]?:=λn z=>by grind
 have G:({w with heap:=w.heap.setIfInBounds b (.map es' clock')}:World).heap[b]?=some (.map es' clock'):=by grind
 have S:Sim E F O {st with m:=A9 st.m i [.any]} {w with heap:=w.heap.setIfInBounds b (.map es' clock')} af a.tmps.toList:=v.elsewhere (b:=b) (λn _ z=>d n z) fN (by cases V:O.com b with|none=>rfl|some cs=>obtain⟨ar,H,fz,q2,_⟩:=hs.com_ok b cs V;grind) (λj U T=>by
  obtain⟨p,hp,rfl⟩:=bv.1 U;rcases v.box_ok p hp with⟨k,ar,H,c⟩|⟨u,f⟩;·obtain⟨lo,hi,q3,_⟩:=c.heap;have:=c.bx;grind
  ·have:=f.bx;grind) fM (by grind);have t:Aj (A9 st.m i [.any]) i=some [.any]:=JC A;have D:Dd O {w with heap:=w.heap.setIfInBounds b (.map es' clock')} (i,[.any]) (.map (some b)):=⟨h.sx,h.bx,.cons (.any _) .nil,by simp[ownL,VM.own]⟩;have J:=S.setSh (cs':=[y]) t D (.cons R .nil) (by simp only[ownL,cG];exact s) (λn=>by
  have X:AR n [y] [.map (some b)]=if b=n then 1 else 0:=by simp only[AR,B n];omega
  have h2:Aq O {w with heap:=w.heap.setIfInBounds b (.map es' clock')} n (A9 st.m i [.any])=Aq O w n (A9 st.m i [.any]):=GD λp hp=>⟨rfl,λk I=>d k (λe=>by
   subst e;rcases v.box_ok p hp with⟨k',ar,H,c⟩|⟨u,f⟩;·obtain⟨lo,hi,q3,_⟩:=c.heap;have:=c.bx;grind
   ·have:=f.bx;grind)⟩;rw[X];show _+Aq O {w with heap:=w.heap.setIfInBounds b (.map es' clock')} n (A9 st.m i [.any])<=_;rw[h2];have:=hs.tok n;have:=r n;grind);simp only[Ri]at J;exact⟨.skip,_,a.put o.dst undef,O,q,λK Q I=>I,put_defers _ _ _,⟨O.le_refl,λn z=>⟨d n (λe=>by grind),rfl⟩,fN,rfl,rfl,rfl⟩,av _,by rw[hd];exact J⟩
def AXE (hs:Sim E F O st w af a.tmps.toList){o:Oper}{t:TypeId}{m k x:Operand}{p:St} (g:o.op=.mapUpdate t m k x\/o.op=.insert t m k x) (hd:o.dst=none) (h:ACo E t (rd E af t m) (rd E af 0 k) (rd E af 0 x) st=some p):∃M w' J O',AM E F O st w a o af p M w' J O':=by
 have K:=hs.rd t m;have C:=hs.rd 0 k;have V:=hs.rd 0 x;generalize rd E af t m=am at *;generalize rd E af 0 k=ak at *;generalize rd E af 0 x=ax at *;generalize B:a.eval m=vm at *;generalize H:a.eval k=vk at *;generalize A:a.eval x=vx at *;unfold ACo at h;split at h
 ·rename_i e i ks vs s R v;simp only[ah]at h;subst h;obtain⟨X,z,f⟩:=AF8 R;obtain⟨L,G,b,q,c,rfl,l,Q⟩:=AEJ hs v K;cases C with
  | str sb hn=>
   obtain⟨es',clock',hrun,hK'⟩: ∃es' clock',(Instr.mapUpdate t (.map (some b)) (.string sb) vx).run E.P w=.ok () {w with heap:=w.heap.setIfInBounds b (.map es' clock')}/\RepK O (IB ks sb.data.toList) (MC ks vs sb.data.toList ax) es'.toList:=by
    rcases Q.find sb 0 with⟨r,D,y⟩|⟨j,e0,T,r,D,y,W,U,S⟩;·refine⟨q.push ⟨.string sb,vx,c⟩,c+1,?_,by grind⟩;simp[Instr.mapUpdate,aI z,bR l,df f (d:=.string) (k:=.string sb) trivial,dk f r,cM _ l,Result.andThen]
    ·refine⟨q.modify j λe=>{e with key:=.string sb,val:=vx},c,?_,by grind⟩;have I:q[j]?=some e0:=by grind
     simp[Instr.mapUpdate,aI z,bR l,df f (d:=.string) (k:=.string sb) trivial,dk f r,I,y,Go.MapKept.run_keyThatStays (d:=.string) (k:=.string sb) trivial,cM _ l,Result.andThen]
   exact ADJ (es':=es') (clock':=clock') hs L G l (λn=>by simp[AR,cnt,QL]) (.map _ _ _) (by simp only[VM.own];exact⟨b,es',clock',rfl,by have:=AId l;grind,hK'⟩) (λn=>by simp[cnt,QL]) hd (by rcases g with g|g<;>simp_all[execOp])
 grind
def RS (E:Env) (c b:TypeId) (s y:AVal):Option AVal:=match s with
 |.slice wd xs true=>match KZ E.P c,RX wd y with|some (z,by_),some [y1]=>if z=wd/\I4 E.P b=none/\Ai E.P b=true/\(xs.length+1) * by_<=140737488355328/\xs.length+1<=Ca then some (.slop wd xs)else none|_,_=>none
 |_=>none
set_option maxHeartbeats 1000000 in theorem APH (hs:Sim E F O st w af a.tmps.toList){o:Oper}{x y:Operand}{t0 t1:TypeId}{ts:List TypeId}{r:AVal} (hop:o.op=.call {callee:=.builtin .append,args:=#[x,y],argTypes:=⟨t0::t1::ts⟩}) (h:RS E t0 t1 (rd E af t0 x) (rd E af t1 y)=some r):∃v w' O',(execOp a.eval o).run E.P w=.ok (.value v) w'/\Ext F O w O' w'/\Sim E F O' st w' (stripAt af x) a.tmps.toList/\Rep O' r v/\VM.own O' w' r v/\(v.cells= #[v]/\v.oneCell'=true)/\(∀n,F n+AR n (stripAt af x) a.tmps.toList+cnt n r v+Aq O' w' n st.m<=1):=by
 have hx:=hs.rd t0 x;have hox:=hs.rd_own t0 x;have hcx:=λb=>hs.rd_cnt t0 x b;have hy:=hs.rd t1 y;have hs1:=hs.stripAt x;have htk:=hs.tok;generalize rd E af t1 y=ay at *;generalize rd E af t0 x=ax at *;generalize hvx:a.eval x=vx at *;generalize hvy:a.eval y=vy at *;unfold RS at h;split at h
 ·rename_i wd xs;split at h
  ·rename_i z byt y1 hap hsrc;split at h
   ·rename_i hc;obtain⟨rfl,hint,hkn,hroom,h62'⟩:=hc;have h62:xs.length+1<=4611686018427387904:=h62';simp only[ah]at h;subst h;obtain⟨e,i,zv,hu,hi,hz,hzs,his,hib⟩:=M5 hap;obtain⟨news,src⟩:=UQ hs hy hsrc;obtain⟨d1,hd1⟩:=C9 hkn;have hargs:Array.map a.eval #[x,y]= #[vx,vy]:=by grind
    have hexec: ∀r,(Builtin.append_ ⟨t0::t1::ts⟩ o.type #[vx,vy]).run E.P w=r->(execOp a.eval o).run E.P w=r.andThen λv w'=>.ok (.value v) w':=by simp_all[execOp,resolve,invoke,builtin]
    by_cases hfit: ∃b off len cap,vx=.slice (some ⟨b,off,none⟩) len cap/\len+[y1].length<=cap
    ·obtain⟨b,off,len,cap,rfl,hfits⟩:=hfit;have hfits1:len+1<=cap:=hfits;simp only[VM.own]at hox;obtain⟨arr,e',lo,hi',cells,hh,hf,hcom,hcl,hsz⟩:=ABH hox fM;obtain⟨arr0,e0,fz0,hh0,⟨ds,hds⟩,hct0⟩:=hs.com_ok b cells hcom;rw[hh]at hh0;cases hh0;obtain⟨hl,hS⟩:xs.length=len/\RepS O z xs (cells.drop off):=by cases hx with|snil=>omega|slice _ hb hl hcap hS hnn=>grind
     have hlenarr:cells.length+ds.length=arr.size:=by grind[List.length_append,Array.length_toList]
     have hnl:news.length<=ds.length:=by rw[src.size];have:(len+[y1].length) * z<=cap * z:=bO _ hfits;grind
     obtain⟨w',arr',r1,q1,q2,q3,q4,q5,q6,q7,q8⟩:=EB (P:=E.P) (b:=b) (base:=off+len * z) news 0 arr w hh hf fM src.one;rw[bW,<-hcl,hds,Kb _ _ _ hnl]at q2;have hbt:1<=cnt b (.slice z xs true) (.slice (some ⟨b,off,none⟩) len cap):=by simp only[cnt,Lt];rw[an ⟨fM,trivial⟩];omega
     have hzero:F b+AR b (stripAt af x) a.tmps.toList+Aq O w b st.m=0:=by grind
     obtain⟨s2,x2,hcm⟩:=hs1.grow (news:=[]) (rest:=news++ds.drop news.length) hcom q1 (by grind) q4 q5 q6 q7 q8 hzero hct0;have hlen:=src.len w;have hfirst:=src.first w (λ_ _=>rfl);rw[<-his]at hfirst r1;have hrun:(Builtin.append_ ⟨t0::t1::ts⟩ o.type #[.slice (some ⟨b,off,none⟩) len cap,vy]).run E.P w=.ok (.slice (some ⟨b,off,none⟩) (len+[y1].length) cap) w':=by rw[Mg hu hi hd1 hint hlen hfits hfirst];simp only[addr_add];simp_all
     refine⟨_,w',_,hexec _ hrun,x2,s2,.slop (cells:=cells++[]) (by simp[At.ext]) (by grind) ⟨hfits,by grind⟩ ?_,?_,⟨rfl,rfl⟩,?_⟩
     ·have hS2:RepS O z xs ((cells++[]).drop off):=by grind
      exact hS2.mono x2.le
     ·simp only[VM.own,TL];exact⟨arr',e',lo,hi',cells++[],q1,by grind,trivial,by simp[At.ext],by grind,fM,by grind⟩
     ·intro n;rw[hcm n];have h1:cnt n (.slop z xs) (.slice (some ⟨b,off,none⟩) (len+[y1].length) cap)<=cnt n (.slice z xs true) (.slice (some ⟨b,off,none⟩) len cap):=by
       simp only[cnt,Lt,CP];split;·rename_i hh';rw[an ⟨fM,hh'⟩];omega
       omega
      grind
    ·obtain⟨base,len,cap,rfl,hlen,hcap⟩: ∃base len cap,vx=.slice base len cap/\xs.length=len/\len<=cap:=by cases hx with|snil=>exact⟨_,0,0,rfl,rfl,av _⟩|slice _ hb hl hc hS hnn=>exact⟨_,_,_,rfl,hl,hc.1⟩
     obtain⟨olds,so⟩:=WY hs hx;subst hlen;have hneed: ¬(xs.length+[y1].length<=cap):=by intro hle;apply hfit;cases hx with|snil=>grind|slice _ hb hl hc hS hnn=>exact⟨_,_,_,_,rfl,hle⟩
     have hy1:[y1].length=1:=rfl;have h63: ¬(9223372036854775807<((xs.length:Int)+([y1].length:Int))):=fM;have h48: ¬(281474976710656<Builtin.nextslicecap (xs.length+[y1].length) cap * i.bytes):=by have:=eQ (need:=xs.length+[y1].length) (old:=cap) (bytes:=i.bytes) fM (by grind);omega
     have hl1:=src.len w;have hf1:=src.first w.drew (λ_ _=>rfl);have hf0:=so.first w.drew (λ_ _=>rfl);rw[<-his]at hf1 hf0;generalize hnc:grownCap w (xs.length+[y1].length) cap e=nc;have hge:xs.length+[y1].length<=nc:=by grind[grownCap_ge]
     have hrun:(Builtin.append_ ⟨t0::t1::ts⟩ o.type #[.slice base xs.length cap,vy]).run E.P w=.ok (.slice (some ⟨w.heap.size,0,none⟩) (xs.length+[y1].length) nc) (w.drew.alloc (.cells (olds.toArray++news.toArray++Builtin.zeroCells zv.cells (nc-(xs.length+[y1].length))) e)):=by subst hnc;have e3:IntKind.i64.max=9223372036854775807:=fO;grind[Nz]
     have hsd:Sim E F O st w.drew (stripAt af x) a.tmps.toList:=hs1.drew;obtain⟨s2,x2,hcm⟩:=hsd.newArr (cells:=olds.toArray++news.toArray++Builtin.zeroCells zv.cells (nc-(xs.length+[y1].length))) (e:=e) (pre:=olds) (spare:=news++(Builtin.zeroCells zv.cells (nc-(xs.length+[y1].length))).toList) (fz:=(0,0)) fN so.one;have x0:Ext F O w O w.drew:=⟨O.le_refl,λ_ _=>⟨rfl,rfl⟩,av _,rfl,rfl,rfl⟩;refine⟨_,_,_,hexec _ hrun,x0.trans x2,s2,.slop (cells:=olds) (by simp[At.arr]) fN ⟨hge,h62'⟩ ?_,?_,⟨rfl,rfl⟩,?_⟩;·rw[aN];exact so.rep.mono x2.le
     ·simp only[VM.own,TL];refine⟨_,e,0,0,olds,OU _,fM,trivial,by simp[At.arr],?_,?_,rfl⟩;·rw[so.size,bJ]
      ·simp only[eZ,du,so.size,src.size,Builtin.zeroCells,eR,eb,hzs,<-cB];simp_all
     ·intro n;have hcn:AR n (stripAt af x) a.tmps.toList+Aq (O.arr w.drew.heap.size olds e) (w.drew.alloc (.cells (olds.toArray++news.toArray++Builtin.zeroCells zv.cells (nc-(xs.length+[y1].length))) e)) n st.m+F n+(if n=w.heap.size then 1 else 0)<=1:=hcm n;have h1:cnt n (.slop z xs) (.slice (some ⟨w.heap.size,0,none⟩) (xs.length+[y1].length) nc)<=if n=w.heap.size then 1 else 0:=by
       simp only[cnt,CP];split;·simp_all
       omega
      omega
   grind
  grind
 grind
theorem AQh (hs:Sim E F O st w af a.tmps.toList){o:Oper}{x y:Operand}{f e:TypeId}{ts:List TypeId}{r:AVal} (d:o.op=.call {callee:=.builtin .append,args:=#[x,y],argTypes:=⟨f::e::ts⟩}) (h:RS E f e (rd E af f x) (rd E af e y)=some r):∃q w' s O',AM E F O st w a o (Ae (stripAt af x) o.dst (.sh st.next)) {m:=(st.next,[r])::st.m,next:=st.next+1} q w' s O':=by obtain⟨v,w',O',c,j,i,p,t,n,z⟩:=APH hs d h;obtain⟨g,k⟩:=i.newSh p t z;refine⟨.value v,w',a.put o.dst v,_,c,λK Q l=>l,put_defers _ _ _,j.trans k,fN,?_⟩;refine g.put o.dst (.sh (by simp[At.num]) n) (by simp[VM.own]) λb=>?_;have:=g.tok b;grind[cnt]
def Hy (E:Env) (t:TypeId) (x i:AVal) (st:St):Option AVal:=match YR st x,x,i with|some (j,w,xs),.sh _,.int _ n=>if Bh E.P t=some w/\n=xs.length then some (.sptr j w xs.length)else none|_,_,_=>none
theorem Xx (vs:List Value) (t:Nat) (d:Value):vs.set t (vs.getD t d)=vs:=by apply ce;grind
def A0w (hs:Sim E F O st w af a.tmps.toList){i:Nat}{cs:List AVal}{v:Value} (c:O.sx i=some v) (d:Aj st.m i=some cs):Dd O w (i,cs) v:=by
 rcases hs.box_ok _ (Mt d)with⟨b,arr,e,hb⟩|⟨u,hv⟩;·have:=(hs.sx_next _ _ c).2;have f:=hb.bx;grind
 ·have:u=v:=by have:=hv.sx;grind
  grind
theorem ACA (hs:Sim E F O st w af a.tmps.toList){o:Oper}{t:TypeId}{x i:Operand}{r:AVal} (C:o.op=.indexAddr t x i) (h:Hy E t (rd E af t x) (rd E af 0 i) st=some r):∃I w' z O',AM E F O st w a o (Ae af o.dst r) st I w' z O':=by
 have s:=hs.rd t x;have hi:=hs.rd 0 i;generalize rd E af t x=ax at *;generalize rd E af 0 i=ai at *;generalize q:a.eval x=vx at *;generalize H:a.eval i=vi at *;unfold Hy at h;split at h
 ·rename_i j w' xs k v n f;split at h
  ·rename_i A;obtain⟨g,rfl⟩:=A;simp only[ah]at h;subst h;unfold YR at f;simp only at f;split at f
   ·rename_i S L D;cases f;cases hi;cases s with
    | sh hsx p=>
     have R:=A0w hs hsx D;have c:=R.own;simp only[ownL,VM.own,cG]at c;unfold TL at c;split at c
     ·rename_i J len cap;obtain⟨arr,e,lo,hi,cells,U,M,d,X,Y,V,T⟩:=c;obtain⟨b,off,l⟩:=J;simp only at d;subst d;obtain⟨W,G,B⟩:=Bt g;have m:(Instr.indexAt t (.slice (some ⟨b,off,none⟩) len cap) (.int v xs.length)).run E.P w=.ok (.pointer (some ⟨b,off+xs.length * w',none⟩)) w:=by have M:((xs.length:Nat):Int)<(len:Int):=fM;have d:(0:Int)<=((xs.length:Nat):Int):=fM;have y:xs.length<len:=fM;simp[Instr.indexAt,asIntOf,aI G,d,y,DW B,addr_add]
      refine⟨.value (.pointer (some ⟨b,off+xs.length * w',none⟩)),w,a.put o.dst (.pointer (some ⟨b,off+xs.length * w',none⟩)),O,?_,λK Q p=>p,put_defers _ _ _,Ext.refl _ _ _,av _,?_⟩;·simp_all[execOp]
      ·refine hs.put o.dst (.sptr hsx) (by simp[VM.own]) λn=>?_;have:=hs.tok n;grind[cnt]
     grind
   grind
  grind
 grind
def AWT (hs:Sim E F O st w af a.tmps.toList){o:Oper}{t:TypeId}{x y:Operand}{l:St} (Z:o.op=.store t x y) (hd:o.dst=none) (h:ACv E t (rd E af 0 x) (rd E af t y) st=some l):∃nx w' a' O',AM E F O st w a o af l nx w' a' O'/\a'.tmps=a.tmps:=by
 have hx:=hs.rd 0 x;have H:=hs.rd t y;generalize rd E af 0 x=ax at *;generalize rd E af t y=ay at *;generalize I:a.eval x=vx at *;generalize hvy:a.eval y=vy at *;unfold ACv at h;split at h
 ·rename_i j w1 n1 i c xs q;split at h
  ·rename_i hc;obtain⟨k,hz,M⟩:=hc;simp only[ah]at h;subst h;unfold YR at q;simp only at q;split at q
   ·rename_i w3 xs3 G;split at q
    ·rename_i S;obtain⟨rfl,rfl⟩:=S;cases q;cases hx with
     | sptr hsx=>
      rename_i b off len cap;have f:=A0w hs hsx G;have g:=f.own;simp only[ownL,VM.own,cG,TL]at g;obtain⟨arr,e,lo,hi,cells,hh,hf,_,d,s,hsz,hlen⟩:=g;have C:=f.rep;obtain⟨hS,hcap⟩:RepS O c xs (cells.drop off)/\(len<=cap/\len<=Ca):=by cases C with|cons h _=>cases h with|slop hb hl hc hS=>grind
      obtain⟨arr0,e0,fz0,r,⟨V,R⟩,v⟩:=hs.com_ok b cells d;rw[hh]at r;cases r;have hvc:vy.cells.toList.length=c:=by rw[<-(H.cellsOK k).length,M]
      have A:cells.length+V.length=arr.size:=by grind[List.length_append,Array.length_toList]
      have Y:off+xs.length * c+c<=arr.size:=by have:(xs.length+1) * c<=cap * c:=bO _ fM;grind
      have J:vy.cells.toList.length<=V.length:=fM;obtain⟨w',arr',r1,q1,q2,q3,q4,q5,q6,q7,q8⟩:=EB (P:=E.P) (b:=b) (base:=off+xs.length * c) vy.cells.toList 0 arr w hh hf fM (H.one k);rw[bW,<-s,R,Kb _ _ _ J]at q2;have z: ∀n,AR n [.slop c xs] [.slice (some ⟨b,off,none⟩) len cap]=if b=n then 1 else 0:=λn=>by simp[AR,cnt,CP]
      have X: ∀n,Aq O w n (A9 st.m j [.any])+(if b=n then 1 else 0)=Aq O w n st.m:=λn=>by
       have e1:=JQ (O:=O) (O':=O) (w:=w) (w':=w) (b:=n) (x:=[.any]) hs.keys G (λp hp hne=>rfl);have e2:=f.cnt n;rw[z]at e2;have e3:DR O w n (j,[.any])=0:=by simp only[DR,f.bx,f.sx];simp[AR,cnt]
       omega
      have s1:Sim E F O {st with m:=A9 st.m j [.any]} w af a.tmps.toList:=hs.setSh G f (.cons (.any _) .nil) (by simp[ownL,VM.own]) (λn=>by rw[z];have:=hs.tok n;grind[AR,cnt]);have htb:=hs.tok b;have hcb:=X b;rw[an rfl]at hcb;obtain⟨s2,U,D⟩:=s1.grow (rest:=V.drop vy.cells.toList.length) d q1 (by rw[q2]) q4 q5 q6 q7 q8 (by grind) v;have W:Aj (A9 st.m j [.any]) j=some [.any]:=JC G;have T:Dd (O.ext b (cells++vy.cells.toList)) w' (j,[.any]) (.slice (some ⟨b,off,none⟩) len cap):=⟨f.sx,f.bx,.cons (.any _) .nil,by simp[ownL,VM.own]⟩;have L:(xs++[ay.strip]).length=len:=by grind
      have s3:=s2.setSh (cs':=[.slice c (xs++[ay.strip]) true]) W T (.cons (.slice _ (cells:=cells++vy.cells.toList) (by simp[At.ext]) L hcap (by rw[cA fM];refine RepS.append (hS.mono U.le) (by grind) ?_;have:=RepS.cons (w:=c) (cs:=[]) (H.strip.mono U.le) ⟨fM,H.one k⟩ (.nil _ _);grind) (λ_ h=>absurd h fN)) .nil) (by simp only[ownL,VM.own,cG,Lx];intro hlt;exact⟨arr',e,lo,hi,cells++vy.cells.toList,q1,by grind,trivial,by simp[At.ext],by grind,fM⟩) (λn=>by
       have h1:AR n [.slice c (xs++[ay.strip]) true] [.slice (some ⟨b,off,none⟩) len cap]<=if b=n then 1 else 0:=by simp only[AR,cnt,Lt];split<;>simp_all
       show F n+AR n af a.tmps.toList+_+Aq (O.ext b (cells++vy.cells.toList)) w' n (A9 st.m j [.any])<=_;rw[show Aq (O.ext b (cells++vy.cells.toList)) w' n (A9 st.m j [.any])=Aq O w n (A9 st.m j [.any])from D n];have:=hs.tok n;grind);simp only[Ri]at s3;refine⟨.skip,_,a.put o.dst undef,_,⟨?_,λK Q hk=>hk,put_defers _ _ _,U,av _,by rw[hd];exact s3⟩,by rw[hd];rfl⟩;simp only[execOp,Z,I,hvy,Instr.storeAt,Instr.sureAddr];have B:vy.cells.size=c:=fM;simp[storeVar,DW hz,B,r1]
    grind
   grind
  grind
 grind
def Sim.unsh{f:List Value} (hs:Sim E F O st w af f){d i:Nat}{x:AVal} (hd:af.getD d .any=.sh i) (k:Aj st.m i=some [x]):Sim E F O {st with m:=A9 st.m i [x.strip]} w (af.set d x) f/\Rep O (.sh i) (f.getD d undef):=by
 have l:=hs.rep.get d undef;rw[hd]at l;generalize C:f.getD d undef=v at l;cases l with
 | sh hsx hk=>
  have c:Dd O w (i,[x]) v:=by
   rcases hs.box_ok _ (Mt k)with⟨b,arr,e,hb⟩|⟨u,hu⟩;·have:=(hs.sx_next _ _ hsx).2;have B:=hb.bx;grind
   ·have:u=v:=by have:=hu.sx;grind
    grind
  have h:Rep O x v:=by have:=c.rep;cases this;omega
  have q:VM.own O w x v:=by have:=c.own;grind[ownL]
  have g:f=f.set d v:=by grind[Xx]
  have r: ∀n,Aq O w n (A9 st.m i [x.strip])+cnt n x v=Aq O w n st.m:=λn=>by
   have A:=JQ (O:=O) (O':=O) (w:=w) (w':=w) (b:=n) (x:=[x.strip]) hs.keys k (λp hp s=>rfl);have y:=c.cnt n;have z:DR O w n (i,[x.strip])=0:=by simp only[DR,c.bx,c.sx];simp[AR,JU]
   grind[AR]
  have j:=hs.setSh k c (cs':=[x.strip]) (.cons h.strip .nil) (by grind[ownL,NG]) (λn=>by have:=hs.tok n;grind[AR,JU]);refine⟨{j with rep:=?_,own:=?_,tok:=?_},.sh hsx hk⟩;·have:=j.rep.set d h;grind
  ·have:=j.own.set d q;grind
  ·intro n;have t:=Ii n af f d x v;rw[<-g]at t;have:=hs.tok n;grind
def Sim.resay{b:List Value} (hs:Sim E F O st w af b){d:Nat}{x:AVal} (e:Rep O x (b.getD d undef)) (g:VM.own O w x (b.getD d undef)) (f: ∀n,cnt n x (b.getD d undef)=0):Sim E F O st w (af.set d x) b:=by
 have c:b=b.set d (b.getD d undef):=by rw[Xx]
 refine {hs with rep:=?_,own:=?_,tok:=?_};·have:=hs.rep.set d e;grind
 ·have:=hs.own.set d g;grind
 ·intro n;have h:=Ii n af b d x (b.getD d undef);rw[<-c,f]at h;have:=hs.tok n;omega
def AGe{b news:List Value} (h:news.length<=b.length):putV b 0 news=news++b.drop news.length:=by have:=Kb [] b news h;simpa using this
def Rm (A:List Value): ∀(news C:List Value) (m:Nat),putV (A++C) (A.length+m) news=A++putV C m news|[],_,_=>rfl|v::r,C,m=>by simp only[putV];rw[dn _ _ fM,show A.length+m-A.length=m by omega,show A.length+m+1=A.length+(m+1) by omega];exact Rm A r _ _
def ABT: ∀(news C:List Value) (m:Nat),(putV C m news).length=C.length|[],_,_=>rfl|v::r,C,m=>by simp only[putV];rw[ABT r];simp
def RepS.setE{w:Nat}{y:AVal}{u:Value} (d:Rep O y u) (b:u.cells.size=w/\∀c,c∈u.cells.toList->c.oneCell'=true): ∀ {xs:List AVal}{cs:List Value}{n:Nat},RepS O w xs cs->n<xs.length->RepS O w (xs.set n y) (putV cs (n * w) u.cells.toList)
 |[],_,_,_,hn=>absurd hn (cr _)
 |x::xs,_,n,.cons (v:=v) (cs:=cs) h hw t,hn=>by
  have e:v.cells.toList.length=w:=by rw[aE];exact hw.1
  have f:u.cells.toList.length=w:=by rw[aE];exact b.1
  cases n with|zero=>rw[eH,AGe (by rw[ag];omega),show(v.cells.toList++cs).drop u.cells.toList.length=cs by rw[f,<-e,c7]];exact .cons d b t|succ n=>rw[show(n+1) * w=v.cells.toList.length+n * w by rw[e,bH];omega,Rm];exact .cons h hw (RepS.setE d b t (by simpa using hn))
def AAv (l news:List Value) (off m:Nat) (h:off<=l.length):(putV l (off+m) news).drop off=putV (l.drop off) m news:=by
 have e:l=l.take off++l.drop off:=(bI off l).symm;have b:(l.take off).length=off:=by rw[bb];omega
 conv=>lhs;rw[e]
 rw[show off+m=(l.take off).length+m by rw[b],Rm];exact fq b
def Sim.vecTo (hs:Sim E F O st w af a.tmps.toList){i wd b off len cap:Nat}{xs:List AVal} (j:O.sx i=some (.slice (some ⟨b,off,none⟩) len cap)) (l:Aj st.m i=some [.vec wd xs]) {w':World}{arr':Array Value}{e:TypeId}{lo hi:Nat}{arr:Array Value} (h0:w.heap[b]?=some (.cells arr e (lo,hi))) (S:w'.heap[b]?=some (.cells arr' e (lo,hi))) (P: ∀k,k≠b->w'.heap[k]?=w.heap[k]?) (L:w'.heap.size=w.heap.size) (J:w'.os=w.os) (t:w'.output=w.output) (s:w'.tape=w.tape):Sim E F (O.ext b []) {st with m:=A9 st.m i [.any]} w' af a.tmps.toList/\Ext F O w (O.ext b []) w'/\(O.ext b []).com b=some []/\Dd (O.ext b []) w' (i,[.any]) (.slice (some ⟨b,off,none⟩) len cap)/\Aj (A9 st.m i [.any]) i=some [.any]/\∀n,F n+AR n af a.tmps.toList+Aq (O.ext b []) w' n (A9 st.m i [.any])+(if b=n then 1 else 0)<=1:=by
 have d:=ADF hs j l;obtain⟨_,A,Q,I,C,z,_,c,_⟩:=AIw hs j l;rw[h0]at z;cases z;obtain⟨B,e0,fz0,r,_,f⟩:=hs.com_ok b [] c;rw[h0]at r;cases r;have h: ∀n,AR n [.vec wd xs] [.slice (some ⟨b,off,none⟩) len cap]=if b=n then 1 else 0:=λn=>by simp[AR,cnt,CP]
 have q: ∀n,Aq O w n (A9 st.m i [.any])+(if b=n then 1 else 0)=Aq O w n st.m:=λn=>by
  have Q:=JQ (O:=O) (O':=O) (w:=w) (w':=w) (b:=n) (x:=[.any]) hs.keys l (λp hp R=>rfl);have D:=d.cnt n;rw[h]at D;have T:DR O w n (i,[.any])=0:=by simp only[DR,d.bx,d.sx];simp[AR,cnt]
  omega
 have M:Sim E F O {st with m:=A9 st.m i [.any]} w af a.tmps.toList:=hs.setSh l d (.cons (.any _) .nil) (by simp[ownL,VM.own]) (λn=>by rw[h];have:=hs.tok n;simp only[AR,cnt];omega);have K:=hs.tok b;have v:=q b;rw[an rfl]at v;obtain⟨G,H,g⟩:=M.grow (news:=[]) (rest:=arr'.toList) c S fN P L J t s (by show F b+_+Aq O w b (A9 st.m i [.any])=0;omega) f;refine⟨G,H,by simp[At.ext],⟨d.sx,d.bx,.cons (.any _) .nil,by simp[ownL,VM.own]⟩,JC l,λn=>?_⟩;have y:=g n;simp only[bm]at y;rw[y];have:=hs.tok n;have:=q n;omega
def AVR (hs:Sim E F O st w af a.tmps.toList){o:Oper}{t:TypeId}{x y:Operand}{j:St} (s:o.op=.store t x y) (hd:o.dst=none) (h:ADu E t (rd E af 0 x) (rd E af t y) st=some j):∃nx w' L O',AM E F O st w a o af j nx w' L O'/\L.tmps=a.tmps:=by
 have X:=hs.rd 0 x;have p:=hs.rd t y;generalize rd E af 0 x=ax at *;generalize rd E af t y=ay at *;generalize f:a.eval x=vx at *;generalize A:a.eval y=vy at *;unfold ADu at h;split at h;rotate_left;·cases h
 rename_i i w1 n k;split at h;rotate_left;·cases h
 rename_i c xs R;split at h;rotate_left;·cases h
 rename_i Y;obtain⟨rfl,rfl,hn,d,Z,z⟩:=Y;simp only[ah]at h;subst h;cases X with
 | vptr hsx=>
  rename_i b off len cap;rw[bW]at f;obtain⟨rfl,arr,e,lo,hi,M,S,I,l,B,C,hS⟩:=AIw hs hsx R;have hvc:vy.cells.toList.length=c:=by rw[<-(p.cellsOK d).length,z]
  have H:(n+1) * c<=cap * c:=bO _ fM;rw[bH]at H;obtain⟨w',arr',r1,J,q2,U,V,q5,q6,q7,q8⟩:=EB (P:=E.P) (b:=b) (base:=off+n * c) vy.cells.toList 0 arr w M S fM (p.one d);obtain⟨W,q,v,G,r,D⟩:=hs.vecTo hsx R M J V q5 q6 q7 q8;have T:=W.setSh (cs':=[.vec c (xs.set n ay.strip)]) r G (.cons (.vec _ _ _) .nil) (by simp only[ownL,VM.own,cG];refine .inr ⟨b,off,cap,arr',e,lo,hi,fN,J,by rw[U];exact S,v,by simpa using l,by simpa using B,by rw[U];exact C,?_⟩;rw[q2,bW,AAv _ _ _ _ (by rw[aE];omega)];exact RepS.setE (p.strip.mono q.le) ⟨by rw[<-aE];exact hvc,p.one d⟩ (hS.mono q.le) hn) (λm=>by
   have h3:=D m;have h4:AR m [.vec c (xs.set n ay.strip)] [.slice (some ⟨b,off,none⟩) xs.length cap]=if b=m then 1 else 0:=by simp[AR,cnt,CP]
   rw[h4];simp only[AR,cnt];omega);simp only[Ri]at T;refine⟨.skip,_,a.put o.dst undef,_,⟨?_,λK Q hk=>hk,put_defers _ _ _,q,av _,by rw[hd];exact T⟩,by rw[hd];rfl⟩;simp only[execOp,s,f,A,Instr.storeAt,Instr.sureAddr];have g:vy.cells.size=c:=by rw[<-aE];exact hvc
  simp[storeVar,DW Z,g,r1]
def AGp (C:List Value): ∀(c A:List Value) (k:Nat),k+c.length<=A.length->putV (A++C) k c=putV A k c++C|[],A,k,_=>rfl|v::c,A,k,h=>by simp only[ae]at h;have b:(A++C).set k v=A.set k v++C:=List.set_append_left _ _ fM;show putV ((A++C).set k v) (k+1) c=putV (A.set k v) (k+1) c++C;rw[b];exact AGp C c (A.set k v) (k+1) (by rw[b9];omega)
def RepS.setP{w:Nat}{y:AVal}{c:List Value}{k:Nat} (f:k+c.length<=w): ∀ {xs:List AVal}{cs:List Value}{n:Nat},RepS O w xs cs->n<xs.length->(∀u,Rep O (xs.getD n .any) u->u.cells.size=w->(∀c,c∈u.cells.toList->c.oneCell'=true)->∃b,Rep O y b/\b.cells.toList=putV u.cells.toList k c/\∀c,c∈b.cells.toList->c.oneCell'=true)->RepS O w (xs.set n y) (putV cs (n * w+k) c)
 |[],_,_,_,hn,_=>absurd hn (cr _)
 |x::xs,_,n,.cons (v:=v) (cs:=cs) h hw t,hn,hy=>by
  have e:v.cells.toList.length=w:=by rw[aE];exact hw.1
  cases n with|zero=>obtain⟨b,i,d,g⟩:=hy v h hw.1 hw.2;rw[eH,bJ,AGp _ _ _ _ fM,<-d];exact .cons i ⟨by rw[<-aE,d,ABT,e],g⟩ t|succ n=>rw[show(n+1) * w+k=v.cells.toList.length+(n * w+k) by rw[e,bH];omega,Rm];exact .cons h hw (RepS.setP f t (by simpa using hn) hy)
def AT9 (hs:Sim E F O st w af a.tmps.toList){o:Oper}{t:TypeId}{x y:Operand}{f:St} (B:o.op=.store t x y) (hd:o.dst=none) (h:ADT E t (rd E af 0 x) (rd E af t y) st=some f):∃nx w' T O',AM E F O st w a o af f nx w' T O'/\T.tmps=a.tmps:=by
 have hx:=hs.rd 0 x;have d:=hs.rd t y;generalize rd E af 0 x=ax at *;generalize rd E af t y=ay at *;generalize q:a.eval x=vx at *;generalize D:a.eval y=vy at *;unfold ADT at h;split at h;rotate_left;·cases h
 rename_i i w1 n k;split at h;rotate_left;·cases h
 rename_i g xs V;split at h;rotate_left;·cases h
 rename_i hc;obtain⟨rfl,hn,c,I,hcx,hz,Z⟩:=hc;simp only[ah]at h;subst h;cases hx with
 | vptr hsx=>
  rename_i b off len cap;obtain⟨rfl,arr,e,lo,hi,U,W,M,p,G,H,hS⟩:=AIw hs hsx V;have hvc:vy.cells.toList.length=(Aa ay).length:=(d.cellsOK c).length.symm;have A:(n+1) * g<=cap * g:=bO _ fM;rw[bH]at A;obtain⟨w',arr',r1,R,q2,X,q4,q5,q6,q7,q8⟩:=EB (P:=E.P) (b:=b) (base:=off+(n * g+k)) vy.cells.toList 0 arr w U W fM (d.one c);obtain⟨Y,r,C,L,s,J⟩:=hs.vecTo hsx V U R q4 q5 q6 q7 q8;have S:=Y.setSh (cs':=[.vec g (xs.set n (.agg (putCells (Aa (xs.getD n .any)) k (stripL (Aa ay)))))]) s L (.cons (.vec _ _ _) .nil) (by
   simp only[ownL,VM.own,cG];refine .inr ⟨b,off,cap,arr',e,lo,hi,fN,R,by rw[X];exact W,C,by simpa using p,by simpa using G,by rw[X];exact H,?_⟩;rw[q2,bW,AAv _ _ _ _ (by rw[aE];omega)];refine RepS.setP fM (hS.mono r.le) hn λu hu hus l=>⟨.agg (putV u.cells.toList k vy.cells.toList).toArray,.agg ?_ ?_,by simp[Value.cells],?_⟩;·simp only[];exact RepL.putV (hu.cellsOK I) (RepL.strip ((d.mono r.le).cellsOK c)) k
   ·intro v z;rcases ADK (by simpa using z)with h|h;·exact l v h
    ·exact d.one c v h
   ·intro v z;rcases ADK (by simpa[Value.cells]using z)with h|h;·exact l v h
    ·exact d.one c v h) (λm=>by
   have h3:=J m;have h4:AR m [.vec g (xs.set n (.agg (putCells (Aa (xs.getD n .any)) k (stripL (Aa ay)))))] [.slice (some ⟨b,off,none⟩) xs.length cap]=if b=m then 1 else 0:=by simp[AR,cnt,CP]
   rw[h4];simp only[AR,cnt];omega);simp only[Ri]at S;refine⟨.skip,_,a.put o.dst undef,_,⟨?_,λK Q hk=>hk,put_defers _ _ _,r,av _,by rw[hd];exact S⟩,by rw[hd];rfl⟩;simp only[execOp,B,q,D,Instr.storeAt,Instr.sureAddr];have j:vy.cells.size=(Aa ay).length:=by rw[<-aE];exact hvc
  simp[storeVar,DW hz,j,r1]
def ATu (hs:Sim E F O st w af a.tmps.toList){o:Oper}{t:TypeId}{x y:Operand}{b:St} (c:o.op=.store t x y) (hd:o.dst=none) (h:AAd E t (rd E af 0 x) (rd E af t y) st=some b):∃f w' d O',AM E F O st w a o af b f w' d O'/\d.tmps=a.tmps:=by
 unfold AAd at h;split at h;·rename_i e;cases h;exact AVR hs c hd e
 ·exact AT9 hs c hd h
theorem WE (hs:Sim E F O st w af a.tmps.toList){o:Oper}{t:TypeId}{x y:Operand}{e:St} (c:o.op=.store t x y) (hd:o.dst=none) (h:TZ E t (rd E af 0 x) (rd E af t y) st=some e):∃d w' b O',AM E F O st w a o (stripAt af y) e d w' b O'/\b.tmps=a.tmps:=by
 unfold TZ at h;split at h;·grind[ASt]
 ·rename_i i w1 n k g;obtain⟨d,w',b,O',hp,f⟩:=ATu hs c hd (by rw[g];exact h);refine⟨d,w',b,O',{hp with sim:=?_},f⟩;exact hp.sim.stripAt y
 ·obtain⟨d,w',b,O',hp,f⟩:=AWT hs c hd h;refine⟨d,w',b,O',{hp with sim:=?_},f⟩;exact hp.sim.stripAt y
def Aaw (hs:Sim E F O st w af a.tmps.toList){o:Oper}{t:TypeId}{x y:Operand}{c:St} (k:o.op=.store t x y) (hd:o.dst=none) (h:QA E t (rd E af 0 x) (rd E af t y) st=some c):∃m w' p O',AM E F O st w a o (stripAt af y) c m w' p O':=by
 unfold QA at h;split at h
 ·rename_i i b;split at h
  ·rename_i wd xs j A;obtain⟨d,rfl,hd'⟩: ∃d,y=.tmp d/\af.getD d .any=.sh i:=by cases y with|tmp d=>exact⟨d,rfl,b⟩|const v=>simp only[rd]at b;unfold Kq at b;split at b<;>(try split at b)<;>cases b|global g=>simp only[rd]at b;split at b<;>cases b|func f=>grind[rd]
   split at h
   ·rename_i C;obtain⟨r,l⟩:=hs.unsh hd' A;have B:d<af.length:=by grind
    have D:rd E (af.set d (.slice wd xs j)) t (.tmp d)=.slice wd xs j:=by grind[rd,List.getD]
    have G:rd E (af.set d (.slice wd xs j)) 0 x=rd E af 0 x:=by cases x with|tmp e=>grind[rd,NB,List.getD]|_=>rfl
    obtain⟨m,w',p,O',hp,s⟩:=WE (x:=x) (y:=.tmp d) r k hd (by rw[D,G];exact h);refine⟨m,w',p,O',{hp with sim:=?_}⟩;have z:stripAt (af.set d (.slice wd xs j)) (.tmp d)=af.set d (.slice wd xs false):=by simp_all[stripAt,List.getD,AVal.strip]
    have q:=hp.sim;rw[z,s]at q;have H:=q.resay (d:=d) (x:=.sh i) (l.mono hp.ext.le) (by simp[VM.own]) (λn=>by simp[cnt]);grind[List.set_set,stripAt,AVal.strip]
   grind
  grind[WE]
 grind[WE]
end
end Go.VM
namespace Go.VM
section
variable{E:Env}{F:Nat->Nat}{O:At}{st:St}{w:World}{af:List AVal}{a:Act}
def WM{O:At}{w:World}{b:Nat}{m c:List (Nat×List AVal)} (h:m.Perm c):Aq O w b m=Aq O w b c:=by induction h<;>grind[Aq,trans]
def Sim.perm{F:Nat->Nat}{O:At}{w:World}{c:List Value}{m d:List (Nat×List AVal)}{n:Nat} (hs:Sim E F O ⟨m,n⟩ w af c) (h:m.Perm d):Sim E F O ⟨d,n⟩ w af c:=
  { hs with
    box_ok:=λp hp=>hs.box_ok p (h.mem_iff.2 hp)
    keys:=(h.map (·.1)).nodup_iff.1 hs.keys
    bx_F:=λp b hp=>hs.bx_F p b (h.mem_iff.2 hp)
    tok:=λb=>by rw[<-WM h];exact hs.tok b}
def Dy:List (Nat×List AVal)->Nat->List (Nat×List AVal)|[],_=>[]|(j,c)::m,i=>if i=j then m else(j,c)::Dy m i
def Lc: ∀ {m:List (Nat×List AVal)}{i:Nat}{c:List AVal},Aj m i=some c->m.Perm ((i,c)::Dy m i)
 |[],_,_,h=>by grind[Aj]
 |(j,d)::m,i,c,h=>by
  simp only[Aj]at h;simp only[Dy];split at h;·simp_all
  ·rename_i e;rw[aj e];exact((Lc h).cons _).trans (cC _ _ _)
def Sim.fewer (hs:Sim E F O st w af a.tmps.toList){m:List (Nat×List AVal)} (c:m.Sublist st.m):Sim E F O {st with m:=m} w af a.tmps.toList:=by
 have d: ∀n,Aq O w n m<=Aq O w n st.m:=by intro n;generalize st.m=m' at c;induction c with|slnil=>omega|cons p _ f=>grind[Aq]|cons_cons p _ f=>grind[Aq]
 refine {hs with box_ok:=λp hp=>hs.box_ok p (c.subset hp),keys:=(c.map _).nodup hs.keys,bx_F:=λp b hp e=>hs.bx_F p b (c.subset hp) e,tok:=λn=>?_};have:=d n;have:=hs.tok n;grind
theorem RepL.cat{xs ys:List AVal}{us vs:List Value} (h:RepL O xs us) (k:RepL O ys vs):RepL O (xs++ys) (us++vs):=by induction xs generalizing us with|nil=>cases h;exact k|cons x xs b=>cases h with|cons h t=>exact .cons h (b t)
theorem ownL.cat{xs ys:List AVal}{us vs:List Value} (b:xs.length=us.length) (h:ownL O w xs us) (k:ownL O w ys vs):ownL O w (xs++ys) (us++vs):=by induction xs generalizing us with|nil=>grind|cons x xs c=>cases us with|nil=>grind|cons u us=>grind[ownL]
theorem Y3 (b:Nat){xs ys:List AVal}{us vs:List Value} (c:xs.length=us.length):AR b (xs++ys) (us++vs)=AR b xs us+AR b ys vs:=by induction xs generalizing us with|nil=>grind[AR]|cons x xs d=>cases us with|nil=>grind|cons u us=>grind[AR]
def Js (E:Env) (t:TypeId) (len:Nat) (ps:List (Nat×AVal)):Option (Nat×List AVal):=match KZ E.P t with|some (z,_)=>if len * z<=16777216/\len<=Ca/\ps.map (·.1)=List.range len/\(ps.all λp=>Ch p.2&&(Aa p.2).length==z)=true then some (z,ps.flatMap λp=>Aa p.2)else none|none=>none
def AX7{z:Nat}: ∀ {ps:List (Nat×AVal)}{us:List (Nat×Value)}{k n:Nat}{pre rest:List Value}{arr:Array Value},arr.toList=pre++rest->pre.length=k * z->rest.length=n * z->ps.map (·.1)=List.range' k n->Jj O w ps us->(∀p,p∈ps->Ch p.2=true/\(Aa p.2).length=z)->∃arr' c,Instr.fill (λi=>some (i * z,z)) arr us=some arr'/\arr'.toList=pre++c/\RepL O (ps.flatMap λp=>Aa p.2) c/\c.length=n * z/\(∀v,v∈c->v.oneCell'=true)/\ownL O w (ps.flatMap λp=>Aa p.2) c/\∀b,AR b (ps.flatMap λp=>Aa p.2) c=ASl b ps us:=by
 intro ps;induction ps with
 |nil=>
  intro us k n pre rest arr f l r d hp m;have I:n=0:=by simp_all
  subst I;cases us with|nil=>have:rest=[]:=bC fM;subst this;exact⟨arr,[],rfl,f,.nil,fN,fN,by simp[ownL],λb=>by simp[AR,ASl]⟩|cons u us=>grind[Jj]
 | cons p ps ih=>
  intro us k n pre rest arr f l r d hp m;obtain⟨i,x⟩:=p;cases us with
  |nil=>grind[Jj]
  | cons u us=>
   obtain⟨j,v⟩:=u;simp only[Jj]at hp;obtain⟨rfl,y,B,hp⟩:=hp;cases n with
   |zero=>grind
   | succ n=>
    simp only[aH,dc,dl]at d;obtain⟨rfl,d⟩:=d;obtain⟨e,C⟩:=m (i,x) fN;have h:=y.cellsOK e;have A:v.cells.size=z:=by rw[<-C,h.length,aE]
    have s:arr.size=(i+(n+1)) * z:=by grind[Array.length_toList,List.length_append,Nat.add_mul]
    have D:z<=rest.length:=by grind
    have g:(v.cells.zipIdx.foldl (λcs x=>cs.setIfInBounds (i * z+x.2) x.1) arr).toList=pre++v.cells.toList++rest.drop z:=by rw[<-eS,eB,ACT (i * z) v.cells.toList 0 arr,f,bW,<-l];grind[Kb,Array.length_toList]
    generalize G:v.cells.zipIdx.foldl (λcs x=>cs.setIfInBounds (i * z+x.2) x.1) arr=arr1 at g;obtain⟨arr',c,M,R,J,P,Q,L,K⟩:=ih (k:=i+1) (n:=n) (pre:=pre++v.cells.toList) (rest:=rest.drop z) g (by grind) (by grind[List.length_drop,Nat.succ_mul]) d hp (λq H=>m q (aY _ H));refine⟨arr',v.cells.toList++c,?_,by grind,?_,by grind[List.length_append,Array.length_toList,Nat.succ_mul],?_,?_,?_⟩
    ·rw[Instr.fill];simp only;rw[aj];·grind
     ·simp only[A,eA,cQ,eF,bk,au,Nat.not_lt,s,cB,bH];omega
    ·rw[aR];exact h.cat J
    ·intro u t;rcases aZ.1 t with t|t;·exact y.one e u t
     grind
    ·rw[aR];exact ownL.cat h.length (Wd y e B) L
    ·intro b;rw[aR,Y3 b h.length,WN y e,K b];rfl
theorem AAT (hs:Sim E F O st w af a.tmps.toList){o:Oper}{t:TypeId}{len z:Nat}{cs:List AVal}{ps:List (Nat×Operand)} (A:o.op=.buildSlice t len ⟨ps⟩) (h:Js E t len (Bg E (λ_=>AQ E.P t 0) af ps).2=some (z,cs)):∃nx w' Y O',AM E F O st w a o (Ae (Bg E (λ_=>AQ E.P t 0) af ps).1 o.dst (.gsl z st.next len)) {m:=(st.next,cs)::st.m,next:=st.next+1} nx w' Y O':=by
 obtain⟨L,h2,U⟩:=Ta (λ_=>AQ E.P t 0) ps hs;generalize V:(Bg E (λ_=>AQ E.P t 0) af ps).2=qs at *;generalize (Bg E (λ_=>AQ E.P t 0) af ps).1=af1 at *;unfold Js at h;split at h
 ·rename_i z by_ I;split at h
  ·rename_i Z;obtain⟨hsz,y,S,g⟩:=Z;simp only[ah,aB]at h;obtain⟨rfl,rfl⟩:=h;obtain⟨e,i,J,hu,hi,hz,hzs,his,hib⟩:=M5 I;have s: ∀p,p∈qs->Ch p.2=true/\(Aa p.2).length=z:=by intro p hp;have:=aK.1 g p hp;simp_all
   generalize c:(if len * z=0 then(#[]:Array Value)else J.cells)=zero;have f:=AX7 (O:=O) (w:=w) (z:=z) (ps:=qs) (us:=ps.map λp=>(p.1,a.eval p.2)) (k:=0) (n:=len) (pre:=[]) (rest:=((Array.range (len * z)).map (λj=>zero[j % zero.size]!)).toList) (arr:=(Array.range (len * z)).map (λj=>zero[j % zero.size]!)) fN fN fN (by grind[List.range_eq_range']) h2 s;obtain⟨arr',r,v,B,T,q4,q5,q6,q7⟩:=f;rw[bl]at B;have q:(execOp a.eval o).run E.P w=.ok (.value (.slice (some ⟨w.heap.size,0,none⟩) len len)) (w.alloc (.cells arr' e)):=by
    have C:(sizeOf e).run E.P w=.ok z w:=by simp_all[sizeOf,typeInfo]
    have d:(Array.map (λx=>(x.fst,a.eval x.snd)) ⟨ps⟩).toList=ps.map λp=>(p.1,a.eval p.2):=fN;have D:(zeroValue e).run E.P w=.ok J w:=by simp_all[zeroValue,typeInfo]
    have l: ¬(len * z>2^24):=fM;simp only[execOp,A,Instr.buildSlice];rw[aL,aL,aI hu];simp only[aD];rw[aL,C];simp only[aD,l,aA];by_cases hlz:len * z=0;·rw[an hlz]at c;subst c;simp only[hlz,az,d];rw[hlz]at v;rw[aL,bz];simp only[aD,v];rfl
    ·rw[aj hlz]at c;subst c;simp only[hlz,aA,d];rw[aL,D];simp only[aD];rw[aL,bz];simp only[aD,v];rfl
   have M:arr'.size=len * z:=by grind
   have H:arr'.toList.take (qs.flatMap λp=>Aa p.2).length=r:=by rw[B,T.length,c9]
   obtain⟨R,W,X⟩:=L.newBox (e:=e) (cells:=arr') (cs:=qs.flatMap λp=>Aa p.2) (fz:=(0,0)) fN (by rw[H];exact T.mono (L.le_box _)) (by grind) (by grind) (λb=>by rw[B,q7];have:=U b;have:=hs.tok b;omega);have hb:(O.box st.next w.heap.size (e,arr'.size)).bx st.next=some w.heap.size:=by cases X with|ptr h=>exact h
   have G:(O.box st.next w.heap.size (e,arr'.size)).bt st.next=some (e,arr'.size):=by simp[At.box]
   refine⟨_,_,a.put o.dst _,_,q,λK Q hk=>hk,put_defers _ _ _,W,fN,?_⟩;refine R.put o.dst (.gsl hb G ⟨av _,y⟩ fM) (by simp[VM.own]) λb=>?_;have:=R.tok b;grind[cnt]
  grind
 grind
def T9: ∀(m:List (Nat×List AVal)) (i:Nat),(Dy m i).Sublist m
 |[],_=>.slnil
 |(j,c)::m,i=>by
  simp only[Dy];split;·simp
  ·exact .cons_cons _ (T9 m i)
def Sim.later{c:List Value} (hs:Sim E F O st w af c):Sim E F O {st with next:=st.next+1} w af c:=
  { hs with
    sx_next:=λi v h=>⟨by have:=(hs.sx_next i v h).1;grind,(hs.sx_next i v h).2⟩
    bx_next:=λi b h=>by have:=hs.bx_next i b h;grind}
def ownL.takeA: ∀ {xs:List AVal}{vs:List Value} (n:Nat),ownL O w xs vs->ownL O w (xs.take n) (vs.take n)|_,_,0,_=>by simp[ownL]|[],_,n+1,_=>by simp[ownL]|x::xs,[],n+1,_=>by simp[ownL]|x::xs,v::vs,n+1,h=>by rw[ownL]at h;simp only[cp,ownL];exact⟨h.1,ownL.takeA n h.2⟩
def X6 (b:Nat): ∀(xs:List AVal) (vs:List Value) (n:Nat),AR b (xs.take n) (vs.take n)<=AR b xs vs|_,_,0=>by simp[AR]|[],_,n+1=>by simp[AR]|x::xs,[],n+1=>by simp[AR]|x::xs,v::vs,n+1=>by simp only[cp,AR];have:=X6 b xs vs n;omega
def RepL.takeA: ∀ {xs:List AVal}{vs:List Value} (n:Nat),RepL O xs vs->RepL O (xs.take n) (vs.take n)|_,_,0,_=>by simp;exact .nil|_,_,n+1,.nil=>by simp;exact .nil|_,_,n+1,.cons h t=>by simp only[cp];exact .cons h (RepL.takeA n t)
def AWE (E:Env) (c b:TypeId) (x y:AVal) (st:St):Option (Nat×Nat×List AVal×List (Nat×List AVal)×Option Nat):=
  match y with
  | .gsl wd n k=>
    match Aj st.m n,KZ E.P c with
    | some ys,some (z,by_)=>
      if z=wd/\ys.length=k * wd/\0<k/\I4 E.P b=none/\Ai E.P b=true then
        match x with
        |.slice w' [] true=>if w'=wd/\wd≠1/\k * by_<=140737488355328/\k<=Ca then some (wd,k,ys,Dy st.m n,none)else none
        | .gsl w' j len=>
          match Aj (Dy st.m n) j with
          |some cs=>if w'=wd/\len * wd<=cs.length/\(len+k) * by_<=140737488355328/\len+k<=Ca then some (wd,len+k,cs.take (len * wd)++ys,Dy (Dy st.m n) j,some j)else none
          |none=>none
        |_=>none
      else none
    |_,_=>none
  |_=>none
def YH (hs:Sim E F O st w af a.tmps.toList){o:Oper}{x y:Operand}{J C e:TypeId}{ts:List TypeId}{wd len cap k A:Nat}{base:Option Addr}{r j:Value}{i:TypeInfo}{d1:TypeDesc}{csO ys:List AVal}{olds news:List Value}{rest:List (Nat×List AVal)} (S:o.op=.call {callee:=.builtin .append,args:=#[x,y],argTypes:=⟨J::C::ts⟩}) (hvx:a.eval x=.slice base len cap) (hvy:a.eval y=r) (hu:E.P.underlying J=some (.slice e)) (hi:E.P.info? e=some i) (hz:i.zero=some j) (W:j.cells.size=i.size) (B:i.size=wd) (hib:i.bytes=A) (hd1:E.P.underlying C=some d1) (Y:I4 E.P C=none) (R:(len+k) * A<=140737488355328) (z:len+k<=Ca) (hcap:len<=cap) (hno: ¬(len+k<=cap)) (hl1: ∀w',(Builtin.lenOf r).run E.P w'=.ok k w') (T:(Builtin.firstCells wd k r).run E.P w.drew=.ok news.toArray w.drew) (U:(Builtin.firstCells wd len (.slice base len cap)).run E.P w.drew=.ok olds.toArray w.drew) (D:RepL O csO olds) (Z:RepL O ys news) (I:olds.length=len * wd) (G:news.length=k * wd) (ho1: ∀v,v∈olds->v.oneCell'=true) (hn1: ∀v,v∈news->v.oneCell'=true) (M:ownL O w csO olds) (l:ownL O w ys news) (q:rest.Sublist st.m) (htk: ∀b,F b+AR b af a.tmps.toList+AR b csO olds+AR b ys news+Aq O w b rest<=1):∃nx w' a' O',AM E F O st w a o (Ae af o.dst (.gsl wd st.next (len+k))) {m:=(st.next,csO++ys)::rest,next:=st.next+1} nx w' a' O':=by
 have h62':len+k<=4611686018427387904:=z;have h48: ¬(281474976710656<Builtin.nextslicecap (len+k) cap * i.bytes):=by have:=eQ (need:=len+k) (old:=cap) (bytes:=i.bytes) fM (by grind);omega
 rw[<-B]at T U;generalize L:grownCap w (len+k) cap e=nc;have H:len+k<=nc:=by grind[grownCap_ge]
 have g:Array.map a.eval #[x,y]= #[.slice base len cap,r]:=by grind
 have hrun:(Builtin.append_ ⟨J::C::ts⟩ o.type #[.slice base len cap,r]).run E.P w=.ok (.slice (some ⟨w.heap.size,0,none⟩) (len+k) nc) (w.drew.alloc (.cells (olds.toArray++news.toArray++Builtin.zeroCells j.cells (nc-(len+k))) e)):=by subst L;have e3:IntKind.i64.max=9223372036854775807:=fO;grind[Nz]
 have d:(execOp a.eval o).run E.P w=.ok (.value (.slice (some ⟨w.heap.size,0,none⟩) (len+k) nc)) (w.drew.alloc (.cells (olds.toArray++news.toArray++Builtin.zeroCells j.cells (nc-(len+k))) e)):=by simp only[execOp,S,resolve,g,aL,bz,aD,invoke,builtin];simp_all
 have s:Sim E F O {st with m:=rest} w.drew af a.tmps.toList:=(hs.fewer q).drew;have hcl:(csO++ys).length=(olds++news).length:=by rw[ag,ag,D.length,Z.length]
 generalize hcells:(olds.toArray++news.toArray++Builtin.zeroCells j.cells (nc-(len+k)))=cells at *;have f:cells.toList=(olds++news)++(Builtin.zeroCells j.cells (nc-(len+k))).toList:=by grind
 have c:cells.toList.take (csO++ys).length=olds++news:=by grind
 have hsz:cells.size=nc * wd:=by rw[<-aE,f,ag,ag,I,G];simp only[Builtin.zeroCells,aE,eR,eb,W,B,<-cB];grind
 have t:ownL O w.drew (csO++ys) cells.toList:=by rw[<-Oe,c];exact Bz O.le_refl _ _ (ownL.cat D.length M l) λ_ _=>⟨rfl,rfl⟩
 have hcm: ∀n,Aq O w.drew n rest=Aq O w n rest:=λn=>GD λp hp=>⟨rfl,λ_ _=>rfl⟩;obtain⟨X,k2,k3⟩:=s.newBox (e:=e) (cells:=cells) (cs:=csO++ys) (fz:=(0,0)) fN (by rw[c];exact(D.cat Z).mono (s.le_box _)) t (by grind) (λb=>by
  have e1:AR b (csO++ys) cells.toList=AR b csO olds+AR b ys news:=by rw[<-Od,c,Y3 b D.length]
  grind);have hb:(O.box st.next w.drew.heap.size (e,cells.size)).bx st.next=some w.heap.size:=by cases k3 with|ptr h=>exact h
 have V:(O.box st.next w.drew.heap.size (e,cells.size)).bt st.next=some (e,cells.size):=by simp[At.box]
 have x0:Ext F O w O w.drew:=⟨O.le_refl,λ_ _=>⟨rfl,rfl⟩,av _,rfl,rfl,rfl⟩;refine⟨_,_,a.put o.dst _,_,d,λK Q hk=>hk,put_defers _ _ _,x0.trans k2,fN,?_⟩;refine X.put o.dst (.gsl hb V ⟨H,z⟩ fM) (by simp[VM.own]) λb=>?_;have:=X.tok b;grind[cnt]
def AAW{P:Program}{b:Nat}{arr:Array Value}{e:TypeId}{fz:Nat×Nat}{wd n len cap:Nat}{vs:List Value} (g:w.heap[b]?=some (.cells arr e fz)) (f:vs=arr.toList.take (n * wd)) (d:vs.length=n * wd):∀w',w'.heap[b]?=w.heap[b]?->(Builtin.firstCells wd n (.slice (some ⟨b,0,none⟩) len cap)).run P w'=.ok vs.toArray w':=by intro w' h;refine dK (P:=P) w' wd n ⟨b,0,none⟩ len cap vs d λj u c=>?_;rw[addr_add];subst f;have:=List.getElem?_take_some c;simp_all[World.cell?]
set_option maxHeartbeats 1000000 in theorem AfE (hs:Sim E F O st w af a.tmps.toList){o:Oper}{x y:Operand}{t0 t1:TypeId}{ts:List TypeId}{wd l:Nat}{cs:List AVal}{rest:List (Nat×List AVal)}{jo:Option Nat} (hop:o.op=.call {callee:=.builtin .append,args:=#[x,y],argTypes:=⟨t0::t1::ts⟩}) (h:AWE E t0 t1 (rd E af t0 x) (rd E af t1 y) st=some (wd,l,cs,rest,jo)):∃i,(i=st.next\/jo=some i)/\∃nx w' a' O',AM E F O st w a o (Ae af o.dst (.gsl wd i l)) {m:=(i,cs)::rest,next:=st.next+1} nx w' a' O':=by
 have hx:=hs.rd t0 x;have hy:=hs.rd t1 y;generalize rd E af t0 x=ax at *;generalize rd E af t1 y=ay at *;generalize hvx:a.eval x=vx at *;generalize hvy:a.eval y=vy at *;unfold AWE at h;split at h;rotate_left;·cases h
 rename_i wd' n k;split at h;rotate_left;·cases h
 rename_i ys z by_ hgn hap;split at h;rotate_left;·cases h
 rename_i hc;obtain⟨rfl,hyl,hk0,hint,hkn⟩:=hc;obtain⟨e,i,zv,hu,hi,hz,hzs,his,hib⟩:=M5 hap;obtain⟨d1,hd1⟩:=C9 hkn;cases hy with
 |gsl hbn hbtn hcn hczn=>
  rename_i bn capn sn Tn;obtain⟨bn',arrn,en,hbox⟩:=hs.box hgn hbn;have:bn'=bn:=by have:=hbox.bx;grind
  subst this;obtain⟨lon,hin,hhn,_⟩:=hbox.heap;have hnl:(arrn.toList.take (k * z)).length=k * z:=by rw[<-hyl];exact hbox.rep.length.symm
  have hrn:RepL O ys (arrn.toList.take (k * z)):=by rw[<-hyl];exact hbox.rep
  have hone: ∀v,v∈arrn.toList.take (k * z)->v.oneCell'=true:=by rw[<-hyl];exact hbox.one
  have hon:ownL O w ys (arrn.toList.take (k * z)):=by rw[<-hyl,Oe];exact hbox.own
  have hcnn: ∀b,AR b ys (arrn.toList.take (k * z))=AR b ys arrn.toList:=λb=>by grind[Od]
  have hl1: ∀w',(Builtin.lenOf (.slice (some ⟨bn',0,none⟩) k capn)).run E.P w'=.ok k w':=λw'=>by simp[Builtin.lenOf]
  have hf1:=AAW (P:=E.P) (wd:=z) (n:=k) (len:=k) (cap:=capn) hhn rfl hnl;have hcm1: ∀b,Aq O w b st.m=AR b ys arrn.toList+Aq O w b (Dy st.m n):=λb=>by rw[WM (Lc hgn),Aq];grind[DR,hcells]
  split at h
  ·rename_i w';split at h;rotate_left;·cases h
   rename_i hc;obtain⟨rfl,hw1,hroom,h62⟩:=hc;simp only[ah,aB]at h;obtain⟨rfl,rfl,rfl,rfl,rfl⟩:=h;obtain⟨base,rfl⟩: ∃base,vx=.slice base 0 0:=by cases hx with|snil=>simp|slice _ hb hl hc hS hnn=>simp_all
   have hxn:Rep O (.slice w' [] true) (.slice base 0 0):=.snil _ _ _;obtain⟨olds,so⟩:=WY hs hxn;have hold:olds=[]:=bC (by rw[so.size];simp);subst hold;refine⟨st.next,.inl rfl,?_⟩;have:=YH (hs:=hs) (csO:=[]) (ys:=ys) (olds:=[]) (rest:=Dy st.m n) (len:=0) (k:=k) hop hvx hvy hu hi hz fM his hib hd1 hint (by grind) fM (av _) fM hl1 (hf1 w.drew rfl) (by have:=so.first w.drew (λ_ _=>rfl);omega) .nil hrn fN hnl fN hone (by simp[ownL]) hon (T9 _ _) (λb=>by have:=hs.tok b;grind[AR]);grind
  ·rename_i w' j len;split at h;rotate_left;·cases h
   rename_i cs0 hgj;split at h;rotate_left;·cases h
   rename_i hc;obtain⟨rfl,hcl,hroom,h62⟩:=hc;simp only[ah,aB]at h;obtain⟨rfl,rfl,rfl,rfl,rfl⟩:=h;cases hx with
   |gsl hbj hbtj hcj hczj=>
    rename_i bj capj sj Tj;have hs1:Sim E F O {st with m:=Dy st.m n} w af a.tmps.toList:=hs.fewer (T9 _ _);have hs2:Sim E F O {st with m:=(j,cs0)::Dy (Dy st.m n) j} w af a.tmps.toList:=hs1.perm (Lc hgj);have hg2:Aj ((j,cs0)::Dy (Dy st.m n) j) j=some cs0:=by simp[Aj]
    obtain⟨bj',arrj,ej,hboxj⟩:=hs2.box hg2 hbj;have:bj'=bj:=by have:=hboxj.bx;grind
    subst this;obtain⟨loj,hij,hhj,hfj⟩:=hboxj.heap;obtain⟨rfl,hsj⟩:=hboxj.ty _ _ hbtj;have hcm2: ∀b,Aq O w b (Dy st.m n)=AR b cs0 arrj.toList+Aq O w b (Dy (Dy st.m n) j):=λb=>by rw[WM (Lc hgj),Aq];grind[DR,hcells]
    have hle:=hboxj.le;have hol:(arrj.toList.take (len * w')).length=len * w':=by grind
    have htt:(arrj.toList.take cs0.length).take (len * w')=arrj.toList.take (len * w'):=by grind
    have hro:RepL O (cs0.take (len * w')) (arrj.toList.take (len * w')):=by have:=hboxj.rep.takeA (len * w');grind
    have hoo:ownL O w (cs0.take (len * w')) (arrj.toList.take (len * w')):=hboxj.own.takeA _;have hco: ∀b,AR b (cs0.take (len * w')) (arrj.toList.take (len * w'))<=AR b cs0 arrj.toList:=λb=>X6 b _ _ _;have ho1: ∀v,v∈arrj.toList.take (len * w')->v.oneCell'=true:=λv hv=>hboxj.one v (by grind);by_cases hfits:len+k<=capj
    ·refine⟨j,.inr rfl,?_⟩;have hroomj:len * w'+k * w'<=arrj.size:=by have:(len+k) * w'<=capj * w':=bO _ hfits;grind
     obtain⟨w1,arr',r1,q1,q2,q3,q4,q5,q6,q7,q8⟩:=EB (P:=E.P) (b:=bj') (base:=0+len * w') (arrn.toList.take (k * w')) 0 arrj w hhj hfj fM hone;have q2':arr'.toList=arrj.toList.take (len * w')++arrn.toList.take (k * w')++(arrj.toList.drop (len * w')).drop (k * w'):=by rw[q2,bW,bJ];grind[Kb,List.length_drop,Array.length_toList,List.take_append_drop]
     have hcl':(cs0.take (len * w')++ys).length=(arrj.toList.take (len * w')++arrn.toList.take (k * w')).length:=by grind
     have htake:arr'.toList.take (cs0.take (len * w')++ys).length=arrj.toList.take (len * w')++arrn.toList.take (k * w'):=by grind
     have hfz: ∀q,q<arr'.size->¬(loj<=q/\q<hij):=by grind
     obtain⟨s3,x3⟩:=hs2.setBox (w':=w1) (cs':=cs0.take (len * w')++ys) (arr':=arr') (lo:=loj) (hi:=hij) hg2 hboxj q1 hfz q4 q5 q6 q7 q8 (by rw[htake];exact hro.cat hrn) (by rw[<-Oe,htake];grind[ownL.cat]) (by grind) (λb=>by
      have e1:AR b (cs0.take (len * w')++ys) arr'.toList=AR b (cs0.take (len * w')) (arrj.toList.take (len * w'))+AR b ys (arrn.toList.take (k * w')):=by rw[<-Od,htake,Y3 b hro.length]
      rw[e1,hcnn b];have e2:Aq O w b ((j,cs0)::Dy (Dy st.m n) j)=AR b cs0 arrj.toList+Aq O w b (Dy (Dy st.m n) j):=by simp_all[Aq,DR,hcells]
      show F b+AR b af a.tmps.toList+_+Aq O w b ((j,cs0)::Dy (Dy st.m n) j)<=_;rw[e2];have:=hs.tok b;grind) q3;have hms:A9 ((j,cs0)::Dy (Dy st.m n) j) j (cs0.take (len * w')++ys)=(j,cs0.take (len * w')++ys)::Dy (Dy st.m n) j:=by simp[A9]
     simp only[hms]at s3;have s4:=s3.later;have hargs:Array.map a.eval #[x,y]= #[.slice (some ⟨bj',0,none⟩) len capj,.slice (some ⟨bn',0,none⟩) k capn]:=by grind
     have hf1':=hf1 w rfl;rw[<-his]at hf1' r1;have hrun:(Builtin.append_ ⟨t0::t1::ts⟩ o.type #[.slice (some ⟨bj',0,none⟩) len capj,.slice (some ⟨bn',0,none⟩) k capn]).run E.P w=.ok (.slice (some ⟨bj',0,none⟩) (len+k) capj) w1:=by rw[Mg hu hi hd1 hint (hl1 w) hfits hf1'];simp only[addr_add];simp_all
     refine⟨.value (.slice (some ⟨bj',0,none⟩) (len+k) capj),_,a.put o.dst (.slice (some ⟨bj',0,none⟩) (len+k) capj),_,?_,λK Q hk=>hk,put_defers _ _ _,x3,fN,?_⟩;·simp only[execOp,hop,resolve,hargs,aL,bz,aD,invoke,builtin];simp_all
     ·refine s4.put o.dst (.gsl hbj hbtj ⟨hfits,h62⟩ hczj) (by simp[VM.own]) λb=>?_;have:=s4.tok b;grind[cnt]
    ·refine⟨st.next,.inl rfl,?_⟩;have hf0:=AAW (P:=E.P) (wd:=w') (n:=len) (len:=len) (cap:=capj) hhj rfl hol;exact YH (hs:=hs) (csO:=cs0.take (len * w')) (ys:=ys) (rest:=Dy (Dy st.m n) j) hop hvx hvy hu hi hz fM his hib hd1 hint hroom h62 hcj.1 hfits hl1 (hf1 w.drew rfl) (hf0 w.drew rfl) hro hrn hol hnl ho1 hone hoo hon ((T9 _ _).trans (T9 _ _)) (λb=>by have:=hs.tok b;grind)
  grind
def AhC (E:Env) (c b:TypeId) (x y:AVal) (st:St):Option (Nat×Nat×List AVal×List (Nat×List AVal)×Option Nat):=match x,y with
 |.gsl w j len,.str s=>match Aj st.m j,KZ E.P c with|some cs,some (z,by_)=>if w=1/\z=1/\len<=cs.length/\(len+s.length) * by_<=140737488355328/\len+s.length<=Ca/\I4 E.P b=none/\Ai E.P b=true then some (1,len+s.length,cs.take len++u8s s,Dy st.m j,some j)else none|_,_=>none
 |_,_=>none
def AGY (l:B8): ∀x,x∈u8s l->(∀O w v,VM.own O w x v)/\∀b v,cnt b x v=0:=by intro x d;obtain⟨c,_,rfl⟩:=bv.1 d;grind[VM.own,cnt]
theorem Ab0: ∀l:B8,RepL O (u8s l) (l.map λb=>Value.int .u8 b.toNat)|[]=>.nil|c::l=>.cons (.int _ _) (Ab0 l)
set_option maxHeartbeats 1000000 in theorem Af2 (hs:Sim E F O st w af a.tmps.toList){o:Oper}{x y:Operand}{t0 t1:TypeId}{ts:List TypeId}{wd l:Nat}{cs:List AVal}{rest:List (Nat×List AVal)}{jo:Option Nat} (hop:o.op=.call {callee:=.builtin .append,args:=#[x,y],argTypes:=⟨t0::t1::ts⟩}) (h:AhC E t0 t1 (rd E af t0 x) (rd E af t1 y) st=some (wd,l,cs,rest,jo)):∃i,(i=st.next\/jo=some i)/\∃nx w' a' O',AM E F O st w a o (Ae af o.dst (.gsl wd i l)) {m:=(i,cs)::rest,next:=st.next+1} nx w' a' O':=by
 have hx:=hs.rd t0 x;have hy:=hs.rd t1 y;generalize rd E af t0 x=ax at *;generalize rd E af t1 y=ay at *;generalize hvx:a.eval x=vx at *;generalize hvy:a.eval y=vy at *;unfold AhC at h;split at h;rotate_left;·cases h
 rename_i wx j len str;split at h;rotate_left;·cases h
 rename_i cs0 z by_ hgj hap;split at h;rotate_left;·cases h
 rename_i hc;obtain⟨rfl,rfl,hcl,hroom,h62,hint,hkn⟩:=hc;simp only[ah,aB]at h;obtain⟨rfl,rfl,rfl,rfl,rfl⟩:=h;obtain⟨e,i,zv,hu,hi,hz,hzs,his,hib⟩:=M5 hap;obtain⟨d1,hd1⟩:=C9 hkn;cases hy with
 |str sb hsn=>
  have src:=AdA (E:=E) (O:=O) (w:=w) (s:=sb) (wd:=1) rfl;generalize hnews:(sb.data.toList.map λb=>Value.int .u8 b.toNat)=news at src;have hys:(sb.data.toList.map λb=>AVal.int .u8 b.toNat)=u8s sb.data.toList:=rfl;rw[hys]at src;generalize sb.data.toList=str at *;have hul:(u8s str).length=str.length:=by grind
  have hnl:news.length=str.length * 1:=by grind
  have hrn:RepL O (u8s str) news:=by grind[Ab0]
  have hone: ∀v,v∈news->v.oneCell'=true:=src.one;have hon: ∀(O':At) (w':World),ownL O' w' (u8s str) news:=λO' w'=>Uk _ _ λx hx=>(AGY str x hx).1 O' w';have hcn: ∀b vs,AR b (u8s str) vs=0:=λb vs=>Ug b _ vs λx hx=>(AGY str x hx).2 b;have hl1: ∀w',(Builtin.lenOf (.string sb)).run E.P w'=.ok str.length w':=λw'=>by have:=src.len w';grind
  have hf1: ∀w',(∀b o,w'.cell? ⟨b,o,none⟩=w.cell? ⟨b,o,none⟩)->(Builtin.firstCells 1 str.length (.string sb)).run E.P w'=.ok news.toArray w':=λw' q=>by have:=src.first w' q;grind
  cases hx with
  |gsl hbj hbtj hcj hczj=>
   rename_i bj capj sj Tj;have hs2:Sim E F O {st with m:=(j,cs0)::Dy st.m j} w af a.tmps.toList:=hs.perm (Lc hgj);have hg2:Aj ((j,cs0)::Dy st.m j) j=some cs0:=by simp[Aj]
   obtain⟨bj',arrj,ej,hboxj⟩:=hs2.box hg2 hbj;have:bj'=bj:=by have:=hboxj.bx;grind
   subst this;obtain⟨loj,hij,hhj,hfj⟩:=hboxj.heap;obtain⟨rfl,hsj⟩:=hboxj.ty _ _ hbtj;have hcm2: ∀b,Aq O w b st.m=AR b cs0 arrj.toList+Aq O w b (Dy st.m j):=λb=>by rw[WM (Lc hgj),Aq];grind[DR,hcells]
   have hle:=hboxj.le;have hol:(arrj.toList.take (len * 1)).length=len * 1:=by grind
   have htt:(arrj.toList.take cs0.length).take (len * 1)=arrj.toList.take (len * 1):=by grind
   have hro:RepL O (cs0.take (len * 1)) (arrj.toList.take (len * 1)):=by have:=hboxj.rep.takeA (len * 1);grind
   have hoo:ownL O w (cs0.take (len * 1)) (arrj.toList.take (len * 1)):=hboxj.own.takeA _;have hco: ∀b,AR b (cs0.take (len * 1)) (arrj.toList.take (len * 1))<=AR b cs0 arrj.toList:=λb=>X6 b _ _ _;have ho1: ∀v,v∈arrj.toList.take (len * 1)->v.oneCell'=true:=λv hv=>hboxj.one v (by grind);have e11:len * 1=len:=fF _;by_cases hfits:len+str.length<=capj
   ·refine⟨j,.inr rfl,?_⟩;have hroomj:len+str.length<=arrj.size:=fM;obtain⟨w1,arr',r1,q1,q2,q3,q4,q5,q6,q7,q8⟩:=EB (P:=E.P) (b:=bj') (base:=0+len * 1) news 0 arrj w hhj hfj fM hone;have q2':arr'.toList=arrj.toList.take (len * 1)++news++(arrj.toList.drop (len * 1)).drop (str.length * 1):=by rw[q2,bW,bJ];grind[Kb,Array.length_toList,List.length_drop,List.take_append_drop]
    have hcl':(cs0.take (len * 1)++u8s str).length=(arrj.toList.take (len * 1)++news).length:=by grind
    have htake:arr'.toList.take (cs0.take (len * 1)++u8s str).length=arrj.toList.take (len * 1)++news:=by grind
    have hfz: ∀q,q<arr'.size->¬(loj<=q/\q<hij):=by grind
    obtain⟨s3,x3⟩:=hs2.setBox (w':=w1) (cs':=cs0.take (len * 1)++u8s str) (arr':=arr') (lo:=loj) (hi:=hij) hg2 hboxj q1 hfz q4 q5 q6 q7 q8 (by rw[htake];exact hro.cat hrn) (by rw[<-Oe,htake];grind[ownL.cat]) (by grind) (λb=>by
     have e1:AR b (cs0.take (len * 1)++u8s str) arr'.toList=AR b (cs0.take (len * 1)) (arrj.toList.take (len * 1))+AR b (u8s str) news:=by grind[Od,Y3]
     rw[e1,hcn b];have e2:Aq O w b ((j,cs0)::Dy st.m j)=AR b cs0 arrj.toList+Aq O w b (Dy st.m j):=by simp_all[Aq,DR,hcells]
     show F b+AR b af a.tmps.toList+_+Aq O w b ((j,cs0)::Dy st.m j)<=_;rw[e2];have:=hs.tok b;grind) q3;have hms:A9 ((j,cs0)::Dy st.m j) j (cs0.take (len * 1)++u8s str)=(j,cs0.take (len * 1)++u8s str)::Dy st.m j:=by simp[A9]
    simp only[hms]at s3;have s4:=s3.later;have hargs:Array.map a.eval #[x,y]= #[.slice (some ⟨bj',0,none⟩) len capj,.string sb]:=by grind
    have hf1':=hf1 w (λ_ _=>rfl);rw[<-his]at hf1' r1;have hrun:(Builtin.append_ ⟨t0::t1::ts⟩ o.type #[.slice (some ⟨bj',0,none⟩) len capj,.string sb]).run E.P w=.ok (.slice (some ⟨bj',0,none⟩) (len+str.length) capj) w1:=by rw[Mg hu hi hd1 hint (hl1 w) hfits hf1'];simp only[addr_add];simp_all
    refine⟨.value (.slice (some ⟨bj',0,none⟩) (len+str.length) capj),_,a.put o.dst (.slice (some ⟨bj',0,none⟩) (len+str.length) capj),_,?_,λK Q hk=>hk,put_defers _ _ _,x3,fN,?_⟩;·simp only[execOp,hop,resolve,hargs,aL,bz,aD,invoke,builtin];simp_all
    ·rw[e11]at s4;refine s4.put o.dst (.gsl hbj hbtj ⟨hfits,h62⟩ hczj) (by simp[VM.own]) λb=>?_;have:=s4.tok b;grind[cnt]
   ·refine⟨st.next,.inl rfl,?_⟩;have hf0:=AAW (P:=E.P) (wd:=1) (n:=len) (len:=len) (cap:=capj) hhj rfl hol;have key:=YH (hs:=hs) (csO:=cs0.take (len * 1)) (ys:=u8s str) (rest:=Dy st.m j) (k:=str.length) hop hvx hvy hu hi hz fM his hib hd1 hint hroom h62 hcj.1 hfits hl1 (hf1 w.drew (λ_ _=>rfl)) (hf0 w.drew rfl) hro hrn hol hnl ho1 hone hoo (hon _ _) (T9 _ _) (λb=>by have:=hs.tok b;grind);grind
def appG (E:Env) (c b:TypeId) (x y:AVal) (st:St):Option (Nat×Nat×List AVal×List (Nat×List AVal)×Option Nat):=match y with|.str s=>AhC E c b x (.str s) st|y=>AWE E c b x y st
def Afa (hs:Sim E F O st w af a.tmps.toList){o:Oper}{x y:Operand}{c b:TypeId}{ts:List TypeId}{wd l:Nat}{cs:List AVal}{rest:List (Nat×List AVal)}{d:Option Nat} (e:o.op=.call {callee:=.builtin .append,args:=#[x,y],argTypes:=⟨c::b::ts⟩}) (h:appG E c b (rd E af c x) (rd E af b y) st=some (wd,l,cs,rest,d)):∃i,(i=st.next\/d=some i)/\∃f w' g O',AM E F O st w a o (Ae af o.dst (.gsl wd i l)) {m:=(i,cs)::rest,next:=st.next+1} f w' g O':=by unfold appG at h;grind[Af2,AfE]
theorem RO{m:List (Nat×List AVal)}{i j:Nat}{x:List AVal} (h:j≠i):Aj (A9 m i x) j=Aj m j:=by induction m<;>grind[A9,Aj]
def Sim.unshCell (hs:Sim E F O st w af a.tmps.toList){i j c:Nat}{cs:List AVal}{x:AVal} (I:j≠i) (C:Aj st.m j=some cs) (Q:2<=cs.length) (z:cs[c]?=some (.sh i)) (hi:Aj st.m i=some [x]):Sim E F O {st with m:=A9 (A9 st.m i [x.strip]) j (cs.set c x)} w af a.tmps.toList:=by
 rcases hs.box_ok _ (Mt C)with⟨b,arr,e,hb⟩|⟨v,hv⟩;rotate_left;·have:=hv.rep.length;grind
 obtain⟨lo,q,G,D⟩:=hb.heap;obtain⟨u,H,r⟩:=hb.rep.get? z;have y:=List.getElem?_take_some H;cases r with
 | sh hsx hk=>
  have d:=A0w hs hsx hi;have h:Rep O x u:=by have:=d.rep;cases this;omega
  have t:VM.own O w x u:=by have:=d.own;grind[ownL]
  have J: ∀n,Aq O w n (A9 st.m i [x.strip])+cnt n x u=Aq O w n st.m:=λn=>by
   have P:=JQ (O:=O) (O':=O) (w:=w) (w':=w) (b:=n) (x:=[x.strip]) hs.keys hi (λp hp K=>rfl);have L:=d.cnt n;have M:DR O w n (i,[x.strip])=0:=by simp only[DR,d.bx,d.sx];simp[AR,JU]
   grind[AR]
  have B:=hs.setSh hi d (cs':=[x.strip]) (.cons h.strip .nil) (by grind[ownL,NG]) (λn=>by have:=hs.tok n;grind[AR,JU]);have s:Aj (A9 st.m i [x.strip]) j=some cs:=by grind[RO]
  have g:arr.toList=arr.toList.set c u:=by apply ce;grind
  have f:arr.toList.take cs.length=(arr.toList.take cs.length).set c u:=by apply ce;grind
  have k:RepL O (cs.set c x) (arr.toList.take (cs.set c x).length):=by rw[b9,f];exact hb.rep.set c h
  have l:ownL O w (cs.set c x) arr.toList:=by have:=hb.own.set c t;grind
  refine(B.setBox (w':=w) (cs':=cs.set c x) (arr':=arr) (lo:=lo) (hi:=q) s hb G D (λ_ _=>rfl) rfl rfl rfl rfl k l (by rw[b9];exact hb.one) (λn=>?_) rfl).1;have A:=Ii n cs arr.toList c x u;rw[<-g]at A;have:=hs.tok n;grind
end
end Go.VM
namespace Go.VM
section
variable{E:Env}{F:Nat->Nat}{O:At}{st:St}{w:World}{af:List AVal}{a:Act}
def LG (st:St) (x:AVal):Option (Nat×Nat×List AVal):=match x with
 |.sh i=>match Aj st.m i with|some [.vec w xs]=>some (i,w,xs)|_=>none
 |_=>none
def ADR{x:AVal}{i wd:Nat}{xs:List AVal} (h:LG st x=some (i,wd,xs)):x=.sh i/\Aj st.m i=some [.vec wd xs]:=by
 unfold LG at h;split at h
 ·split at h;·rename_i b;cases h;exact⟨rfl,b⟩
  ·cases h
 ·cases h
def QZ{e:List Value} (hs:Sim E F O st w af e){x:AVal}{v:Value}{i wd:Nat}{xs:List AVal} (h:LG st x=some (i,wd,xs)) (f:Rep O x v):Aj st.m i=some [.vec wd xs]/\O.sx i=some v/\Va O w wd xs v:=by obtain⟨rfl,c⟩:=ADR h;cases f with|sh b g=>have d:=(ADF hs b c).own;simp only[ownL,VM.own,cG]at d;exact⟨c,b,d⟩
def Sim.vecDrop{g:List Value} (hs:Sim E F O st w af g){i wd:Nat}{xs:List AVal}{v:Value} (h:O.sx i=some v) (e:Aj st.m i=some [.vec wd xs]):Sim E F O {st with m:=A9 st.m i [.any]} w af g/\∀n,F n+AR n af g+Aq O w n (A9 st.m i [.any])+CP n v<=1:=by
 have d:=ADF hs h e;have c: ∀n,AR n [.vec wd xs] [v]=CP n v:=λn=>by simp[AR,cnt]
 have f: ∀n,Aq O w n (A9 st.m i [.any])+CP n v=Aq O w n st.m:=λn=>by
  have q:=JQ (O:=O) (O':=O) (w:=w) (w':=w) (b:=n) (x:=[.any]) hs.keys e (λp hp k=>rfl);have j:=d.cnt n;rw[c]at j;have l:DR O w n (i,[.any])=0:=by simp only[DR,d.bx,d.sx];simp[AR,cnt]
  omega
 refine⟨hs.setSh e d (.cons (.any _) .nil) (by simp[ownL,VM.own]) (λn=>by rw[c];have:=hs.tok n;simp only[AR,cnt];omega),λn=>?_⟩;have:=hs.tok n;have:=f n;omega
def ACF{wd:Nat}{xs:List AVal}{v:Value} (h:Va O w wd xs v): ∃base cap olds,v=.slice base xs.length cap/\xs.length<=cap/\RepS O wd xs olds/\olds.length=xs.length * wd/\(∀c,c∈olds->c.oneCell'=true)/\∀w',(∀b o,w'.cell? ⟨b,o,none⟩=w.cell? ⟨b,o,none⟩)->(Builtin.firstCells wd xs.length v).run E.P w'=.ok olds.toArray w':=by
 rcases h with⟨rfl,rfl⟩|⟨b,off,cap,arr,e,lo,hi,rfl,l,q,m,k,n,p,g⟩;·exact⟨none,0,[],rfl,av _,.nil _ _,fN,fN,λw' _=>by simp[Builtin.firstCells]⟩
 ·have d:((arr.toList.drop off).take (xs.length * wd)).length=xs.length * wd:=by rw[bb];have:=g.len;omega
  refine⟨_,cap,(arr.toList.drop off).take (xs.length * wd),rfl,k,g.takeCells,d,g.takeOne,λw' i=>?_⟩;refine dK (P:=E.P) w' wd xs.length ⟨b,off,none⟩ xs.length cap _ d λj u f=>?_;rw[addr_add,i];rw[di]at f;split at f;·rw[bV]at f;simp only[World.cell?,l];simpa using f
  ·cases f
def ABo (E:Env) (c b:TypeId) (x y:AVal) (st:St):Option St:=match LG st x with
 |some (i,wd,xs)=>match KZ E.P c,RX wd y with|some (z,by_),some ys=>if z=wd/\I4 E.P b=none/\Ai E.P b=true/\(xs.length+ys.length) * by_<=140737488355328/\xs.length+ys.length<=Ca then some {m:=(st.next,[.vec wd (xs++ys)])::A9 st.m i [.any],next:=st.next+1}else none|_,_=>none
 |none=>none
set_option maxHeartbeats 1000000 in theorem AIo{st0:St} (hnx:st0.next=st.next){o:Oper}{z:Nat}{xs:List AVal}{O1:At}{w1:World}{v1:Value} (x1:Ext F O w O1 w1) (s1:Sim E F O1 st0 w1 af a.tmps.toList) (hov1:Va O1 w1 z xs v1) (ht1: ∀n,F n+AR n af a.tmps.toList+CP n v1+Aq O1 w1 n st0.m<=1) (hv1:v1.cells= #[v1]/\v1.oneCell'=true) (hrun:(execOp a.eval o).run E.P w=.ok (.value v1) w1): ∃nx w' a' O',AM E F O st w a o (Ae af o.dst (.sh st.next)) {m:=(st.next,[.vec z xs])::st0.m,next:=st.next+1} nx w' a' O':=by obtain⟨s2,x2⟩:=s1.newSh (x:=.vec z xs) (v:=v1) (.vec _ _ _) (by simpa only[VM.own]using hov1) (λn=>by simp only[cnt];exact ht1 n);rw[hnx]at s2 x2;refine⟨.value v1,w1,a.put o.dst v1,_,hrun,λK Q hk=>hk,put_defers _ _ _,x1.trans x2,fN,?_⟩;refine s2.put o.dst (.sh (by simp[At.num]) hv1) (by simp[VM.own]) λb=>?_;have:=s2.tok b;simp only[cnt];omega
def AUt{st0:St} (s0:Sim E F O st0 w af a.tmps.toList) (T:st0.next=st.next){o:Oper}{I B e:TypeId}{ts:List TypeId}{i:TypeInfo}{j:Value}{Z:TypeDesc}{z s cap:Nat}{base:Option Addr}{xs ys:List AVal}{olds news:List Value}{S:Value} (g: ∀r,(Builtin.append_ ⟨I::B::ts⟩ o.type #[.slice base xs.length cap,S]).run E.P w=r->(execOp a.eval o).run E.P w=r.andThen λv w'=>.ok (.value v) w') (hu:E.P.underlying I=some (.slice e)) (hi:E.P.info? e=some i) (hz:i.zero=some j) (V:j.cells.size=z) (U:i.size=z) (K:i.bytes=s) (G:E.P.underlying B=some Z) (p:I4 E.P B=none) (c:Src E O w z ys S news) (x: ¬xs.length+ys.length<=cap) (W:xs.length<=cap) (L:RepS O z xs olds) (A:olds.length=xs.length * z) (C: ∀w',(∀b o,w'.cell? ⟨b,o,none⟩=w.cell? ⟨b,o,none⟩)->(Builtin.firstCells z xs.length (.slice base xs.length cap)).run E.P w'=.ok olds.toArray w') (f:(xs.length+ys.length) * s<=140737488355328) (d:xs.length+ys.length<=Ca):∃nx w' a' O',AM E F O st w a o (Ae af o.dst (.sh st.next)) {m:=(st.next,[.vec z (xs++ys)])::st0.m,next:=st.next+1} nx w' a' O':=by
 have h62:xs.length+ys.length<=4611686018427387904:=d;have Y: ¬(9223372036854775807<((xs.length:Int)+(ys.length:Int))):=fM;have h48: ¬(281474976710656<Builtin.nextslicecap (xs.length+ys.length) cap * i.bytes):=by have:=eQ (need:=xs.length+ys.length) (old:=cap) (bytes:=i.bytes) fM (by rw[K];exact f);omega
 have R:=c.len w;have t:=c.first w.drew (λ_ _=>rfl);have y:=C w.drew (λ_ _=>rfl);rw[<-U]at t y;generalize l:grownCap w (xs.length+ys.length) cap e=nc;have H:xs.length+ys.length<=nc:=by rw[<-l];exact ek _ _ _ _
 have q:(Builtin.append_ ⟨I::B::ts⟩ o.type #[.slice base xs.length cap,S]).run E.P w=.ok (.slice (some ⟨w.heap.size,0,none⟩) (xs.length+ys.length) nc) (w.drew.alloc (.cells (olds.toArray++news.toArray++Builtin.zeroCells j.cells (nc-(xs.length+ys.length))) e)):=by
  subst l;have e3:IntKind.i64.max=9223372036854775807:=fO;have J: ¬(((xs.length+ys.length:Nat):Int)>IntKind.i64.max):=by rw[e3];omega
  exact Nz hu hi hz G p R x fM J y t
 obtain⟨X,D,Q⟩:=s0.drew.newArr (cells:=olds.toArray++news.toArray++Builtin.zeroCells j.cells (nc-(xs.length+ys.length))) (e:=e) (pre:=[]) (spare:=(olds.toArray++news.toArray++Builtin.zeroCells j.cells (nc-(xs.length+ys.length))).toList) (fz:=(0,0)) fN fN;have M:Ext F O w O w.drew:=⟨O.le_refl,λ_ _=>⟨rfl,rfl⟩,av _,rfl,rfl,rfl⟩;have hE:=g _ q;refine AIo T (v1:=.slice (some ⟨w.heap.size,0,none⟩) (xs.length+ys.length) nc) (M.trans D) X (.inr ⟨w.heap.size,0,nc,_,e,0,0,fN,OU _,fM,by simp[At.arr],by simpa using H,by simpa using d,?_,?_⟩) (λn=>?_) ⟨rfl,rfl⟩ hE;·simp only[eZ,du,A,c.size,Builtin.zeroCells,eR,eb,V,<-cB];rw[bJ];apply bO;omega
 ·rw[aN];simp only[Array.toList_append,aJ];have:=RepS.append (L.mono (M.trans D).le) A (c.rep.mono (M.trans D).le);rw[<-aJ];exact this.more _
 ·have h9:=Q n;have e9:CP n (.slice (some ⟨w.heap.size,0,none⟩) (xs.length+ys.length) nc)=if n=w.drew.heap.size then 1 else 0:=by
   simp only[CP];show(if w.heap.size=n then 1 else 0)=if n=w.heap.size then 1 else 0;by_cases h:n=w.heap.size;·rw[an h.symm,an h]
   ·rw[aj (λk=>h k.symm),aj h]
  rw[e9];try simp only at h9
  omega
set_option maxHeartbeats 1000000 in theorem AG3 (hs:Sim E F O st w af a.tmps.toList){o:Oper}{x y:Operand}{t0 t1:TypeId}{ts:List TypeId}{st':St} (hop:o.op=.call {callee:=.builtin .append,args:=#[x,y],argTypes:=⟨t0::t1::ts⟩}) (h:ABo E t0 t1 (rd E af t0 x) (rd E af t1 y) st=some st'):∃nx w' a' O',AM E F O st w a o (Ae af o.dst (.sh st.next)) st' nx w' a' O':=by
 have hx:=hs.rd t0 x;have hy:=hs.rd t1 y;generalize rd E af t0 x=ax at *;generalize rd E af t1 y=ay at *;generalize hvx:a.eval x=vx at *;generalize hvy:a.eval y=vy at *;unfold ABo at h;split at h;rotate_left;·cases h
 rename_i i wd xs hva;split at h;rotate_left;·cases h
 rename_i z by_ ys hap hsrc;split at h;rotate_left;·cases h
 rename_i hc;obtain⟨rfl,hint,hkn,hroom,h62'⟩:=hc;have h62:xs.length+ys.length<=4611686018427387904:=h62';simp only[ah]at h;subst h;obtain⟨hg,hsx,hov⟩:=QZ hs hva hx;obtain⟨e,ti,zv,hu,hi,hz,hzs,his,hib⟩:=M5 hap;obtain⟨news,src⟩:=UQ hs hy hsrc;obtain⟨d1,hd1⟩:=C9 hkn;have hargs:Array.map a.eval #[x,y]= #[vx,vy]:=by simp[hvx,hvy]
 have hexec: ∀r,(Builtin.append_ ⟨t0::t1::ts⟩ o.type #[vx,vy]).run E.P w=r->(execOp a.eval o).run E.P w=r.andThen λv w'=>.ok (.value v) w':=by intro r hr;simp only[execOp,hop,resolve,hargs,aL,bz,aD,invoke,builtin];rw[hr]
 obtain⟨base,cap,olds,rfl,hcap,hro,hol,ho1,hof⟩:=ACF (E:=E) hov;obtain⟨s0,ht0⟩:=hs.vecDrop hsx hg;by_cases hfit:xs.length+ys.length<=cap
 ·have hfirst:=src.first w (λ_ _=>rfl);rw[<-his]at hfirst;rcases hov with⟨hnil,hv⟩|⟨b,off,cap',arr,e',lo,hi',hv,h1,hf,hcom,_,hmx,hsz,hS⟩
  ·subst hnil;simp only[aq,d5]at hv;obtain⟨rfl,_,rfl⟩:=hv;have hys:ys=[]:=bC (by simp only[aq]at hfit;omega);subst hys;refine AIo (st:=st) (st0:={st with m:=A9 st.m i [.any]}) (z:=z) (xs:=[]++[]) rfl (Ext.refl _ _ _) s0 (.inl ⟨rfl,rfl⟩) (λn=>?_) ⟨rfl,rfl⟩ ?_;·have:=ht0 n;simp only[CP]at this⊢;omega
   ·refine hexec (.ok _ _) ?_;rw[Mg hu hi hd1 hint (src.len w) hfit hfirst];rfl
  ·cases hv;have hnl:news.length=ys.length * z:=src.size;have hle:(xs.length+ys.length) * z<=cap * z:=bO _ hfit;rw[cB]at hle;obtain⟨w',arr',r1,q1,q2,q3,q4,q5,q6,q7,q8⟩:=EB (P:=E.P) (b:=b) (base:=off+xs.length * z) news 0 arr w h1 hf fM src.one;obtain⟨s2,x2,hc2,hv2,hg2,ht2⟩:=hs.vecTo hsx hg h1 q1 q4 q5 q6 q7 q8;refine AIo (st:=st) (st0:={st with m:=A9 st.m i [.any]}) (z:=z) (xs:=xs++ys) rfl (v1:=.slice (some ⟨b,off,none⟩) (xs.length+ys.length) cap) x2 s2 (.inr ⟨b,off,cap,arr',e',lo,hi',fN,q1,by rw[q3];exact hf,hc2,by simpa using hfit,by simpa using h62',by rw[q3];exact hsz,?_⟩) (λn=>?_) ⟨rfl,rfl⟩ ?_
   ·rw[q2,bW,AAv _ _ _ _ (by rw[aE];omega)];have hA:((arr.toList.drop off).take (xs.length * z)).length=xs.length * z:=by rw[bb];have:=hS.len;omega
    have hD:((arr.toList.drop off).drop (xs.length * z)).length=arr.size-off-xs.length * z:=by rw[aG,aG,aE]
    have hS1:=hS.takeCells;have hdec:arr.toList.drop off=(arr.toList.drop off).take (xs.length * z)++(arr.toList.drop off).drop (xs.length * z):=(bI _ _).symm;rw[hdec];generalize (arr.toList.drop off).take (xs.length * z)=A at hA hS1;generalize (arr.toList.drop off).drop (xs.length * z)=D at hD;rw[show xs.length * z=A.length+0 by omega,Rm,AGe fM,<-aJ];exact(RepS.append (hS1.mono x2.le) hA (src.rep.mono x2.le)).more _
   ·have:=ht2 n;simp only[CP];omega
   ·refine hexec (.ok _ _) ?_;rw[<-his]at r1;rw[Mg hu hi hd1 hint (src.len w) hfit hfirst];simp only[addr_add];rw[aL,r1];rfl
 ·exact AUt (st:=st) s0 rfl hexec hu hi hz hzs his hib hd1 hint src hfit hcap hro hol hof hroom h62'
def ADl (E:Env) (t:TypeId) (x:AVal) (st:St):Option AVal:=match LG st x with|some (_,_,xs)=>if Ba E.P t=true then some (.int .i64 xs.length)else none|none=>none
def AgK (hs:Sim E F O st w af a.tmps.toList){o:Oper}{x:Operand}{d:TypeId}{ts:List TypeId}{r:AVal} (j:o.op=.call {callee:=.builtin .len,args:=#[x],argTypes:=⟨d::ts⟩}) (h:ADl E d (rd E af d x) st=some r): ∃q w' s O',AM E F O st w a o (Ae af o.dst r) st q w' s O':=by
 have p:=hs.rd d x;generalize rd E af d x=ax at *;generalize g:a.eval x=vx at *;unfold ADl at h;split at h;rotate_left;·cases h
 rename_i i wd xs k;split at h;rotate_left;·cases h
 rename_i m;simp only[ah]at h;subst h;obtain⟨_,_,l⟩:=QZ hs k p;obtain⟨base,cap,olds,rfl,_⟩:=ACF (E:=E) l;obtain⟨e,hu⟩: ∃e,E.P.underlying d=some (.slice e):=by unfold Ba at m;split at m<;>simp_all
 have f:(execOp a.eval o).run E.P w=.ok (.value (.int .i64 xs.length)) w:=by
  have c:Array.map a.eval #[x]= #[.slice base xs.length cap]:=by simp[g]
  simp only[execOp,j,resolve,c,aL,bz,aD,invoke,builtin];have:(Builtin.len_ ⟨d::ts⟩ o.type #[.slice base xs.length cap]).run E.P w=.ok (.int .i64 xs.length) w:=by simp[Builtin.len_,aI hu,goInt]
  rw[this];rfl
 refine⟨_,w,a.put o.dst _,O,f,λK Q n=>n,put_defers _ _ _,Ext.refl _ _ _,av _,?_⟩;refine hs.put o.dst (.int _ _) (by simp[VM.own]) λb=>?_;have:=hs.tok b;simp only[cnt];omega
def Ry (E:Env) (t:TypeId) (x i:AVal) (st:St):Option AVal:=match LG st x,i with|some (j,wd,xs),.int _ n=>if Bh E.P t=some wd/\0<=n/\n<xs.length then some (.vptr j wd n.toNat 0)else none|_,_=>none
def ATk (hs:Sim E F O st w af a.tmps.toList){o:Oper}{t:TypeId}{x i:Operand}{r:AVal} (s:o.op=.indexAddr t x i) (h:Ry E t (rd E af t x) (rd E af 0 i) st=some r):∃L w' J O',AM E F O st w a o (Ae af o.dst r) st L w' J O':=by
 have H:=hs.rd t x;have hi:=hs.rd 0 i;generalize rd E af t x=ax at *;generalize rd E af 0 i=ai at *;generalize f:a.eval x=vx at *;generalize v:a.eval i=vi at *;unfold Ry at h;split at h;rotate_left;·cases h
 rename_i j wd xs I n q;split at h;rotate_left;·cases h
 rename_i A;obtain⟨g,l,c⟩:=A;simp only[ah]at h;subst h;obtain⟨R,p,k⟩:=QZ hs q H;rcases k with⟨rfl,_⟩|⟨b,off,cap,arr,e,lo,D,rfl,_,_,_,y,_⟩;·simp only[aq]at c;omega
 cases hi;obtain⟨M,G,B⟩:=Bt g;have d:(Instr.indexAt t (.slice (some ⟨b,off,none⟩) xs.length cap) (.int I n)).run E.P w=.ok (.pointer (some ⟨b,off+(n.toNat * wd+0),none⟩)) w:=by have z:n.toNat<xs.length:=fM;simp[Instr.indexAt,asIntOf,aI G,l,c,z,DW B,addr_add]
 refine⟨.value (.pointer (some ⟨b,off+(n.toNat * wd+0),none⟩)),w,a.put o.dst (.pointer (some ⟨b,off+(n.toNat * wd+0),none⟩)),O,?_,λK Q C=>C,put_defers _ _ _,Ext.refl _ _ _,av _,?_⟩;·simp only[execOp,s,f,v];rw[aL,d];rfl
 ·refine hs.put o.dst (.vptr p) (by simp[VM.own]) λm=>?_;have:=hs.tok m;simp only[cnt];omega
def TN (E:Env) (t:TypeId) (x:AVal) (lo hi mx:Option Int) (st:St):Option St:=match LG st x with|some (i,wd,xs)=>if Bh E.P t=some wd/\mx=none/\0<=lo.getD 0/\lo.getD 0<=hi.getD xs.length/\hi.getD xs.length<=xs.length then some {m:=(st.next,[.vec wd ((xs.drop (lo.getD 0).toNat).take ((hi.getD xs.length).toNat-(lo.getD 0).toNat))])::A9 st.m i [.any],next:=st.next+1}else none|none=>none
def ARt (hs:Sim E F O st w af a.tmps.toList){o:Oper}{t:TypeId}{x:Operand}{lo hi mx:Option Operand}{l h m:Option Int}{f:St} (hop:o.op=.slice t x lo hi mx) (S:rdo E af lo=some l) (hh:rdo E af hi=some h) (hm:rdo E af mx=some m) (d:TN E t (rd E af t x) l h m st=some f):∃nx w' a' O',AM E F O st w a o (Ae af o.dst (.sh st.next)) f nx w' a' O':=by
 obtain⟨kl,el⟩:=Rf hs S;obtain⟨kh,eh⟩:=Rf hs hh;obtain⟨km,Z⟩:=Rf hs hm;have hx:=hs.rd t x;generalize rd E af t x=ax at *;generalize L:a.eval x=vx at *;unfold TN at d;split at d;rotate_left;·cases d
 rename_i i wd xs B;split at d;rotate_left;·cases d
 rename_i T;obtain⟨s,rfl,h0,h1,Y⟩:=T;simp only[ah]at d;subst d;obtain⟨hg,v,g⟩:=QZ hs B hx;obtain⟨s0,A⟩:=hs.vecDrop v hg;obtain⟨base,cap,olds,rfl,J,_⟩:=ACF (E:=E) g;obtain⟨el',W,U⟩:=Bt s;have key:=JH (E:=E) (w:=w) (isSlice:=true) (len:=xs.length) (cap:=cap) (kl:=kl) (kh:=kh) (km:=km) (lo:=l) (hi:=h) (mx:=none) rfl rfl rfl h0 h1 fP fN fN;generalize hl':l.getD 0=l0 at *;generalize X:h.getD xs.length=h9 at *;have r:(execOp a.eval o).run E.P w=.ok (.value (.slice (if cap=l0.toNat then base else base.map (·.add (l0.toNat * wd))) (h9.toNat-l0.toNat) (cap-l0.toNat))) w:=by
  simp only[bT,ck,bG]at key Z;have:(Instr.sliceAt t (.slice base xs.length cap) (l.map λn=>Value.int kl n) (h.map λn=>Value.int kh n) none).run E.P w=.ok (.slice (if cap=l0.toNat then base else base.map (·.add (l0.toNat * wd))) (h9.toNat-l0.toNat) (cap-l0.toNat)) w:=by simp[Instr.sliceAt,aI W,Instr.slice,key,DW U]
  simp_all [execOp]
 have c:((xs.drop l0.toNat).take (h9.toNat-l0.toNat)).length=h9.toNat-l0.toNat:=by rw[bb,aG];omega
 have p:Va O w wd ((xs.drop l0.toNat).take (h9.toNat-l0.toNat)) (.slice (if cap=l0.toNat then base else base.map (·.add (l0.toNat * wd))) (h9.toNat-l0.toNat) (cap-l0.toNat))/\∀n,CP n (.slice (if cap=l0.toNat then base else base.map (·.add (l0.toNat * wd))) (h9.toNat-l0.toNat) (cap-l0.toNat))<=CP n (.slice base xs.length cap):=by
  rcases g with⟨rfl,k⟩|⟨b,off,H,arr,e,q,j,k,D,G,I,q4,q5,q6,q7⟩;·simp only[aq,d5]at k;obtain⟨rfl,_,rfl⟩:=k;simp only[aq]at Y;have e1:l0.toNat=0:=fM;have M:h9.toNat=0:=fM;rw[e1,M];exact⟨.inl ⟨fN,rfl⟩,λn=>av _⟩
  ·simp only[d5]at k;obtain⟨rfl,_,rfl⟩:=k;by_cases hcl:cap=l0.toNat;·rw[an hcl];have e3:h9.toNat-l0.toNat=0:=fM;rw[e3,dy];have e4:cap-l0.toNat=0:=fM;rw[e4];exact⟨.inr ⟨b,off,0,arr,e,q,j,rfl,D,G,I,av _,aM _,by rw[eH];exact bK (Nat.le_add_right _ _) q6,.nil _ _⟩,λn=>av _⟩
   ·rw[aj hcl];refine⟨.inr ⟨b,off+l0.toNat * wd,cap-l0.toNat,arr,e,q,j,by rw[c];simp[addr_add],D,G,I,by rw[c];omega,by rw[c];omega,?_,?_⟩,λn=>by simp[CP,addr_add]⟩
    ·have:l0.toNat * wd+(cap-l0.toNat) * wd=cap * wd:=by rw[<-cB];congr 1;omega
     omega
    ·rw[<-aT];exact(q7.drop _).take _
 obtain⟨z,y⟩:=p;obtain⟨C,R⟩:=s0.newSh (x:=.vec wd ((xs.drop l0.toNat).take (h9.toNat-l0.toNat))) (.vec _ _ _) (by simpa only[VM.own]using z) (λn=>by have:=A n;have:=y n;simp only[cnt];omega);refine⟨_,w,a.put o.dst (.slice (if cap=l0.toNat then base else base.map (·.add (l0.toNat * wd))) (h9.toNat-l0.toNat) (cap-l0.toNat)),_,r,λK Q V=>V,put_defers _ _ _,R,fN,?_⟩;refine C.put o.dst (.sh (by simp[At.num]) ⟨rfl,rfl⟩) (by simp[VM.own]) λb=>?_;have:=C.tok b;simp only[cnt];omega
def Sim.vecFreeze (hs:Sim E F O st w af a.tmps.toList){d i wd:Nat}{xs:List AVal} (hd:af.getD d .any=.sh i) (G:Aj st.m i=some [.vec wd xs]){o:Bool} (W:o=true->xs=[]->wd=1):∃O',Ext F O w O' w/\Sim E F O' {st with m:=A9 st.m i [.any]} w (af.set d (.slice wd xs o)) a.tmps.toList:=by
 have x:=hs.rep.get d undef;rw[hd]at x;generalize X:a.tmps.toList.getD d undef=v at x;have c:a.tmps.toList=a.tmps.toList.set d v:=by rw[<-X,Xx]
 cases x with
 | sh hsx hk=>
  obtain⟨D,j⟩:=hs.vecDrop hsx G;have l:=(ADF hs hsx G).own;simp only[ownL,VM.own,cG]at l;have g: ∀O',Ext F O w O' w->Sim E F O' {st with m:=A9 st.m i [.any]} w af a.tmps.toList->Rep O' (.slice wd xs o) v->VM.own O' w (.slice wd xs o) v->(∀n,Aq O' w n (A9 st.m i [.any])=Aq O w n (A9 st.m i [.any]))->∃O',Ext F O w O' w/\Sim E F O' {st with m:=A9 st.m i [.any]} w (af.set d (.slice wd xs o)) a.tmps.toList:=by
   intro O' T z r t s;refine⟨O',T,{z with rep:=?_,own:=?_,tok:=?_}⟩;·have:=z.rep.set d r;rwa[<-c]at this
   ·have:=z.own.set d t;rwa[<-c]at this
   ·intro n;have P:=Ii n af a.tmps.toList d (.slice wd xs o) v;rw[<-c]at P;have h2:=j n;have Y:cnt n (.slice wd xs o) v<=CP n v:=by cases o<;>simp only[cnt];exact aM _;exact YJ
    have h4:=s n;show F n+AR n (af.set d (.slice wd xs o)) a.tmps.toList+Aq O' w n (A9 st.m i [.any])<=1;omega
  rcases l with⟨rfl,rfl⟩|⟨b,off,cap,arr,e,lo,hi,rfl,y,S,H,B,R,V,J⟩;·exact g O (Ext.refl _ _ _) D (.snil _ _ _) (by cases o<;>simp[VM.own,Lx]) λ_=>rfl
  ·obtain⟨I,e0,fz0,q,_,k⟩:=hs.com_ok b [] H;rw[y]at q;cases q;have Q:=j b;simp only[CP,az]at Q;have p:=J.len;rw[aG,aE]at p;have L:xs.length * wd<=cap * wd:=bO _ B;obtain⟨K,C,A⟩:=D.grow (news:=arr.toList.take (off+xs.length * wd)) (rest:=arr.toList.drop (off+xs.length * wd)) (w':=w) H y fN (λ_ _=>rfl) rfl rfl rfl rfl (by show F b+_+Aq O w b (A9 st.m i [.any])=0;omega) k;have f:(O.ext b ([]++arr.toList.take (off+xs.length * wd))).com b=some (arr.toList.take (off+xs.length * wd)):=by simp[At.ext]
   refine g _ C K (.slice _ f rfl ⟨B,R⟩ ?_ λM h=>.inr (W M h)) ?_ A;·rw[List.drop_take,show off+xs.length * wd-off=xs.length * wd by omega];exact(J.mono C.le).takeCells
   ·cases o;·simp[VM.own]
    simp only[VM.own,Lx];intro U;exact⟨arr,e,lo,hi,_,y,S,trivial,f,by show _=off+xs.length * wd;have Z:arr.toList.length=arr.size:=aE;rw[bb];omega,V⟩
def AXz (E:Env) (x:Operand) (t:TypeId):Option Nat:=match x with|.const (.slice none 0 0)=>Bh E.P t|_=>none
def ACV (E:Env) (o:Oper):Option Nat:=match o.op with|.assign x=>AXz E x o.type|_=>none
def AVC (hs:Sim E F O st w af a.tmps.toList){o:Oper}{wd:Nat} (h:ACV E o=some wd): ∃f w' e O',AM E F O st w a o (Ae af o.dst (.vec wd [])) st f w' e O':=by
 unfold ACV at h;split at h;rotate_left;·cases h
 rename_i x c;unfold AXz at h;split at h;·refine⟨.value (.slice none 0 0),w,a.put o.dst (.slice none 0 0),O,by simp[execOp,c,Act.eval],λK Q d=>d,put_defers _ _ _,Ext.refl _ _ _,av _,?_⟩;refine hs.put o.dst (.vec _ _ _) (by simp only[VM.own];exact .inl ⟨rfl,rfl⟩) λb=>?_;have:=hs.tok b;simp only[cnt,CP];omega
 ·cases h
def nameV (af:List AVal) (x:Operand):Option (Nat×Nat×List AVal):=match x with
 |.tmp d=>match af.getD d .any with|.vec w xs=>some (d,w,xs)|_=>none
 |_=>none
def Sim.nameV (hs:Sim E F O st w af a.tmps.toList){d wd:Nat}{xs:List AVal} (hd:af.getD d .any=.vec wd xs):∃O',Ext F O w O' w/\Sim E F O' {m:=(st.next,[.vec wd xs])::st.m,next:=st.next+1} w (af.set d (.sh st.next)) a.tmps.toList/\Rep O' (.sh st.next) (a.tmps.toList.getD d undef):=by
 have j:=hs.rep.get d undef;have c:=hs.own.get hs.rep.length d undef;have b:=λn=>Ni n af a.tmps.toList d undef hs.rep.length;rw[hd]at j c b;generalize p:a.tmps.toList.getD d undef=v at j c b;simp only[VM.own]at c;obtain⟨base,cap,olds,f,_⟩:=ACF (E:=E) c;have h:(AVal.vec wd xs).strip=.any:=by simp[AVal.strip]
 rw[h]at b;have g:Sim E F O st w (af.set d .any) a.tmps.toList:=by have:=hs.stripAt (.tmp d);simpa only[VM.stripAt,hd,h]using this
 obtain⟨k,l⟩:=g.newSh (x:=.vec wd xs) (v:=v) (.vec _ _ _) (by simpa only[VM.own]using c) (λn=>by have:=b n;have:=hs.tok n;omega);have e:Rep (O.num st.next v) (.sh st.next) v:=.sh (by simp[At.num]) (by rw[f];exact⟨rfl,rfl⟩);have i:Sim E F (O.num st.next v) {m:=(st.next,[.vec wd xs])::st.m,next:=st.next+1} w ((af.set d .any).set d (.sh st.next)) a.tmps.toList:=k.resay (by rw[p];exact e) (by simp[VM.own]) (λn=>by simp[cnt]);rw[fK]at i;exact⟨_,l,i,e⟩
def AX8 (hs:Sim E F O st w af a.tmps.toList){o:Oper}{x:Operand}{d wd:Nat}{xs:List AVal} (f:o.op=.move x) (h:nameV af x=some (d,wd,xs)):∃p w' j O',AM E F O st w a o (Ae (af.set d (.sh st.next)) o.dst (.sh st.next)) {m:=(st.next,[.vec wd xs])::st.m,next:=st.next+1} p w' j O':=by
 unfold nameV at h;split at h;rotate_left;·cases h
 rename_i i;split at h;rotate_left;·cases h
 rename_i q k hd;simp only[ah,aB]at h;obtain⟨rfl,rfl,rfl⟩:=h;obtain⟨O',l,g,c⟩:=hs.nameV hd;generalize r:a.tmps.toList.getD i undef=v at c;have e:a.eval (.tmp i)=v:=by rw[<-r];simp[Act.eval,Array.getD_toList']
 refine⟨.value v,w,a.put o.dst v,_,by simp[execOp,f,e],λK Q n=>n,put_defers _ _ _,l,fN,?_⟩;refine g.put o.dst c (by simp[VM.own]) λb=>?_;have:=g.tok b;simp only[cnt];omega
def AFN (b:Bool) (af:List AVal) (x:Operand) (st:St):Option (Nat×Nat×Nat×List AVal):=match b,x with|true,.tmp j=>(LG st (af.getD j .any)).map λp=>(j,p.1,p.2.1,p.2.2)|_,_=>none
def ABB (E:Env) (af:List AVal) (x:Operand) (t:TypeId) (st:St):Option (Nat×Nat×List AVal):=match x with|.tmp _=>LG st (rd E af t x)|_=>none
def AYH (hs:Sim E F O st w af a.tmps.toList){o:Oper}{x:Operand}{i wd:Nat}{xs:List AVal} (c:o.op=.assign x) (h:ABB E af x o.type st=some (i,wd,xs)):∃l w' n O',AM E F O st w a o (Ae af o.dst (.vec wd xs)) {st with m:=A9 st.m i [.any]} l w' n O':=by
 unfold ABB at h;split at h;rotate_left;·cases h
 rename_i d;obtain⟨j,g,f⟩:=QZ hs h (hs.rd o.type _);obtain⟨p,e⟩:=hs.vecDrop g j;refine⟨.value (a.eval (.tmp d)),w,a.put o.dst (a.eval (.tmp d)),O,by simp[execOp,c],λK Q k=>k,put_defers _ _ _,Ext.refl _ _ _,av _,?_⟩;refine p.put o.dst (.vec _ _ _) (by simpa only[VM.own]using f) λb=>?_;have:=e b;simp only[cnt];omega
def Agy (hs:Sim E F O st w af a.tmps.toList){o:Oper}{x:Operand}{b:Bool}{j i wd:Nat}{xs:List AVal} (k:o.op=.move x) (h:AFN b af x st=some (j,i,wd,xs)):∃y w' z O',AM E F O st w a o (Ae (af.set j (.slice wd xs false)) o.dst (.slice wd xs false)) {st with m:=A9 st.m i [.any]} y w' z O':=by
 unfold AFN at h;split at h;rotate_left;·cases h
 rename_i c;obtain⟨⟨C,f,e⟩,B,q⟩:=aX.1 h;simp only[aB]at q;obtain⟨rfl,rfl,rfl,rfl⟩:=q;obtain⟨d,s⟩:=ADR B;obtain⟨O',r,l⟩:=hs.vecFreeze d s (o:=false) (λh=>by cases h);have g:c<af.length:=by
  by_cases g:c<af.length;·exact g
  ·rw[show af.getD c .any=.any by simp[List.getD,fw (ed g)]]at d;cases d
 have n:=l.rep.get c undef;rw[show(af.set c (AVal.slice f e false)).getD c .any=.slice f e false by simp[List.getD,g]]at n;generalize A:a.tmps.toList.getD c undef=v at n;have p:a.eval (.tmp c)=v:=by rw[<-A];simp[Act.eval,Array.getD_toList']
 refine⟨.value v,w,a.put o.dst v,_,by simp[execOp,k,p],λK Q t=>t,put_defers _ _ _,r,av _,?_⟩;refine l.put o.dst n (by simp[VM.own]) λb=>?_;have:=l.tok b;simp only[cnt];omega
def ASU (E:Env) (c b:TypeId) (x y:AVal) (st:St):Option (AVal×St):=match ABo E c b x y st with|some ⟨(n,[.vec w zs])::m,k⟩=>some (.slice w zs false,⟨m,k⟩)|_=>none
def AfX (hs:Sim E F O st w af a.tmps.toList){o:Oper}{x y:Operand}{t s:TypeId}{ts:List TypeId}{r:AVal}{j:St} (p:o.op=.call {callee:=.builtin .append,args:=#[x,y],argTypes:=⟨t::s::ts⟩}) (h:ASU E t s (rd E af t x) (rd E af s y) st=some (r,j)): ∃g w' l O',AM E F O st w a o (Ae af o.dst r) j g w' l O':=by
 unfold ASU at h;split at h;rotate_left;·cases h
 rename_i n wd q m k f;simp only[ah,aB]at h;obtain⟨rfl,rfl⟩:=h;have C:n=st.next:=by
  unfold ABo at f;split at f
  ·split at f
   ·split at f;·simp only[ah,St.mk.injEq,dl,aB]at f;exact f.1.1.1.symm
    ·cases f
   ·cases f
  ·cases f
 subst C;obtain⟨g,w',l,O',hp⟩:=AG3 hs p f;have sub: ∀c:List AVal,m.Sublist ((st.next,c)::m):=λc=>.cons _ (bU _);have b:=hp.sim;cases ho:o.dst with
 |none=>rw[ho]at b;exact⟨g,w',l,O',{hp with sim:=b.fewer (sub _)}⟩
 | some d=>
  rw[ho]at b;by_cases hd:d<af.length
  ·obtain⟨B,D,z⟩:=Sim.vecFreeze b (d:=d) (i:=st.next) (wd:=wd) (xs:=q) (o:=false) (by simp[Ae,List.getD,hd]) (by simp[Aj]) (λh=>by cases h);have e:(Ae af (some d) (.sh st.next)).set d (.slice wd q false)=Ae af (some d) (.slice wd q false):=by simp[Ae]
   rw[e]at z;have G:=z.fewer (m:=m) (by simp only[A9,az];exact sub _);exact⟨g,w',l,B,{hp with ext:=hp.ext.trans D,sim:=G}⟩
  ·have A: ∀v,Ae af (some d) v=af:=λv=>List.set_eq_of_length_le (ed hd);rw[A]at b;rw[A];exact⟨g,w',l,O',{hp with sim:=b.fewer (sub _)}⟩
def AE.giveS{f:FuncId}{c:List AVal}{Q:AVal->St->Prop} (h:AE E f c st λr b=>∃wd xs,r=.vec wd xs/\∀n,b.next<=n->Q (.slice wd xs false) {b with next:=n}):AE E f c st Q:=by constructor;intro F O w g hs;refine(h.go F O w g hs).mono ?_;rintro e w' ⟨v,p,O',r,b,j,s,x,wd,xs,rfl,y⟩;obtain⟨A,k,l,_⟩:=Sim.nameV (a:={tmps:=#[v],defers:=[]}) (d:=0) x rfl;obtain⟨O3,z,t⟩:=l.vecFreeze (d:=0) (i:=b.next) (wd:=wd) (xs:=xs) (o:=false) rfl (by simp[Aj]) (λh=>by cases h);have q:=t.fewer (m:=b.m) (by simp only[A9,az];exact .cons _ (bU _));exact⟨v,p,O3,.slice wd xs false,⟨b.m,b.next+1⟩,(j.trans k).trans z,Nat.le_succ_of_le s,q,y _ (Nat.le_succ _)⟩
def AAA (P:Program) (t:TypeId):Option AVal:=match P.underlying t with|some (.slice e)=>Cr P e|_=>none
def AV8 (E:Env) (t:TypeId) (x y:AVal) (st:St):Option (AVal×St):=match x,y,KZ E.P t,AAA E.P t with|.int _ n,.int _ n',some (wd,by_),some z=>if 0<=n/\n<=n'/\n'<=Ca/\n' * by_<=140737488355328 then some (.sh st.next,{m:=(st.next,[.vec wd (List.replicate n.toNat z)])::st.m,next:=st.next+1})else none|_,_,_,_=>none
def ZC (E:Env) (t:TypeId) (x y:AVal) (st:St):Option (AVal×St):=match AdB E t x y st with|some p=>some p|none=>AV8 E t x y st
def getElem?_made (z:Array Value) (n j:Nat) (b:j<n):(madeCells z n).toList[j]?=some (z[j % z.size]!):=by simp[madeCells,b]
def Acn{z:AVal}{v:Value} (d:Rep O z v) (f: ∀c,c∈v.cells.toList->c.oneCell'=true) (m:Nat): ∀n (cs:List Value),(∀j,j<n * v.cells.size->cs[j]?=some (v.cells[j % v.cells.size]!))->RepS O v.cells.size (List.replicate n z) cs
 |0,cs,_=>.nil _ _
 | n+1,cs,h=>by
  have g:(n+1) * v.cells.size=n * v.cells.size+v.cells.size:=bH _ _;have i:v.cells.size<=cs.length:=by
   by_cases h0:v.cells.size=0;·omega
   ·have:=h ((n+1) * v.cells.size-1) fM;have:=(dG.1 this).1;omega
  have e:cs=v.cells.toList++cs.drop v.cells.size:=by
   have:cs.take v.cells.size=v.cells.toList:=by
    apply ce;intro j;rw[di];by_cases b:j<v.cells.size;·rw[an b,h j fM,dA b];simp[b]
    ·rw[aj b];simp[ed b]
   conv=>lhs;rw[<-bI v.cells.size cs,this]
  rw[dH,e];refine .cons d ⟨rfl,f⟩ (Acn d f m n _ λj b=>?_);rw[bV,h _ fM,Nat.add_mod_left]
def AZU (hs:Sim E F O st w af a.tmps.toList){o:Oper}{t:TypeId}{x y:Operand}{r:AVal}{l:St} (B:o.op=.makeSlice t x y) (h:AV8 E t (rd E af 0 x) (rd E af 0 y) st=some (r,l)):∃nx w' a' O',AM E F O st w a o (Ae af o.dst r) l nx w' a' O':=by
 have S:=hs.rd 0 x;have M:=hs.rd 0 y;generalize rd E af 0 x=ax at *;generalize rd E af 0 y=ay at *;unfold AV8 at h;split at h;rotate_left;·cases h
 rename_i k n k' f wd by_ z J D;split at h;rotate_left;·cases h
 rename_i hc;obtain⟨h0,L,U,h2⟩:=hc;simp only[ah,aB]at h;obtain⟨rfl,rfl⟩:=h;generalize q:a.eval x=vx at S;generalize G:a.eval y=vy at M;cases S;cases M;obtain⟨e,Z,d,Y,hi,V,I,H,C⟩:=M5 J;have A:Cr E.P e=some z:=by simpa[AAA,Y]using D
 obtain⟨ti',zv',T,W,q3⟩:=Mc A;rw[hi]at T;cases T;rw[V]at W;cases W;have g:=KM O w z d q3;have m:=run_make (P:=E.P) w t e Z d Y hi V k k' n f h0 L (by rw[C,Int.mul_comm];omega) (by simp only[Ca]at U;omega);have i:(execOp a.eval o).run E.P w=.ok (.value (.slice (some ⟨w.heap.size,0,none⟩) n.toNat f.toNat)) (w.alloc (.cells (madeCells d.cells (f.toNat * wd)) e)):=by simp only[execOp,B,aL,bz,q,G,m,H,aD]
 obtain⟨s1,X,t1⟩:=hs.newArr (cells:=madeCells d.cells (f.toNat * wd)) (e:=e) (pre:=[]) (spare:=(madeCells d.cells (f.toNat * wd)).toList) (fz:=(0,0)) rfl fN;have p: ∀c,c∈d.cells.toList->c.oneCell'=true:=g.rep.one g.ok;subst I;have s:Va (O.arr w.heap.size [] e) (w.alloc (.cells (madeCells d.cells (f.toNat * d.cells.size)) e)) d.cells.size (List.replicate n.toNat z) (.slice (some ⟨w.heap.size,0,none⟩) n.toNat f.toNat):=by refine .inr ⟨w.heap.size,0,f.toNat,_,e,0,0,fN,OU _,fN,by simp[At.arr],by rw[cu];omega,by rw[cu];simp only[Ca]at U⊢;omega,by rw[size_madeCells];omega,?_⟩;rw[aN];refine Acn (g.rep.mono X.le) p 0 n.toNat _ λj hj=>getElem?_made _ _ _ (Nat.lt_of_lt_of_le hj (bO _ fM))
 obtain⟨R,x2⟩:=s1.newSh (x:=.vec d.cells.size (List.replicate n.toNat z)) (v:=.slice (some ⟨w.heap.size,0,none⟩) n.toNat f.toNat) (.vec _ _ _) (by simpa only[VM.own]using s) (λb=>by have:=t1 b;simp only[cnt,CP];split at this<;>split<;>omega);refine⟨.value _,_,a.put o.dst _,_,i,λK Q hk=>hk,put_defers _ _ _,X.trans x2,fN,?_⟩;refine R.put o.dst (.sh (by simp[At.num]) ⟨rfl,rfl⟩) (by simp[VM.own]) λb=>?_;have:=R.tok b;simp only[cnt];omega
theorem AZr (hs:Sim E F O st w af a.tmps.toList){o:Oper}{t:TypeId}{x y:Operand}{r:AVal}{b:St} (c:o.op=.makeSlice t x y) (h:ZC E t (rd E af 0 x) (rd E af 0 y) st=some (r,b)):∃f w' e O',AM E F O st w a o (Ae af o.dst r) b f w' e O':=by
 unfold ZC at h;split at h;·rename_i d;cases h;exact AZE hs c d
 ·exact AZU hs c h
def hpK (P:Program) (k:TypeId):Bool:=match P.underlying k with
 | some (.struct fs)=>match fs.toList with | [f,g]=>f.name != "_" && g.name != "_" && f.offset == 0 && g.offset == 1 && Di P f.type && (I4 P g.type == some .i64) && !P.stoodInHeld k|_=>false
 |_=>false
def hpT (P:Program) (t:TypeId):Bool:=match P.underlying t with|some (.map k e)=>(match Cr P e with|some (.bool b)=>!b|_=>false)&&hpK P k|_=>false
def hsA:Option (List AVal)->Option (List (B8×Int))|some [.hset ks]=>some ks|some [.map [] []]=>some []|_=>none
def XP (c b:Bool):AVal:=if c then .tuple [.bool b,.bool b]else .bool b
def AGy (ks:List (B8×Int)) (k:B8×Int):List (B8×Int):=if ks.contains k then ks else ks++[k]
def AA6 (E:Env) (t:TypeId) (m k:AVal) (b:Bool) (st:St):Option AVal:=match hpT E.P t,m,k with|true,.sh i,.agg [.str s,.int .i64 p]=>(hsA (Aj st.m i)).map λks=>XP b (ks.contains (s,p))|_,_,_=>none
def AUa (E:Env) (t:TypeId) (m k x:AVal) (st:St):Option St:=match hpT E.P t,m,k,x with|true,.sh i,.agg [.str s,.int .i64 p],.bool true=>(hsA (Aj st.m i)).map λks=>{st with m:=A9 st.m i [.hset (AGy ks (s,p))]}|_,_,_,_=>none
def ACl {P : Program} {k : TypeId} (h : hpK P k = true) : ∃ fs f g,P.underlying k = some (.struct fs)/\fs.toList = [f,g]/\f.name ≠ "_"/\g.name ≠ "_"/\f.offset = 0/\g.offset = 1/\P.underlying f.type = some .string/\P.underlying g.type = some (.int .i64)/\P.stoodInHeld k = false:=by
 unfold hpK at h;split at h
 ·rename_i fs hu;split at h
  ·rename_i f g hl;simp only[aw,fj,eA,be,eY]at h;obtain⟨⟨⟨⟨⟨⟨h1,h2⟩,h3⟩,h4⟩,h5⟩,h6⟩,h7⟩:=h;refine⟨fs,f,g,hu,hl,h1,h2,h3,h4,CU h5,?_,h7⟩;unfold I4 at h6;split at h6;·rename_i q hq;cases h6;exact hq
   ·cases h6
  ·cases h
 ·cases h
def A1x{P:Program}{k:TypeId} (h:hpK P k=true) (d:Nat) (a c:B8) (b e:Int):eqA P (d+2) k (.agg [.str a,.int .i64 b]) (.agg [.str c,.int .i64 e])=some ((a==c)&&(b==e)):=by obtain⟨fs,f,g,m,l,q,s,i,n,p,r,j⟩:=ACl h;unfold eqA;simp only[m,j,ap,aA];rw[l];simp[List.foldr,q,s,i,n,p,r,eqA]
def AU5{P:Program}{k:TypeId} (h:hpK P k=true) (w:World) (e:Bool) (n:Nat) (b:ByteArray) (p:Int):(Instr.checkKey e (n+2) k (.agg #[.string b,.int .i64 p])).run P w=.ok () w:=by obtain⟨fs,f,g,q,m,s,t,i,r,c,d,v⟩:=ACl h;rw[Instr.checkKey];simp only[aL,aI q,aD];rw[<-Array.forIn_toList,m];have j:(part f.type #[.string b,.int .i64 p] f.offset).run P w=.ok (.string b) w:=run_part_plain w (by simp[Program.plainKey,c]) (by rw[i];rfl);have l:(part g.type #[.string b,.int .i64 p] g.offset).run P w=.ok (.int .i64 p) w:=run_part_plain w (by simp[Program.plainKey,d]) (by rw[r];rfl);simp[List.forIn_cons,s,t,j,l,Instr.checkKey,aI c,aI d]
def AlI (O:At){k:TypeId} (h:hpK E.P k=true) (w:World){a c:ByteArray}{b e:Int} (f:a.data.toList.length<=Ca) (g:c.data.toList.length<=Ca):(Op.equal k (.agg #[.string a,.int .i64 b]) (.agg #[.string c,.int .i64 e])).run E.P w=.ok ((a.data.toList==c.data.toList)&&(b==e)) w:=AAg (E:=E) (O:=O) (w:=w) (d:=9998+2) (xs:=[.str a.data.toList,.int .i64 b]) (ys:=[.str c.data.toList,.int .i64 e]) (.cons (.str a f) (.cons (.int _ _) .nil)) (.cons (.str c g) (.cons (.int _ _) .nil)) (A1x h _ _ _ _ _)
def RepH.find (O:At){ks:List (B8×Int)}{d:List MapEntry} (h:RepH ks d){k:TypeId} (n:hpK E.P k=true) (w:World){s:ByteArray} (hs:s.data.toList.length<=Ca) (p:Int): ∀i,((Instr.findAsking k (.agg #[.string s,.int .i64 p]) d i).run E.P w=.ok none w/\ks.contains (s.data.toList,p)=false)\/∃j e0,(Instr.findAsking k (.agg #[.string s,.int .i64 p]) d i).run E.P w=.ok (some (i+j,.bool true)) w/\d[j]?=some e0/\e0.key=.agg #[.string s,.int .i64 p]/\e0.val=.bool true/\ks.contains (s.data.toList,p)=true:=by
 induction h with
 |nil=>exact λi=>.inl ⟨by simp[Instr.findAsking],rfl⟩
 | @cons b q e ks d hn he hv t ih=>
  intro i;have l:=AlI O n w (b:=p) (e:=q) hs hn;by_cases hc:s.data.toList=b.data.toList/\p=q
  ·obtain⟨c,rfl⟩:=hc;have g:s=b:=by have:=(Zi (a:=s) (b:=b)).2 c;exact Value.string.inj this
   subst g;refine .inr ⟨0,e,?_,rfl,he,hv,fN⟩;rw[Instr.findAsking,he];simp[l,hv]
  ·have r:((s.data.toList==b.data.toList)&&(p==q))=false:=by
    rw[Bool.and_eq_false_iff];by_cases c:s.data.toList=b.data.toList;·exact .inr (by simpa using λf=>hc ⟨c,f⟩)
    ·exact .inl (by simpa using c)
   rw[r]at l;have m:((s.data.toList,p)==(b.data.toList,q))=false:=by simp only[bB,eA,aB];exact hc
   rw[Instr.findAsking,he];simp only[aL,l,aD,ap,aA];rcases ih (i+1)with⟨c,f⟩|⟨j,e0,c,f,h3,h4,h5⟩;·exact .inl ⟨c,by rw[bA,m,f];rfl⟩
   ·exact .inr ⟨j+1,e0,by rw[c,show i+1+j=i+(j+1) by omega],by simpa using f,h3,h4,by rw[bA,h5];simp⟩
def ATL{r:List Value} (hs:Sim E F O st w af r){i:Nat}{v:Value}{ks:List (B8×Int)} (h:hsA (Aj st.m i)=some ks) (q:Rep O (.sh i) v):∃cs b d c,Aj st.m i=some cs/\Dd O w (i,cs) v/\v=.map (some b)/\w.heap[b]?=some (.map d c)/\RepH ks d.toList/\∀n,AR n cs [v]=if b=n then 1 else 0:=by
 cases q with
 | sh hsx hk=>
  unfold hsA at h;split at h;·rename_i p e;cases h;have f:=ADF hs hsx e;have g:=f.own;simp only[ownL,VM.own,cG]at g;obtain⟨b,d,c,rfl,k,j⟩:=g;exact⟨_,b,d,c,e,f,rfl,k,j,λn=>by simp[AR,cnt,QL]⟩
  ·rename_i e;cases h;have f:=ADF hs hsx e;have g:=f.own;simp only[ownL,VM.own,cG]at g;obtain⟨b,d,c,rfl,k,j⟩:=g;have:d.toList=[]:=by cases hq:d.toList with|nil=>rfl|cons x l=>rw[hq]at j;cases j
   exact⟨_,b,d,c,e,f,rfl,k,by rw[this];exact .nil,λn=>by simp[AR,cnt,QL]⟩
  ·cases h
def AT7{P:Program}{t:TypeId} (h:hpT P t=true): ∃k e,P.underlying t=some (.map k e)/\Cr P e=some (.bool false)/\hpK P k=true:=by
 unfold hpT at h;split at h
 ·rename_i k e d;simp only[aw]at h;refine⟨k,e,d,?_,h.2⟩;have:=h.1;split at this;·rename_i b c;rw[c];cases b<;>simp_all
  ·cases this
 ·cases h
def ACO{P:Program}{k:TypeId} (h:hpK P k=true):(match P.underlying k with|some (.array _ _)|some (.struct _)=>true|_=>false)=true:=by obtain⟨fs,f,g,b,_⟩:=ACl h;rw[b]
def Aas (hs:Sim E F O st w af a.tmps.toList){o:Oper}{t:TypeId}{m k:Operand}{c:Bool}{r:AVal} (T:o.op=.lookup t m k c) (h:AA6 E t (rd E af t m) (rd E af 0 k) c st=some r):∃X w' S O',AM E F O st w a o (Ae af o.dst r) st X w' S O':=by
 have R:=hs.rd t m;have C:=hs.rd 0 k;generalize rd E af t m=am at *;generalize rd E af 0 k=ak at *;generalize U:a.eval m=vm at *;generalize M:a.eval k=vk at *;unfold AA6 at h;split at h
 ·rename_i i s p W;obtain⟨ks,y,rfl⟩:=aX.1 h;obtain⟨cs,b,J,B,hg,hv,rfl,I,Y,_⟩:=ATL hs y R;obtain⟨kt,et,H,A,q⟩:=AT7 W;obtain⟨L,D,z⟩:=Sr (O:=O) (w:=w) A;have x:L=.bool false:=by have:=z.rep;cases this;rfl
  subst x;cases C with
  | agg hl one=>
   rename_i arr;obtain⟨l⟩:=arr;cases hl with
   | cons g hl=>
    cases hl with
    | cons v hl=>
     cases hl;cases g;rename_i f V;cases v;have d: ∃u,(Instr.lookup t (.map (some b)) (.agg #[.string f,.int .i64 p]) c).run E.P w=.ok u w/\Rep O (XP c (ks.contains (f.data.toList,p))) u/\(XP c (ks.contains (f.data.toList,p))).strip=XP c (ks.contains (f.data.toList,p)):=by
      have G:=AU5 q w J.isEmpty 9998 f p;rcases Y.find O q w V p 0 with⟨g,v⟩|⟨j,e0,g,v,h3,h4,Z⟩
      ·rw[v];refine⟨if c then .tuple #[.bool false,.bool false]else .bool false,?_,?_,?_⟩;·cases c<;>simp[Instr.lookup,aI H,bR I,G,eU w (ACO q),g,D,Result.andThen]
       ·cases c;·exact .bool _
        ·exact .tuple (.cons (.bool _) (.cons (.bool _) .nil))
       ·cases c<;>simp[XP,AVal.strip,stripL]
      ·rw[Z];refine⟨if c then .tuple #[.bool true,.bool true]else .bool true,?_,?_,?_⟩;·cases c<;>simp[Instr.lookup,aI H,bR I,G,eU w (ACO q),g,Result.andThen]
       ·cases c;·exact .bool _
        ·exact .tuple (.cons (.bool _) (.cons (.bool _) .nil))
       ·cases c<;>simp[XP,AVal.strip,stripL]
     obtain⟨u,d,n,e⟩:=d;refine⟨.value u,w,a.put o.dst u,O,?_,λK Q C=>C,put_defers _ _ _,Ext.refl _ _ _,av _,?_⟩;·simp_all[execOp]
     ·refine hs.put o.dst n (by rw[<-e];grind[NG]) λb=>?_;rw[<-e,JU];exact hs.tok b
 ·cases h
def RepH.snoc{ks:List (B8×Int)}{c:List MapEntry} (h:RepH ks c){b:ByteArray}{p:Int}{e:MapEntry} (d:b.data.toList.length<=Ca) (g:e.key=.agg #[.string b,.int .i64 p]) (i:e.val=.bool true):RepH (ks++[(b.data.toList,p)]) (c++[e]):=by induction h with|nil=>exact .cons d g i .nil|cons j l f _ k=>exact .cons j l f k
def AiN (hs:Sim E F O st w af a.tmps.toList){o:Oper}{t:TypeId}{m k x:Operand}{z:St} (f:o.op=.mapUpdate t m k x\/o.op=.insert t m k x) (hd:o.dst=none) (h:AUa E t (rd E af t m) (rd E af 0 k) (rd E af 0 x) st=some z):∃Z w' T O',AM E F O st w a o af z Z w' T O':=by
 have U:=hs.rd t m;have X:=hs.rd 0 k;have S:=hs.rd 0 x;generalize rd E af t m=am at *;generalize rd E af 0 k=ak at *;generalize rd E af 0 x=ax at *;generalize V:a.eval m=vm at *;generalize Q:a.eval k=vk at *;generalize L:a.eval x=vx at *;unfold AUa at h;split at h
 ·rename_i i s p Y;obtain⟨ks,C,rfl⟩:=aX.1 h;obtain⟨cs,b,r,c,W,hv,rfl,v,H,D⟩:=ATL hs C U;obtain⟨kt,et,K,R,B⟩:=AT7 Y;cases S;cases X with
  | agg hl one=>
   rename_i arr;obtain⟨l⟩:=arr;cases hl with
   | cons A hl=>
    cases hl with
    | cons y hl=>
     cases hl;cases A;rename_i d J;cases y;have I:=AU5 B w false 9998 d p;obtain⟨es',clock',hrun,hK'⟩: ∃es' clock',(Instr.mapUpdate t (.map (some b)) (.agg #[.string d,.int .i64 p]) (.bool true)).run E.P w=.ok () {w with heap:=w.heap.setIfInBounds b (.map es' clock')}/\RepH (AGy ks (d.data.toList,p)) es'.toList:=by
      rcases H.find O B w J p 0 with⟨A,y⟩|⟨j,e0,A,y,M,h4,h5⟩
      ·refine⟨r.push ⟨.agg #[.string d,.int .i64 p],.bool true,c⟩,c+1,?_,?_⟩;·simp[Instr.mapUpdate,aI K,bR v,I,eU w (ACO B),A,cM _ v,Result.andThen]
       ·rw[AGy,y];simp only[ap,aA,Array.toList_push];exact H.snoc J rfl rfl
      ·refine⟨r.modify j λe=>{e with key:=.agg #[.string d,.int .i64 p],val:=.bool true},c,?_,?_⟩
       ·have G:r[j]?=some e0:=by simpa using y
        have g:(Instr.keyThatStays (.agg #[.string d,.int .i64 p]) (.agg #[.string d,.int .i64 p])).run E.P w=.ok (.agg #[.string d,.int .i64 p]) w:=by
         have:Instr.sameBits 10000 (.agg #[.string d,.int .i64 p]) (.agg #[.string d,.int .i64 p])=true:=by simp[Instr.sameBits,(eu d d).2 rfl]
         simp[Instr.keyThatStays,this]
        simp[Instr.mapUpdate,aI K,bR v,I,eU w (ACO B),A,G,M,g,cM _ v,Result.andThen]
       ·rw[AGy,h5,an rfl];have e:(r.modify j λe=>{e with key:=.agg #[.string d,.int .i64 p],val:=.bool true}).toList=r.toList:=by
         apply ce;intro q;simp only[fx,d7];by_cases hq:j=q
         ·subst hq;have G:r[j]?=some e0:=by simpa using y
          rw[an rfl,G];cases e0;simp_all
         ·rw[aj hq]
        rw[e];exact H
     exact ADJ (es':=es') (clock':=clock') hs W hv v D (.hset _ _) (by simp only[VM.own];exact⟨b,es',clock',rfl,by have:=AId v;grind,hK'⟩) (λn=>by simp[cnt,QL]) hd (by rcases f with f|f<;>simp_all[execOp])
 ·cases h
def Vu (E:Env) (t:TypeId) (m k:AVal) (b:Bool) (st:St):Option AVal:=match SB E t m k b st with|some r=>some r|none=>AA6 E t m k b st
def Wz (E:Env) (t:TypeId) (m k x:AVal) (st:St):Option St:=match ACo E t m k x st with|some s=>some s|none=>AUa E t m k x st
theorem Aa4 (hs:Sim E F O st w af a.tmps.toList){o:Oper}{t:TypeId}{m k:Operand}{c:Bool}{r:AVal} (b:o.op=.lookup t m k c) (h:Vu E t (rd E af t m) (rd E af 0 k) c st=some r):∃f w' e O',AM E F O st w a o (Ae af o.dst r) st f w' e O':=by
 unfold Vu at h;split at h;·rename_i d;cases h;exact AS7 hs b d
 ·exact Aas hs b h
def AFy (hs:Sim E F O st w af a.tmps.toList){o:Oper}{t:TypeId}{m k x:Operand}{b:St} (c:o.op=.mapUpdate t m k x\/o.op=.insert t m k x) (hd:o.dst=none) (h:Wz E t (rd E af t m) (rd E af 0 k) (rd E af 0 x) st=some b):∃f w' e O',AM E F O st w a o af b f w' e O':=by
 unfold Wz at h;split at h;·rename_i d;cases h;exact AXE hs c hd d
 ·exact AiN hs c hd h
def ArN (E:Env) (x:Operand) (c b:TypeId) (y:AVal) (st:St):Option (AVal×St):=match x,KZ E.P c with
 |.const (.slice none 0 0),some (z,by_)=>match RX z y with|some ys=>if I4 E.P b=none/\Ai E.P b=true/\ys.length * by_<=140737488355328/\ys.length<=Ca then some (.sh st.next,{m:=(st.next,[.vec z ys])::st.m,next:=st.next+1})else none|none=>none
 |_,_=>none
def AfD (hs:Sim E F O st w af a.tmps.toList){o:Oper}{x y:Operand}{q j:TypeId}{ts:List TypeId}{r:AVal}{l:St} (s:o.op=.call {callee:=.builtin .append,args:=#[x,y],argTypes:=⟨q::j::ts⟩}) (h:ArN E x q j (rd E af j y) st=some (r,l)): ∃R w' Q O',AM E F O st w a o (Ae af o.dst r) l R w' Q O':=by
 have J:=hs.rd j y;generalize rd E af j y=ay at *;generalize C:a.eval y=vy at *;unfold ArN at h;split at h;rotate_left;·cases h
 rename_i z S G;split at h;rotate_left;·cases h
 rename_i ys m;split at h;rotate_left;·cases h
 rename_i L;obtain⟨d,H,f,t⟩:=L;simp only[ah,aB]at h;obtain⟨rfl,rfl⟩:=h;obtain⟨e,U,T,I,hi,M,D,p,B⟩:=M5 G;obtain⟨news,i⟩:=UQ hs J m;obtain⟨V,k⟩:=C9 H;have c: ∀r,(Builtin.append_ ⟨q::j::ts⟩ o.type #[.slice none ([]:List AVal).length 0,vy]).run E.P w=r->(execOp a.eval o).run E.P w=r.andThen λv w'=>.ok (.value v) w':=by
  intro r K;have g:Array.map a.eval #[.const (.slice none 0 0),y]= #[.slice none 0 0,vy]:=by simp only[List.map_toArray,aH,cw,C];rfl
  simp only[execOp,s,resolve,g,aL,bz,aD,invoke,builtin];exact K▸rfl
 by_cases hfit:([]:List AVal).length+ys.length<=0;·have A:ys=[]:=bC (by simp only[aq]at hfit;omega);subst A;have b:=i.first w (λ_ _=>rfl);rw[<-p]at b;refine AIo (st:=st) (z:=z) (xs:=[]) (v1:=.slice none 0 0) rfl (Ext.refl _ _ _) hs (.inl ⟨rfl,rfl⟩) (λn=>by have:=hs.tok n;simp only[CP];omega) ⟨rfl,rfl⟩ ?_;refine c (.ok _ _) ?_;rw[Mg I hi k d (i.len w) hfit b];rfl
 ·have:=AUt (st:=st) (xs:=[]) hs rfl c I hi M D p B k d i hfit (av _) (.nil _ _) (olds:=[]) fN (λw' _=>by simp[Builtin.firstCells]) (by simpa using f) (by simpa using t);simpa using this
def appW (E:Env) (x:Operand) (c b:TypeId) (ax y:AVal) (st:St):Option (AVal×St):=match ASU E c b ax y st with|some p=>some p|none=>ArN E x c b y st
def Afp (hs:Sim E F O st w af a.tmps.toList){o:Oper}{x y:Operand}{e d:TypeId}{ts:List TypeId}{r:AVal}{b:St} (c:o.op=.call {callee:=.builtin .append,args:=#[x,y],argTypes:=⟨e::d::ts⟩}) (h:appW E x e d (rd E af e x) (rd E af d y) st=some (r,b)): ∃i w' g O',AM E F O st w a o (Ae af o.dst r) b i w' g O':=by
 unfold appW at h;split at h;·rename_i f;cases h;exact AfX hs c f
 ·exact AfD hs c h
end
end Go.VM
