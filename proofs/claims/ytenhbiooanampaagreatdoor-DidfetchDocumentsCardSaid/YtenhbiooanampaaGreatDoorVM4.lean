import Derived.Laws.MakeOwn
import Derived.Laws.IdiomStrings
import Derived.Test.YtenhbiooanampaaGreatDoorVM1
import Derived.Lib.UnsafeStr
import Derived.Lib.Bytealg
import Derived.MapKept
import Derived.WideKeyRuns
set_option linter.defProp false
set_option linter.unusedSimpArgs false
set_option linter.unusedVariables false
namespace Go.VM
def V4 (P:Program) (t:TypeId):Option (Nat×AVal):=match P.underlying t with
 |some (.slice e)=>match P.info? e,Ct P e with|some i,some (.int k n)=>if i.size=1 then some (i.bytes,.int k n)else none|some i,some (.bool b)=>if i.size=1 then some (i.bytes,.bool b)else none|some i,some (.str [])=>if i.size=1 then some (i.bytes,.str [])else none|_,_=>none
 |_=>none
def Xw (E:Env) (t:TypeId) (x y:AVal) (st:St):Option (AVal×St):=match x,y,V4 E.P t with|.int _ n,.int _ n',some (b,z)=>if n=n'/\0<=n/\n<=CX/\n * b<=140737488355328 then some (.bsl 1 st.next 0 n.toNat,{m:=(st.next,List.replicate n.toNat z)::st.m,next:=st.next+1})else none|_,_,_=>none
def AaS (E:Env) (t:TypeId) (x y:AVal) (st:St):Option (AVal×St):=match x,y,V4 E.P t with|.int _ n,.int _ n',some (b,.int kz z)=>if 0<=n/\n<=n'/\n'<=CX/\n' * b<=140737488355328 then some (.gsl 1 st.next n.toNat,{m:=(st.next,List.replicate n.toNat (.int kz z))::st.m,next:=st.next+1})else none|_,_,_=>none
def SQ (E:Env) (s d:TypeId) (x:AVal) (st:St):Option (AVal×St):=match x with
 |.str l=>if u8T E.P d=true/\DX E.P s=true then some (.bsl 1 st.next 0 l.length,{m:=(st.next,l.map λc=>.int .u8 (AJ c))::st.m,next:=st.next+1})else none
 |.bsl w i off len=>if w=1/\(u8T E.P s&&DX E.P d)=true then match Ag st.m i with
 |some cs=>match bytesOf ((cs.drop off).take len)with|some l=>if l.length=len/\len<=CX then some (.str l,st)else none|none=>none
 |none=>none else none
 |.gsl w i len=>if w=1/\(u8T E.P s&&DX E.P d)=true then match Ag st.m i with
 |some cs=>match bytesOf (cs.take len)with|some l=>if l.length=len/\len<=CX then some (.str l,st)else none|none=>none
 |none=>none else none
 |_=>none
section
variable{E:Env}{F:Nat->Nat}{O:Ghost}{st:St}{w:World}{af:List AVal}{a:Act}
theorem RepL.replicate{x:AVal}{v:Value} (h:Rep O x v): ∀n,RepL O (List.replicate n x) (List.replicate n v)|0=>.nil|n+1=>.cons h (RepL.replicate h n)
def Sw: ∀(xs:List AVal) (vs:List Value),(∀x,x∈xs->∀v,VM.own O w x v)->ownL O w xs vs|[],_,_=>by simp[ownL]|_::_,[],_=>by simp[ownL]|x::xs,v::vs,h=>by rw[ownL];exact⟨h x fI v,Sw xs vs λy hy=>h y (by grind)⟩
def TU (b:Nat): ∀(xs:List AVal) (vs:List Value),(∀x,x∈xs->∀v,cnt b x v=0)->AP b xs vs=0|[],_,_=>by simp[AP]|_::_,[],_=>by simp[AP]|x::xs,v::vs,h=>by rw[AP,h x fI v,TU b xs vs λy hy=>h y (by grind)]
theorem Us (v:Value) (n:Nat):(madeCells #[v] n).toList=List.replicate n v:=by
 apply List.ext_getElem;·simp[madeCells]
 ·intro i h1 h2;simp[madeCells,Nat.mod_one]
def Vx (hs:Sim E F O st w af a.tmps.toList){o:Oper}{w1:World}{cells:Array Value}{e:TypeId}{cs:List AVal}{fz:Nat×Nat}{cap:Nat} (hs1:Sim E F O st w1 af a.tmps.toList) (hx:Ext F O w O w1) (hfz: ∀j,j<cells.size->¬(fz.1<=j/\j<fz.2)) (hr:RepL O cs (cells.toList.take cs.length)) (h1: ∀v,v∈cells.toList.take cs.length->v.oneCell'=true) (ho: ∀x,x∈cs->(∀v,VM.own O w1 x v)/\∀b v,cnt b x v=0) (hl:cs.length<=cap/\cs.length<=CX) (hrun:(execOp a.eval o).run E.P w=.ok (.value (.slice (some ⟨w1.heap.size,0,none⟩) cs.length cap)) (w1.alloc (.cells cells e fz))):∃nx w' a' O',Stepped E F O st w a o (Ac af o.dst (.bsl 1 st.next 0 cs.length)) {m:=(st.next,cs)::st.m,next:=st.next+1} nx w' a' O':=by
 have hc: ∀b vs,AP b cs vs=0:=λb vs=>TU b cs vs λx hx=>(ho x hx).2 b;obtain⟨k1,k2,k3⟩:=hs1.newBox (e:=e) (cells:=cells) (cs:=cs) (fz:=fz) hfz (hr.mono (hs1.le_box _)) (Sw _ _ λx hx=>(ho x hx).1) h1 (λb=>by rw[hc];have:=hs1.tok b;omega);have hb:(O.box st.next w1.heap.size (e,cells.size)).bx st.next=some w1.heap.size:=by cases k3 with|ptr h=>exact h
 refine⟨_,_,_,_,hrun,λK Q hk=>hk,put_defers _ _ _,hx.trans k2,fI,?_⟩;refine k1.put o.dst (.bsl hb (.inr rfl) hl) (by simp[VM.own]) λb=>?_;have:=k1.tok b;grind[cnt]
def AAA (hs:Sim E F O st w af a.tmps.toList){o:Oper}{w1:World}{cells:Array Value}{e:TypeId}{cs:List AVal}{fz:Nat×Nat}{cap len:Nat}{r:AVal} (hs1:Sim E F O st w1 af a.tmps.toList) (hx:Ext F O w O w1) (hfz: ∀j,j<cells.size->¬(fz.1<=j/\j<fz.2)) (hr:RepL O cs (cells.toList.take cs.length)) (h1: ∀v,v∈cells.toList.take cs.length->v.oneCell'=true) (ho: ∀x,x∈cs->(∀v,VM.own O w1 x v)/\∀b v,cnt b x v=0) (hrr: ∀O':Ghost,O'.bx st.next=some w1.heap.size->O'.bt st.next=some (e,cells.size)->Rep O' r (.slice (some ⟨w1.heap.size,0,none⟩) len cap)) (hro: ∀O' w' v,VM.own O' w' r v) (hrc: ∀b v,cnt b r v=0) (hrun:(execOp a.eval o).run E.P w=.ok (.value (.slice (some ⟨w1.heap.size,0,none⟩) len cap)) (w1.alloc (.cells cells e fz))):∃nx w' a' O',Stepped E F O st w a o (Ac af o.dst r) {m:=(st.next,cs)::st.m,next:=st.next+1} nx w' a' O':=by
 have hc: ∀b vs,AP b cs vs=0:=λb vs=>TU b cs vs λx hx=>(ho x hx).2 b;obtain⟨k1,k2,k3⟩:=hs1.newBox (e:=e) (cells:=cells) (cs:=cs) (fz:=fz) hfz (hr.mono (hs1.le_box _)) (Sw _ _ λx hx=>(ho x hx).1) h1 (λb=>by rw[hc];have:=hs1.tok b;omega);have hb:(O.box st.next w1.heap.size (e,cells.size)).bx st.next=some w1.heap.size:=by cases k3 with|ptr h=>exact h
 refine⟨_,_,_,_,hrun,λK Q hk=>hk,put_defers _ _ _,hx.trans k2,fI,?_⟩;refine k1.put o.dst (hrr _ hb (by simp[Ghost.box])) (hro _ _ _) λb=>?_;have:=k1.tok b;grind
def AQN (hs:Sim E F O st w af a.tmps.toList){o:Oper}{w1:World}{cells:Array Value}{e:TypeId}{cs:List AVal}{fz:Nat×Nat}{cap len:Nat} (hs1:Sim E F O st w1 af a.tmps.toList) (hx:Ext F O w O w1) (hfz: ∀j,j<cells.size->¬(fz.1<=j/\j<fz.2)) (hr:RepL O cs (cells.toList.take cs.length)) (h1: ∀v,v∈cells.toList.take cs.length->v.oneCell'=true) (ho: ∀x,x∈cs->(∀v,VM.own O w1 x v)/\∀b v,cnt b x v=0) (hl:len<=cap/\len<=CX) (hcz:cap=cells.size) (hrun:(execOp a.eval o).run E.P w=.ok (.value (.slice (some ⟨w1.heap.size,0,none⟩) len cap)) (w1.alloc (.cells cells e fz))):∃nx w' a' O',Stepped E F O st w a o (Ac af o.dst (.gsl 1 st.next len)) {m:=(st.next,cs)::st.m,next:=st.next+1} nx w' a' O':=AAA hs hs1 hx hfz hr h1 ho (λO' h1 h2=>.gsl h1 h2 hl fH) (λ_ _ _=>by simp[VM.own]) (λ_ _=>by simp[cnt]) hrun
def AA9{P:Program}{t:TypeId}{b:Nat}{z:AVal} (hI:V4 P t=some (b,z)): ∃e i v,P.underlying t=some (.slice e)/\P.info? e=some i/\i.zero=some v/\i.size=1/\i.bytes=b/\E8 z v=true/\v.cells= #[v]/\v.oneCell'=true/\∀O w,(∀u,VM.own O w z u)/\∀b u,cnt b z u=0:=by
 unfold V4 at hI;split at hI
 ·rename_i e he;split at hI
  ·rename_i j k0 n0 hj hz;split at hI;·rename_i hsz;simp only[ag,aA]at hI;obtain⟨rfl,rfl⟩:=hI;obtain⟨i',v,q1,q2,q3⟩:=Lg hz;rw[hj]at q1;cases q1;refine⟨e,j,v,he,hj,q2,hsz,rfl,q3,?_⟩;cases v<;>simp[E8]at q3;exact⟨rfl,rfl,λO w=>⟨λu=>by simp[VM.own],λb u=>by simp[cnt]⟩⟩
   grind
  ·rename_i j b0 hj hz;split at hI;·rename_i hsz;simp only[ag,aA]at hI;obtain⟨rfl,rfl⟩:=hI;obtain⟨i',v,q1,q2,q3⟩:=Lg hz;rw[hj]at q1;cases q1;refine⟨e,j,v,he,hj,q2,hsz,rfl,q3,?_⟩;cases v<;>simp[E8]at q3;exact⟨rfl,rfl,λO w=>⟨λu=>by simp[VM.own],λb u=>by simp[cnt]⟩⟩
   grind
  ·rename_i j hj hz;split at hI;·rename_i hsz;simp only[ag,aA]at hI;obtain⟨rfl,rfl⟩:=hI;obtain⟨i',v,q1,q2,q3⟩:=Lg hz;rw[hj]at q1;cases q1;refine⟨e,j,v,he,hj,q2,hsz,rfl,q3,?_⟩;cases v<;>simp[E8]at q3;exact⟨rfl,rfl,λO w=>⟨λu=>by simp[VM.own],λb u=>by simp[cnt]⟩⟩
   grind
  grind
 grind
theorem AbW (hs:Sim E F O st w af a.tmps.toList){o:Oper}{t:TypeId}{x y:Operand}{r:AVal}{st':St} (hop:o.op=.makeSlice t x y) (h:Xw E t (rd E af 0 x) (rd E af 0 y) st=some (r,st')):∃nx w' a' O',Stepped E F O st w a o (Ac af o.dst r) st' nx w' a' O':=by
 have hx:=hs.rd 0 x;have hy:=hs.rd 0 y;generalize rd E af 0 x=ax at *;generalize rd E af 0 y=ay at *;unfold Xw at h;split at h
 ·rename_i k n k' n' b z hI;split at h;·rename_i hc;obtain⟨rfl,h0,h1,h2⟩:=hc;simp only[ag,aA]at h;obtain⟨rfl,rfl⟩:=h;generalize hvx:a.eval x=vx at hx;generalize hvy:a.eval y=vy at hy;cases hx;cases hy;obtain⟨e,i,v,g1,g2,g3,g4,g5,g6,g7⟩:=AA9 hI;have hrep:=(Jj O w z v g6).rep;have hrun:=run_make (P:=E.P) w t e i v g1 g2 g3 k k' n n h0 (bD _) (by grind) (by grind[CX]);rw[g7.1,g4,fA]at hrun;have hlen:(List.replicate n.toNat z).length=n.toNat:=cr;have key:=Vx (o:=o) (w1:=w) (cells:=madeCells #[v] n.toNat) (e:=e) (cs:=List.replicate n.toNat z) (fz:=(0,0)) (cap:=n.toNat) hs hs (Ext.refl _ _ _) fI (by grind[Us,List.take_of_length_le,RepL.replicate]) (by rw[Us];intro u hu;have:=dp hu;rw[cU this];exact g7.2.1) (λx hx=>by rw[cU hx];exact g7.2.2 _ _) fH (by simp_all[execOp]);grind
  grind
 grind
def AXA (hs:Sim E F O st w af a.tmps.toList){o:Oper}{t:TypeId}{x y:Operand}{r:AVal}{st':St} (hop:o.op=.makeSlice t x y) (h:AaS E t (rd E af 0 x) (rd E af 0 y) st=some (r,st')):∃nx w' a' O',Stepped E F O st w a o (Ac af o.dst r) st' nx w' a' O':=by
 have hx:=hs.rd 0 x;have hy:=hs.rd 0 y;generalize rd E af 0 x=ax at *;generalize rd E af 0 y=ay at *;unfold AaS at h;split at h
 ·rename_i k n k' n' b kz z hI;split at h
  ·rename_i hc;obtain⟨h0,hle,h1,h2⟩:=hc;simp only[ag,aA]at h;obtain⟨rfl,rfl⟩:=h;generalize hvx:a.eval x=vx at hx;generalize hvy:a.eval y=vy at hy;cases hx;cases hy;obtain⟨e,i,v,g1,g2,g3,g4,g5,g6,g7⟩:=AA9 hI;have hrep:=(Jj O w (AVal.int kz z) v g6).rep;have hrun:=run_make (P:=E.P) w t e i v g1 g2 g3 k k' n n' h0 hle (by grind) (by grind[CX]);rw[g7.1,g4,fA]at hrun;have hlen:(List.replicate n.toNat (AVal.int kz z)).length=n.toNat:=cr;have hmc:(madeCells #[v] n'.toNat).size=n'.toNat:=by grind[Array.length_toList,Us]
   exact AQN (o:=o) (w1:=w) (cells:=madeCells #[v] n'.toNat) (e:=e) (cs:=List.replicate n.toNat (AVal.int kz z)) (fz:=(0,0)) (cap:=n'.toNat) (len:=n.toNat) hs hs (Ext.refl _ _ _) fI (by rw[Us,hlen,List.take_replicate,fh fH];exact RepL.replicate hrep _) (by rw[Us];intro u hu;have:=dp hu;rw[cU this];exact g7.2.1) (λx hx=>by rw[cU hx];exact g7.2.2 _ _) ⟨fH,fH⟩ fH (by simp_all[execOp])
  grind
 grind
def SC: ∀ {xs:List AVal}{l:B8}{vs:List Value},bytesOf xs=some l->RepL O xs vs->∃ns:List Int,ns.length=xs.length/\(∀j,j<ns.length->vs[j]?=some (.int .u8 (ns.getD j 0)))/\l=ns.map FQ
 |[],l,vs,h,_=>by simp[bytesOf]at h;subst h;exact⟨[],rfl,fI,rfl⟩
 | x::xs,l,vs,h,hr=>by
  cases hr with
  |cons hx t=>
   rename_i v vs;unfold bytesOf at h;split at h;·grind
   ·rename_i n xs' e;cases e;cases hx;cases hb:bytesOf xs with|none=>grind|some l'=>simp[hb]at h;subst h;obtain⟨ns,h1,h2,h3⟩:=SC hb t;refine⟨n::ns,by grind,?_,by grind⟩;grind
   grind
def RepL.takeN{xs:List AVal}{vs:List Value} (h:RepL O xs vs): ∀n,RepL O (xs.take n) (vs.take n):=by induction xs generalizing vs with|nil=>intro n;cases h;simpa using RepL.nil|cons x xs ih=>intro n;cases h with|cons h t=>cases n with|zero=>grind|succ n=>exact .cons h (ih t n)
theorem AW8 (hs:Sim E F O st w af a.tmps.toList){o:Oper}{s d:TypeId}{x:Operand}{r:AVal}{st':St} (hop:o.op=.convert s d x) (h:SQ E s d (rd E af s x) st=some (r,st')):∃nx w' a' O',Stepped E F O st w a o (Ac af o.dst r) st' nx w' a' O':=by
 have hx:=hs.rd s x;generalize rd E af s x=ax at *;unfold SQ at h;split at h
 ·rename_i l;split at h
  ·rename_i hc;simp only[ag,aA]at h;obtain⟨rfl,rfl⟩:=h;generalize hv:a.eval x=v at hx;cases hx with
   |str b hn=>
    obtain⟨e,h1,h2⟩:=Xi hc.1;have hrun:=run_bytes_of_string (P:=E.P) w s d e b (CW hc.2) h1 h2;have hsz:b.size=b.data.toList.length:=fI;have hcs:(b.data.toList.map λc=>AVal.int .u8 (AJ c)).length=b.size:=fI;have hrow:(bytesRow b (grownCap w b.size 0 e)).toList=(b.data.toList.map λc=>Value.int .u8 (AJ c))++List.replicate (grownCap w b.size 0 e-b.size) (.int .u8 0):=by simp[bytesRow,AJ]
    have htake:(bytesRow b (grownCap w b.size 0 e)).toList.take b.size=b.data.toList.map λc=>Value.int .u8 (AJ c):=by grind
    have hcap:b.size<=grownCap w b.size 0 e:=d9 w b.size 0 e;have key:=Vx (o:=o) (w1:=w.drew) (cells:=bytesRow b (grownCap w b.size 0 e)) (e:=e) (cs:=b.data.toList.map λc=>.int .u8 (AJ c)) (fz:=((bytesRow b (grownCap w b.size 0 e)).size,(bytesRow b (grownCap w b.size 0 e)).size+1)) (cap:=grownCap w b.size 0 e) hs hs.drew ⟨O.le_refl,λ_ _=>⟨rfl,rfl⟩,av _,rfl,rfl,rfl⟩ (λj hj=>by omega) (by rw[hcs,htake];generalize b.data.toList=l;induction l with|nil=>exact .nil|cons c l ih=>exact .cons (.int _ _) ih) (by rw[hcs,htake];intro v hv;obtain⟨c,_,rfl⟩:=bk.1 hv;rfl) (λx hx=>by obtain⟨c,_,rfl⟩:=bk.1 hx;grind[VM.own,cnt]) fH (by rw[hcs];simp only[execOp,hop,hv];rw[aI,hrun];rfl);grind
  grind
 ·rename_i wd i off len;split at h
  ·rename_i hc;obtain⟨rfl,hg⟩:=hc;simp only[aw]at hg;split at h
   ·rename_i cs hm;split at h
    ·rename_i l hb;split at h
     ·rename_i hl;simp only[ag,aA]at h;obtain⟨rfl,rfl⟩:=h;generalize hv:a.eval x=v at hx;cases hx with
      |bsl hbx ho hcap=>
       rename_i off' b cap;obtain⟨b',arr,e',hbo⟩:=hs.box hm hbx;have:b'=b:=by have:=hbo.bx;grind
       subst this;obtain⟨lo,hi,hh,hf⟩:=hbo.heap;obtain⟨e,h1,h2⟩:=Xi hg.1;obtain⟨ns,n1,n2,n3⟩:=SC hb ((hbo.rep.drop off).takeN len);have hnl:ns.length=len:=by simp_all
       have hcell: ∀j,j<len->w.cell? ⟨b',off'+j,none⟩=some (.int .u8 (ns.getD j 0)):=by grind[World.cell?]
       have key:=dV w s e h1 h2 b' off' len cap ns fH hcell d (CW hg.2);have hsz:(strOfNums ns).data.toList=l:=by rw[fx,n3];rfl
       refine⟨.value (.string (strOfNums ns)),w,a.put o.dst (.string (strOfNums ns)),O,by simp_all[execOp],λK Q hk=>hk,put_defers _ _ _,Ext.refl _ _ _,av _,?_⟩;rw[<-hsz];refine hs.put o.dst (.str _ (by grind)) (by simp[VM.own]) λn=>?_;have:=hs.tok n;grind[cnt]
     grind
    grind
   grind
  grind
 ·rename_i wd i len;split at h
  ·rename_i hc;obtain⟨rfl,hg⟩:=hc;simp only[aw]at hg;split at h
   ·rename_i cs hm;split at h
    ·rename_i l hb;split at h
     ·rename_i hl;simp only[ag,aA]at h;obtain⟨rfl,rfl⟩:=h;generalize hv:a.eval x=v at hx;cases hx with
      |gsl hbx hbt hcap hcz=>
       rename_i b cap nn T;obtain⟨b',arr,e',hbo⟩:=hs.box hm hbx;have:b'=b:=by have:=hbo.bx;grind
       subst this;obtain⟨lo,hi,hh,hf⟩:=hbo.heap;obtain⟨e,h1,h2⟩:=Xi hg.1;obtain⟨ns,n1,n2,n3⟩:=SC hb (hbo.rep.takeN len);have hnl:ns.length=len:=by simp_all
       have hcell: ∀j,j<len->w.cell? ⟨b',0+j,none⟩=some (.int .u8 (ns.getD j 0)):=by intro j hj;have q:=n2 j fH;have q1:=List.getElem?_take_some q;have q2:=List.getElem?_take_some q1;simp_all[World.cell?]
       have key:=dV w s e h1 h2 b' 0 len cap ns fH hcell d (CW hg.2);have hsz:(strOfNums ns).data.toList=l:=by rw[fx,n3];rfl
       refine⟨.value (.string (strOfNums ns)),w,a.put o.dst (.string (strOfNums ns)),O,by simp_all[execOp],λK Q hk=>hk,put_defers _ _ _,Ext.refl _ _ _,av _,?_⟩;rw[<-hsz];refine hs.put o.dst (.str _ (by grind)) (by simp[VM.own]) λn=>?_;have:=hs.tok n;grind[cnt]
     grind
    grind
   grind
  grind
 grind
end
end Go.VM
namespace Go.VM
def YK (P:Program) (s d T:TypeId) (n:Nat):Bool:=match P.underlying s,P.underlying d with
 |some (.pointer t),some .unsafePointer=>(match P.info? t with|some j=>j.size !=0&&decide (0<n)|none=>false)
 |some .unsafePointer,some (.pointer u)=>(match P.info? u with|some _=>liesAt P P.depth T (n / P.cellsOf T) 0 u 1|none=>false)
 |_,_=>false
def UH (E:Env) (s d:TypeId) (x:AVal) (st:St):Option AVal:=match x with
 |.ptr i 0=>match Ag st.m i with|some (.nself j T n::_)=>if j=i/\YK E.P s d T n=true then some (.ptr i 0)else none|_=>none
 |_=>none
def UC (x:AVal):Option AVal:=match x with|.buf e l o=>some (.bufp e l o)|_=>none
def ptrTo (P:Program) (t e:TypeId):Bool:=match P.underlying t with|some (.pointer e')=>e'==e&&P.cellsOf e==1|_=>false
def YG (E:Env) (t0:TypeId) (x y:AVal):Option AVal:=match x,y with|.bufp e l true,.int .i64 n=>if ptrTo E.P t0 e=true/\n=l.length then some (.str l)else none|_,_=>none
section
variable{E:Env}{F:Nat->Nat}{O:Ghost}{st:St}{w:World}{af:List AVal}{a:Act}
theorem AWU (hs:Sim E F O st w af a.tmps.toList){o:Oper}{s d:TypeId}{x:Operand}{r:AVal} (hop:o.op=.convert s d x) (h:UH E s d (rd E af s x) st=some r):∃nx w' a' O',Stepped E F O st w a o (Ac af o.dst r) st nx w' a' O':=by
 have hx:=hs.rd s x;generalize rd E af s x=ax at *;generalize hvx:a.eval x=vx at hx;unfold UH at h;split at h
 ·rename_i i;split at h
  ·rename_i j T n rest hm;split at h
   ·rename_i hc;obtain⟨rfl,hcp⟩:=hc;cases h;obtain⟨b0,hbx0⟩: ∃b0,O.bx j=some b0:=by cases hx with|ptr hbx=>grind
    obtain⟨b,arr,e,hb⟩:=hs.box hm hbx0;obtain⟨lo,hi,hh,hf⟩:=hb.heap;have hbt:O.bt j=some (T,n):=by have:=hb.rep;generalize arr.toList.take _=vs at this;cases this with|cons h _=>cases h;omega
    obtain⟨rfl,hsz⟩:=hb.ty _ _ hbt;cases hx with
    | ptr hbx=>
     have:_=b:=cD (hbx.symm.trans hb.bx);subst this;rename_i b;have hsh:w.shape? b=some (e,n):=by grind[World.shape?]
     have hrun:(convert s d (.pointer (some ⟨b,0,none⟩))).run E.P w=.ok (.pointer (some ⟨b,0,none⟩)) w:=by
      unfold YK at hcp;split at hcp
      ·rename_i t hs1 hd1;split at hcp;·rename_i j' hj;simp only[aw,fe,ek,au]at hcp;grind[Go.Lib.run_to_unsafe]
       grind
      ·grind[Go.Lib.run_from_unsafe]
      grind
     refine⟨.value (.pointer (some ⟨b,0,none⟩)),w,a.put o.dst _,O,by simp_all[execOp],λK Q hk=>hk,put_defers _ _ _,Ext.refl _ _ _,av _,?_⟩;refine hs.put o.dst (.ptr hbx) (by simp[VM.own]) λm=>?_;have:=hs.tok m;grind[cnt]
   grind
  grind
 grind
theorem AYh (hs:Sim E F O st w af a.tmps.toList){o:Oper}{x:Operand}{t0:TypeId}{ts:List TypeId}{r:AVal} (hop:o.op=.call {callee:=.builtin .unsafeSliceData,args:=⟨[x]⟩,argTypes:=⟨t0::ts⟩}) (h:UC (rd E af t0 x)=some r):∃nx w' a' O',Stepped E F O st w a o (Ac (stripAt af x) o.dst r) st nx w' a' O':=by
 have hx:=hs.rd t0 x;have hox:=hs.rd_own t0 x;have hcx:=λb=>hs.rd_cnt t0 x b;have hs1:=hs.stripAt x;have htk:=hs.tok;generalize rd E af t0 x=ax at *;generalize hvx:a.eval x=vx at *;unfold UC at h;split at h
 ·rename_i e l ow;cases h;have hargs:Array.map a.eval ⟨[x]⟩= #[vx]:=by grind
  have hexec: ∀v,(Builtin.unsafeSliceData_ ⟨t0::ts⟩ o.type #[vx]).run E.P w=.ok v w->(execOp a.eval o).run E.P w=.ok (.value v) w:=by simp_all[execOp,resolve,invoke,builtin]
  cases hx with
  | buf _ hx hk=>
   have hul:(u8s l).length=l.length:=by simp[u8s]
   cases vx with
   | slice base len cap=>
    cases base with
    |none=>
     obtain⟨rfl,rfl⟩:=hk;have hl:l=[]:=by generalize u8s l=q at hx hul;cases hx;grind
     subst hl;refine⟨_,w,a.put o.dst _,O,hexec _ (Go.Lib.run_unsafeSliceData_nil w _ _ 0 0),λK Q hk=>hk,put_defers _ _ _,Ext.refl _ _ _,av _,?_⟩;refine hs1.put o.dst (.bnil _ _) ?_ λb=>?_;·cases ow<;>simp[VM.own,ABm,Rs]
     ·have:=htk b;have:=hcx b;cases ow<;>simp only[cnt,Rs]<;>omega
    | some ad=>
     obtain⟨b,off,sp⟩:=ad;obtain⟨h1,h2,h3,h4⟩:=hk;simp only at h1 h2 h4;subst h1;subst h2;obtain⟨cells,hc,hS,hlm⟩: ∃cells,O.com b=some cells/\RepS O 1 (u8s l) cells/\l.length<=CX:=by generalize u8s l=q at hx hul;cases hx with|snil=>omega|slice _ hb hl hc hS hnn=>grind
     refine⟨_,w,a.put o.dst _,O,hexec _ (Go.Lib.run_unsafeSliceData_row w _ _ ⟨b,0,none⟩ len cap h3),λK Q hk=>hk,put_defers _ _ _,Ext.refl _ _ _,av _,?_⟩;refine hs1.put o.dst (.bufp _ hc h4 hS hlm) ?_ λn=>?_
     ·cases ow;·simp[VM.own]
      ·simp only[VM.own]at hox⊢;exact hox.2
     ·have:=htk n;have h9:=hcx n;cases ow;·grind[cnt]
      ·have:Rs n (.pointer (some ⟨b,0,none⟩))=CO n (.slice (some ⟨b,0,none⟩) len cap):=rfl;grind[cnt]
   |_=>exact hk.elim
 grind
theorem Sim.freeze (hs:Sim E F O st w af a.tmps.toList){b:Nat}{cells:List Value}{arr:Array Value}{e:TypeId}{fz fz':Nat×Nat}{w':World} (hcom:O.com b=some cells) (hh:w.heap[b]?=some (.cells arr e fz)) (hw:w'.heap[b]?=some (.cells arr e fz')) (hk: ∀k,k≠b->w'.heap[k]?=w.heap[k]?) (hz:w'.heap.size=w.heap.size) (ho:w'.os=w.os) (hou:w'.output=w.output) (hta:w'.tape=w.tape) (ht:F b+AP b af a.tmps.toList+Ap O w b st.m=0):Sim E F O st w' af a.tmps.toList/\Ext F O w O w':=by
 have hbox: ∀p,p∈st.m->∀k,O.bx p.1=some k->k≠b:=by
  intro p hp k hk' e';rcases hs.box_ok p hp with⟨k',ar,e2,hb⟩|⟨v,hv⟩;rotate_left;·have:=hv.bx;grind
  have h1:=hb.bx;rw[hk']at h1;cases h1;have:=hb.com;grind
 have hcm: ∀n,Ap O w' n st.m=Ap O w n st.m:=λn=>Ff λp hp=>⟨rfl,λk hkk=>hk k (hbox p hp k hkk)⟩;refine⟨?_,⟨O.le_refl,λn hn=>⟨hk n (λe=>by grind),rfl⟩,fH,ho,hou,hta⟩⟩;refine {hs with com_ok:=?_,box_ok:=?_,bx_lt:=?_,F_lt:=?_,own:=?_,tok:=?_};·intro n cs h;obtain⟨ar,e',fz2,h2,h3⟩:=hs.com_ok n cs h;grind
 ·intro p hp;rcases hs.box_ok p hp with⟨k,ar,e',hb⟩|⟨v,hv⟩;rotate_left;·refine .inr ⟨v,hv.keep O.le_refl hv.bx λn hn=>⟨hk n λe=>?_,rfl⟩⟩;subst e;have:=hv.cnt n;have:=X5 (O:=O) (w:=w) (b:=n) hp;omega
  obtain⟨l2,h2,h3,h4⟩:=hb.heap;have hkb:=hbox p hp k hb.bx;refine .inl ⟨k,ar,e',hb.bx,⟨l2,h2,by grind,h4⟩,hb.rep,Bv O.le_refl _ _ hb.own λn hn=>⟨hk n λe=>?_,rfl⟩,hb.com,hb.one,hb.ty⟩;subst e;have hcb:DK O w n p=AP n p.2 ar.toList:=by simp only[DK,hb.bx,hcells,h3]
  have:=AQs (O:=O) (w:=w) (b:=n) hp;omega
 ·intro i n h;rw[hz];exact hs.bx_lt i n h
 ·intro n hn;rw[hz]at hn;exact hs.F_lt n hn
 ·exact Bv O.le_refl _ _ hs.own λn hn=>⟨hk n λe=>by grind,rfl⟩
 ·intro n;rw[hcm n];exact hs.tok n
theorem RepS.u8_get{O:Ghost}: ∀ {l:B8}{cells:List Value},RepS O 1 (u8s l) cells->l.length<=cells.length/\∀(j:Nat) (x:UInt8),l[j]?=some x->cells[j]?=some (Value.int .u8 x.toNat)
 |[],cells,_=>⟨aK _,λj x h=>by grind⟩
 | c::l,cells,h=>by
  have h':RepS O 1 (.int .u8 c.toNat::u8s l) cells:=h;generalize hq:AVal.int .u8 c.toNat::u8s l=q at h';cases h' with
  |nil=>grind
  |cons h hw t=>
   cases hq;cases h;obtain⟨h1,h2⟩:=RepS.u8_get (l:=l) t;refine⟨?_,λj x hj=>?_⟩;·rw[ah,ae];have:(Value.int IntKind.u8 ↑c.toNat).cells.toList.length=1:=rfl;omega
   ·cases j with|zero=>simp at hj;subst hj;rfl|succ j=>grind
theorem Acb (hs:Sim E F O st w af a.tmps.toList){o:Oper}{x y:Operand}{t0 t1:TypeId}{r:AVal} (hop:o.op=.call {callee:=.builtin .unsafeString,args:=⟨[x,y]⟩,argTypes:=⟨[t0,t1]⟩}) (h:YG E t0 (rd E af t0 x) (rd E af t1 y)=some r):∃nx w' a' O',Stepped E F O st w a o (Ac (stripAt af x) o.dst r) st nx w' a' O':=by
 have hx:=hs.rd t0 x;have hy:=hs.rd t1 y;have hcx:=λb=>hs.rd_cnt t0 x b;have hs1:=hs.stripAt x;have htk:=hs.tok;generalize rd E af t0 x=ax at *;generalize rd E af t1 y=ay at *;generalize hvx:a.eval x=vx at *;generalize hvy:a.eval y=vy at *;unfold YG at h;split at h
 ·rename_i e l n;split at h
  ·rename_i hc;obtain⟨hpt,rfl⟩:=hc;cases h;have hargs:Array.map a.eval ⟨[x,y]⟩= #[vx,vy]:=by grind
   cases hy;have hexec: ∀v w',(Builtin.unsafeString_ #[t0,t1] o.type #[vx,.int .i64 l.length]).run E.P w=.ok v w'->(execOp a.eval o).run E.P w=.ok (.value v) w':=by simp_all[execOp,resolve,invoke,builtin]
   obtain⟨hu,hc1⟩:E.P.underlying t0=some (.pointer e)/\E.P.cellsOf e=1:=by
    unfold ptrTo at hpt;split at hpt;·rename_i e' hu;simp only[aw,bf]at hpt;obtain⟨rfl,h2⟩:=hpt;exact⟨hu,h2⟩
    ·cases hpt
   by_cases hl0:l=[]
   ·subst hl0;obtain⟨p,rfl⟩: ∃p,vx=.pointer p:=by cases hx<;>exact⟨_,rfl⟩
    refine⟨_,w,a.put o.dst _,O,hexec _ _ (Go.Lib.run_unsafeString_none w t0 t1 o.type p),λK Q hk=>hk,put_defers _ _ _,Ext.refl _ _ _,av _,?_⟩;refine hs1.put o.dst (.str .empty fI) (by simp[VM.own]) λn=>?_;grind[cnt]
   ·cases hx with
    |bnil=>grind
    | bufp _ hb hct hS hlm=>
     rename_i b cells;obtain⟨arr,e',fz,hh,⟨ds,hds⟩,hce⟩:=hs.com_ok _ _ hb;have:=hce _ hct;subst this;obtain⟨hlc,hg⟩:=hS.u8_get;have hsize:cells.length+ds.length=arr.size:=by grind[List.length_append,Array.length_toList]
     have hlm':l.length<=4611686018427387904:=hlm;have hrun:=Go.Lib.run_unsafeString_row (P:=E.P) w t0 t1 o.type e' hu hc1 b arr.size (by grind[World.shape?]) l hl0 fH fH (λj x hj=>by
      have h1:=hg j x hj;have h2:arr.toList[j]?=some (.int .u8 x.toNat):=by grind
      grind[Addr.add,World.cell?]);have hcb:cnt b (.bufp e' l true) (.pointer (some ⟨b,0,none⟩))=1:=by simp[cnt,Rs]
     have hz:F b+AP b (stripAt af x) a.tmps.toList+Ap O w b st.m=0:=by grind
     have hll:l.length≠0:=λh=>hl0 (bw h);obtain⟨s2,x2⟩:=hs1.freeze (w':=w.freeze ⟨b,0,none⟩ l.length) (fz':=if fz.1==fz.2 then(0,0+l.length)else(min fz.1 0,max fz.2 (0+l.length))) hb hh (by grind[World.freeze]) (λk hk=>by simp only[World.freeze,aj hll,dW];rw[aj (λe=>hk e.symm)]) (by grind[World.freeze]) (by grind[World.freeze]) (by grind[World.freeze]) (by grind[World.freeze]) hz;refine⟨_,_,a.put o.dst _,O,hexec _ _ hrun,λK Q hk=>hk,put_defers _ _ _,x2,av _,?_⟩;have hrs:Rep O (.str l) (.string ⟨l.toArray⟩):=Rep.str (O:=O) ⟨l.toArray⟩ fH;refine s2.put o.dst hrs (by simp[VM.own]) λn=>?_;have:=s2.tok n;grind[cnt]
  grind
 grind
end
end Go.VM
namespace Go.VM
def LA:List B8->List AVal->B8->Option AVal|k::ks,v::vs,s=>if s=k then some v else LA ks vs s|_,_,_=>none
def K3:List B8->List AVal->B8->AVal->List AVal|k::ks,v::vs,s,x=>if s=k then x::vs else v::K3 ks vs s x|_,_,_,x=>[x]
def He:List B8->B8->List B8|k::ks,s=>if s=k then k::ks else k::He ks s|[],s=>[s]
def Tx (P:Program) (t:TypeId):Option TypeId:=match P.underlying t with|some (.map k e)=>if DX P k=true then some e else none|_=>none
def V7 (st:St) (x:AVal):Option (Nat×List B8×List AVal):=match x with
 |.sh i=>match Ag st.m i with|some [.map ks vs]=>some (i,ks,vs)|_=>none
 |_=>none
def Q0 (E:Env) (t:TypeId) (m k:AVal) (ok:Bool) (st:St):Option AVal:=
  match Tx E.P t,V7 st m,k with
  | some e,some (_,ks,vs),.str s=>
    match Ct E.P e with
    | some z=>
      let r:=match LA ks vs s with|some x=>x.strip|none=>z.strip
      some (if ok then .tuple [r,.bool (LA ks vs s).isSome]else r)
    |none=>none
  |_,_,_=>none
def ABU (E:Env) (t:TypeId) (m k x:AVal) (st:St):Option St:=match Tx E.P t,V7 st m,k with|some _,some (i,ks,vs),.str s=>some {st with m:=A7 st.m i [.map (He ks s) (K3 ks vs s x)]}|_,_,_=>none
def Ghost.num (O:Ghost) (i:Nat) (v:Value):Ghost:= {O with sx:=λj=>if j=i then some v else O.sx j}
section
variable{E:Env}{F:Nat->Nat}{O:Ghost}{st:St}{w:World}{af:List AVal}{a:Act}
def AA2 (hs:Sim E F O st w af a.tmps.toList){b:Nat} (h:0<Ap O w b st.m):b<w.heap.size:=by
 have: ∀m,(∀p,p∈m->p∈st.m)->0<Ap O w b m->b<w.heap.size:=by
  intro m;induction m with
  |nil=>grind[Ap]
  | cons p m ih=>
   intro hm h;rw[Ap]at h;rcases hs.box_ok p (hm p fI)with⟨k,arr,e',hb⟩|⟨v,hv⟩;rotate_left
   ·have hc':=hv.cnt b;rcases bb 0 (AP b p.2 [v])with h'|h';·exact(Bw _ _ hv.own h').1
    grind
   obtain⟨lo,hi,h3,h4⟩:=hb.heap;have hc':DK O w b p=AP b p.2 arr.toList:=by simp[DK,hb.bx,hcells,h3]
   rcases bb 0 (AP b p.2 arr.toList)with h'|h';·exact(Bw _ _ hb.own h').1
   grind
 grind
def Sim.elsewhere (hs:Sim E F O st w af a.tmps.toList){w':World}{b:Nat} (hk: ∀n,n<w.heap.size->n≠b->w'.heap[n]?=w.heap[n]?) (hz:w.heap.size<=w'.heap.size) (h1:O.com b=none) (h2: ∀i,i∈st.m.map (·.1)->O.bx i≠some b) (h3:AP b af a.tmps.toList=0) (h4:Ap O w b st.m=0):Sim E F O st w' af a.tmps.toList:=by
 have kb: ∀p,p∈st.m->∀k,O.bx p.1=some k->w'.heap[k]?=w.heap[k]?:=λp hp k hk'=>hk k (hs.bx_lt _ _ hk') (λe=>h2 p.1 (eu hp) (by grind));have oneb: ∀p,p∈st.m->DK O w b p=0:=by
  intro p hp;have: ∀m,p∈m->DK O w b p<=Ap O w b m:=by
   intro m;induction m with
   |nil=>simp
   |cons q m ih=>
    intro h;rw[Ap];rcases aM.1 h with rfl|h;·omega
    grind
  grind
 refine {hs with com_ok:=?_,box_ok:=?_,bx_lt:=?_,F_lt:=?_,own:=?_,tok:=?_};·intro n cs h;obtain⟨ar,e',fz,q2,q3⟩:=hs.com_ok n cs h;grind
 ·intro p hp;rcases hs.box_ok p hp with⟨k,ar,e',hb⟩|⟨v,hv⟩;rotate_left;·have h0:=oneb p hp;have:=hv.cnt b;exact .inr ⟨v,hv.keep O.le_refl hv.bx λn hn=>⟨hk n (Bw _ _ hv.own hn).1 (λe=>by grind),rfl⟩⟩
  obtain⟨lo,hi,q3,q4⟩:=hb.heap;have hc':DK O w b p=AP b p.2 ar.toList:=by simp[DK,hb.bx,hcells,q3]
  have h0:=oneb p hp;refine .inl ⟨k,ar,e',hb.bx,⟨lo,hi,by rw[kb p hp k hb.bx];omega,q4⟩,hb.rep,Bv O.le_refl _ _ hb.own λn hn=>?_,hb.com,hb.one,hb.ty⟩;exact⟨hk n (Bw _ _ hb.own hn).1 (λe=>by grind),rfl⟩
 ·intro i n h;have:=hs.bx_lt i n h;omega
 ·intro n hn;exact hs.F_lt n fH
 ·exact Bv O.le_refl _ _ hs.own λn hn=>⟨hk n (Bw _ _ hs.own hn).1 (λe=>by grind),rfl⟩
 ·intro n;rw[Ff (w:=w) λp hp=>⟨rfl,kb p hp⟩];exact hs.tok n
def Sim.le_num{tm:List Value} (hs:Sim E F O st w af tm) (v:Value):O.le (O.num st.next v):=by refine⟨λb cs h=>⟨[],by grind[Ghost.num]⟩,λ_ _ h=>h,λ_ _ h=>h,λ_ _ h=>h,λi u h=>?_⟩;simp only[Ghost.num];have:=(hs.sx_next i u h).1;rw[aj fH];exact h
def Sim.newSh{tm:List Value} (hs:Sim E F O st w af tm){x:AVal}{v:Value} (hr:Rep O x v) (ho:VM.own O w x v) (ht: ∀b,F b+AP b af tm+cnt b x v+Ap O w b st.m<=1):Sim E F (O.num st.next v) {m:=(st.next,[x])::st.m,next:=st.next+1} w af tm/\Ext F O w (O.num st.next v) w:=by
 have hle:=hs.le_num v;have hbn:O.bx st.next=none:=by cases h:O.bx st.next with|none=>rfl|some b=>exact absurd (hs.bx_next _ _ h) fH
 refine⟨?_,⟨hle,λ_ _=>⟨rfl,rfl⟩,av _,rfl,rfl,rfl⟩⟩;refine {com_ok:=hs.com_ok,box_ok:=?_,sx_next:=?_,keys:=?_,inj:=hs.inj,bx_lt:=hs.bx_lt,bx_next:=λi b h=>?_,tyd:=hs.tyd,bx_F:=?_,F_lt:=hs.F_lt,glob:=λg cs h=>(hs.glob g cs h).mono hle,rep:=hs.rep.mono hle,own:=Bv hle _ _ hs.own λ_ _=>⟨rfl,rfl⟩,tok:=λb=>?_}
 ·intro p hp;rcases aM.1 hp with rfl|hp;·exact .inr ⟨v,by simp[Ghost.num],hbn,.cons (hr.mono hle) .nil,by rw[ownL];exact⟨ATk hle _ _ ho λ_ _=>⟨rfl,rfl⟩,by simp[ownL]⟩⟩
  ·rcases hs.box_ok p hp with⟨k,ar,e',hb⟩|⟨u,hv⟩;·exact .inl ⟨k,ar,e',hb.bx,hb.heap,hb.rep.mono hle,Bv hle _ _ hb.own λ_ _=>⟨rfl,rfl⟩,hb.com,hb.one,hb.ty⟩
   ·exact .inr ⟨u,hv.keep hle hv.bx λ_ _=>⟨rfl,rfl⟩⟩
 ·intro i u h;show i<st.next+1/\_;simp only[Ghost.num]at h;split at h;·rename_i e;subst e;exact⟨fH,hbn⟩
  ·obtain⟨h1,h2⟩:=hs.sx_next i u h;exact⟨fH,h2⟩
 ·simp only[aF,bY];refine⟨λhm=>?_,hs.keys⟩;obtain⟨p,hp,e⟩:=bk.1 hm;have:=hs.key_lt hp;omega
 ·have:=hs.bx_next i b h;grind
 ·intro p b hp hb;rcases aM.1 hp with rfl|hp;·have:O.bx st.next=some b:=hb;grind
  ·exact hs.bx_F p b hp hb
 ·have hck:Ap (O.num st.next v) w b st.m=Ap O w b st.m:=Ff (λp hp=>⟨rfl,λ_ _=>rfl⟩) (λp hp=>by have:=hs.key_lt hp;simp only[Ghost.num];grind);rw[Ap,hck];have hc:DK (O.num st.next v) w b (st.next,[x])=cnt b x v:=by simp_all[Ghost.num,DK,AP]
  grind
def Sim.fresh (hs:Sim E F O st w af a.tmps.toList) (o:Obj):Sim E F O st (w.alloc o) af a.tmps.toList/\Ext F O w O (w.alloc o)/\F w.heap.size=0/\AP w.heap.size af a.tmps.toList=0/\Ap O (w.alloc o) w.heap.size st.m=0:=by
 have hold: ∀n,n<w.heap.size->(w.alloc o).heap[n]?=w.heap[n]?:=λn hn=>alloc_old o hn;have h1:AP w.heap.size af a.tmps.toList=0:=by
  rcases bb 0 (AP w.heap.size af a.tmps.toList)with h|h;·have:=(Bw _ _ hs.own h).1;omega
  omega
 have h2:Ap O w w.heap.size st.m=0:=by
  rcases bb 0 (Ap O w w.heap.size st.m)with h|h;·have:=AA2 hs h;omega
  omega
 refine⟨hs.elsewhere (b:=w.heap.size) (λn hn _=>hold n hn) fI (hs.com_none (av _)) (λi hi h=>?_) h1 h2,⟨O.le_refl,λn hn=>⟨hold n (hs.F_of hn),rfl⟩,fI,rfl,rfl,rfl⟩,hs.F_lt _ (av _),h1,?_⟩;·have:=hs.bx_lt _ _ h;omega
 ·rw[Ff (O:=O) (w:=w) λp hp=>⟨rfl,λk hk=>hold k (hs.bx_lt _ _ hk)⟩];omega
theorem AOM (hs:Sim E F O st w af a.tmps.toList){o:Oper}{t:TypeId} (hop:o.op=.makeMap t none):∃nx w' a' O',Stepped E F O st w a o (Ac af o.dst (.sh st.next)) {m:=(st.next,[.map [] []])::st.m,next:=st.next+1} nx w' a' O':=by
 obtain⟨s1,x1,f1,f2,f3⟩:=hs.fresh (.map #[] 0);have hcnt: ∀b,cnt b (.map [] []) (.map (some w.heap.size))=if w.heap.size=b then 1 else 0:=λb=>by simp[cnt,PK]
 obtain⟨s2,x2⟩:=s1.newSh (x:=.map [] []) (v:=.map (some w.heap.size)) (.map _ _ _) (by simp only[VM.own];exact⟨_,#[],0,rfl,Nv _,.nil⟩) (λb=>by
  rw[hcnt];split;·grind
  ·have:=s1.tok b;omega);refine⟨.value (.map (some w.heap.size)),w.alloc (.map #[] 0),a.put o.dst (.map (some w.heap.size)),_,?_,λK Q hk=>hk,put_defers _ _ _,x1.trans x2,fI,?_⟩;·simp only[execOp,hop];rfl
 ·refine s2.put o.dst (.sh (by simp[Ghost.num]) ⟨rfl,rfl⟩) (by simp[VM.own]) λb=>?_;have:=s2.tok b;grind[cnt]
def AFd{P:Program}{t e:TypeId} (h:Tx P t=some e): ∃k,P.underlying t=some (.map k e)/\P.underlying k=some .string:=by grind[Tx,CW]
def ACJ (hs:Sim E F O st w af a.tmps.toList){x:AVal}{v:Value}{i:Nat}{ks:List B8}{vs:List AVal} (h:V7 st x=some (i,ks,vs)) (hr:Rep O x v):Ag st.m i=some [.map ks vs]/\ShOK O w (i,[.map ks vs]) v/\AH8 O w ks vs v:=by
 unfold V7 at h;split at h
 ·rename_i j;split at h
  ·rename_i ks' vs' hg;cases h;cases hr with
   | sh hsx hk=>
    rcases hs.box_ok _ (Lj hg)with⟨b,arr,e,hb⟩|⟨u,hv⟩;·have:=(hs.sx_next _ _ hsx).2;have h2:=hb.bx;grind
    ·have:u=v:=by have:=hv.sx;grind
     subst this;have:=hv.own;grind[ownL,VM.own]
  grind
 grind
theorem Xy{a b:ByteArray}:Value.string a=Value.string b<->a.data.toList=b.data.toList:=by
 constructor;·grind
 ·intro h;obtain⟨a⟩:=a;simp_all
def RepK.find{ks:List B8}{vs:List AVal}{es:List MapEntry} (h:RepK O ks vs es) (s:ByteArray): ∀i,(Instr.findNow .string (.string s) es i=some none/\LA ks vs s.data.toList=none/\∀x val born,Rep O x val->RepK O (He ks s.data.toList) (K3 ks vs s.data.toList x) (es++[⟨.string s,val,born⟩]))\/∃j e0 x0,Instr.findNow .string (.string s) es i=some (some (i+j,e0.val))/\es[j]?=some e0/\e0.key=.string s/\LA ks vs s.data.toList=some x0/\Rep O x0 e0.val/\∀x val,Rep O x val->RepK O (He ks s.data.toList) (K3 ks vs s.data.toList x) (es.modify j λe=>{e with key:=.string s,val:=val}):=by
 induction h with
 |nil=>exact λi=>.inl ⟨rfl,rfl,λx val born hx=>.cons rfl hx .nil⟩
 | @cons b x e ks vs es hk hv t ih=>
  intro i;by_cases he:s=b
  ·subst he;have hb:(s==s)=true:=(ed s s).2 rfl;refine .inr ⟨0,e,x,?_,rfl,hk,by simp[LA],hv,λy val hy=>?_⟩;·grind[Instr.findNow,Instr.sameNow]
   ·simp only[He,K3,aB,List.modify_zero_cons];exact .cons rfl hy t
  ·have hb:(s==b)=false:=by grind[absurd,Go.MapKept.bytes_beq]
   have hne: ¬s.data.toList=b.data.toList:=λh=>he (by grind[Xy]);have hf:Instr.findNow .string (.string s) (e::es) i=Instr.findNow .string (.string s) es (i+1):=by grind[Instr.findNow,Instr.sameNow]
   rw[hf];rcases ih (i+1)with⟨h1,h2,h3⟩|⟨j,e0,x0,h1,h2,h3,h4,h5,h6⟩;·exact .inl ⟨h1,by simp_all[LA],λy val born hy=>by rw[He,K3,aj hne,aj hne];exact .cons hk hv (h3 y val born hy)⟩
   ·refine .inr ⟨j+1,e0,x0,by grind,by grind,h3,by simp_all[LA],h5,λy val hy=>?_⟩;rw[He,K3,aj hne,aj hne,List.modify_succ_cons];exact .cons hk hv (h6 y val hy)
def ASr (hs:Sim E F O st w af a.tmps.toList){o:Oper}{t:TypeId}{m k:Operand}{ok:Bool}{r:AVal} (hop:o.op=.lookup t m k ok) (h:Q0 E t (rd E af t m) (rd E af 0 k) ok st=some r):∃nx w' a' O',Stepped E F O st w a o (Ac af o.dst r) st nx w' a' O':=by
 have hm:=hs.rd t m;have hk:=hs.rd 0 k;generalize rd E af t m=am at *;generalize rd E af 0 k=ak at *;generalize hvm:a.eval m=vm at *;generalize hvk:a.eval k=vk at *;unfold Q0 at h;split at h
 ·rename_i e i ks vs s ht hma;split at h
  ·rename_i z hz;simp only[ag]at h;subst h;obtain⟨kt,hu,huk⟩:=AFd ht;obtain⟨_,_,b,es,clock,rfl,hb,hK⟩:=ACJ hs hma hm;obtain⟨zv,hzv,hc⟩:=Rk (O:=O) (w:=w) hz;cases hk with
   | str sb hn=>
    have key: ∃u r',(Instr.lookup t (.map (some b)) (.string sb) ok).run E.P w=.ok u w/\Rep O (if ok then .tuple [(match LA ks vs sb.data.toList with|some x=>x.strip|none=>z.strip),.bool (LA ks vs sb.data.toList).isSome]else(match LA ks vs sb.data.toList with|some x=>x.strip|none=>z.strip)) u/\(if ok then .tuple [(match LA ks vs sb.data.toList with|some x=>x.strip|none=>z.strip),.bool (LA ks vs sb.data.toList).isSome]else(match LA ks vs sb.data.toList with|some x=>x.strip|none=>z.strip))=AVal.strip r':=by
     rcases hK.find sb 0 with⟨h1,h2,_⟩|⟨j,e0,x0,h1,_,_,h4,h5,_⟩
     ·rw[h2];refine⟨if ok then .tuple #[zv,.bool false]else zv,if ok then .tuple [z,.bool false]else z,?_,?_,?_⟩;·cases ok<;>simp[Instr.lookup,aG hu,bO hb,da huk (d:=.string) (k:=.string sb) trivial,df huk h1,hzv,Result.andThen]
      ·cases ok;·exact hc.rep.strip
       ·exact .tuple (.cons hc.rep.strip (.cons (.bool _) .nil))
      grind[AVal.strip,stripL]
     ·rw[h4];refine⟨if ok then .tuple #[e0.val,.bool true]else e0.val,if ok then .tuple [x0,.bool true]else x0,?_,?_,?_⟩;·cases ok<;>simp[Instr.lookup,aG hu,bO hb,da huk (d:=.string) (k:=.string sb) trivial,df huk h1,Result.andThen]
      ·cases ok;·exact h5.strip
       ·exact .tuple (.cons h5.strip (.cons (.bool _) .nil))
      grind[AVal.strip,stripL]
    obtain⟨u,r',hrun,hrep,hst⟩:=key;refine⟨.value u,w,a.put o.dst u,O,?_,λK Q hk=>hk,put_defers _ _ _,Ext.refl _ _ _,av _,?_⟩;·simp_all[execOp]
    ·refine hs.put o.dst hrep (by grind[MO]) λb=>?_;rw[hst,Iw];exact hs.tok b
  grind
 grind
def ACG (hs:Sim E F O st w af a.tmps.toList){o:Oper}{i b clock clock':Nat}{es es':Array MapEntry}{cs:List AVal}{y:AVal} (hg:Ag st.m i=some cs) (hv:ShOK O w (i,cs) (.map (some b))) (hb:w.heap[b]?=some (.map es clock)) (hc1: ∀n,AP n cs [.map (some b)]=if b=n then 1 else 0) (hy:Rep O y (.map (some b))) (hyo:VM.own O {w with heap:=w.heap.setIfInBounds b (.map es' clock')} y (.map (some b))) (hyc: ∀n,cnt n y (.map (some b))=if b=n then 1 else 0) (hd:o.dst=none) (hrun:(execOp a.eval o).run E.P w=.ok .skip {w with heap:=w.heap.setIfInBounds b (.map es' clock')}): ∃nx w' a' O',Stepped E F O st w a o af {st with m:=A7 st.m i [y]} nx w' a' O':=by
 have hlt:b<w.heap.size:=APA hb;have hcm: ∀n,Ap O w n (A7 st.m i [.any])+(if b=n then 1 else 0)=Ap O w n st.m:=λn=>by
  have e1:=Ir (O:=O) (O':=O) (w:=w) (w':=w) (b:=n) (x:=[.any]) hs.keys hg (λp hp hne=>rfl);have e2:=hv.cnt n;rw[hc1]at e2;have e3:DK O w n (i,[.any])=0:=by simp only[DK,hv.bx,hv.sx];simp[AP,cnt]
  omega
 have s1:Sim E F O {st with m:=A7 st.m i [.any]} w af a.tmps.toList:=hs.setSh hg hv (.cons (.any _) .nil) (by simp[ownL,VM.own]) (λn=>by rw[hc1];have:=hs.tok n;grind[AP,cnt]);have htb:=hs.tok b;have hcb:=hcm b;rw[an rfl]at hcb;have hold: ∀n,n≠b->({w with heap:=w.heap.setIfInBounds b (.map es' clock')}:World).heap[n]?=w.heap[n]?:=λn hn=>by grind
 have hnew:({w with heap:=w.heap.setIfInBounds b (.map es' clock')}:World).heap[b]?=some (.map es' clock'):=by grind
 have s2:Sim E F O {st with m:=A7 st.m i [.any]} {w with heap:=w.heap.setIfInBounds b (.map es' clock')} af a.tmps.toList:=s1.elsewhere (b:=b) (λn _ hn=>hold n hn) fI (by cases hc:O.com b with|none=>rfl|some cs=>obtain⟨ar,e',fz,q2,_⟩:=hs.com_ok b cs hc;grind) (λj hj hbx=>by
  obtain⟨p,hp,rfl⟩:=bk.1 hj;rcases s1.box_ok p hp with⟨k,ar,e',hbk⟩|⟨u,hu'⟩;·obtain⟨lo,hi,q3,_⟩:=hbk.heap;have:=hbk.bx;grind
  ·have:=hu'.bx;grind) fH (by grind);have hg2:Ag (A7 st.m i [.any]) i=some [.any]:=IW hg;have hv2:ShOK O {w with heap:=w.heap.setIfInBounds b (.map es' clock')} (i,[.any]) (.map (some b)):=⟨hv.sx,hv.bx,.cons (.any _) .nil,by simp[ownL,VM.own]⟩;have s3:=s2.setSh (cs':=[y]) hg2 hv2 (.cons hy .nil) (by simp only[ownL,cF];exact hyo) (λn=>by
  have h1:AP n [y] [.map (some b)]=if b=n then 1 else 0:=by simp only[AP,hyc n];omega
  have h2:Ap O {w with heap:=w.heap.setIfInBounds b (.map es' clock')} n (A7 st.m i [.any])=Ap O w n (A7 st.m i [.any]):=Ff λp hp=>⟨rfl,λk hk=>hold k (λe=>by
   subst e;rcases s1.box_ok p hp with⟨k',ar,e',hbk⟩|⟨u,hu'⟩;·obtain⟨lo,hi,q3,_⟩:=hbk.heap;have:=hbk.bx;grind
   ·have:=hu'.bx;grind)⟩;rw[h1];show _+Ap O {w with heap:=w.heap.setIfInBounds b (.map es' clock')} n (A7 st.m i [.any])<=_;rw[h2];have:=hs.tok n;have:=hcm n;grind);simp only[Qd]at s3;exact⟨.skip,_,a.put o.dst undef,O,hrun,λK Q hk=>hk,put_defers _ _ _,⟨O.le_refl,λn hn=>⟨hold n (λe=>by grind),rfl⟩,fI,rfl,rfl,rfl⟩,av _,by rw[hd];exact s3⟩
def APl (hs:Sim E F O st w af a.tmps.toList){o:Oper}{t:TypeId}{m k x:Operand}{st':St} (hop:o.op=.mapUpdate t m k x\/o.op=.insert t m k x) (hd:o.dst=none) (h:ABU E t (rd E af t m) (rd E af 0 k) (rd E af 0 x) st=some st'):∃nx w' a' O',Stepped E F O st w a o af st' nx w' a' O':=by
 have hm:=hs.rd t m;have hk:=hs.rd 0 k;have hx:=hs.rd 0 x;generalize rd E af t m=am at *;generalize rd E af 0 k=ak at *;generalize rd E af 0 x=ax at *;generalize hvm:a.eval m=vm at *;generalize hvk:a.eval k=vk at *;generalize hvx:a.eval x=vx at *;unfold ABU at h;split at h
 ·rename_i e i ks vs s ht hma;simp only[ag]at h;subst h;obtain⟨kt,hu,huk⟩:=AFd ht;obtain⟨hg,hv,b,es,clock,rfl,hb,hK⟩:=ACJ hs hma hm;cases hk with
  | str sb hn=>
   obtain⟨es',clock',hrun,hK'⟩: ∃es' clock',(Instr.mapUpdate t (.map (some b)) (.string sb) vx).run E.P w=.ok () {w with heap:=w.heap.setIfInBounds b (.map es' clock')}/\RepK O (He ks sb.data.toList) (K3 ks vs sb.data.toList ax) es'.toList:=by
    rcases hK.find sb 0 with⟨h1,h2,h3⟩|⟨j,e0,x0,h1,h2,h3,h4,h5,h6⟩;·refine⟨es.push ⟨.string sb,vx,clock⟩,clock+1,?_,by grind⟩;simp[Instr.mapUpdate,aG hu,bO hb,da huk (d:=.string) (k:=.string sb) trivial,df huk h1,cL _ hb,Result.andThen]
    ·refine⟨es.modify j λe=>{e with key:=.string sb,val:=vx},clock,?_,by grind⟩;have hj:es[j]?=some e0:=by grind
     simp[Instr.mapUpdate,aG hu,bO hb,da huk (d:=.string) (k:=.string sb) trivial,df huk h1,hj,h3,Go.MapKept.run_keyThatStays (d:=.string) (k:=.string sb) trivial,cL _ hb,Result.andThen]
   exact ACG (es':=es') (clock':=clock') hs hg hv hb (λn=>by simp[AP,cnt,PK]) (.map _ _ _) (by simp only[VM.own];exact⟨b,es',clock',rfl,by have:=APA hb;grind,hK'⟩) (λn=>by simp[cnt,PK]) hd (by rcases hop with hop|hop<;>simp_all[execOp])
 grind
def QS (E:Env) (t0 t1:TypeId) (s y:AVal):Option AVal:=match s with
 |.slice wd xs true=>match KI E.P t0,QP wd y with|some (z,by_),some [y1]=>if z=wd/\Ih E.P t1=none/\Ah E.P t1=true/\(xs.length+1) * by_<=140737488355328/\xs.length+1<=CX then some (.slop wd xs)else none|_,_=>none
 |_=>none
set_option maxHeartbeats 1000000 in theorem APJ (hs:Sim E F O st w af a.tmps.toList){o:Oper}{x y:Operand}{t0 t1:TypeId}{ts:List TypeId}{r:AVal} (hop:o.op=.call {callee:=.builtin .append,args:=#[x,y],argTypes:=⟨t0::t1::ts⟩}) (h:QS E t0 t1 (rd E af t0 x) (rd E af t1 y)=some r):∃v w' O',(execOp a.eval o).run E.P w=.ok (.value v) w'/\Ext F O w O' w'/\Sim E F O' st w' (stripAt af x) a.tmps.toList/\Rep O' r v/\VM.own O' w' r v/\(v.cells= #[v]/\v.oneCell'=true)/\(∀n,F n+AP n (stripAt af x) a.tmps.toList+cnt n r v+Ap O' w' n st.m<=1):=by
 have hx:=hs.rd t0 x;have hox:=hs.rd_own t0 x;have hcx:=λb=>hs.rd_cnt t0 x b;have hy:=hs.rd t1 y;have hs1:=hs.stripAt x;have htk:=hs.tok;generalize rd E af t1 y=ay at *;generalize rd E af t0 x=ax at *;generalize hvx:a.eval x=vx at *;generalize hvy:a.eval y=vy at *;unfold QS at h;split at h
 ·rename_i wd xs;split at h
  ·rename_i z byt y1 hap hsrc;split at h
   ·rename_i hc;obtain⟨rfl,hint,hkn,hroom,h62'⟩:=hc;have h62:xs.length+1<=4611686018427387904:=h62';simp only[ag]at h;subst h;obtain⟨e,i,zv,hu,hi,hz,hzs,his,hib⟩:=MU hap;obtain⟨news,src⟩:=TN hs hy hsrc;obtain⟨d1,hd1⟩:=Cv hkn;have hargs:Array.map a.eval #[x,y]= #[vx,vy]:=by grind
    have hexec: ∀r,(Builtin.append_ ⟨t0::t1::ts⟩ o.type #[vx,vy]).run E.P w=r->(execOp a.eval o).run E.P w=r.andThen λv w'=>.ok (.value v) w':=by simp_all[execOp,resolve,invoke,builtin]
    by_cases hfit: ∃b off len cap,vx=.slice (some ⟨b,off,none⟩) len cap/\len+[y1].length<=cap
    ·obtain⟨b,off,len,cap,rfl,hfits⟩:=hfit;have hfits1:len+1<=cap:=hfits;simp only[VM.own]at hox;obtain⟨arr,e',lo,hi',cells,hh,hf,hcom,hcl,hsz⟩:=AAH hox fH;obtain⟨arr0,e0,fz0,hh0,⟨ds,hds⟩,hct0⟩:=hs.com_ok b cells hcom;rw[hh]at hh0;cases hh0;obtain⟨hl,hS⟩:xs.length=len/\RepS O z xs (cells.drop off):=by cases hx with|snil=>omega|slice _ hb hl hcap hS hnn=>grind
     have hlenarr:cells.length+ds.length=arr.size:=by grind[List.length_append,Array.length_toList]
     have hnl:news.length<=ds.length:=by rw[src.size];have:(len+[y1].length) * z<=cap * z:=bL _ hfits;grind
     obtain⟨w',arr',r1,q1,q2,q3,q4,q5,q6,q7,q8⟩:=D7 (P:=E.P) (b:=b) (base:=off+len * z) news 0 arr w hh hf fH src.one;rw[bW,<-hcl,hds,J5 _ _ _ hnl]at q2;have hbt:1<=cnt b (.slice z xs true) (.slice (some ⟨b,off,none⟩) len cap):=by simp only[cnt,Kw];rw[an ⟨fH,trivial⟩];omega
     have hzero:F b+AP b (stripAt af x) a.tmps.toList+Ap O w b st.m=0:=by grind
     obtain⟨s2,x2,hcm⟩:=hs1.grow (news:=[]) (rest:=news++ds.drop news.length) hcom q1 (by grind) q4 q5 q6 q7 q8 hzero hct0;have hlen:=src.len w;have hfirst:=src.first w (λ_ _=>rfl);rw[<-his]at hfirst r1;have hrun:(Builtin.append_ ⟨t0::t1::ts⟩ o.type #[.slice (some ⟨b,off,none⟩) len cap,vy]).run E.P w=.ok (.slice (some ⟨b,off,none⟩) (len+[y1].length) cap) w':=by rw[LG hu hi hd1 hint hlen hfits hfirst];simp only[addr_add];simp_all
     refine⟨_,w',_,hexec _ hrun,x2,s2,.slop (cells:=cells++[]) (by simp[Ghost.ext]) (by grind) ⟨hfits,by grind⟩ ?_,?_,⟨rfl,rfl⟩,?_⟩
     ·have hS2:RepS O z xs ((cells++[]).drop off):=by grind
      exact hS2.mono x2.le
     ·simp only[VM.own,Rq];exact⟨arr',e',lo,hi',cells++[],q1,by grind,trivial,by simp[Ghost.ext],by grind,fH,by grind⟩
     ·intro n;rw[hcm n];have h1:cnt n (.slop z xs) (.slice (some ⟨b,off,none⟩) (len+[y1].length) cap)<=cnt n (.slice z xs true) (.slice (some ⟨b,off,none⟩) len cap):=by
       simp only[cnt,Kw,CO];split;·rename_i hh';rw[an ⟨fH,hh'⟩];omega
       omega
      grind
    ·obtain⟨base,len,cap,rfl,hlen,hcap⟩: ∃base len cap,vx=.slice base len cap/\xs.length=len/\len<=cap:=by cases hx with|snil=>exact⟨_,0,0,rfl,rfl,av _⟩|slice _ hb hl hc hS hnn=>exact⟨_,_,_,rfl,hl,hc.1⟩
     obtain⟨olds,so⟩:=VA hs hx;subst hlen;have hneed: ¬(xs.length+[y1].length<=cap):=by intro hle;apply hfit;cases hx with|snil=>grind|slice _ hb hl hc hS hnn=>exact⟨_,_,_,_,rfl,hle⟩
     have hy1:[y1].length=1:=rfl;have h63: ¬(9223372036854775807<((xs.length:Int)+([y1].length:Int))):=fH;have h48: ¬(281474976710656<Builtin.nextslicecap (xs.length+[y1].length) cap * i.bytes):=by have:=eJ (need:=xs.length+[y1].length) (old:=cap) (bytes:=i.bytes) fH (by grind);omega
     have hl1:=src.len w;have hf1:=src.first w.drew (λ_ _=>rfl);have hf0:=so.first w.drew (λ_ _=>rfl);rw[<-his]at hf1 hf0;generalize hnc:grownCap w (xs.length+[y1].length) cap e=nc;have hge:xs.length+[y1].length<=nc:=by grind[grownCap_ge]
     have hrun:(Builtin.append_ ⟨t0::t1::ts⟩ o.type #[.slice base xs.length cap,vy]).run E.P w=.ok (.slice (some ⟨w.heap.size,0,none⟩) (xs.length+[y1].length) nc) (w.drew.alloc (.cells (olds.toArray++news.toArray++Builtin.zeroCells zv.cells (nc-(xs.length+[y1].length))) e)):=by subst hnc;have e3:IntKind.i64.max=9223372036854775807:=fJ;grind[NH]
     have hsd:Sim E F O st w.drew (stripAt af x) a.tmps.toList:=hs1.drew;obtain⟨s2,x2,hcm⟩:=hsd.newArr (cells:=olds.toArray++news.toArray++Builtin.zeroCells zv.cells (nc-(xs.length+[y1].length))) (e:=e) (pre:=olds) (spare:=news++(Builtin.zeroCells zv.cells (nc-(xs.length+[y1].length))).toList) (fz:=(0,0)) fI so.one;have x0:Ext F O w O w.drew:=⟨O.le_refl,λ_ _=>⟨rfl,rfl⟩,av _,rfl,rfl,rfl⟩;refine⟨_,_,_,hexec _ hrun,x0.trans x2,s2,.slop (cells:=olds) (by simp[Ghost.arr]) fI ⟨hge,h62'⟩ ?_,?_,⟨rfl,rfl⟩,?_⟩;·rw[aO];exact so.rep.mono x2.le
     ·simp only[VM.own,Rq];refine⟨_,e,0,0,olds,Nv _,fH,trivial,by simp[Ghost.arr],?_,?_,rfl⟩;·rw[so.size,bI]
      ·simp only[eU,dn,so.size,src.size,Builtin.zeroCells,eK,d5,hzs,<-cA];simp_all
     ·intro n;have hcn:AP n (stripAt af x) a.tmps.toList+Ap (O.arr w.drew.heap.size olds e) (w.drew.alloc (.cells (olds.toArray++news.toArray++Builtin.zeroCells zv.cells (nc-(xs.length+[y1].length))) e)) n st.m+F n+(if n=w.heap.size then 1 else 0)<=1:=hcm n;have h1:cnt n (.slop z xs) (.slice (some ⟨w.heap.size,0,none⟩) (xs.length+[y1].length) nc)<=if n=w.heap.size then 1 else 0:=by
       simp only[cnt,CO];split;·simp_all
       omega
      omega
   grind
  grind
 grind
theorem AJ7 (hs:Sim E F O st w af a.tmps.toList){o:Oper}{x y:Operand}{t0 t1:TypeId}{ts:List TypeId}{r:AVal} (hop:o.op=.call {callee:=.builtin .append,args:=#[x,y],argTypes:=⟨t0::t1::ts⟩}) (h:QS E t0 t1 (rd E af t0 x) (rd E af t1 y)=some r):∃nx w' a' O',Stepped E F O st w a o (Ac (stripAt af x) o.dst (.sh st.next)) {m:=(st.next,[r])::st.m,next:=st.next+1} nx w' a' O':=by obtain⟨v,w',O',hrun,x1,s1,hr,ho,hv,ht⟩:=APJ hs hop h;obtain⟨s2,x2⟩:=s1.newSh hr ho ht;refine⟨.value v,w',a.put o.dst v,_,hrun,λK Q hk=>hk,put_defers _ _ _,x1.trans x2,fI,?_⟩;refine s2.put o.dst (.sh (by simp[Ghost.num]) hv) (by simp[VM.own]) λb=>?_;have:=s2.tok b;grind[cnt]
def G9 (E:Env) (t:TypeId) (x i:AVal) (st:St):Option AVal:=match WZ st x,x,i with|some (j,w,xs),.sh _,.int _ n=>if Bj E.P t=some w/\n=xs.length then some (.sptr j w xs.length)else none|_,_,_=>none
theorem Wu (vs:List Value) (t:Nat) (d:Value):vs.set t (vs.getD t d)=vs:=by apply cd;grind
def AuS (hs:Sim E F O st w af a.tmps.toList){i:Nat}{cs:List AVal}{v:Value} (hsx:O.sx i=some v) (hg:Ag st.m i=some cs):ShOK O w (i,cs) v:=by
 rcases hs.box_ok _ (Lj hg)with⟨b,arr,e,hb⟩|⟨u,hv⟩;·have:=(hs.sx_next _ _ hsx).2;have h2:=hb.bx;grind
 ·have:u=v:=by have:=hv.sx;grind
  grind
theorem AAO (hs:Sim E F O st w af a.tmps.toList){o:Oper}{t:TypeId}{x i:Operand}{r:AVal} (hop:o.op=.indexAddr t x i) (h:G9 E t (rd E af t x) (rd E af 0 i) st=some r):∃nx w' a' O',Stepped E F O st w a o (Ac af o.dst r) st nx w' a' O':=by
 have hx:=hs.rd t x;have hi:=hs.rd 0 i;generalize rd E af t x=ax at *;generalize rd E af 0 i=ai at *;generalize hvx:a.eval x=vx at *;generalize hvi:a.eval i=vi at *;unfold G9 at h;split at h
 ·rename_i j w' xs k kd n ho;split at h
  ·rename_i hc;obtain⟨hsl,rfl⟩:=hc;simp only[ag]at h;subst h;unfold WZ at ho;simp only at ho;split at ho
   ·rename_i w2 xs2 hg;cases ho;cases hi;cases hx with
    | sh hsx hk=>
     have hv:=AuS hs hsx hg;have hown:=hv.own;simp only[ownL,VM.own,cF]at hown;unfold Rq at hown;split at hown
     ·rename_i ad len cap;obtain⟨arr,e,lo,hi,cells,h1,h2,h3,h4,h5,h6,h7⟩:=hown;obtain⟨b,off,spot⟩:=ad;simp only at h3;subst h3;obtain⟨el,hu,hz⟩:=Bp hsl;have hrun:(Instr.indexAt t (.slice (some ⟨b,off,none⟩) len cap) (.int kd xs.length)).run E.P w=.ok (.pointer (some ⟨b,off+xs.length * w',none⟩)) w:=by have h2:((xs.length:Nat):Int)<(len:Int):=fH;have h3:(0:Int)<=((xs.length:Nat):Int):=fH;have h8:xs.length<len:=fH;simp[Instr.indexAt,asIntOf,aG hu,h3,h8,DN hz,addr_add]
      refine⟨.value (.pointer (some ⟨b,off+xs.length * w',none⟩)),w,a.put o.dst (.pointer (some ⟨b,off+xs.length * w',none⟩)),O,?_,λK Q hk=>hk,put_defers _ _ _,Ext.refl _ _ _,av _,?_⟩;·simp_all[execOp]
      ·refine hs.put o.dst (.sptr hsx) (by simp[VM.own]) λn=>?_;have:=hs.tok n;grind[cnt]
     grind
   grind
  grind
 grind
def ASi (hs:Sim E F O st w af a.tmps.toList){o:Oper}{t:TypeId}{x y:Operand}{st':St} (hop:o.op=.store t x y) (hd:o.dst=none) (h:ABD E t (rd E af 0 x) (rd E af t y) st=some st'):∃nx w' a' O',Stepped E F O st w a o af st' nx w' a' O'/\a'.tmps=a.tmps:=by
 have hx:=hs.rd 0 x;have hr:=hs.rd t y;generalize rd E af 0 x=ax at *;generalize rd E af t y=ay at *;generalize hvx:a.eval x=vx at *;generalize hvy:a.eval y=vy at *;unfold ABD at h;split at h
 ·rename_i j w1 n1 i w2 xs ho;split at h
  ·rename_i hc;obtain⟨hok,hz,hcl⟩:=hc;simp only[ag]at h;subst h;unfold WZ at ho;simp only at ho;split at ho
   ·rename_i w3 xs3 hg;split at ho
    ·rename_i hc2;obtain⟨rfl,rfl⟩:=hc2;cases ho;cases hx with
     | sptr hsx=>
      rename_i b off len cap;have hv:=AuS hs hsx hg;have hown:=hv.own;simp only[ownL,VM.own,cF,Rq]at hown;obtain⟨arr,e,lo,hi,cells,hh,hf,_,hcom,hcl2,hsz,hlen⟩:=hown;have hrep:=hv.rep;obtain⟨hS,hcap⟩:RepS O w2 xs (cells.drop off)/\(len<=cap/\len<=CX):=by cases hrep with|cons h _=>cases h with|slop hb hl hc hS=>grind
      obtain⟨arr0,e0,fz0,hh0,⟨ds,hds⟩,hct0⟩:=hs.com_ok b cells hcom;rw[hh]at hh0;cases hh0;have hvc:vy.cells.toList.length=w2:=by rw[<-(hr.cellsOK hok).length,hcl]
      have hlenarr:cells.length+ds.length=arr.size:=by grind[List.length_append,Array.length_toList]
      have hcapz:off+xs.length * w2+w2<=arr.size:=by have:(xs.length+1) * w2<=cap * w2:=bL _ fH;grind
      have hnl:vy.cells.toList.length<=ds.length:=fH;obtain⟨w',arr',r1,q1,q2,q3,q4,q5,q6,q7,q8⟩:=D7 (P:=E.P) (b:=b) (base:=off+xs.length * w2) vy.cells.toList 0 arr w hh hf fH (hr.one hok);rw[bW,<-hcl2,hds,J5 _ _ _ hnl]at q2;have hc1: ∀n,AP n [.slop w2 xs] [.slice (some ⟨b,off,none⟩) len cap]=if b=n then 1 else 0:=λn=>by simp[AP,cnt,CO]
      have hcm: ∀n,Ap O w n (A7 st.m j [.any])+(if b=n then 1 else 0)=Ap O w n st.m:=λn=>by
       have e1:=Ir (O:=O) (O':=O) (w:=w) (w':=w) (b:=n) (x:=[.any]) hs.keys hg (λp hp hne=>rfl);have e2:=hv.cnt n;rw[hc1]at e2;have e3:DK O w n (j,[.any])=0:=by simp only[DK,hv.bx,hv.sx];simp[AP,cnt]
       omega
      have s1:Sim E F O {st with m:=A7 st.m j [.any]} w af a.tmps.toList:=hs.setSh hg hv (.cons (.any _) .nil) (by simp[ownL,VM.own]) (λn=>by rw[hc1];have:=hs.tok n;grind[AP,cnt]);have htb:=hs.tok b;have hcb:=hcm b;rw[an rfl]at hcb;obtain⟨s2,x2,hcm2⟩:=s1.grow (rest:=ds.drop vy.cells.toList.length) hcom q1 (by rw[q2]) q4 q5 q6 q7 q8 (by grind) hct0;have hg2:Ag (A7 st.m j [.any]) j=some [.any]:=IW hg;have hv2:ShOK (O.ext b (cells++vy.cells.toList)) w' (j,[.any]) (.slice (some ⟨b,off,none⟩) len cap):=⟨hv.sx,hv.bx,.cons (.any _) .nil,by simp[ownL,VM.own]⟩;have hxs:(xs++[ay.strip]).length=len:=by grind
      have s3:=s2.setSh (cs':=[.slice w2 (xs++[ay.strip]) true]) hg2 hv2 (.cons (.slice _ (cells:=cells++vy.cells.toList) (by simp[Ghost.ext]) hxs hcap (by rw[cy fH];refine RepS.append (hS.mono x2.le) (by grind) ?_;have:=RepS.cons (w:=w2) (cs:=[]) (hr.strip.mono x2.le) ⟨fH,hr.one hok⟩ (.nil _ _);grind) (λ_ h=>absurd h fI)) .nil) (by simp only[ownL,VM.own,cF,Km];intro hlt;exact⟨arr',e,lo,hi,cells++vy.cells.toList,q1,by grind,trivial,by simp[Ghost.ext],by grind,fH⟩) (λn=>by
       have h1:AP n [.slice w2 (xs++[ay.strip]) true] [.slice (some ⟨b,off,none⟩) len cap]<=if b=n then 1 else 0:=by simp only[AP,cnt,Kw];split<;>simp_all
       show F n+AP n af a.tmps.toList+_+Ap (O.ext b (cells++vy.cells.toList)) w' n (A7 st.m j [.any])<=_;rw[show Ap (O.ext b (cells++vy.cells.toList)) w' n (A7 st.m j [.any])=Ap O w n (A7 st.m j [.any])from hcm2 n];have:=hs.tok n;grind);simp only[Qd]at s3;refine⟨.skip,_,a.put o.dst undef,_,⟨?_,λK Q hk=>hk,put_defers _ _ _,x2,av _,by rw[hd];exact s3⟩,by rw[hd];rfl⟩;simp only[execOp,hop,hvx,hvy,Instr.storeAt,Instr.sureAddr];have hsz2:vy.cells.size=w2:=fH;simp[storeVar,DN hz,hsz2,r1]
    grind
   grind
  grind
 grind
def Sim.unsh{tm:List Value} (hs:Sim E F O st w af tm){d i:Nat}{x:AVal} (hd:af.getD d .any=.sh i) (hg:Ag st.m i=some [x]):Sim E F O {st with m:=A7 st.m i [x.strip]} w (af.set d x) tm/\Rep O (.sh i) (tm.getD d undef):=by
 have hr:=hs.rep.get d undef;rw[hd]at hr;generalize hv:tm.getD d undef=v at hr;cases hr with
 | sh hsx hk=>
  have hsh:ShOK O w (i,[x]) v:=by
   rcases hs.box_ok _ (Lj hg)with⟨b,arr,e,hb⟩|⟨u,hu⟩;·have:=(hs.sx_next _ _ hsx).2;have h2:=hb.bx;grind
   ·have:u=v:=by have:=hu.sx;grind
    grind
  have hrx:Rep O x v:=by have:=hsh.rep;cases this;omega
  have hox:VM.own O w x v:=by have:=hsh.own;grind[ownL]
  have hset:tm=tm.set d v:=by grind[Wu]
  have hcm: ∀n,Ap O w n (A7 st.m i [x.strip])+cnt n x v=Ap O w n st.m:=λn=>by
   have e1:=Ir (O:=O) (O':=O) (w:=w) (w':=w) (b:=n) (x:=[x.strip]) hs.keys hg (λp hp hne=>rfl);have e2:=hsh.cnt n;have e3:DK O w n (i,[x.strip])=0:=by simp only[DK,hsh.bx,hsh.sx];simp[AP,Iw]
   grind[AP]
  have s1:=hs.setSh hg hsh (cs':=[x.strip]) (.cons hrx.strip .nil) (by grind[ownL,MO]) (λn=>by have:=hs.tok n;grind[AP,Iw]);refine⟨{s1 with rep:=?_,own:=?_,tok:=?_},.sh hsx hk⟩;·have:=s1.rep.set d hrx;grind
  ·have:=s1.own.set d hox;grind
  ·intro n;have h1:=H6 n af tm d x v;rw[<-hset]at h1;have:=hs.tok n;grind
def Sim.resay{tm:List Value} (hs:Sim E F O st w af tm){d:Nat}{x:AVal} (hr:Rep O x (tm.getD d undef)) (ho:VM.own O w x (tm.getD d undef)) (hc: ∀n,cnt n x (tm.getD d undef)=0):Sim E F O st w (af.set d x) tm:=by
 have hset:tm=tm.set d (tm.getD d undef):=by rw[Wu]
 refine {hs with rep:=?_,own:=?_,tok:=?_};·have:=hs.rep.set d hr;grind
 ·have:=hs.own.set d ho;grind
 ·intro n;have h1:=H6 n af tm d x (tm.getD d undef);rw[<-hset,hc]at h1;have:=hs.tok n;omega
def AFf{ds news:List Value} (h:news.length<=ds.length):putV ds 0 news=news++ds.drop news.length:=by have:=J5 [] ds news h;simpa using this
def RA (A:List Value): ∀(news C:List Value) (m:Nat),putV (A++C) (A.length+m) news=A++putV C m news|[],_,_=>rfl|v::r,C,m=>by simp only[putV];rw[dj _ _ fH,show A.length+m-A.length=m by omega,show A.length+m+1=A.length+(m+1) by omega];exact RA A r _ _
def Zo: ∀(news C:List Value) (m:Nat),(putV C m news).length=C.length|[],_,_=>rfl|v::r,C,m=>by simp only[putV];rw[Zo r];simp
def RepS.setE{w:Nat}{y:AVal}{u:Value} (hy:Rep O y u) (hu:u.cells.size=w/\∀c,c∈u.cells.toList->c.oneCell'=true): ∀ {xs:List AVal}{cs:List Value}{n:Nat},RepS O w xs cs->n<xs.length->RepS O w (xs.set n y) (putV cs (n * w) u.cells.toList)
 |[],_,_,_,hn=>absurd hn (cq _)
 |x::xs,_,n,.cons (v:=v) (cs:=cs) h hw t,hn=>by
  have h5:v.cells.toList.length=w:=by rw[aD];exact hw.1
  have h6:u.cells.toList.length=w:=by rw[aD];exact hu.1
  cases n with|zero=>rw[eA,AFf (by rw[ah];omega),show(v.cells.toList++cs).drop u.cells.toList.length=cs by rw[h6,<-h5,cX]];exact .cons hy hu t|succ n=>rw[show(n+1) * w=v.cells.toList.length+n * w by rw[h5,bG];omega,RA];exact .cons h hw (RepS.setE hy hu t (by simpa using hn))
def ZF (l news:List Value) (off m:Nat) (h:off<=l.length):(putV l (off+m) news).drop off=putV (l.drop off) m news:=by
 have e:l=l.take off++l.drop off:=(bM off l).symm;have e2:(l.take off).length=off:=by rw[bg];omega
 conv=>lhs;rw[e]
 rw[show off+m=(l.take off).length+m by rw[e2],RA];exact fj e2
def Sim.vecTo (hs:Sim E F O st w af a.tmps.toList){i wd b off len cap:Nat}{xs:List AVal} (hsx:O.sx i=some (.slice (some ⟨b,off,none⟩) len cap)) (hg:Ag st.m i=some [.vec wd xs]) {w':World}{arr':Array Value}{e:TypeId}{lo hi:Nat}{arr:Array Value} (h0:w.heap[b]?=some (.cells arr e (lo,hi))) (hw:w'.heap[b]?=some (.cells arr' e (lo,hi))) (hk: ∀k,k≠b->w'.heap[k]?=w.heap[k]?) (hz:w'.heap.size=w.heap.size) (ho:w'.os=w.os) (hou:w'.output=w.output) (hta:w'.tape=w.tape):Sim E F (O.ext b []) {st with m:=A7 st.m i [.any]} w' af a.tmps.toList/\Ext F O w (O.ext b []) w'/\(O.ext b []).com b=some []/\ShOK (O.ext b []) w' (i,[.any]) (.slice (some ⟨b,off,none⟩) len cap)/\Ag (A7 st.m i [.any]) i=some [.any]/\∀n,F n+AP n af a.tmps.toList+Ap (O.ext b []) w' n (A7 st.m i [.any])+(if b=n then 1 else 0)<=1:=by
 have hv:=ABr hs hsx hg;obtain⟨_,arr1,e1,lo1,hi1,g1,_,hcom,_⟩:=AGQ hs hsx hg;rw[h0]at g1;cases g1;obtain⟨arr0,e0,fz0,hh0,_,hct0⟩:=hs.com_ok b [] hcom;rw[h0]at hh0;cases hh0;have hc1: ∀n,AP n [.vec wd xs] [.slice (some ⟨b,off,none⟩) len cap]=if b=n then 1 else 0:=λn=>by simp[AP,cnt,CO]
 have hcm: ∀n,Ap O w n (A7 st.m i [.any])+(if b=n then 1 else 0)=Ap O w n st.m:=λn=>by
  have e1:=Ir (O:=O) (O':=O) (w:=w) (w':=w) (b:=n) (x:=[.any]) hs.keys hg (λp hp hne=>rfl);have e2:=hv.cnt n;rw[hc1]at e2;have e3:DK O w n (i,[.any])=0:=by simp only[DK,hv.bx,hv.sx];simp[AP,cnt]
  omega
 have s1:Sim E F O {st with m:=A7 st.m i [.any]} w af a.tmps.toList:=hs.setSh hg hv (.cons (.any _) .nil) (by simp[ownL,VM.own]) (λn=>by rw[hc1];have:=hs.tok n;simp only[AP,cnt];omega);have htb:=hs.tok b;have hcb:=hcm b;rw[an rfl]at hcb;obtain⟨s2,x2,hcm2⟩:=s1.grow (news:=[]) (rest:=arr'.toList) hcom hw fI hk hz ho hou hta (by show F b+_+Ap O w b (A7 st.m i [.any])=0;omega) hct0;refine⟨s2,x2,by simp[Ghost.ext],⟨hv.sx,hv.bx,.cons (.any _) .nil,by simp[ownL,VM.own]⟩,IW hg,λn=>?_⟩;have h3:=hcm2 n;simp only[bo]at h3;rw[h3];have:=hs.tok n;have:=hcm n;omega
def ATy (hs:Sim E F O st w af a.tmps.toList){o:Oper}{t:TypeId}{x y:Operand}{st':St} (hop:o.op=.store t x y) (hd:o.dst=none) (h:AB5 E t (rd E af 0 x) (rd E af t y) st=some st'):∃nx w' a' O',Stepped E F O st w a o af st' nx w' a' O'/\a'.tmps=a.tmps:=by
 have hx:=hs.rd 0 x;have hr:=hs.rd t y;generalize rd E af 0 x=ax at *;generalize rd E af t y=ay at *;generalize hvx:a.eval x=vx at *;generalize hvy:a.eval y=vy at *;unfold AB5 at h;split at h;rotate_left;·cases h
 rename_i i w1 n k;split at h;rotate_left;·cases h
 rename_i w2 xs hg;split at h;rotate_left;·cases h
 rename_i hc;obtain⟨rfl,rfl,hn,hok,hz,hcl⟩:=hc;simp only[ag]at h;subst h;cases hx with
 | vptr hsx=>
  rename_i b off len cap;rw[bW]at hvx;obtain⟨rfl,arr,e,lo,hi,h1,hf,hcom,hcap,hmx,hsz,hS⟩:=AGQ hs hsx hg;have hvc:vy.cells.toList.length=w2:=by rw[<-(hr.cellsOK hok).length,hcl]
  have hle:(n+1) * w2<=cap * w2:=bL _ fH;rw[bG]at hle;obtain⟨w',arr',r1,q1,q2,q3,q4,q5,q6,q7,q8⟩:=D7 (P:=E.P) (b:=b) (base:=off+n * w2) vy.cells.toList 0 arr w h1 hf fH (hr.one hok);obtain⟨s2,x2,hc2,hv2,hg2,ht2⟩:=hs.vecTo hsx hg h1 q1 q4 q5 q6 q7 q8;have s3:=s2.setSh (cs':=[.vec w2 (xs.set n ay.strip)]) hg2 hv2 (.cons (.vec _ _ _) .nil) (by simp only[ownL,VM.own,cF];refine .inr ⟨b,off,cap,arr',e,lo,hi,fI,q1,by rw[q3];exact hf,hc2,by simpa using hcap,by simpa using hmx,by rw[q3];exact hsz,?_⟩;rw[q2,bW,ZF _ _ _ _ (by rw[aD];omega)];exact RepS.setE (hr.strip.mono x2.le) ⟨by rw[<-aD];exact hvc,hr.one hok⟩ (hS.mono x2.le) hn) (λm=>by
   have h3:=ht2 m;have h4:AP m [.vec w2 (xs.set n ay.strip)] [.slice (some ⟨b,off,none⟩) xs.length cap]=if b=m then 1 else 0:=by simp[AP,cnt,CO]
   rw[h4];simp only[AP,cnt];omega);simp only[Qd]at s3;refine⟨.skip,_,a.put o.dst undef,_,⟨?_,λK Q hk=>hk,put_defers _ _ _,x2,av _,by rw[hd];exact s3⟩,by rw[hd];rfl⟩;simp only[execOp,hop,hvx,hvy,Instr.storeAt,Instr.sureAddr];have hsz2:vy.cells.size=w2:=by rw[<-aD];exact hvc
  simp[storeVar,DN hz,hsz2,r1]
def AEp (C:List Value): ∀(c A:List Value) (k:Nat),k+c.length<=A.length->putV (A++C) k c=putV A k c++C|[],A,k,_=>rfl|v::c,A,k,h=>by simp only[ae]at h;have h1:(A++C).set k v=A.set k v++C:=List.set_append_left _ _ fH;show putV ((A++C).set k v) (k+1) c=putV (A.set k v) (k+1) c++C;rw[h1];exact AEp C c (A.set k v) (k+1) (by rw[bZ];omega)
def RepS.setP{w:Nat}{y:AVal}{c:List Value}{k:Nat} (hk:k+c.length<=w): ∀ {xs:List AVal}{cs:List Value}{n:Nat},RepS O w xs cs->n<xs.length->(∀u,Rep O (xs.getD n .any) u->u.cells.size=w->(∀c,c∈u.cells.toList->c.oneCell'=true)->∃u',Rep O y u'/\u'.cells.toList=putV u.cells.toList k c/\∀c,c∈u'.cells.toList->c.oneCell'=true)->RepS O w (xs.set n y) (putV cs (n * w+k) c)
 |[],_,_,_,hn,_=>absurd hn (cq _)
 |x::xs,_,n,.cons (v:=v) (cs:=cs) h hw t,hn,hy=>by
  have h5:v.cells.toList.length=w:=by rw[aD];exact hw.1
  cases n with|zero=>obtain⟨u',a1,a2,a3⟩:=hy v h hw.1 hw.2;rw[eA,bI,AEp _ _ _ _ fH,<-a2];exact .cons a1 ⟨by rw[<-aD,a2,Zo,h5],a3⟩ t|succ n=>rw[show(n+1) * w+k=v.cells.toList.length+(n * w+k) by rw[h5,bG];omega,RA];exact .cons h hw (RepS.setP hk t (by simpa using hn) hy)
def ARV (hs:Sim E F O st w af a.tmps.toList){o:Oper}{t:TypeId}{x y:Operand}{st':St} (hop:o.op=.store t x y) (hd:o.dst=none) (h:ACv E t (rd E af 0 x) (rd E af t y) st=some st'):∃nx w' a' O',Stepped E F O st w a o af st' nx w' a' O'/\a'.tmps=a.tmps:=by
 have hx:=hs.rd 0 x;have hr:=hs.rd t y;generalize rd E af 0 x=ax at *;generalize rd E af t y=ay at *;generalize hvx:a.eval x=vx at *;generalize hvy:a.eval y=vy at *;unfold ACv at h;split at h;rotate_left;·cases h
 rename_i i w1 n k;split at h;rotate_left;·cases h
 rename_i w2 xs hg;split at h;rotate_left;·cases h
 rename_i hc;obtain⟨rfl,hn,hok,hox,hcx,hz,hkl⟩:=hc;simp only[ag]at h;subst h;cases hx with
 | vptr hsx=>
  rename_i b off len cap;obtain⟨rfl,arr,e,lo,hi,h1,hf,hcom,hcap,hmx,hsz,hS⟩:=AGQ hs hsx hg;have hvc:vy.cells.toList.length=(AZ ay).length:=(hr.cellsOK hok).length.symm;have hle:(n+1) * w2<=cap * w2:=bL _ fH;rw[bG]at hle;obtain⟨w',arr',r1,q1,q2,q3,q4,q5,q6,q7,q8⟩:=D7 (P:=E.P) (b:=b) (base:=off+(n * w2+k)) vy.cells.toList 0 arr w h1 hf fH (hr.one hok);obtain⟨s2,x2,hc2,hv2,hg2,ht2⟩:=hs.vecTo hsx hg h1 q1 q4 q5 q6 q7 q8;have s3:=s2.setSh (cs':=[.vec w2 (xs.set n (.agg (putCells (AZ (xs.getD n .any)) k (stripL (AZ ay)))))]) hg2 hv2 (.cons (.vec _ _ _) .nil) (by
   simp only[ownL,VM.own,cF];refine .inr ⟨b,off,cap,arr',e,lo,hi,fI,q1,by rw[q3];exact hf,hc2,by simpa using hcap,by simpa using hmx,by rw[q3];exact hsz,?_⟩;rw[q2,bW,ZF _ _ _ _ (by rw[aD];omega)];refine RepS.setP fH (hS.mono x2.le) hn λu hu hus huo=>⟨.agg (putV u.cells.toList k vy.cells.toList).toArray,.agg ?_ ?_,by simp[Value.cells],?_⟩;·simp only[];exact RepL.putV (hu.cellsOK hox) (RepL.strip ((hr.mono x2.le).cellsOK hok)) k
   ·intro v hv;rcases ACs (by simpa using hv)with h|h;·exact huo v h
    ·exact hr.one hok v h
   ·intro v hv;rcases ACs (by simpa[Value.cells]using hv)with h|h;·exact huo v h
    ·exact hr.one hok v h) (λm=>by
   have h3:=ht2 m;have h4:AP m [.vec w2 (xs.set n (.agg (putCells (AZ (xs.getD n .any)) k (stripL (AZ ay)))))] [.slice (some ⟨b,off,none⟩) xs.length cap]=if b=m then 1 else 0:=by simp[AP,cnt,CO]
   rw[h4];simp only[AP,cnt];omega);simp only[Qd]at s3;refine⟨.skip,_,a.put o.dst undef,_,⟨?_,λK Q hk=>hk,put_defers _ _ _,x2,av _,by rw[hd];exact s3⟩,by rw[hd];rfl⟩;simp only[execOp,hop,hvx,hvy,Instr.storeAt,Instr.sureAddr];have hsz2:vy.cells.size=(AZ ay).length:=by rw[<-aD];exact hvc
  simp[storeVar,DN hz,hsz2,r1]
def AT5 (hs:Sim E F O st w af a.tmps.toList){o:Oper}{t:TypeId}{x y:Operand}{st':St} (hop:o.op=.store t x y) (hd:o.dst=none) (h:Ym E t (rd E af 0 x) (rd E af t y) st=some st'):∃nx w' a' O',Stepped E F O st w a o af st' nx w' a' O'/\a'.tmps=a.tmps:=by
 unfold Ym at h;split at h;·rename_i hz;cases h;exact ATy hs hop hd hz
 ·exact ARV hs hop hd h
theorem UL (hs:Sim E F O st w af a.tmps.toList){o:Oper}{t:TypeId}{x y:Operand}{st':St} (hop:o.op=.store t x y) (hd:o.dst=none) (h:R6 E t (rd E af 0 x) (rd E af t y) st=some st'):∃nx w' a' O',Stepped E F O st w a o (stripAt af y) st' nx w' a' O'/\a'.tmps=a.tmps:=by
 unfold R6 at h;split at h;·grind[AQZ]
 ·rename_i i w1 n k hx;obtain⟨nx,w',a',O',hp,ha⟩:=AT5 hs hop hd (by rw[hx];exact h);refine⟨nx,w',a',O',{hp with sim:=?_},ha⟩;exact hp.sim.stripAt y
 ·obtain⟨nx,w',a',O',hp,ha⟩:=ASi hs hop hd h;refine⟨nx,w',a',O',{hp with sim:=?_},ha⟩;exact hp.sim.stripAt y
def AW4 (hs:Sim E F O st w af a.tmps.toList){o:Oper}{t:TypeId}{x y:Operand}{st':St} (hop:o.op=.store t x y) (hd:o.dst=none) (h:O3 E t (rd E af 0 x) (rd E af t y) st=some st'):∃nx w' a' O',Stepped E F O st w a o (stripAt af y) st' nx w' a' O':=by
 unfold O3 at h;split at h
 ·rename_i i hy;split at h
  ·rename_i wd xs o' hg;obtain⟨d,rfl,hd'⟩: ∃d,y=.tmp d/\af.getD d .any=.sh i:=by cases y with|tmp d=>exact⟨d,rfl,hy⟩|const v=>simp only[rd]at hy;unfold KJ at hy;split at hy<;>(try split at hy)<;>cases hy|global g=>simp only[rd]at hy;split at hy<;>cases hy|func f=>grind[rd]
   split at h
   ·rename_i hxd;obtain⟨s1,hsh⟩:=hs.unsh hd' hg;have hlt:d<af.length:=by grind
    have h1:rd E (af.set d (.slice wd xs o')) t (.tmp d)=.slice wd xs o':=by grind[rd,List.getD]
    have h2:rd E (af.set d (.slice wd xs o')) 0 x=rd E af 0 x:=by cases x with|tmp e=>grind[rd,MJ,List.getD]|_=>rfl
    obtain⟨nx,w',a',O',hp,ha⟩:=UL (x:=x) (y:=.tmp d) s1 hop hd (by rw[h1,h2];exact h);refine⟨nx,w',a',O',{hp with sim:=?_}⟩;have h3:stripAt (af.set d (.slice wd xs o')) (.tmp d)=af.set d (.slice wd xs false):=by simp_all[stripAt,List.getD,AVal.strip]
    have s2:=hp.sim;rw[h3,ha]at s2;have s3:=s2.resay (d:=d) (x:=.sh i) (hsh.mono hp.ext.le) (by simp[VM.own]) (λn=>by simp[cnt]);grind[List.set_set,stripAt,AVal.strip]
   grind
  grind[UL]
 grind[UL]
end
end Go.VM
namespace Go.VM
section
variable{E:Env}{F:Nat->Nat}{O:Ghost}{st:St}{w:World}{af:List AVal}{a:Act}
def VX{O:Ghost}{w:World}{b:Nat}{m m':List (Nat×List AVal)} (h:m.Perm m'):Ap O w b m=Ap O w b m':=by induction h<;>grind[Ap,trans]
def Sim.perm{F:Nat->Nat}{O:Ghost}{w:World}{tm:List Value}{m m':List (Nat×List AVal)}{n:Nat} (hs:Sim E F O ⟨m,n⟩ w af tm) (h:m.Perm m'):Sim E F O ⟨m',n⟩ w af tm:=
  { hs with
    box_ok:=λp hp=>hs.box_ok p (h.mem_iff.2 hp)
    keys:=(h.map (·.1)).nodup_iff.1 hs.keys
    bx_F:=λp b hp=>hs.bx_F p b (h.mem_iff.2 hp)
    tok:=λb=>by rw[<-VX h];exact hs.tok b}
def Dm:List (Nat×List AVal)->Nat->List (Nat×List AVal)|[],_=>[]|(j,c)::m,i=>if i=j then m else(j,c)::Dm m i
def Kg: ∀ {m:List (Nat×List AVal)}{i:Nat}{c:List AVal},Ag m i=some c->m.Perm ((i,c)::Dm m i)
 |[],_,_,h=>by grind[Ag]
 |(j,d)::m,i,c,h=>by
  simp only[Ag]at h;simp only[Dm];split at h;·simp_all
  ·rename_i e;rw[aj e];exact((Kg h).cons _).trans (cB _ _ _)
def Sim.fewer (hs:Sim E F O st w af a.tmps.toList){m:List (Nat×List AVal)} (hm:m.Sublist st.m):Sim E F O {st with m:=m} w af a.tmps.toList:=by
 have hle: ∀n,Ap O w n m<=Ap O w n st.m:=by intro n;generalize st.m=m' at hm;induction hm with|slnil=>omega|cons p _ ih=>grind[Ap]|cons_cons p _ ih=>grind[Ap]
 refine {hs with box_ok:=λp hp=>hs.box_ok p (hm.subset hp),keys:=(hm.map _).nodup hs.keys,bx_F:=λp b hp hb=>hs.bx_F p b (hm.subset hp) hb,tok:=λn=>?_};have:=hle n;have:=hs.tok n;grind
theorem RepL.cat{xs ys:List AVal}{us vs:List Value} (h:RepL O xs us) (k:RepL O ys vs):RepL O (xs++ys) (us++vs):=by induction xs generalizing us with|nil=>cases h;exact k|cons x xs ih=>cases h with|cons h t=>exact .cons h (ih t)
theorem ownL.cat{xs ys:List AVal}{us vs:List Value} (hl:xs.length=us.length) (h:ownL O w xs us) (k:ownL O w ys vs):ownL O w (xs++ys) (us++vs):=by induction xs generalizing us with|nil=>grind|cons x xs ih=>cases us with|nil=>grind|cons u us=>grind[ownL]
theorem X9 (b:Nat){xs ys:List AVal}{us vs:List Value} (hl:xs.length=us.length):AP b (xs++ys) (us++vs)=AP b xs us+AP b ys vs:=by induction xs generalizing us with|nil=>grind[AP]|cons x xs ih=>cases us with|nil=>grind|cons u us=>grind[AP]
def I4 (E:Env) (t:TypeId) (len:Nat) (ps:List (Nat×AVal)):Option (Nat×List AVal):=match KI E.P t with|some (z,_)=>if len * z<=16777216/\len<=CX/\ps.map (·.1)=List.range len/\(ps.all λp=>Ce p.2&&(AZ p.2).length==z)=true then some (z,ps.flatMap λp=>AZ p.2)else none|none=>none
def AVd{z:Nat}: ∀ {ps:List (Nat×AVal)}{us:List (Nat×Value)}{k n:Nat}{pre rest:List Value}{arr:Array Value},arr.toList=pre++rest->pre.length=k * z->rest.length=n * z->ps.map (·.1)=List.range' k n->JF O w ps us->(∀p,p∈ps->Ce p.2=true/\(AZ p.2).length=z)->∃arr' new,Instr.fill (λi=>some (i * z,z)) arr us=some arr'/\arr'.toList=pre++new/\RepL O (ps.flatMap λp=>AZ p.2) new/\new.length=n * z/\(∀v,v∈new->v.oneCell'=true)/\ownL O w (ps.flatMap λp=>AZ p.2) new/\∀b,AP b (ps.flatMap λp=>AZ p.2) new=ATc b ps us:=by
 intro ps;induction ps with
 |nil=>
  intro us k n pre rest arr harr hpre hrest hidx hp hok;have hn:n=0:=by simp_all
  subst hn;cases us with|nil=>have:rest=[]:=bw fH;subst this;exact⟨arr,[],rfl,harr,.nil,fI,fI,by simp[ownL],λb=>by simp[AP,ATc]⟩|cons u us=>grind[JF]
 | cons p ps ih=>
  intro us k n pre rest arr harr hpre hrest hidx hp hok;obtain⟨i,x⟩:=p;cases us with
  |nil=>grind[JF]
  | cons u us=>
   obtain⟨j,v⟩:=u;simp only[JF]at hp;obtain⟨rfl,hx,hox,hp⟩:=hp;cases n with
   |zero=>grind
   | succ n=>
    simp only[aF,c8,dg]at hidx;obtain⟨rfl,hidx⟩:=hidx;obtain⟨hokx,hzx⟩:=hok (i,x) fI;have hxc:=hx.cellsOK hokx;have hvs:v.cells.size=z:=by rw[<-hzx,hxc.length,aD]
    have hsize:arr.size=(i+(n+1)) * z:=by grind[Array.length_toList,List.length_append,Nat.add_mul]
    have hzr:z<=rest.length:=by grind
    have hfold:(v.cells.zipIdx.foldl (λcs x=>cs.setIfInBounds (i * z+x.2) x.1) arr).toList=pre++v.cells.toList++rest.drop z:=by rw[<-eL,eo,ABK (i * z) v.cells.toList 0 arr,harr,bW,<-hpre];grind[J5,Array.length_toList]
    generalize hga:v.cells.zipIdx.foldl (λcs x=>cs.setIfInBounds (i * z+x.2) x.1) arr=arr1 at hfold;obtain⟨arr',new,q1,q2,q3,q4,q5,q6,q7⟩:=ih (k:=i+1) (n:=n) (pre:=pre++v.cells.toList) (rest:=rest.drop z) hfold (by grind) (by grind[List.length_drop,Nat.succ_mul]) hidx hp (λq hq=>hok q (aX _ hq));refine⟨arr',v.cells.toList++new,?_,by grind,?_,by grind[List.length_append,Array.length_toList,Nat.succ_mul],?_,?_,?_⟩
    ·rw[Instr.fill];simp only;rw[aj];·grind
     ·simp only[hvs,ek,cO,ew,be,au,Nat.not_lt,hsize,cA,bG];omega
    ·rw[aR];exact hxc.cat q3
    ·intro u hu;rcases aZ.1 hu with hu|hu;·exact hx.one hokx u hu
     grind
    ·rw[aR];exact ownL.cat hxc.length (VF hx hokx hox) q6
    ·intro b;rw[aR,X9 b hxc.length,VH hx hokx,q7 b];rfl
theorem ZM (hs:Sim E F O st w af a.tmps.toList){o:Oper}{t:TypeId}{len z:Nat}{cs:List AVal}{ps:List (Nat×Operand)} (hop:o.op=.buildSlice t len ⟨ps⟩) (h:I4 E t len (Bb E (λ_=>AR E.P t 0) af ps).2=some (z,cs)):∃nx w' a' O',Stepped E F O st w a o (Ac (Bb E (λ_=>AR E.P t 0) af ps).1 o.dst (.gsl z st.next len)) {m:=(st.next,cs)::st.m,next:=st.next+1} nx w' a' O':=by
 obtain⟨h1,h2,h3⟩:=Ry (λ_=>AR E.P t 0) ps hs;generalize hps:(Bb E (λ_=>AR E.P t 0) af ps).2=qs at *;generalize (Bb E (λ_=>AR E.P t 0) af ps).1=af1 at *;unfold I4 at h;split at h
 ·rename_i z by_ hap;split at h
  ·rename_i hc;obtain⟨hsz,hln,hidx,hall⟩:=hc;simp only[ag,aA]at h;obtain⟨rfl,rfl⟩:=h;obtain⟨e,i,zv,hu,hi,hz,hzs,his,hib⟩:=MU hap;have hok: ∀p,p∈qs->Ce p.2=true/\(AZ p.2).length=z:=by intro p hp;have:=aL.1 hall p hp;simp_all
   generalize hzero:(if len * z=0 then(#[]:Array Value)else zv.cells)=zero;have hfill:=AVd (O:=O) (w:=w) (z:=z) (ps:=qs) (us:=ps.map λp=>(p.1,a.eval p.2)) (k:=0) (n:=len) (pre:=[]) (rest:=((Array.range (len * z)).map (λj=>zero[j % zero.size]!)).toList) (arr:=(Array.range (len * z)).map (λj=>zero[j % zero.size]!)) fI fI fI (by grind[List.range_eq_range']) h2 hok;obtain⟨arr',new,q1,q2,q3,q4,q5,q6,q7⟩:=hfill;rw[bm]at q2;have hrun:(execOp a.eval o).run E.P w=.ok (.value (.slice (some ⟨w.heap.size,0,none⟩) len len)) (w.alloc (.cells arr' e)):=by
    have hs0:(sizeOf e).run E.P w=.ok z w:=by simp_all[sizeOf,typeInfo]
    have hparts:(Array.map (λx=>(x.fst,a.eval x.snd)) ⟨ps⟩).toList=ps.map λp=>(p.1,a.eval p.2):=fI;have hzz:(zeroValue e).run E.P w=.ok zv w:=by simp_all[zeroValue,typeInfo]
    have hsz': ¬(len * z>2^24):=fH;simp only[execOp,hop,Instr.buildSlice];rw[aI,aI,aG hu];simp only[aC];rw[aI,hs0];simp only[aC,hsz',az];by_cases hlz:len * z=0;·rw[an hlz]at hzero;subst hzero;simp only[hlz,aB,hparts];rw[hlz]at q1;rw[aI,bu];simp only[aC,q1];rfl
    ·rw[aj hlz]at hzero;subst hzero;simp only[hlz,az,hparts];rw[aI,hzz];simp only[aC];rw[aI,bu];simp only[aC,q1];rfl
   have hasz:arr'.size=len * z:=by grind
   have htk:arr'.toList.take (qs.flatMap λp=>AZ p.2).length=new:=by rw[q2,q3.length,cY]
   obtain⟨k1,k2,k3⟩:=h1.newBox (e:=e) (cells:=arr') (cs:=qs.flatMap λp=>AZ p.2) (fz:=(0,0)) fI (by rw[htk];exact q3.mono (h1.le_box _)) (by grind) (by grind) (λb=>by rw[q2,q7];have:=h3 b;have:=hs.tok b;omega);have hb:(O.box st.next w.heap.size (e,arr'.size)).bx st.next=some w.heap.size:=by cases k3 with|ptr h=>exact h
   have hbt:(O.box st.next w.heap.size (e,arr'.size)).bt st.next=some (e,arr'.size):=by simp[Ghost.box]
   refine⟨_,_,a.put o.dst _,_,hrun,λK Q hk=>hk,put_defers _ _ _,k2,fI,?_⟩;refine k1.put o.dst (.gsl hb hbt ⟨av _,hln⟩ fH) (by simp[VM.own]) λb=>?_;have:=k1.tok b;grind[cnt]
  grind
 grind
def SY: ∀(m:List (Nat×List AVal)) (i:Nat),(Dm m i).Sublist m
 |[],_=>.slnil
 |(j,c)::m,i=>by
  simp only[Dm];split;·simp
  ·exact .cons_cons _ (SY m i)
def Sim.later{tm:List Value} (hs:Sim E F O st w af tm):Sim E F O {st with next:=st.next+1} w af tm:=
  { hs with
    sx_next:=λi v h=>⟨by have:=(hs.sx_next i v h).1;grind,(hs.sx_next i v h).2⟩
    bx_next:=λi b h=>by have:=hs.bx_next i b h;grind}
def ownL.takeA: ∀ {xs:List AVal}{vs:List Value} (n:Nat),ownL O w xs vs->ownL O w (xs.take n) (vs.take n)|_,_,0,_=>by simp[ownL]|[],_,n+1,_=>by simp[ownL]|x::xs,[],n+1,_=>by simp[ownL]|x::xs,v::vs,n+1,h=>by rw[ownL]at h;simp only[co,ownL];exact⟨h.1,ownL.takeA n h.2⟩
def We (b:Nat): ∀(xs:List AVal) (vs:List Value) (n:Nat),AP b (xs.take n) (vs.take n)<=AP b xs vs|_,_,0=>by simp[AP]|[],_,n+1=>by simp[AP]|x::xs,[],n+1=>by simp[AP]|x::xs,v::vs,n+1=>by simp only[co,AP];have:=We b xs vs n;omega
def RepL.takeA: ∀ {xs:List AVal}{vs:List Value} (n:Nat),RepL O xs vs->RepL O (xs.take n) (vs.take n)|_,_,0,_=>by simp;exact .nil|_,_,n+1,.nil=>by simp;exact .nil|_,_,n+1,.cons h t=>by simp only[co];exact .cons h (RepL.takeA n t)
def ARf (E:Env) (t0 t1:TypeId) (x y:AVal) (st:St):Option (Nat×Nat×List AVal×List (Nat×List AVal)×Option Nat):=
  match y with
  | .gsl wd n k=>
    match Ag st.m n,KI E.P t0 with
    | some ys,some (z,by_)=>
      if z=wd/\ys.length=k * wd/\0<k/\Ih E.P t1=none/\Ah E.P t1=true then
        match x with
        |.slice w' [] true=>if w'=wd/\wd≠1/\k * by_<=140737488355328/\k<=CX then some (wd,k,ys,Dm st.m n,none)else none
        | .gsl w' j len=>
          match Ag (Dm st.m n) j with
          |some cs=>if w'=wd/\len * wd<=cs.length/\(len+k) * by_<=140737488355328/\len+k<=CX then some (wd,len+k,cs.take (len * wd)++ys,Dm (Dm st.m n) j,some j)else none
          |none=>none
        |_=>none
      else none
    |_,_=>none
  |_=>none
def Wi (hs:Sim E F O st w af a.tmps.toList){o:Oper}{x y:Operand}{t0 t1 e:TypeId}{ts:List TypeId}{wd len cap k by_:Nat}{base:Option Addr}{vy zv:Value}{i:TypeInfo}{d1:TypeDesc}{csO ys:List AVal}{olds news:List Value}{rest:List (Nat×List AVal)} (hop:o.op=.call {callee:=.builtin .append,args:=#[x,y],argTypes:=⟨t0::t1::ts⟩}) (hvx:a.eval x=.slice base len cap) (hvy:a.eval y=vy) (hu:E.P.underlying t0=some (.slice e)) (hi:E.P.info? e=some i) (hz:i.zero=some zv) (hzs:zv.cells.size=i.size) (his:i.size=wd) (hib:i.bytes=by_) (hd1:E.P.underlying t1=some d1) (hint:Ih E.P t1=none) (hroom:(len+k) * by_<=140737488355328) (h62:len+k<=CX) (hcap:len<=cap) (hno: ¬(len+k<=cap)) (hl1: ∀w',(Builtin.lenOf vy).run E.P w'=.ok k w') (hf1:(Builtin.firstCells wd k vy).run E.P w.drew=.ok news.toArray w.drew) (hf0:(Builtin.firstCells wd len (.slice base len cap)).run E.P w.drew=.ok olds.toArray w.drew) (ho:RepL O csO olds) (hn:RepL O ys news) (hol:olds.length=len * wd) (hnl:news.length=k * wd) (ho1: ∀v,v∈olds->v.oneCell'=true) (hn1: ∀v,v∈news->v.oneCell'=true) (hoo:ownL O w csO olds) (hno2:ownL O w ys news) (hsub:rest.Sublist st.m) (htk: ∀b,F b+AP b af a.tmps.toList+AP b csO olds+AP b ys news+Ap O w b rest<=1):∃nx w' a' O',Stepped E F O st w a o (Ac af o.dst (.gsl wd st.next (len+k))) {m:=(st.next,csO++ys)::rest,next:=st.next+1} nx w' a' O':=by
 have h62':len+k<=4611686018427387904:=h62;have h48: ¬(281474976710656<Builtin.nextslicecap (len+k) cap * i.bytes):=by have:=eJ (need:=len+k) (old:=cap) (bytes:=i.bytes) fH (by grind);omega
 rw[<-his]at hf1 hf0;generalize hnc:grownCap w (len+k) cap e=nc;have hge:len+k<=nc:=by grind[grownCap_ge]
 have hargs:Array.map a.eval #[x,y]= #[.slice base len cap,vy]:=by grind
 have hrun:(Builtin.append_ ⟨t0::t1::ts⟩ o.type #[.slice base len cap,vy]).run E.P w=.ok (.slice (some ⟨w.heap.size,0,none⟩) (len+k) nc) (w.drew.alloc (.cells (olds.toArray++news.toArray++Builtin.zeroCells zv.cells (nc-(len+k))) e)):=by subst hnc;have e3:IntKind.i64.max=9223372036854775807:=fJ;grind[NH]
 have hexec:(execOp a.eval o).run E.P w=.ok (.value (.slice (some ⟨w.heap.size,0,none⟩) (len+k) nc)) (w.drew.alloc (.cells (olds.toArray++news.toArray++Builtin.zeroCells zv.cells (nc-(len+k))) e)):=by simp only[execOp,hop,resolve,hargs,aI,bu,aC,invoke,builtin];simp_all
 have hsd:Sim E F O {st with m:=rest} w.drew af a.tmps.toList:=(hs.fewer hsub).drew;have hcl:(csO++ys).length=(olds++news).length:=by rw[ah,ah,ho.length,hn.length]
 generalize hcells:(olds.toArray++news.toArray++Builtin.zeroCells zv.cells (nc-(len+k)))=cells at *;have hlist:cells.toList=(olds++news)++(Builtin.zeroCells zv.cells (nc-(len+k))).toList:=by grind
 have htake:cells.toList.take (csO++ys).length=olds++news:=by grind
 have hsz:cells.size=nc * wd:=by rw[<-aD,hlist,ah,ah,hol,hnl];simp only[Builtin.zeroCells,aD,eK,d5,hzs,his,<-cA];grind
 have hown:ownL O w.drew (csO++ys) cells.toList:=by rw[<-Nt,htake];exact Bv O.le_refl _ _ (ownL.cat ho.length hoo hno2) λ_ _=>⟨rfl,rfl⟩
 have hcm: ∀n,Ap O w.drew n rest=Ap O w n rest:=λn=>Ff λp hp=>⟨rfl,λ_ _=>rfl⟩;obtain⟨k1,k2,k3⟩:=hsd.newBox (e:=e) (cells:=cells) (cs:=csO++ys) (fz:=(0,0)) fI (by rw[htake];exact(ho.cat hn).mono (hsd.le_box _)) hown (by grind) (λb=>by
  have e1:AP b (csO++ys) cells.toList=AP b csO olds+AP b ys news:=by rw[<-Nq,htake,X9 b ho.length]
  grind);have hb:(O.box st.next w.drew.heap.size (e,cells.size)).bx st.next=some w.heap.size:=by cases k3 with|ptr h=>exact h
 have hbt:(O.box st.next w.drew.heap.size (e,cells.size)).bt st.next=some (e,cells.size):=by simp[Ghost.box]
 have x0:Ext F O w O w.drew:=⟨O.le_refl,λ_ _=>⟨rfl,rfl⟩,av _,rfl,rfl,rfl⟩;refine⟨_,_,a.put o.dst _,_,hexec,λK Q hk=>hk,put_defers _ _ _,x0.trans k2,fI,?_⟩;refine k1.put o.dst (.gsl hb hbt ⟨hge,h62⟩ fH) (by simp[VM.own]) λb=>?_;have:=k1.tok b;grind[cnt]
def Y5{P:Program}{b:Nat}{arr:Array Value}{e:TypeId}{fz:Nat×Nat}{wd n len cap:Nat}{vs:List Value} (hh:w.heap[b]?=some (.cells arr e fz)) (hv:vs=arr.toList.take (n * wd)) (hl:vs.length=n * wd):∀w',w'.heap[b]?=w.heap[b]?->(Builtin.firstCells wd n (.slice (some ⟨b,0,none⟩) len cap)).run P w'=.ok vs.toArray w':=by intro w' hw;refine dF (P:=P) w' wd n ⟨b,0,none⟩ len cap vs hl λj u hj=>?_;rw[addr_add];subst hv;have:=List.getElem?_take_some hj;simp_all[World.cell?]
set_option maxHeartbeats 1000000 in theorem Adn (hs:Sim E F O st w af a.tmps.toList){o:Oper}{x y:Operand}{t0 t1:TypeId}{ts:List TypeId}{wd l:Nat}{cs:List AVal}{rest:List (Nat×List AVal)}{jo:Option Nat} (hop:o.op=.call {callee:=.builtin .append,args:=#[x,y],argTypes:=⟨t0::t1::ts⟩}) (h:ARf E t0 t1 (rd E af t0 x) (rd E af t1 y) st=some (wd,l,cs,rest,jo)):∃i,(i=st.next\/jo=some i)/\∃nx w' a' O',Stepped E F O st w a o (Ac af o.dst (.gsl wd i l)) {m:=(i,cs)::rest,next:=st.next+1} nx w' a' O':=by
 have hx:=hs.rd t0 x;have hy:=hs.rd t1 y;generalize rd E af t0 x=ax at *;generalize rd E af t1 y=ay at *;generalize hvx:a.eval x=vx at *;generalize hvy:a.eval y=vy at *;unfold ARf at h;split at h;rotate_left;·cases h
 rename_i wd' n k;split at h;rotate_left;·cases h
 rename_i ys z by_ hgn hap;split at h;rotate_left;·cases h
 rename_i hc;obtain⟨rfl,hyl,hk0,hint,hkn⟩:=hc;obtain⟨e,i,zv,hu,hi,hz,hzs,his,hib⟩:=MU hap;obtain⟨d1,hd1⟩:=Cv hkn;cases hy with
 |gsl hbn hbtn hcn hczn=>
  rename_i bn capn sn Tn;obtain⟨bn',arrn,en,hbox⟩:=hs.box hgn hbn;have:bn'=bn:=by have:=hbox.bx;grind
  subst this;obtain⟨lon,hin,hhn,_⟩:=hbox.heap;have hnl:(arrn.toList.take (k * z)).length=k * z:=by rw[<-hyl];exact hbox.rep.length.symm
  have hrn:RepL O ys (arrn.toList.take (k * z)):=by rw[<-hyl];exact hbox.rep
  have hone: ∀v,v∈arrn.toList.take (k * z)->v.oneCell'=true:=by rw[<-hyl];exact hbox.one
  have hon:ownL O w ys (arrn.toList.take (k * z)):=by rw[<-hyl,Nt];exact hbox.own
  have hcnn: ∀b,AP b ys (arrn.toList.take (k * z))=AP b ys arrn.toList:=λb=>by grind[Nq]
  have hl1: ∀w',(Builtin.lenOf (.slice (some ⟨bn',0,none⟩) k capn)).run E.P w'=.ok k w':=λw'=>by simp[Builtin.lenOf]
  have hf1:=Y5 (P:=E.P) (wd:=z) (n:=k) (len:=k) (cap:=capn) hhn rfl hnl;have hcm1: ∀b,Ap O w b st.m=AP b ys arrn.toList+Ap O w b (Dm st.m n):=λb=>by rw[VX (Kg hgn),Ap];grind[DK,hcells]
  split at h
  ·rename_i w';split at h;rotate_left;·cases h
   rename_i hc;obtain⟨rfl,hw1,hroom,h62⟩:=hc;simp only[ag,aA]at h;obtain⟨rfl,rfl,rfl,rfl,rfl⟩:=h;obtain⟨base,rfl⟩: ∃base,vx=.slice base 0 0:=by cases hx with|snil=>simp|slice _ hb hl hc hS hnn=>simp_all
   have hxn:Rep O (.slice w' [] true) (.slice base 0 0):=.snil _ _ _;obtain⟨olds,so⟩:=VA hs hxn;have hold:olds=[]:=bw (by rw[so.size];simp);subst hold;refine⟨st.next,.inl rfl,?_⟩;have:=Wi (hs:=hs) (csO:=[]) (ys:=ys) (olds:=[]) (rest:=Dm st.m n) (len:=0) (k:=k) hop hvx hvy hu hi hz fH his hib hd1 hint (by grind) fH (av _) fH hl1 (hf1 w.drew rfl) (by have:=so.first w.drew (λ_ _=>rfl);omega) .nil hrn fI hnl fI hone (by simp[ownL]) hon (SY _ _) (λb=>by have:=hs.tok b;grind[AP]);grind
  ·rename_i w' j len;split at h;rotate_left;·cases h
   rename_i cs0 hgj;split at h;rotate_left;·cases h
   rename_i hc;obtain⟨rfl,hcl,hroom,h62⟩:=hc;simp only[ag,aA]at h;obtain⟨rfl,rfl,rfl,rfl,rfl⟩:=h;cases hx with
   |gsl hbj hbtj hcj hczj=>
    rename_i bj capj sj Tj;have hs1:Sim E F O {st with m:=Dm st.m n} w af a.tmps.toList:=hs.fewer (SY _ _);have hs2:Sim E F O {st with m:=(j,cs0)::Dm (Dm st.m n) j} w af a.tmps.toList:=hs1.perm (Kg hgj);have hg2:Ag ((j,cs0)::Dm (Dm st.m n) j) j=some cs0:=by simp[Ag]
    obtain⟨bj',arrj,ej,hboxj⟩:=hs2.box hg2 hbj;have:bj'=bj:=by have:=hboxj.bx;grind
    subst this;obtain⟨loj,hij,hhj,hfj⟩:=hboxj.heap;obtain⟨rfl,hsj⟩:=hboxj.ty _ _ hbtj;have hcm2: ∀b,Ap O w b (Dm st.m n)=AP b cs0 arrj.toList+Ap O w b (Dm (Dm st.m n) j):=λb=>by rw[VX (Kg hgj),Ap];grind[DK,hcells]
    have hle:=hboxj.le;have hol:(arrj.toList.take (len * w')).length=len * w':=by grind
    have htt:(arrj.toList.take cs0.length).take (len * w')=arrj.toList.take (len * w'):=by grind
    have hro:RepL O (cs0.take (len * w')) (arrj.toList.take (len * w')):=by have:=hboxj.rep.takeA (len * w');grind
    have hoo:ownL O w (cs0.take (len * w')) (arrj.toList.take (len * w')):=hboxj.own.takeA _;have hco: ∀b,AP b (cs0.take (len * w')) (arrj.toList.take (len * w'))<=AP b cs0 arrj.toList:=λb=>We b _ _ _;have ho1: ∀v,v∈arrj.toList.take (len * w')->v.oneCell'=true:=λv hv=>hboxj.one v (by grind);by_cases hfits:len+k<=capj
    ·refine⟨j,.inr rfl,?_⟩;have hroomj:len * w'+k * w'<=arrj.size:=by have:(len+k) * w'<=capj * w':=bL _ hfits;grind
     obtain⟨w1,arr',r1,q1,q2,q3,q4,q5,q6,q7,q8⟩:=D7 (P:=E.P) (b:=bj') (base:=0+len * w') (arrn.toList.take (k * w')) 0 arrj w hhj hfj fH hone;have q2':arr'.toList=arrj.toList.take (len * w')++arrn.toList.take (k * w')++(arrj.toList.drop (len * w')).drop (k * w'):=by rw[q2,bW,bI];grind[J5,List.length_drop,Array.length_toList,List.take_append_drop]
     have hcl':(cs0.take (len * w')++ys).length=(arrj.toList.take (len * w')++arrn.toList.take (k * w')).length:=by grind
     have htake:arr'.toList.take (cs0.take (len * w')++ys).length=arrj.toList.take (len * w')++arrn.toList.take (k * w'):=by grind
     have hfz: ∀q,q<arr'.size->¬(loj<=q/\q<hij):=by grind
     obtain⟨s3,x3⟩:=hs2.setBox (w':=w1) (cs':=cs0.take (len * w')++ys) (arr':=arr') (lo:=loj) (hi:=hij) hg2 hboxj q1 hfz q4 q5 q6 q7 q8 (by rw[htake];exact hro.cat hrn) (by rw[<-Nt,htake];grind[ownL.cat]) (by grind) (λb=>by
      have e1:AP b (cs0.take (len * w')++ys) arr'.toList=AP b (cs0.take (len * w')) (arrj.toList.take (len * w'))+AP b ys (arrn.toList.take (k * w')):=by rw[<-Nq,htake,X9 b hro.length]
      rw[e1,hcnn b];have e2:Ap O w b ((j,cs0)::Dm (Dm st.m n) j)=AP b cs0 arrj.toList+Ap O w b (Dm (Dm st.m n) j):=by simp_all[Ap,DK,hcells]
      show F b+AP b af a.tmps.toList+_+Ap O w b ((j,cs0)::Dm (Dm st.m n) j)<=_;rw[e2];have:=hs.tok b;grind) q3;have hms:A7 ((j,cs0)::Dm (Dm st.m n) j) j (cs0.take (len * w')++ys)=(j,cs0.take (len * w')++ys)::Dm (Dm st.m n) j:=by simp[A7]
     simp only[hms]at s3;have s4:=s3.later;have hargs:Array.map a.eval #[x,y]= #[.slice (some ⟨bj',0,none⟩) len capj,.slice (some ⟨bn',0,none⟩) k capn]:=by grind
     have hf1':=hf1 w rfl;rw[<-his]at hf1' r1;have hrun:(Builtin.append_ ⟨t0::t1::ts⟩ o.type #[.slice (some ⟨bj',0,none⟩) len capj,.slice (some ⟨bn',0,none⟩) k capn]).run E.P w=.ok (.slice (some ⟨bj',0,none⟩) (len+k) capj) w1:=by rw[LG hu hi hd1 hint (hl1 w) hfits hf1'];simp only[addr_add];simp_all
     refine⟨.value (.slice (some ⟨bj',0,none⟩) (len+k) capj),_,a.put o.dst (.slice (some ⟨bj',0,none⟩) (len+k) capj),_,?_,λK Q hk=>hk,put_defers _ _ _,x3,fI,?_⟩;·simp only[execOp,hop,resolve,hargs,aI,bu,aC,invoke,builtin];simp_all
     ·refine s4.put o.dst (.gsl hbj hbtj ⟨hfits,h62⟩ hczj) (by simp[VM.own]) λb=>?_;have:=s4.tok b;grind[cnt]
    ·refine⟨st.next,.inl rfl,?_⟩;have hf0:=Y5 (P:=E.P) (wd:=w') (n:=len) (len:=len) (cap:=capj) hhj rfl hol;exact Wi (hs:=hs) (csO:=cs0.take (len * w')) (ys:=ys) (rest:=Dm (Dm st.m n) j) hop hvx hvy hu hi hz fH his hib hd1 hint hroom h62 hcj.1 hfits hl1 (hf1 w.drew rfl) (hf0 w.drew rfl) hro hrn hol hnl ho1 hone hoo hon ((SY _ _).trans (SY _ _)) (λb=>by have:=hs.tok b;grind)
  grind
def Ae6 (E:Env) (t0 t1:TypeId) (x y:AVal) (st:St):Option (Nat×Nat×List AVal×List (Nat×List AVal)×Option Nat):=match x,y with
 |.gsl w j len,.str s=>match Ag st.m j,KI E.P t0 with|some cs,some (z,by_)=>if w=1/\z=1/\len<=cs.length/\(len+s.length) * by_<=140737488355328/\len+s.length<=CX/\Ih E.P t1=none/\Ah E.P t1=true then some (1,len+s.length,cs.take len++u8s s,Dm st.m j,some j)else none|_,_=>none
 |_,_=>none
def AFI (l:B8): ∀x,x∈u8s l->(∀O w v,VM.own O w x v)/\∀b v,cnt b x v=0:=by intro x hx;obtain⟨c,_,rfl⟩:=bk.1 hx;grind[VM.own,cnt]
theorem AaT: ∀l:B8,RepL O (u8s l) (l.map λb=>Value.int .u8 b.toNat)|[]=>.nil|c::l=>.cons (.int _ _) (AaT l)
set_option maxHeartbeats 1000000 in theorem Afp (hs:Sim E F O st w af a.tmps.toList){o:Oper}{x y:Operand}{t0 t1:TypeId}{ts:List TypeId}{wd l:Nat}{cs:List AVal}{rest:List (Nat×List AVal)}{jo:Option Nat} (hop:o.op=.call {callee:=.builtin .append,args:=#[x,y],argTypes:=⟨t0::t1::ts⟩}) (h:Ae6 E t0 t1 (rd E af t0 x) (rd E af t1 y) st=some (wd,l,cs,rest,jo)):∃i,(i=st.next\/jo=some i)/\∃nx w' a' O',Stepped E F O st w a o (Ac af o.dst (.gsl wd i l)) {m:=(i,cs)::rest,next:=st.next+1} nx w' a' O':=by
 have hx:=hs.rd t0 x;have hy:=hs.rd t1 y;generalize rd E af t0 x=ax at *;generalize rd E af t1 y=ay at *;generalize hvx:a.eval x=vx at *;generalize hvy:a.eval y=vy at *;unfold Ae6 at h;split at h;rotate_left;·cases h
 rename_i wx j len str;split at h;rotate_left;·cases h
 rename_i cs0 z by_ hgj hap;split at h;rotate_left;·cases h
 rename_i hc;obtain⟨rfl,rfl,hcl,hroom,h62,hint,hkn⟩:=hc;simp only[ag,aA]at h;obtain⟨rfl,rfl,rfl,rfl,rfl⟩:=h;obtain⟨e,i,zv,hu,hi,hz,hzs,his,hib⟩:=MU hap;obtain⟨d1,hd1⟩:=Cv hkn;cases hy with
 |str sb hsn=>
  have src:=AZz (E:=E) (O:=O) (w:=w) (s:=sb) (wd:=1) rfl;generalize hnews:(sb.data.toList.map λb=>Value.int .u8 b.toNat)=news at src;have hys:(sb.data.toList.map λb=>AVal.int .u8 b.toNat)=u8s sb.data.toList:=rfl;rw[hys]at src;generalize sb.data.toList=str at *;have hul:(u8s str).length=str.length:=by grind
  have hnl:news.length=str.length * 1:=by grind
  have hrn:RepL O (u8s str) news:=by grind[AaT]
  have hone: ∀v,v∈news->v.oneCell'=true:=src.one;have hon: ∀(O':Ghost) (w':World),ownL O' w' (u8s str) news:=λO' w'=>Sw _ _ λx hx=>(AFI str x hx).1 O' w';have hcn: ∀b vs,AP b (u8s str) vs=0:=λb vs=>TU b _ vs λx hx=>(AFI str x hx).2 b;have hl1: ∀w',(Builtin.lenOf (.string sb)).run E.P w'=.ok str.length w':=λw'=>by have:=src.len w';grind
  have hf1: ∀w',(∀b o,w'.cell? ⟨b,o,none⟩=w.cell? ⟨b,o,none⟩)->(Builtin.firstCells 1 str.length (.string sb)).run E.P w'=.ok news.toArray w':=λw' q=>by have:=src.first w' q;grind
  cases hx with
  |gsl hbj hbtj hcj hczj=>
   rename_i bj capj sj Tj;have hs2:Sim E F O {st with m:=(j,cs0)::Dm st.m j} w af a.tmps.toList:=hs.perm (Kg hgj);have hg2:Ag ((j,cs0)::Dm st.m j) j=some cs0:=by simp[Ag]
   obtain⟨bj',arrj,ej,hboxj⟩:=hs2.box hg2 hbj;have:bj'=bj:=by have:=hboxj.bx;grind
   subst this;obtain⟨loj,hij,hhj,hfj⟩:=hboxj.heap;obtain⟨rfl,hsj⟩:=hboxj.ty _ _ hbtj;have hcm2: ∀b,Ap O w b st.m=AP b cs0 arrj.toList+Ap O w b (Dm st.m j):=λb=>by rw[VX (Kg hgj),Ap];grind[DK,hcells]
   have hle:=hboxj.le;have hol:(arrj.toList.take (len * 1)).length=len * 1:=by grind
   have htt:(arrj.toList.take cs0.length).take (len * 1)=arrj.toList.take (len * 1):=by grind
   have hro:RepL O (cs0.take (len * 1)) (arrj.toList.take (len * 1)):=by have:=hboxj.rep.takeA (len * 1);grind
   have hoo:ownL O w (cs0.take (len * 1)) (arrj.toList.take (len * 1)):=hboxj.own.takeA _;have hco: ∀b,AP b (cs0.take (len * 1)) (arrj.toList.take (len * 1))<=AP b cs0 arrj.toList:=λb=>We b _ _ _;have ho1: ∀v,v∈arrj.toList.take (len * 1)->v.oneCell'=true:=λv hv=>hboxj.one v (by grind);have e11:len * 1=len:=fA _;by_cases hfits:len+str.length<=capj
   ·refine⟨j,.inr rfl,?_⟩;have hroomj:len+str.length<=arrj.size:=fH;obtain⟨w1,arr',r1,q1,q2,q3,q4,q5,q6,q7,q8⟩:=D7 (P:=E.P) (b:=bj') (base:=0+len * 1) news 0 arrj w hhj hfj fH hone;have q2':arr'.toList=arrj.toList.take (len * 1)++news++(arrj.toList.drop (len * 1)).drop (str.length * 1):=by rw[q2,bW,bI];grind[J5,Array.length_toList,List.length_drop,List.take_append_drop]
    have hcl':(cs0.take (len * 1)++u8s str).length=(arrj.toList.take (len * 1)++news).length:=by grind
    have htake:arr'.toList.take (cs0.take (len * 1)++u8s str).length=arrj.toList.take (len * 1)++news:=by grind
    have hfz: ∀q,q<arr'.size->¬(loj<=q/\q<hij):=by grind
    obtain⟨s3,x3⟩:=hs2.setBox (w':=w1) (cs':=cs0.take (len * 1)++u8s str) (arr':=arr') (lo:=loj) (hi:=hij) hg2 hboxj q1 hfz q4 q5 q6 q7 q8 (by rw[htake];exact hro.cat hrn) (by rw[<-Nt,htake];grind[ownL.cat]) (by grind) (λb=>by
     have e1:AP b (cs0.take (len * 1)++u8s str) arr'.toList=AP b (cs0.take (len * 1)) (arrj.toList.take (len * 1))+AP b (u8s str) news:=by grind[Nq,X9]
     rw[e1,hcn b];have e2:Ap O w b ((j,cs0)::Dm st.m j)=AP b cs0 arrj.toList+Ap O w b (Dm st.m j):=by simp_all[Ap,DK,hcells]
     show F b+AP b af a.tmps.toList+_+Ap O w b ((j,cs0)::Dm st.m j)<=_;rw[e2];have:=hs.tok b;grind) q3;have hms:A7 ((j,cs0)::Dm st.m j) j (cs0.take (len * 1)++u8s str)=(j,cs0.take (len * 1)++u8s str)::Dm st.m j:=by simp[A7]
    simp only[hms]at s3;have s4:=s3.later;have hargs:Array.map a.eval #[x,y]= #[.slice (some ⟨bj',0,none⟩) len capj,.string sb]:=by grind
    have hf1':=hf1 w (λ_ _=>rfl);rw[<-his]at hf1' r1;have hrun:(Builtin.append_ ⟨t0::t1::ts⟩ o.type #[.slice (some ⟨bj',0,none⟩) len capj,.string sb]).run E.P w=.ok (.slice (some ⟨bj',0,none⟩) (len+str.length) capj) w1:=by rw[LG hu hi hd1 hint (hl1 w) hfits hf1'];simp only[addr_add];simp_all
    refine⟨.value (.slice (some ⟨bj',0,none⟩) (len+str.length) capj),_,a.put o.dst (.slice (some ⟨bj',0,none⟩) (len+str.length) capj),_,?_,λK Q hk=>hk,put_defers _ _ _,x3,fI,?_⟩;·simp only[execOp,hop,resolve,hargs,aI,bu,aC,invoke,builtin];simp_all
    ·rw[e11]at s4;refine s4.put o.dst (.gsl hbj hbtj ⟨hfits,h62⟩ hczj) (by simp[VM.own]) λb=>?_;have:=s4.tok b;grind[cnt]
   ·refine⟨st.next,.inl rfl,?_⟩;have hf0:=Y5 (P:=E.P) (wd:=1) (n:=len) (len:=len) (cap:=capj) hhj rfl hol;have key:=Wi (hs:=hs) (csO:=cs0.take (len * 1)) (ys:=u8s str) (rest:=Dm st.m j) (k:=str.length) hop hvx hvy hu hi hz fH his hib hd1 hint hroom h62 hcj.1 hfits hl1 (hf1 w.drew (λ_ _=>rfl)) (hf0 w.drew rfl) hro hrn hol hnl ho1 hone hoo (hon _ _) (SY _ _) (λb=>by have:=hs.tok b;grind);grind
def appG (E:Env) (t0 t1:TypeId) (x y:AVal) (st:St):Option (Nat×Nat×List AVal×List (Nat×List AVal)×Option Nat):=match y with|.str s=>Ae6 E t0 t1 x (.str s) st|y=>ARf E t0 t1 x y st
def Aey (hs:Sim E F O st w af a.tmps.toList){o:Oper}{x y:Operand}{t0 t1:TypeId}{ts:List TypeId}{wd l:Nat}{cs:List AVal}{rest:List (Nat×List AVal)}{jo:Option Nat} (hop:o.op=.call {callee:=.builtin .append,args:=#[x,y],argTypes:=⟨t0::t1::ts⟩}) (h:appG E t0 t1 (rd E af t0 x) (rd E af t1 y) st=some (wd,l,cs,rest,jo)):∃i,(i=st.next\/jo=some i)/\∃nx w' a' O',Stepped E F O st w a o (Ac af o.dst (.gsl wd i l)) {m:=(i,cs)::rest,next:=st.next+1} nx w' a' O':=by unfold appG at h;grind[Afp,Adn]
theorem QL{m:List (Nat×List AVal)}{i j:Nat}{x:List AVal} (h:j≠i):Ag (A7 m i x) j=Ag m j:=by induction m<;>grind[A7,Ag]
def Sim.unshCell (hs:Sim E F O st w af a.tmps.toList){i j c:Nat}{cs:List AVal}{x:AVal} (hij:j≠i) (hg:Ag st.m j=some cs) (h2:2<=cs.length) (hc:cs[c]?=some (.sh i)) (hi:Ag st.m i=some [x]):Sim E F O {st with m:=A7 (A7 st.m i [x.strip]) j (cs.set c x)} w af a.tmps.toList:=by
 rcases hs.box_ok _ (Lj hg)with⟨b,arr,e,hb⟩|⟨v,hv⟩;rotate_left;·have:=hv.rep.length;grind
 obtain⟨lo,hi',hh,hf⟩:=hb.heap;obtain⟨u,hu,hru⟩:=hb.rep.get? hc;have hua:=List.getElem?_take_some hu;cases hru with
 | sh hsx hk=>
  have hsh:=AuS hs hsx hi;have hrx:Rep O x u:=by have:=hsh.rep;cases this;omega
  have hox:VM.own O w x u:=by have:=hsh.own;grind[ownL]
  have hcm: ∀n,Ap O w n (A7 st.m i [x.strip])+cnt n x u=Ap O w n st.m:=λn=>by
   have e1:=Ir (O:=O) (O':=O) (w:=w) (w':=w) (b:=n) (x:=[x.strip]) hs.keys hi (λp hp hne=>rfl);have e2:=hsh.cnt n;have e3:DK O w n (i,[x.strip])=0:=by simp only[DK,hsh.bx,hsh.sx];simp[AP,Iw]
   grind[AP]
  have s1:=hs.setSh hi hsh (cs':=[x.strip]) (.cons hrx.strip .nil) (by grind[ownL,MO]) (λn=>by have:=hs.tok n;grind[AP,Iw]);have hg1:Ag (A7 st.m i [x.strip]) j=some cs:=by grind[QL]
  have hset:arr.toList=arr.toList.set c u:=by apply cd;grind
  have hset2:arr.toList.take cs.length=(arr.toList.take cs.length).set c u:=by apply cd;grind
  have hr':RepL O (cs.set c x) (arr.toList.take (cs.set c x).length):=by rw[bZ,hset2];exact hb.rep.set c hrx
  have ho':ownL O w (cs.set c x) arr.toList:=by have:=hb.own.set c hox;grind
  refine(s1.setBox (w':=w) (cs':=cs.set c x) (arr':=arr) (lo:=lo) (hi:=hi') hg1 hb hh hf (λ_ _=>rfl) rfl rfl rfl rfl hr' ho' (by rw[bZ];exact hb.one) (λn=>?_) rfl).1;have h1:=H6 n cs arr.toList c x u;rw[<-hset]at h1;have:=hs.tok n;grind
end
end Go.VM
namespace Go.VM
section
variable{E:Env}{F:Nat->Nat}{O:Ghost}{st:St}{w:World}{af:List AVal}{a:Act}
def KQ (st:St) (x:AVal):Option (Nat×Nat×List AVal):=match x with
 |.sh i=>match Ag st.m i with|some [.vec w xs]=>some (i,w,xs)|_=>none
 |_=>none
def ACA{x:AVal}{i wd:Nat}{xs:List AVal} (h:KQ st x=some (i,wd,xs)):x=.sh i/\Ag st.m i=some [.vec wd xs]:=by
 unfold KQ at h;split at h
 ·split at h;·rename_i hg;cases h;exact⟨rfl,hg⟩
  ·cases h
 ·cases h
def P6{tm:List Value} (hs:Sim E F O st w af tm){x:AVal}{v:Value}{i wd:Nat}{xs:List AVal} (h:KQ st x=some (i,wd,xs)) (hr:Rep O x v):Ag st.m i=some [.vec wd xs]/\O.sx i=some v/\Tz O w wd xs v:=by obtain⟨rfl,hg⟩:=ACA h;cases hr with|sh hsx hk=>have hv:=(ABr hs hsx hg).own;simp only[ownL,VM.own,cF]at hv;exact⟨hg,hsx,hv⟩
def Sim.vecDrop{tm:List Value} (hs:Sim E F O st w af tm){i wd:Nat}{xs:List AVal}{v:Value} (hsx:O.sx i=some v) (hg:Ag st.m i=some [.vec wd xs]):Sim E F O {st with m:=A7 st.m i [.any]} w af tm/\∀n,F n+AP n af tm+Ap O w n (A7 st.m i [.any])+CO n v<=1:=by
 have hv:=ABr hs hsx hg;have hc1: ∀n,AP n [.vec wd xs] [v]=CO n v:=λn=>by simp[AP,cnt]
 have hcm: ∀n,Ap O w n (A7 st.m i [.any])+CO n v=Ap O w n st.m:=λn=>by
  have e1:=Ir (O:=O) (O':=O) (w:=w) (w':=w) (b:=n) (x:=[.any]) hs.keys hg (λp hp hne=>rfl);have e2:=hv.cnt n;rw[hc1]at e2;have e3:DK O w n (i,[.any])=0:=by simp only[DK,hv.bx,hv.sx];simp[AP,cnt]
  omega
 refine⟨hs.setSh hg hv (.cons (.any _) .nil) (by simp[ownL,VM.own]) (λn=>by rw[hc1];have:=hs.tok n;simp only[AP,cnt];omega),λn=>?_⟩;have:=hs.tok n;have:=hcm n;omega
def AAv{wd:Nat}{xs:List AVal}{v:Value} (h:Tz O w wd xs v): ∃base cap olds,v=.slice base xs.length cap/\xs.length<=cap/\RepS O wd xs olds/\olds.length=xs.length * wd/\(∀c,c∈olds->c.oneCell'=true)/\∀w',(∀b o,w'.cell? ⟨b,o,none⟩=w.cell? ⟨b,o,none⟩)->(Builtin.firstCells wd xs.length v).run E.P w'=.ok olds.toArray w':=by
 rcases h with⟨rfl,rfl⟩|⟨b,off,cap,arr,e,lo,hi,rfl,h1,h2,h3,h4,h5,h6,h7⟩;·exact⟨none,0,[],rfl,av _,.nil _ _,fI,fI,λw' _=>by simp[Builtin.firstCells]⟩
 ·have hlen:((arr.toList.drop off).take (xs.length * wd)).length=xs.length * wd:=by rw[bg];have:=h7.len;omega
  refine⟨_,cap,(arr.toList.drop off).take (xs.length * wd),rfl,h4,h7.takeCells,hlen,h7.takeOne,λw' hw=>?_⟩;refine dF (P:=E.P) w' wd xs.length ⟨b,off,none⟩ xs.length cap _ hlen λj u hj=>?_;rw[addr_add,hw];rw[dc]at hj;split at hj;·rw[bV]at hj;simp only[World.cell?,h1];simpa using hj
  ·cases hj
def AAN (E:Env) (t0 t1:TypeId) (x y:AVal) (st:St):Option St:=match KQ st x with
 |some (i,wd,xs)=>match KI E.P t0,QP wd y with|some (z,by_),some ys=>if z=wd/\Ih E.P t1=none/\Ah E.P t1=true/\(xs.length+ys.length) * by_<=140737488355328/\xs.length+ys.length<=CX then some {m:=(st.next,[.vec wd (xs++ys)])::A7 st.m i [.any],next:=st.next+1}else none|_,_=>none
 |none=>none
set_option maxHeartbeats 1000000 in theorem APB{st0:St} (hnx:st0.next=st.next){o:Oper}{z:Nat}{xs:List AVal}{O1:Ghost}{w1:World}{v1:Value} (x1:Ext F O w O1 w1) (s1:Sim E F O1 st0 w1 af a.tmps.toList) (hov1:Tz O1 w1 z xs v1) (ht1: ∀n,F n+AP n af a.tmps.toList+CO n v1+Ap O1 w1 n st0.m<=1) (hv1:v1.cells= #[v1]/\v1.oneCell'=true) (hrun:(execOp a.eval o).run E.P w=.ok (.value v1) w1): ∃nx w' a' O',Stepped E F O st w a o (Ac af o.dst (.sh st.next)) {m:=(st.next,[.vec z xs])::st0.m,next:=st.next+1} nx w' a' O':=by obtain⟨s2,x2⟩:=s1.newSh (x:=.vec z xs) (v:=v1) (.vec _ _ _) (by simpa only[VM.own]using hov1) (λn=>by simp only[cnt];exact ht1 n);rw[hnx]at s2 x2;refine⟨.value v1,w1,a.put o.dst v1,_,hrun,λK Q hk=>hk,put_defers _ _ _,x1.trans x2,fI,?_⟩;refine s2.put o.dst (.sh (by simp[Ghost.num]) hv1) (by simp[VM.own]) λb=>?_;have:=s2.tok b;simp only[cnt];omega
def APj{st0:St} (s0:Sim E F O st0 w af a.tmps.toList) (hnx:st0.next=st.next){o:Oper}{t0 t1 e:TypeId}{ts:List TypeId}{ti:TypeInfo}{zv:Value}{d1:TypeDesc}{z by_ cap:Nat}{base:Option Addr}{xs ys:List AVal}{olds news:List Value}{vy:Value} (hexec: ∀r,(Builtin.append_ ⟨t0::t1::ts⟩ o.type #[.slice base xs.length cap,vy]).run E.P w=r->(execOp a.eval o).run E.P w=r.andThen λv w'=>.ok (.value v) w') (hu:E.P.underlying t0=some (.slice e)) (hi:E.P.info? e=some ti) (hz:ti.zero=some zv) (hzs:zv.cells.size=z) (his:ti.size=z) (hib:ti.bytes=by_) (hd1:E.P.underlying t1=some d1) (hint:Ih E.P t1=none) (src:Src E O w z ys vy news) (hfit: ¬xs.length+ys.length<=cap) (hcap:xs.length<=cap) (hro:RepS O z xs olds) (hol:olds.length=xs.length * z) (hof: ∀w',(∀b o,w'.cell? ⟨b,o,none⟩=w.cell? ⟨b,o,none⟩)->(Builtin.firstCells z xs.length (.slice base xs.length cap)).run E.P w'=.ok olds.toArray w') (hroom:(xs.length+ys.length) * by_<=140737488355328) (h62':xs.length+ys.length<=CX):∃nx w' a' O',Stepped E F O st w a o (Ac af o.dst (.sh st.next)) {m:=(st.next,[.vec z (xs++ys)])::st0.m,next:=st.next+1} nx w' a' O':=by
 have h62:xs.length+ys.length<=4611686018427387904:=h62';have h63: ¬(9223372036854775807<((xs.length:Int)+(ys.length:Int))):=fH;have h48: ¬(281474976710656<Builtin.nextslicecap (xs.length+ys.length) cap * ti.bytes):=by have:=eJ (need:=xs.length+ys.length) (old:=cap) (bytes:=ti.bytes) fH (by rw[hib];exact hroom);omega
 have hl1:=src.len w;have hf1:=src.first w.drew (λ_ _=>rfl);have hf0:=hof w.drew (λ_ _=>rfl);rw[<-his]at hf1 hf0;generalize hnc:grownCap w (xs.length+ys.length) cap e=nc;have hge:xs.length+ys.length<=nc:=by rw[<-hnc];exact d9 _ _ _ _
 have hrun:(Builtin.append_ ⟨t0::t1::ts⟩ o.type #[.slice base xs.length cap,vy]).run E.P w=.ok (.slice (some ⟨w.heap.size,0,none⟩) (xs.length+ys.length) nc) (w.drew.alloc (.cells (olds.toArray++news.toArray++Builtin.zeroCells zv.cells (nc-(xs.length+ys.length))) e)):=by
  subst hnc;have e3:IntKind.i64.max=9223372036854775807:=fJ;have h64: ¬(((xs.length+ys.length:Nat):Int)>IntKind.i64.max):=by rw[e3];omega
  exact NH hu hi hz hd1 hint hl1 hfit fH h64 hf0 hf1
 obtain⟨s2,x2,hcm⟩:=s0.drew.newArr (cells:=olds.toArray++news.toArray++Builtin.zeroCells zv.cells (nc-(xs.length+ys.length))) (e:=e) (pre:=[]) (spare:=(olds.toArray++news.toArray++Builtin.zeroCells zv.cells (nc-(xs.length+ys.length))).toList) (fz:=(0,0)) fI fI;have x0:Ext F O w O w.drew:=⟨O.le_refl,λ_ _=>⟨rfl,rfl⟩,av _,rfl,rfl,rfl⟩;have hE:=hexec _ hrun;refine APB hnx (v1:=.slice (some ⟨w.heap.size,0,none⟩) (xs.length+ys.length) nc) (x0.trans x2) s2 (.inr ⟨w.heap.size,0,nc,_,e,0,0,fI,Nv _,fH,by simp[Ghost.arr],by simpa using hge,by simpa using h62',?_,?_⟩) (λn=>?_) ⟨rfl,rfl⟩ hE;·simp only[eU,dn,hol,src.size,Builtin.zeroCells,eK,d5,hzs,<-cA];rw[bI];apply bL;omega
 ·rw[aO];simp only[Array.toList_append,aH];have:=RepS.append (hro.mono (x0.trans x2).le) hol (src.rep.mono (x0.trans x2).le);rw[<-aH];exact this.more _
 ·have h9:=hcm n;have e9:CO n (.slice (some ⟨w.heap.size,0,none⟩) (xs.length+ys.length) nc)=if n=w.drew.heap.size then 1 else 0:=by
   simp only[CO];show(if w.heap.size=n then 1 else 0)=if n=w.heap.size then 1 else 0;by_cases h:n=w.heap.size;·rw[an h.symm,an h]
   ·rw[aj (λk=>h k.symm),aj h]
  rw[e9];try simp only at h9
  omega
set_option maxHeartbeats 1000000 in theorem AEx (hs:Sim E F O st w af a.tmps.toList){o:Oper}{x y:Operand}{t0 t1:TypeId}{ts:List TypeId}{st':St} (hop:o.op=.call {callee:=.builtin .append,args:=#[x,y],argTypes:=⟨t0::t1::ts⟩}) (h:AAN E t0 t1 (rd E af t0 x) (rd E af t1 y) st=some st'):∃nx w' a' O',Stepped E F O st w a o (Ac af o.dst (.sh st.next)) st' nx w' a' O':=by
 have hx:=hs.rd t0 x;have hy:=hs.rd t1 y;generalize rd E af t0 x=ax at *;generalize rd E af t1 y=ay at *;generalize hvx:a.eval x=vx at *;generalize hvy:a.eval y=vy at *;unfold AAN at h;split at h;rotate_left;·cases h
 rename_i i wd xs hva;split at h;rotate_left;·cases h
 rename_i z by_ ys hap hsrc;split at h;rotate_left;·cases h
 rename_i hc;obtain⟨rfl,hint,hkn,hroom,h62'⟩:=hc;have h62:xs.length+ys.length<=4611686018427387904:=h62';simp only[ag]at h;subst h;obtain⟨hg,hsx,hov⟩:=P6 hs hva hx;obtain⟨e,ti,zv,hu,hi,hz,hzs,his,hib⟩:=MU hap;obtain⟨news,src⟩:=TN hs hy hsrc;obtain⟨d1,hd1⟩:=Cv hkn;have hargs:Array.map a.eval #[x,y]= #[vx,vy]:=by simp[hvx,hvy]
 have hexec: ∀r,(Builtin.append_ ⟨t0::t1::ts⟩ o.type #[vx,vy]).run E.P w=r->(execOp a.eval o).run E.P w=r.andThen λv w'=>.ok (.value v) w':=by intro r hr;simp only[execOp,hop,resolve,hargs,aI,bu,aC,invoke,builtin];rw[hr]
 obtain⟨base,cap,olds,rfl,hcap,hro,hol,ho1,hof⟩:=AAv (E:=E) hov;obtain⟨s0,ht0⟩:=hs.vecDrop hsx hg;by_cases hfit:xs.length+ys.length<=cap
 ·have hfirst:=src.first w (λ_ _=>rfl);rw[<-his]at hfirst;rcases hov with⟨hnil,hv⟩|⟨b,off,cap',arr,e',lo,hi',hv,h1,hf,hcom,_,hmx,hsz,hS⟩
  ·subst hnil;simp only[ap,dT]at hv;obtain⟨rfl,_,rfl⟩:=hv;have hys:ys=[]:=bw (by simp only[ap]at hfit;omega);subst hys;refine APB (st:=st) (st0:={st with m:=A7 st.m i [.any]}) (z:=z) (xs:=[]++[]) rfl (Ext.refl _ _ _) s0 (.inl ⟨rfl,rfl⟩) (λn=>?_) ⟨rfl,rfl⟩ ?_;·have:=ht0 n;simp only[CO]at this⊢;omega
   ·refine hexec (.ok _ _) ?_;rw[LG hu hi hd1 hint (src.len w) hfit hfirst];rfl
  ·cases hv;have hnl:news.length=ys.length * z:=src.size;have hle:(xs.length+ys.length) * z<=cap * z:=bL _ hfit;rw[cA]at hle;obtain⟨w',arr',r1,q1,q2,q3,q4,q5,q6,q7,q8⟩:=D7 (P:=E.P) (b:=b) (base:=off+xs.length * z) news 0 arr w h1 hf fH src.one;obtain⟨s2,x2,hc2,hv2,hg2,ht2⟩:=hs.vecTo hsx hg h1 q1 q4 q5 q6 q7 q8;refine APB (st:=st) (st0:={st with m:=A7 st.m i [.any]}) (z:=z) (xs:=xs++ys) rfl (v1:=.slice (some ⟨b,off,none⟩) (xs.length+ys.length) cap) x2 s2 (.inr ⟨b,off,cap,arr',e',lo,hi',fI,q1,by rw[q3];exact hf,hc2,by simpa using hfit,by simpa using h62',by rw[q3];exact hsz,?_⟩) (λn=>?_) ⟨rfl,rfl⟩ ?_
   ·rw[q2,bW,ZF _ _ _ _ (by rw[aD];omega)];have hA:((arr.toList.drop off).take (xs.length * z)).length=xs.length * z:=by rw[bg];have:=hS.len;omega
    have hD:((arr.toList.drop off).drop (xs.length * z)).length=arr.size-off-xs.length * z:=by rw[aP,aP,aD]
    have hS1:=hS.takeCells;have hdec:arr.toList.drop off=(arr.toList.drop off).take (xs.length * z)++(arr.toList.drop off).drop (xs.length * z):=(bM _ _).symm;rw[hdec];generalize (arr.toList.drop off).take (xs.length * z)=A at hA hS1;generalize (arr.toList.drop off).drop (xs.length * z)=D at hD;rw[show xs.length * z=A.length+0 by omega,RA,AFf fH,<-aH];exact(RepS.append (hS1.mono x2.le) hA (src.rep.mono x2.le)).more _
   ·have:=ht2 n;simp only[CO];omega
   ·refine hexec (.ok _ _) ?_;rw[<-his]at r1;rw[LG hu hi hd1 hint (src.len w) hfit hfirst];simp only[addr_add];rw[aI,r1];rfl
 ·exact APj (st:=st) s0 rfl hexec hu hi hz hzs his hib hd1 hint src hfit hcap hro hol hof hroom h62'
def ABE (E:Env) (t:TypeId) (x:AVal) (st:St):Option AVal:=match KQ st x with|some (_,_,xs)=>if BZ E.P t=true then some (.int .i64 xs.length)else none|none=>none
def AbX (hs:Sim E F O st w af a.tmps.toList){o:Oper}{x:Operand}{t0:TypeId}{ts:List TypeId}{r:AVal} (hop:o.op=.call {callee:=.builtin .len,args:=#[x],argTypes:=⟨t0::ts⟩}) (h:ABE E t0 (rd E af t0 x) st=some r): ∃nx w' a' O',Stepped E F O st w a o (Ac af o.dst r) st nx w' a' O':=by
 have hx:=hs.rd t0 x;generalize rd E af t0 x=ax at *;generalize hvx:a.eval x=vx at *;unfold ABE at h;split at h;rotate_left;·cases h
 rename_i i wd xs hva;split at h;rotate_left;·cases h
 rename_i ht;simp only[ag]at h;subst h;obtain⟨_,_,hov⟩:=P6 hs hva hx;obtain⟨base,cap,olds,rfl,_⟩:=AAv (E:=E) hov;obtain⟨e,hu⟩: ∃e,E.P.underlying t0=some (.slice e):=by unfold BZ at ht;split at ht<;>simp_all
 have hrun:(execOp a.eval o).run E.P w=.ok (.value (.int .i64 xs.length)) w:=by
  have hargs:Array.map a.eval #[x]= #[.slice base xs.length cap]:=by simp[hvx]
  simp only[execOp,hop,resolve,hargs,aI,bu,aC,invoke,builtin];have:(Builtin.len_ ⟨t0::ts⟩ o.type #[.slice base xs.length cap]).run E.P w=.ok (.int .i64 xs.length) w:=by simp[Builtin.len_,aG hu,goInt]
  rw[this];rfl
 refine⟨_,w,a.put o.dst _,O,hrun,λK Q hk=>hk,put_defers _ _ _,Ext.refl _ _ _,av _,?_⟩;refine hs.put o.dst (.int _ _) (by simp[VM.own]) λb=>?_;have:=hs.tok b;simp only[cnt];omega
def RB (E:Env) (t:TypeId) (x i:AVal) (st:St):Option AVal:=match KQ st x,i with|some (j,wd,xs),.int _ n=>if Bj E.P t=some wd/\0<=n/\n<xs.length then some (.vptr j wd n.toNat 0)else none|_,_=>none
def ARW (hs:Sim E F O st w af a.tmps.toList){o:Oper}{t:TypeId}{x i:Operand}{r:AVal} (hop:o.op=.indexAddr t x i) (h:RB E t (rd E af t x) (rd E af 0 i) st=some r):∃nx w' a' O',Stepped E F O st w a o (Ac af o.dst r) st nx w' a' O':=by
 have hx:=hs.rd t x;have hi:=hs.rd 0 i;generalize rd E af t x=ax at *;generalize rd E af 0 i=ai at *;generalize hvx:a.eval x=vx at *;generalize hvi:a.eval i=vi at *;unfold RB at h;split at h;rotate_left;·cases h
 rename_i j wd xs kd n hva;split at h;rotate_left;·cases h
 rename_i hc;obtain⟨hsl,hn0,hn1⟩:=hc;simp only[ag]at h;subst h;obtain⟨hg,hsx,hov⟩:=P6 hs hva hx;rcases hov with⟨rfl,_⟩|⟨b,off,cap,arr,e,lo,hi',rfl,_,_,_,hcap,_⟩;·simp only[ap]at hn1;omega
 cases hi;obtain⟨el,hu,hz⟩:=Bp hsl;have hrun:(Instr.indexAt t (.slice (some ⟨b,off,none⟩) xs.length cap) (.int kd n)).run E.P w=.ok (.pointer (some ⟨b,off+(n.toNat * wd+0),none⟩)) w:=by have h3:n.toNat<xs.length:=fH;simp[Instr.indexAt,asIntOf,aG hu,hn0,hn1,h3,DN hz,addr_add]
 refine⟨.value (.pointer (some ⟨b,off+(n.toNat * wd+0),none⟩)),w,a.put o.dst (.pointer (some ⟨b,off+(n.toNat * wd+0),none⟩)),O,?_,λK Q hk=>hk,put_defers _ _ _,Ext.refl _ _ _,av _,?_⟩;·simp only[execOp,hop,hvx,hvi];rw[aI,hrun];rfl
 ·refine hs.put o.dst (.vptr hsx) (by simp[VM.own]) λm=>?_;have:=hs.tok m;simp only[cnt];omega
def SB (E:Env) (t:TypeId) (x:AVal) (lo hi mx:Option Int) (st:St):Option St:=match KQ st x with|some (i,wd,xs)=>if Bj E.P t=some wd/\mx=none/\0<=lo.getD 0/\lo.getD 0<=hi.getD xs.length/\hi.getD xs.length<=xs.length then some {m:=(st.next,[.vec wd ((xs.drop (lo.getD 0).toNat).take ((hi.getD xs.length).toNat-(lo.getD 0).toNat))])::A7 st.m i [.any],next:=st.next+1}else none|none=>none
def ASF (hs:Sim E F O st w af a.tmps.toList){o:Oper}{t:TypeId}{x:Operand}{lo hi mx:Option Operand}{l h m:Option Int}{st':St} (hop:o.op=.slice t x lo hi mx) (hl:rdo E af lo=some l) (hh:rdo E af hi=some h) (hm:rdo E af mx=some m) (hr:SB E t (rd E af t x) l h m st=some st'):∃nx w' a' O',Stepped E F O st w a o (Ac af o.dst (.sh st.next)) st' nx w' a' O':=by
 obtain⟨kl,el⟩:=QZ hs hl;obtain⟨kh,eh⟩:=QZ hs hh;obtain⟨km,em⟩:=QZ hs hm;have hx:=hs.rd t x;generalize rd E af t x=ax at *;generalize hvx:a.eval x=vx at *;unfold SB at hr;split at hr;rotate_left;·cases hr
 rename_i i wd xs hva;split at hr;rotate_left;·cases hr
 rename_i hc;obtain⟨hsl,rfl,h0,h1,h2⟩:=hc;simp only[ag]at hr;subst hr;obtain⟨hg,hsx,hov⟩:=P6 hs hva hx;obtain⟨s0,ht0⟩:=hs.vecDrop hsx hg;obtain⟨base,cap,olds,rfl,hcap,_⟩:=AAv (E:=E) hov;obtain⟨el',hu,hz⟩:=Bp hsl;have key:=Ij (E:=E) (w:=w) (isSlice:=true) (len:=xs.length) (cap:=cap) (kl:=kl) (kh:=kh) (km:=km) (lo:=l) (hi:=h) (mx:=none) rfl rfl rfl h0 h1 fK fI fI;generalize hl':l.getD 0=l0 at *;generalize hh':h.getD xs.length=h9 at *;have hrun:(execOp a.eval o).run E.P w=.ok (.value (.slice (if cap=l0.toNat then base else base.map (·.add (l0.toNat * wd))) (h9.toNat-l0.toNat) (cap-l0.toNat))) w:=by
  simp only[bS,cj,bH]at key em;have:(Instr.sliceAt t (.slice base xs.length cap) (l.map λn=>Value.int kl n) (h.map λn=>Value.int kh n) none).run E.P w=.ok (.slice (if cap=l0.toNat then base else base.map (·.add (l0.toNat * wd))) (h9.toNat-l0.toNat) (cap-l0.toNat)) w:=by simp[Instr.sliceAt,aG hu,Instr.slice,key,DN hz]
  simp_all [execOp]
 have hlen:((xs.drop l0.toNat).take (h9.toNat-l0.toNat)).length=h9.toNat-l0.toNat:=by rw[bg,aP];omega
 have hnew:Tz O w wd ((xs.drop l0.toNat).take (h9.toNat-l0.toNat)) (.slice (if cap=l0.toNat then base else base.map (·.add (l0.toNat * wd))) (h9.toNat-l0.toNat) (cap-l0.toNat))/\∀n,CO n (.slice (if cap=l0.toNat then base else base.map (·.add (l0.toNat * wd))) (h9.toNat-l0.toNat) (cap-l0.toNat))<=CO n (.slice base xs.length cap):=by
  rcases hov with⟨rfl,hv⟩|⟨b,off,cap',arr,e,lo',hi',hv,q1,q2,q3,q4,q5,q6,q7⟩;·simp only[ap,dT]at hv;obtain⟨rfl,_,rfl⟩:=hv;simp only[ap]at h2;have e1:l0.toNat=0:=fH;have e2:h9.toNat=0:=fH;rw[e1,e2];exact⟨.inl ⟨fI,rfl⟩,λn=>av _⟩
  ·simp only[dT]at hv;obtain⟨rfl,_,rfl⟩:=hv;by_cases hcl:cap=l0.toNat;·rw[an hcl];have e3:h9.toNat-l0.toNat=0:=fH;rw[e3,dr];have e4:cap-l0.toNat=0:=fH;rw[e4];exact⟨.inr ⟨b,off,0,arr,e,lo',hi',rfl,q1,q2,q3,av _,aK _,by rw[eA];exact bJ (Nat.le_add_right _ _) q6,.nil _ _⟩,λn=>av _⟩
   ·rw[aj hcl];refine⟨.inr ⟨b,off+l0.toNat * wd,cap-l0.toNat,arr,e,lo',hi',by rw[hlen];simp[addr_add],q1,q2,q3,by rw[hlen];omega,by rw[hlen];omega,?_,?_⟩,λn=>by simp[CO,addr_add]⟩
    ·have:l0.toNat * wd+(cap-l0.toNat) * wd=cap * wd:=by rw[<-cA];congr 1;omega
     omega
    ·rw[<-aT];exact(q7.drop _).take _
 obtain⟨hn1,hn2⟩:=hnew;obtain⟨s2,x2⟩:=s0.newSh (x:=.vec wd ((xs.drop l0.toNat).take (h9.toNat-l0.toNat))) (.vec _ _ _) (by simpa only[VM.own]using hn1) (λn=>by have:=ht0 n;have:=hn2 n;simp only[cnt];omega);refine⟨_,w,a.put o.dst (.slice (if cap=l0.toNat then base else base.map (·.add (l0.toNat * wd))) (h9.toNat-l0.toNat) (cap-l0.toNat)),_,hrun,λK Q hk=>hk,put_defers _ _ _,x2,fI,?_⟩;refine s2.put o.dst (.sh (by simp[Ghost.num]) ⟨rfl,rfl⟩) (by simp[VM.own]) λb=>?_;have:=s2.tok b;simp only[cnt];omega
def Sim.vecFreeze (hs:Sim E F O st w af a.tmps.toList){d i wd:Nat}{xs:List AVal} (hd:af.getD d .any=.sh i) (hg:Ag st.m i=some [.vec wd xs]){o:Bool} (hw:o=true->xs=[]->wd=1):∃O',Ext F O w O' w/\Sim E F O' {st with m:=A7 st.m i [.any]} w (af.set d (.slice wd xs o)) a.tmps.toList:=by
 have hr:=hs.rep.get d undef;rw[hd]at hr;generalize hv:a.tmps.toList.getD d undef=v at hr;have hset:a.tmps.toList=a.tmps.toList.set d v:=by rw[<-hv,Wu]
 cases hr with
 | sh hsx hk=>
  obtain⟨s0,ht0⟩:=hs.vecDrop hsx hg;have hov:=(ABr hs hsx hg).own;simp only[ownL,VM.own,cF]at hov;have fin: ∀O',Ext F O w O' w->Sim E F O' {st with m:=A7 st.m i [.any]} w af a.tmps.toList->Rep O' (.slice wd xs o) v->VM.own O' w (.slice wd xs o) v->(∀n,Ap O' w n (A7 st.m i [.any])=Ap O w n (A7 st.m i [.any]))->∃O',Ext F O w O' w/\Sim E F O' {st with m:=A7 st.m i [.any]} w (af.set d (.slice wd xs o)) a.tmps.toList:=by
   intro O' x1 s1 hr1 ho1 hm1;refine⟨O',x1,{s1 with rep:=?_,own:=?_,tok:=?_}⟩;·have:=s1.rep.set d hr1;rwa[<-hset]at this
   ·have:=s1.own.set d ho1;rwa[<-hset]at this
   ·intro n;have h1:=H6 n af a.tmps.toList d (.slice wd xs o) v;rw[<-hset]at h1;have h2:=ht0 n;have h3:cnt n (.slice wd xs o) v<=CO n v:=by cases o<;>simp only[cnt];exact aK _;exact WH
    have h4:=hm1 n;show F n+AP n (af.set d (.slice wd xs o)) a.tmps.toList+Ap O' w n (A7 st.m i [.any])<=1;omega
  rcases hov with⟨rfl,rfl⟩|⟨b,off,cap,arr,e,lo,hi,rfl,q1,q2,q3,q4,q5,q6,q7⟩;·exact fin O (Ext.refl _ _ _) s0 (.snil _ _ _) (by cases o<;>simp[VM.own,Km]) λ_=>rfl
  ·obtain⟨arr0,e0,fz0,hh0,_,hct0⟩:=hs.com_ok b [] q3;rw[q1]at hh0;cases hh0;have hz:=ht0 b;simp only[CO,aB]at hz;have hlen:=q7.len;rw[aP,aD]at hlen;have hle:xs.length * wd<=cap * wd:=bL _ q4;obtain⟨s2,x2,hcm⟩:=s0.grow (news:=arr.toList.take (off+xs.length * wd)) (rest:=arr.toList.drop (off+xs.length * wd)) (w':=w) q3 q1 fI (λ_ _=>rfl) rfl rfl rfl rfl (by show F b+_+Ap O w b (A7 st.m i [.any])=0;omega) hct0;have hcom:(O.ext b ([]++arr.toList.take (off+xs.length * wd))).com b=some (arr.toList.take (off+xs.length * wd)):=by simp[Ghost.ext]
   refine fin _ x2 s2 (.slice _ hcom rfl ⟨q4,q5⟩ ?_ λho h=>.inr (hw ho h)) ?_ hcm;·rw[List.drop_take,show off+xs.length * wd-off=xs.length * wd by omega];exact(q7.mono x2.le).takeCells
   ·cases o;·simp[VM.own]
    simp only[VM.own,Km];intro hlt;exact⟨arr,e,lo,hi,_,q1,q2,trivial,hcom,by show _=off+xs.length * wd;have e9:arr.toList.length=arr.size:=aD;rw[bg];omega,q6⟩
def AWJ (E:Env) (x:Operand) (t:TypeId):Option Nat:=match x with|.const (.slice none 0 0)=>Bj E.P t|_=>none
def AC0 (E:Env) (o:Oper):Option Nat:=match o.op with|.assign x=>AWJ E x o.type|_=>none
def AQy (hs:Sim E F O st w af a.tmps.toList){o:Oper}{wd:Nat} (h:AC0 E o=some wd): ∃nx w' a' O',Stepped E F O st w a o (Ac af o.dst (.vec wd [])) st nx w' a' O':=by
 unfold AC0 at h;split at h;rotate_left;·cases h
 rename_i x hop;unfold AWJ at h;split at h;·refine⟨.value (.slice none 0 0),w,a.put o.dst (.slice none 0 0),O,by simp[execOp,hop,Act.eval],λK Q hk=>hk,put_defers _ _ _,Ext.refl _ _ _,av _,?_⟩;refine hs.put o.dst (.vec _ _ _) (by simp only[VM.own];exact .inl ⟨rfl,rfl⟩) λb=>?_;have:=hs.tok b;simp only[cnt,CO];omega
 ·cases h
def nameV (af:List AVal) (x:Operand):Option (Nat×Nat×List AVal):=match x with
 |.tmp d=>match af.getD d .any with|.vec w xs=>some (d,w,xs)|_=>none
 |_=>none
def Sim.nameV (hs:Sim E F O st w af a.tmps.toList){d wd:Nat}{xs:List AVal} (hd:af.getD d .any=.vec wd xs):∃O',Ext F O w O' w/\Sim E F O' {m:=(st.next,[.vec wd xs])::st.m,next:=st.next+1} w (af.set d (.sh st.next)) a.tmps.toList/\Rep O' (.sh st.next) (a.tmps.toList.getD d undef):=by
 have hr:=hs.rep.get d undef;have ho:=hs.own.get hs.rep.length d undef;have hcs:=λn=>M4 n af a.tmps.toList d undef hs.rep.length;rw[hd]at hr ho hcs;generalize hv:a.tmps.toList.getD d undef=v at hr ho hcs;simp only[VM.own]at ho;obtain⟨base,cap,olds,hve,_⟩:=AAv (E:=E) ho;have e2:(AVal.vec wd xs).strip=.any:=by simp[AVal.strip]
 rw[e2]at hcs;have hs0:Sim E F O st w (af.set d .any) a.tmps.toList:=by have:=hs.stripAt (.tmp d);simpa only[VM.stripAt,hd,e2]using this
 obtain⟨s1,x1⟩:=hs0.newSh (x:=.vec wd xs) (v:=v) (.vec _ _ _) (by simpa only[VM.own]using ho) (λn=>by have:=hcs n;have:=hs.tok n;omega);have hsh:Rep (O.num st.next v) (.sh st.next) v:=.sh (by simp[Ghost.num]) (by rw[hve];exact⟨rfl,rfl⟩);have s2:Sim E F (O.num st.next v) {m:=(st.next,[.vec wd xs])::st.m,next:=st.next+1} w ((af.set d .any).set d (.sh st.next)) a.tmps.toList:=s1.resay (by rw[hv];exact hsh) (by simp[VM.own]) (λn=>by simp[cnt]);rw[fF]at s2;exact⟨_,x1,s2,hsh⟩
def AWK (hs:Sim E F O st w af a.tmps.toList){o:Oper}{x:Operand}{d wd:Nat}{xs:List AVal} (hop:o.op=.move x) (h:nameV af x=some (d,wd,xs)):∃nx w' a' O',Stepped E F O st w a o (Ac (af.set d (.sh st.next)) o.dst (.sh st.next)) {m:=(st.next,[.vec wd xs])::st.m,next:=st.next+1} nx w' a' O':=by
 unfold nameV at h;split at h;rotate_left;·cases h
 rename_i d';split at h;rotate_left;·cases h
 rename_i wd' xs' hd;simp only[ag,aA]at h;obtain⟨rfl,rfl,rfl⟩:=h;obtain⟨O',x1,s2,hsh⟩:=hs.nameV hd;generalize hv:a.tmps.toList.getD d' undef=v at hsh;have hev:a.eval (.tmp d')=v:=by rw[<-hv];simp[Act.eval,Array.getD_toList']
 refine⟨.value v,w,a.put o.dst v,_,by simp[execOp,hop,hev],λK Q hk=>hk,put_defers _ _ _,x1,fI,?_⟩;refine s2.put o.dst hsh (by simp[VM.own]) λb=>?_;have:=s2.tok b;simp only[cnt];omega
def ADK (b:Bool) (af:List AVal) (x:Operand) (st:St):Option (Nat×Nat×Nat×List AVal):=match b,x with|true,.tmp j=>(KQ st (af.getD j .any)).map λp=>(j,p.1,p.2.1,p.2.2)|_,_=>none
def Z0 (E:Env) (af:List AVal) (x:Operand) (t:TypeId) (st:St):Option (Nat×Nat×List AVal):=match x with|.tmp _=>KQ st (rd E af t x)|_=>none
def AWe (hs:Sim E F O st w af a.tmps.toList){o:Oper}{x:Operand}{i wd:Nat}{xs:List AVal} (hop:o.op=.assign x) (h:Z0 E af x o.type st=some (i,wd,xs)):∃nx w' a' O',Stepped E F O st w a o (Ac af o.dst (.vec wd xs)) {st with m:=A7 st.m i [.any]} nx w' a' O':=by
 unfold Z0 at h;split at h;rotate_left;·cases h
 rename_i d;obtain⟨hg,hsx,hov⟩:=P6 hs h (hs.rd o.type _);obtain⟨s0,ht0⟩:=hs.vecDrop hsx hg;refine⟨.value (a.eval (.tmp d)),w,a.put o.dst (a.eval (.tmp d)),O,by simp[execOp,hop],λK Q hk=>hk,put_defers _ _ _,Ext.refl _ _ _,av _,?_⟩;refine s0.put o.dst (.vec _ _ _) (by simpa only[VM.own]using hov) λb=>?_;have:=ht0 b;simp only[cnt];omega
def AdM (hs:Sim E F O st w af a.tmps.toList){o:Oper}{x:Operand}{b:Bool}{j i wd:Nat}{xs:List AVal} (hop:o.op=.move x) (h:ADK b af x st=some (j,i,wd,xs)):∃nx w' a' O',Stepped E F O st w a o (Ac (af.set j (.slice wd xs false)) o.dst (.slice wd xs false)) {st with m:=A7 st.m i [.any]} nx w' a' O':=by
 unfold ADK at h;split at h;rotate_left;·cases h
 rename_i j';obtain⟨⟨i',wd',xs'⟩,hv,he⟩:=aV.1 h;simp only[aA]at he;obtain⟨rfl,rfl,rfl,rfl⟩:=he;obtain⟨hsh,hg⟩:=ACA hv;obtain⟨O',x1,s1⟩:=hs.vecFreeze hsh hg (o:=false) (λh=>by cases h);have hj:j'<af.length:=by
  by_cases hj:j'<af.length;·exact hj
  ·rw[show af.getD j' .any=.any by simp[List.getD,fp (d6 hj)]]at hsh;cases hsh
 have hr:=s1.rep.get j' undef;rw[show(af.set j' (AVal.slice wd' xs' false)).getD j' .any=.slice wd' xs' false by simp[List.getD,hj]]at hr;generalize hw:a.tmps.toList.getD j' undef=v at hr;have hev:a.eval (.tmp j')=v:=by rw[<-hw];simp[Act.eval,Array.getD_toList']
 refine⟨.value v,w,a.put o.dst v,_,by simp[execOp,hop,hev],λK Q hk=>hk,put_defers _ _ _,x1,av _,?_⟩;refine s1.put o.dst hr (by simp[VM.own]) λb=>?_;have:=s1.tok b;simp only[cnt];omega
def ARC (E:Env) (t0 t1:TypeId) (x y:AVal) (st:St):Option (AVal×St):=match AAN E t0 t1 x y st with|some ⟨(n,[.vec w zs])::m,k⟩=>some (.slice w zs false,⟨m,k⟩)|_=>none
def AbU (hs:Sim E F O st w af a.tmps.toList){o:Oper}{x y:Operand}{t0 t1:TypeId}{ts:List TypeId}{r:AVal}{st':St} (hop:o.op=.call {callee:=.builtin .append,args:=#[x,y],argTypes:=⟨t0::t1::ts⟩}) (h:ARC E t0 t1 (rd E af t0 x) (rd E af t1 y) st=some (r,st')): ∃nx w' a' O',Stepped E F O st w a o (Ac af o.dst r) st' nx w' a' O':=by
 unfold ARC at h;split at h;rotate_left;·cases h
 rename_i n wd zs m k hv;simp only[ag,aA]at h;obtain⟨rfl,rfl⟩:=h;have hn:n=st.next:=by
  unfold AAN at hv;split at hv
  ·split at hv
   ·split at hv;·simp only[ag,St.mk.injEq,dg,aA]at hv;exact hv.1.1.1.symm
    ·cases hv
   ·cases hv
  ·cases hv
 subst hn;obtain⟨nx,w',a',O',hp⟩:=AEx hs hop hv;have sub: ∀c:List AVal,m.Sublist ((st.next,c)::m):=λc=>.cons _ (bU _);have hs0:=hp.sim;cases ho:o.dst with
 |none=>rw[ho]at hs0;exact⟨nx,w',a',O',{hp with sim:=hs0.fewer (sub _)}⟩
 | some d=>
  rw[ho]at hs0;by_cases hd:d<af.length
  ·obtain⟨O2,x2,s2⟩:=Sim.vecFreeze hs0 (d:=d) (i:=st.next) (wd:=wd) (xs:=zs) (o:=false) (by simp[Ac,List.getD,hd]) (by simp[Ag]) (λh=>by cases h);have e:(Ac af (some d) (.sh st.next)).set d (.slice wd zs false)=Ac af (some d) (.slice wd zs false):=by simp[Ac]
   rw[e]at s2;have s3:=s2.fewer (m:=m) (by simp only[A7,aB];exact sub _);exact⟨nx,w',a',O2,{hp with ext:=hp.ext.trans x2,sim:=s3}⟩
  ·have e1: ∀v,Ac af (some d) v=af:=λv=>List.set_eq_of_length_le (d6 hd);rw[e1]at hs0;rw[e1];exact⟨nx,w',a',O',{hp with sim:=hs0.fewer (sub _)}⟩
def ACall.giveS{f:FuncId}{args:List AVal}{Q:AVal->St->Prop} (h:ACall E f args st λr st'=>∃wd xs,r=.vec wd xs/\∀n,st'.next<=n->Q (.slice wd xs false) {st' with next:=n}):ACall E f args st Q:=by constructor;intro F O w cargs hs;refine(h.go F O w cargs hs).mono ?_;rintro e w' ⟨v,he,O',r,st',k1,k2,k3,wd,xs,rfl,hq⟩;obtain⟨O2,x2,s2,_⟩:=Sim.nameV (a:={tmps:=#[v],defers:=[]}) (d:=0) k3 rfl;obtain⟨O3,x3,s3⟩:=s2.vecFreeze (d:=0) (i:=st'.next) (wd:=wd) (xs:=xs) (o:=false) rfl (by simp[Ag]) (λh=>by cases h);have s4:=s3.fewer (m:=st'.m) (by simp only[A7,aB];exact .cons _ (bU _));exact⟨v,he,O3,.slice wd xs false,⟨st'.m,st'.next+1⟩,(k1.trans x2).trans x3,Nat.le_succ_of_le k2,s4,hq _ (Nat.le_succ _)⟩
def Yz (P:Program) (t:TypeId):Option AVal:=match P.underlying t with|some (.slice e)=>Ct P e|_=>none
def ATT (E:Env) (t:TypeId) (x y:AVal) (st:St):Option (AVal×St):=match x,y,KI E.P t,Yz E.P t with|.int _ n,.int _ n',some (wd,by_),some z=>if 0<=n/\n<=n'/\n'<=CX/\n' * by_<=140737488355328 then some (.sh st.next,{m:=(st.next,[.vec wd (List.replicate n.toNat z)])::st.m,next:=st.next+1})else none|_,_,_,_=>none
def Xu (E:Env) (t:TypeId) (x y:AVal) (st:St):Option (AVal×St):=match AaS E t x y st with|some p=>some p|none=>ATT E t x y st
def getElem?_made (z:Array Value) (n j:Nat) (hj:j<n):(madeCells z n).toList[j]?=some (z[j % z.size]!):=by simp[madeCells,hj]
def AZy{z:AVal}{v:Value} (hr:Rep O z v) (ho: ∀c,c∈v.cells.toList->c.oneCell'=true) (m:Nat): ∀n (cs:List Value),(∀j,j<n * v.cells.size->cs[j]?=some (v.cells[j % v.cells.size]!))->RepS O v.cells.size (List.replicate n z) cs
 |0,cs,_=>.nil _ _
 | n+1,cs,h=>by
  have hsz:(n+1) * v.cells.size=n * v.cells.size+v.cells.size:=bG _ _;have hl:v.cells.size<=cs.length:=by
   by_cases h0:v.cells.size=0;·omega
   ·have:=h ((n+1) * v.cells.size-1) fH;have:=(dB.1 this).1;omega
  have e:cs=v.cells.toList++cs.drop v.cells.size:=by
   have:cs.take v.cells.size=v.cells.toList:=by
    apply cd;intro j;rw[dc];by_cases hj:j<v.cells.size;·rw[an hj,h j fH,du hj];simp[hj]
    ·rw[aj hj];simp[d6 hj]
   conv=>lhs;rw[<-bM v.cells.size cs,this]
  rw[dC,e];refine .cons hr ⟨rfl,ho⟩ (AZy hr ho m n _ λj hj=>?_);rw[bV,h _ fH,Nat.add_mod_left]
def AWN (hs:Sim E F O st w af a.tmps.toList){o:Oper}{t:TypeId}{x y:Operand}{r:AVal}{st':St} (hop:o.op=.makeSlice t x y) (h:ATT E t (rd E af 0 x) (rd E af 0 y) st=some (r,st')):∃nx w' a' O',Stepped E F O st w a o (Ac af o.dst r) st' nx w' a' O':=by
 have hx:=hs.rd 0 x;have hy:=hs.rd 0 y;generalize rd E af 0 x=ax at *;generalize rd E af 0 y=ay at *;unfold ATT at h;split at h;rotate_left;·cases h
 rename_i k n k' n' wd by_ z hap hz0;split at h;rotate_left;·cases h
 rename_i hc;obtain⟨h0,hle,h1,h2⟩:=hc;simp only[ag,aA]at h;obtain⟨rfl,rfl⟩:=h;generalize hvx:a.eval x=vx at hx;generalize hvy:a.eval y=vy at hy;cases hx;cases hy;obtain⟨e,ti,zv,hu,hi,hz,hzs,his,hib⟩:=MU hap;have hz1:Ct E.P e=some z:=by simpa[Yz,hu]using hz0
 obtain⟨ti',zv',q1,q2,q3⟩:=Lg hz1;rw[hi]at q1;cases q1;rw[hz]at q2;cases q2;have hrc:=Jj O w z zv q3;have hrun:=run_make (P:=E.P) w t e ti zv hu hi hz k k' n n' h0 hle (by rw[hib,Int.mul_comm];omega) (by simp only[CX]at h1;omega);have hexec:(execOp a.eval o).run E.P w=.ok (.value (.slice (some ⟨w.heap.size,0,none⟩) n.toNat n'.toNat)) (w.alloc (.cells (madeCells zv.cells (n'.toNat * wd)) e)):=by simp only[execOp,hop,aI,bu,hvx,hvy,hrun,his,aC]
 obtain⟨s1,x1,t1⟩:=hs.newArr (cells:=madeCells zv.cells (n'.toNat * wd)) (e:=e) (pre:=[]) (spare:=(madeCells zv.cells (n'.toNat * wd)).toList) (fz:=(0,0)) rfl fI;have hone: ∀c,c∈zv.cells.toList->c.oneCell'=true:=hrc.rep.one hrc.ok;subst hzs;have hov:Tz (O.arr w.heap.size [] e) (w.alloc (.cells (madeCells zv.cells (n'.toNat * zv.cells.size)) e)) zv.cells.size (List.replicate n.toNat z) (.slice (some ⟨w.heap.size,0,none⟩) n.toNat n'.toNat):=by refine .inr ⟨w.heap.size,0,n'.toNat,_,e,0,0,fI,Nv _,fI,by simp[Ghost.arr],by rw[cr];omega,by rw[cr];simp only[CX]at h1⊢;omega,by rw[size_madeCells];omega,?_⟩;rw[aO];refine AZy (hrc.rep.mono x1.le) hone 0 n.toNat _ λj hj=>getElem?_made _ _ _ (Nat.lt_of_lt_of_le hj (bL _ fH))
 obtain⟨s2,x2⟩:=s1.newSh (x:=.vec zv.cells.size (List.replicate n.toNat z)) (v:=.slice (some ⟨w.heap.size,0,none⟩) n.toNat n'.toNat) (.vec _ _ _) (by simpa only[VM.own]using hov) (λb=>by have:=t1 b;simp only[cnt,CO];split at this<;>split<;>omega);refine⟨.value _,_,a.put o.dst _,_,hexec,λK Q hk=>hk,put_defers _ _ _,x1.trans x2,fI,?_⟩;refine s2.put o.dst (.sh (by simp[Ghost.num]) ⟨rfl,rfl⟩) (by simp[VM.own]) λb=>?_;have:=s2.tok b;simp only[cnt];omega
theorem AWX (hs:Sim E F O st w af a.tmps.toList){o:Oper}{t:TypeId}{x y:Operand}{r:AVal}{st':St} (hop:o.op=.makeSlice t x y) (h:Xu E t (rd E af 0 x) (rd E af 0 y) st=some (r,st')):∃nx w' a' O',Stepped E F O st w a o (Ac af o.dst r) st' nx w' a' O':=by
 unfold Xu at h;split at h;·rename_i hg;cases h;exact AXA hs hop hg
 ·exact AWN hs hop h
def hpK (P:Program) (k:TypeId):Bool:=match P.underlying k with
 | some (.struct fs)=>match fs.toList with | [f,g]=>f.name != "_" && g.name != "_" && f.offset == 0 && g.offset == 1 && DX P f.type && (Ih P g.type == some .i64) && !P.stoodInHeld k|_=>false
 |_=>false
def hpT (P:Program) (t:TypeId):Bool:=match P.underlying t with|some (.map k e)=>(match Ct P e with|some (.bool b)=>!b|_=>false)&&hpK P k|_=>false
def hsA:Option (List AVal)->Option (List (B8×Int))|some [.hset ks]=>some ks|some [.map [] []]=>some []|_=>none
def Vu (ok b:Bool):AVal:=if ok then .tuple [.bool b,.bool b]else .bool b
def AEv (ks:List (B8×Int)) (k:B8×Int):List (B8×Int):=if ks.contains k then ks else ks++[k]
def Zx (E:Env) (t:TypeId) (m k:AVal) (ok:Bool) (st:St):Option AVal:=match hpT E.P t,m,k with|true,.sh i,.agg [.str s,.int .i64 p]=>(hsA (Ag st.m i)).map λks=>Vu ok (ks.contains (s,p))|_,_,_=>none
def ASo (E:Env) (t:TypeId) (m k x:AVal) (st:St):Option St:=match hpT E.P t,m,k,x with|true,.sh i,.agg [.str s,.int .i64 p],.bool true=>(hsA (Ag st.m i)).map λks=>{st with m:=A7 st.m i [.hset (AEv ks (s,p))]}|_,_,_,_=>none
def ABA {P : Program} {k : TypeId} (h : hpK P k = true) : ∃ fs f g,P.underlying k = some (.struct fs)/\fs.toList = [f,g]/\f.name ≠ "_"/\g.name ≠ "_"/\f.offset = 0/\g.offset = 1/\P.underlying f.type = some .string/\P.underlying g.type = some (.int .i64)/\P.stoodInHeld k = false:=by
 unfold hpK at h;split at h
 ·rename_i fs hu;split at h
  ·rename_i f g hl;simp only[aw,fe,ek,bf,eS]at h;obtain⟨⟨⟨⟨⟨⟨h1,h2⟩,h3⟩,h4⟩,h5⟩,h6⟩,h7⟩:=h;refine⟨fs,f,g,hu,hl,h1,h2,h3,h4,CW h5,?_,h7⟩;unfold Ih at h6;split at h6;·rename_i q hq;cases h6;exact hq
   ·cases h6
  ·cases h
 ·cases h
def Ays{P:Program}{k:TypeId} (h:hpK P k=true) (d:Nat) (a c:B8) (b e:Int):eqA P (d+2) k (.agg [.str a,.int .i64 b]) (.agg [.str c,.int .i64 e])=some ((a==c)&&(b==e)):=by obtain⟨fs,f,g,hu,hl,h1,h2,h3,h4,h5,h6,h7⟩:=ABA h;unfold eqA;simp only[hu,h7,aq,az];rw[hl];simp[List.foldr,h1,h2,h3,h4,h5,h6,eqA]
def ARY{P:Program}{k:TypeId} (h:hpK P k=true) (w:World) (em:Bool) (n:Nat) (b:ByteArray) (p:Int):(Instr.checkKey em (n+2) k (.agg #[.string b,.int .i64 p])).run P w=.ok () w:=by obtain⟨fs,f,g,hu,hl,h1,h2,h3,h4,h5,h6,h7⟩:=ABA h;rw[Instr.checkKey];simp only[aI,aG hu,aC];rw[<-Array.forIn_toList,hl];have p1:(part f.type #[.string b,.int .i64 p] f.offset).run P w=.ok (.string b) w:=run_part_plain w (by simp[Program.plainKey,h5]) (by rw[h3];rfl);have p2:(part g.type #[.string b,.int .i64 p] g.offset).run P w=.ok (.int .i64 p) w:=run_part_plain w (by simp[Program.plainKey,h6]) (by rw[h4];rfl);simp[List.forIn_cons,h1,h2,p1,p2,Instr.checkKey,aG h5,aG h6]
def Ahj (O:Ghost){k:TypeId} (h:hpK E.P k=true) (w:World){a c:ByteArray}{b e:Int} (ha:a.data.toList.length<=CX) (hc:c.data.toList.length<=CX):(Op.equal k (.agg #[.string a,.int .i64 b]) (.agg #[.string c,.int .i64 e])).run E.P w=.ok ((a.data.toList==c.data.toList)&&(b==e)) w:=ZO (E:=E) (O:=O) (w:=w) (d:=9998+2) (xs:=[.str a.data.toList,.int .i64 b]) (ys:=[.str c.data.toList,.int .i64 e]) (.cons (.str a ha) (.cons (.int _ _) .nil)) (.cons (.str c hc) (.cons (.int _ _) .nil)) (Ays h _ _ _ _ _)
def RepH.find (O:Ghost){ks:List (B8×Int)}{es:List MapEntry} (h:RepH ks es){k:TypeId} (hk:hpK E.P k=true) (w:World){s:ByteArray} (hs:s.data.toList.length<=CX) (p:Int): ∀i,((Instr.findAsking k (.agg #[.string s,.int .i64 p]) es i).run E.P w=.ok none w/\ks.contains (s.data.toList,p)=false)\/∃j e0,(Instr.findAsking k (.agg #[.string s,.int .i64 p]) es i).run E.P w=.ok (some (i+j,.bool true)) w/\es[j]?=some e0/\e0.key=.agg #[.string s,.int .i64 p]/\e0.val=.bool true/\ks.contains (s.data.toList,p)=true:=by
 induction h with
 |nil=>exact λi=>.inl ⟨by simp[Instr.findAsking],rfl⟩
 | @cons b q e ks es hn he hv t ih=>
  intro i;have hq:=Ahj O hk w (b:=p) (e:=q) hs hn;by_cases hc:s.data.toList=b.data.toList/\p=q
  ·obtain⟨h1,rfl⟩:=hc;have hsb:s=b:=by have:=(Xy (a:=s) (b:=b)).2 h1;exact Value.string.inj this
   subst hsb;refine .inr ⟨0,e,?_,rfl,he,hv,fI⟩;rw[Instr.findAsking,he];simp[hq,hv]
  ·have hb:((s.data.toList==b.data.toList)&&(p==q))=false:=by
    rw[Bool.and_eq_false_iff];by_cases h1:s.data.toList=b.data.toList;·exact .inr (by simpa using λh2=>hc ⟨h1,h2⟩)
    ·exact .inl (by simpa using h1)
   rw[hb]at hq;have hne:((s.data.toList,p)==(b.data.toList,q))=false:=by simp only[bv,ek,aA];exact hc
   rw[Instr.findAsking,he];simp only[aI,hq,aC,aq,az];rcases ih (i+1)with⟨h1,h2⟩|⟨j,e0,h1,h2,h3,h4,h5⟩;·exact .inl ⟨h1,by rw[bC,hne,h2];rfl⟩
   ·exact .inr ⟨j+1,e0,by rw[h1,show i+1+j=i+(j+1) by omega],by simpa using h2,h3,h4,by rw[bC,h5];simp⟩
def ARn{tm:List Value} (hs:Sim E F O st w af tm){i:Nat}{v:Value}{ks:List (B8×Int)} (h:hsA (Ag st.m i)=some ks) (hr:Rep O (.sh i) v):∃cs b es clock,Ag st.m i=some cs/\ShOK O w (i,cs) v/\v=.map (some b)/\w.heap[b]?=some (.map es clock)/\RepH ks es.toList/\∀n,AP n cs [v]=if b=n then 1 else 0:=by
 cases hr with
 | sh hsx hk=>
  unfold hsA at h;split at h;·rename_i ks' hg;cases h;have hv:=ABr hs hsx hg;have ho:=hv.own;simp only[ownL,VM.own,cF]at ho;obtain⟨b,es,clock,rfl,h1,h2⟩:=ho;exact⟨_,b,es,clock,hg,hv,rfl,h1,h2,λn=>by simp[AP,cnt,PK]⟩
  ·rename_i hg;cases h;have hv:=ABr hs hsx hg;have ho:=hv.own;simp only[ownL,VM.own,cF]at ho;obtain⟨b,es,clock,rfl,h1,h2⟩:=ho;have:es.toList=[]:=by cases hq:es.toList with|nil=>rfl|cons x l=>rw[hq]at h2;cases h2
   exact⟨_,b,es,clock,hg,hv,rfl,h1,by rw[this];exact .nil,λn=>by simp[AP,cnt,PK]⟩
  ·cases h
def ASg{P:Program}{t:TypeId} (h:hpT P t=true): ∃k e,P.underlying t=some (.map k e)/\Ct P e=some (.bool false)/\hpK P k=true:=by
 unfold hpT at h;split at h
 ·rename_i k e hu;simp only[aw]at h;refine⟨k,e,hu,?_,h.2⟩;have:=h.1;split at this;·rename_i b hz;rw[hz];cases b<;>simp_all
  ·cases this
 ·cases h
def AAy{P:Program}{k:TypeId} (h:hpK P k=true):(match P.underlying k with|some (.array _ _)|some (.struct _)=>true|_=>false)=true:=by obtain⟨fs,f,g,hu,_⟩:=ABA h;rw[hu]
def AYz (hs:Sim E F O st w af a.tmps.toList){o:Oper}{t:TypeId}{m k:Operand}{ok:Bool}{r:AVal} (hop:o.op=.lookup t m k ok) (h:Zx E t (rd E af t m) (rd E af 0 k) ok st=some r):∃nx w' a' O',Stepped E F O st w a o (Ac af o.dst r) st nx w' a' O':=by
 have hm:=hs.rd t m;have hk:=hs.rd 0 k;generalize rd E af t m=am at *;generalize rd E af 0 k=ak at *;generalize hvm:a.eval m=vm at *;generalize hvk:a.eval k=vk at *;unfold Zx at h;split at h
 ·rename_i i s p hT;obtain⟨ks,hks,rfl⟩:=aV.1 h;obtain⟨cs,b,es,clock,hg,hv,rfl,hb,hH,_⟩:=ARn hs hks hm;obtain⟨kt,et,hu,hue,hK⟩:=ASg hT;obtain⟨zv,hzv,hzc⟩:=Rk (O:=O) (w:=w) hue;have hzr:zv=.bool false:=by have:=hzc.rep;cases this;rfl
  subst hzr;cases hk with
  | agg hl one=>
   rename_i arr;obtain⟨l⟩:=arr;cases hl with
   | cons h1 hl=>
    cases hl with
    | cons h2 hl=>
     cases hl;cases h1;rename_i sb hn;cases h2;have hrun: ∃u,(Instr.lookup t (.map (some b)) (.agg #[.string sb,.int .i64 p]) ok).run E.P w=.ok u w/\Rep O (Vu ok (ks.contains (sb.data.toList,p))) u/\(Vu ok (ks.contains (sb.data.toList,p))).strip=Vu ok (ks.contains (sb.data.toList,p)):=by
      have hc:=ARY hK w es.isEmpty 9998 sb p;rcases hH.find O hK w hn p 0 with⟨h1,h2⟩|⟨j,e0,h1,h2,h3,h4,h5⟩
      ·rw[h2];refine⟨if ok then .tuple #[.bool false,.bool false]else .bool false,?_,?_,?_⟩;·cases ok<;>simp[Instr.lookup,aG hu,bO hb,hc,eN w (AAy hK),h1,hzv,Result.andThen]
       ·cases ok;·exact .bool _
        ·exact .tuple (.cons (.bool _) (.cons (.bool _) .nil))
       ·cases ok<;>simp[Vu,AVal.strip,stripL]
      ·rw[h5];refine⟨if ok then .tuple #[.bool true,.bool true]else .bool true,?_,?_,?_⟩;·cases ok<;>simp[Instr.lookup,aG hu,bO hb,hc,eN w (AAy hK),h1,Result.andThen]
       ·cases ok;·exact .bool _
        ·exact .tuple (.cons (.bool _) (.cons (.bool _) .nil))
       ·cases ok<;>simp[Vu,AVal.strip,stripL]
     obtain⟨u,hrun,hrep,hst⟩:=hrun;refine⟨.value u,w,a.put o.dst u,O,?_,λK Q hk=>hk,put_defers _ _ _,Ext.refl _ _ _,av _,?_⟩;·simp_all[execOp]
     ·refine hs.put o.dst hrep (by rw[<-hst];grind[MO]) λb=>?_;rw[<-hst,Iw];exact hs.tok b
 ·cases h
def RepH.snoc{ks:List (B8×Int)}{es:List MapEntry} (h:RepH ks es){b:ByteArray}{p:Int}{e:MapEntry} (hn:b.data.toList.length<=CX) (hk:e.key=.agg #[.string b,.int .i64 p]) (hv:e.val=.bool true):RepH (ks++[(b.data.toList,p)]) (es++[e]):=by induction h with|nil=>exact .cons hn hk hv .nil|cons h1 h2 h3 _ ih=>exact .cons h1 h2 h3 ih
def Abr (hs:Sim E F O st w af a.tmps.toList){o:Oper}{t:TypeId}{m k x:Operand}{st':St} (hop:o.op=.mapUpdate t m k x\/o.op=.insert t m k x) (hd:o.dst=none) (h:ASo E t (rd E af t m) (rd E af 0 k) (rd E af 0 x) st=some st'):∃nx w' a' O',Stepped E F O st w a o af st' nx w' a' O':=by
 have hm:=hs.rd t m;have hk:=hs.rd 0 k;have hx:=hs.rd 0 x;generalize rd E af t m=am at *;generalize rd E af 0 k=ak at *;generalize rd E af 0 x=ax at *;generalize hvm:a.eval m=vm at *;generalize hvk:a.eval k=vk at *;generalize hvx:a.eval x=vx at *;unfold ASo at h;split at h
 ·rename_i i s p hT;obtain⟨ks,hks,rfl⟩:=aV.1 h;obtain⟨cs,b,es,clock,hg,hv,rfl,hb,hH,hc1⟩:=ARn hs hks hm;obtain⟨kt,et,hu,hue,hK⟩:=ASg hT;cases hx;cases hk with
  | agg hl one=>
   rename_i arr;obtain⟨l⟩:=arr;cases hl with
   | cons h1 hl=>
    cases hl with
    | cons h2 hl=>
     cases hl;cases h1;rename_i sb hn;cases h2;have hc:=ARY hK w false 9998 sb p;obtain⟨es',clock',hrun,hK'⟩: ∃es' clock',(Instr.mapUpdate t (.map (some b)) (.agg #[.string sb,.int .i64 p]) (.bool true)).run E.P w=.ok () {w with heap:=w.heap.setIfInBounds b (.map es' clock')}/\RepH (AEv ks (sb.data.toList,p)) es'.toList:=by
      rcases hH.find O hK w hn p 0 with⟨h1,h2⟩|⟨j,e0,h1,h2,h3,h4,h5⟩
      ·refine⟨es.push ⟨.agg #[.string sb,.int .i64 p],.bool true,clock⟩,clock+1,?_,?_⟩;·simp[Instr.mapUpdate,aG hu,bO hb,hc,eN w (AAy hK),h1,cL _ hb,Result.andThen]
       ·rw[AEv,h2];simp only[aq,az,Array.toList_push];exact hH.snoc hn rfl rfl
      ·refine⟨es.modify j λe=>{e with key:=.agg #[.string sb,.int .i64 p],val:=.bool true},clock,?_,?_⟩
       ·have hj:es[j]?=some e0:=by simpa using h2
        have hsame:(Instr.keyThatStays (.agg #[.string sb,.int .i64 p]) (.agg #[.string sb,.int .i64 p])).run E.P w=.ok (.agg #[.string sb,.int .i64 p]) w:=by
         have:Instr.sameBits 10000 (.agg #[.string sb,.int .i64 p]) (.agg #[.string sb,.int .i64 p])=true:=by simp[Instr.sameBits,(ed sb sb).2 rfl]
         simp[Instr.keyThatStays,this]
        simp[Instr.mapUpdate,aG hu,bO hb,hc,eN w (AAy hK),h1,hj,h3,hsame,cL _ hb,Result.andThen]
       ·rw[AEv,h5,an rfl];have e:(es.modify j λe=>{e with key:=.agg #[.string sb,.int .i64 p],val:=.bool true}).toList=es.toList:=by
         apply cd;intro q;simp only[fq,dW];by_cases hq:j=q
         ·subst hq;have hj:es[j]?=some e0:=by simpa using h2
          rw[an rfl,hj];cases e0;simp_all
         ·rw[aj hq]
        rw[e];exact hH
     exact ACG (es':=es') (clock':=clock') hs hg hv hb hc1 (.hset _ _) (by simp only[VM.own];exact⟨b,es',clock',rfl,by have:=APA hb;grind,hK'⟩) (λn=>by simp[cnt,PK]) hd (by rcases hop with hop|hop<;>simp_all[execOp])
 ·cases h
def UT (E:Env) (t:TypeId) (m k:AVal) (ok:Bool) (st:St):Option AVal:=match Q0 E t m k ok st with|some r=>some r|none=>Zx E t m k ok st
def Vh (E:Env) (t:TypeId) (m k x:AVal) (st:St):Option St:=match ABU E t m k x st with|some s=>some s|none=>ASo E t m k x st
theorem AWO (hs:Sim E F O st w af a.tmps.toList){o:Oper}{t:TypeId}{m k:Operand}{ok:Bool}{r:AVal} (hop:o.op=.lookup t m k ok) (h:UT E t (rd E af t m) (rd E af 0 k) ok st=some r):∃nx w' a' O',Stepped E F O st w a o (Ac af o.dst r) st nx w' a' O':=by
 unfold UT at h;split at h;·rename_i hz;cases h;exact ASr hs hop hz
 ·exact AYz hs hop h
def AE6 (hs:Sim E F O st w af a.tmps.toList){o:Oper}{t:TypeId}{m k x:Operand}{st':St} (hop:o.op=.mapUpdate t m k x\/o.op=.insert t m k x) (hd:o.dst=none) (h:Vh E t (rd E af t m) (rd E af 0 k) (rd E af 0 x) st=some st'):∃nx w' a' O',Stepped E F O st w a o af st' nx w' a' O':=by
 unfold Vh at h;split at h;·rename_i hz;cases h;exact APl hs hop hd hz
 ·exact Abr hs hop hd h
def Ahy (E:Env) (x:Operand) (t0 t1:TypeId) (y:AVal) (st:St):Option (AVal×St):=match x,KI E.P t0 with
 |.const (.slice none 0 0),some (z,by_)=>match QP z y with|some ys=>if Ih E.P t1=none/\Ah E.P t1=true/\ys.length * by_<=140737488355328/\ys.length<=CX then some (.sh st.next,{m:=(st.next,[.vec z ys])::st.m,next:=st.next+1})else none|none=>none
 |_,_=>none
def AgS (hs:Sim E F O st w af a.tmps.toList){o:Oper}{x y:Operand}{t0 t1:TypeId}{ts:List TypeId}{r:AVal}{st':St} (hop:o.op=.call {callee:=.builtin .append,args:=#[x,y],argTypes:=⟨t0::t1::ts⟩}) (h:Ahy E x t0 t1 (rd E af t1 y) st=some (r,st')): ∃nx w' a' O',Stepped E F O st w a o (Ac af o.dst r) st' nx w' a' O':=by
 have hy:=hs.rd t1 y;generalize rd E af t1 y=ay at *;generalize hvy:a.eval y=vy at *;unfold Ahy at h;split at h;rotate_left;·cases h
 rename_i z by_ hap;split at h;rotate_left;·cases h
 rename_i ys hsrc;split at h;rotate_left;·cases h
 rename_i hc;obtain⟨hint,hkn,hroom,h62⟩:=hc;simp only[ag,aA]at h;obtain⟨rfl,rfl⟩:=h;obtain⟨e,ti,zv,hu,hi,hz,hzs,his,hib⟩:=MU hap;obtain⟨news,src⟩:=TN hs hy hsrc;obtain⟨d1,hd1⟩:=Cv hkn;have hexec: ∀r,(Builtin.append_ ⟨t0::t1::ts⟩ o.type #[.slice none ([]:List AVal).length 0,vy]).run E.P w=r->(execOp a.eval o).run E.P w=r.andThen λv w'=>.ok (.value v) w':=by
  intro r hr;have hargs:Array.map a.eval #[.const (.slice none 0 0),y]= #[.slice none 0 0,vy]:=by simp only[List.map_toArray,aF,cv,hvy];rfl
  simp only[execOp,hop,resolve,hargs,aI,bu,aC,invoke,builtin];exact hr▸rfl
 by_cases hfit:([]:List AVal).length+ys.length<=0;·have hys:ys=[]:=bw (by simp only[ap]at hfit;omega);subst hys;have hfirst:=src.first w (λ_ _=>rfl);rw[<-his]at hfirst;refine APB (st:=st) (z:=z) (xs:=[]) (v1:=.slice none 0 0) rfl (Ext.refl _ _ _) hs (.inl ⟨rfl,rfl⟩) (λn=>by have:=hs.tok n;simp only[CO];omega) ⟨rfl,rfl⟩ ?_;refine hexec (.ok _ _) ?_;rw[LG hu hi hd1 hint (src.len w) hfit hfirst];rfl
 ·have:=APj (st:=st) (xs:=[]) hs rfl hexec hu hi hz hzs his hib hd1 hint src hfit (av _) (.nil _ _) (olds:=[]) fI (λw' _=>by simp[Builtin.firstCells]) (by simpa using hroom) (by simpa using h62);simpa using this
def appW (E:Env) (x:Operand) (t0 t1:TypeId) (ax y:AVal) (st:St):Option (AVal×St):=match ARC E t0 t1 ax y st with|some p=>some p|none=>Ahy E x t0 t1 y st
def AgR (hs:Sim E F O st w af a.tmps.toList){o:Oper}{x y:Operand}{t0 t1:TypeId}{ts:List TypeId}{r:AVal}{st':St} (hop:o.op=.call {callee:=.builtin .append,args:=#[x,y],argTypes:=⟨t0::t1::ts⟩}) (h:appW E x t0 t1 (rd E af t0 x) (rd E af t1 y) st=some (r,st')): ∃nx w' a' O',Stepped E F O st w a o (Ac af o.dst r) st' nx w' a' O':=by
 unfold appW at h;split at h;·rename_i hz;cases h;exact AbU hs hop hz
 ·exact AgS hs hop h
end
end Go.VM
