import Derived.Laws.MakeOwn
import Derived.Laws.IdiomStrings
import Derived.Laws.AppendOwn
import Derived.Test.YtmalodjbhonipaaGreatDoorVM1
import Derived.Lib.UnsafeStr
import Derived.Lib.Builder
import Derived.Lib.Bytealg
import Derived.MapKept
set_option linter.unusedSimpArgs false
set_option linter.unusedVariables false
namespace Go.VM
def OY (P:Program) (t:TypeId):Option (Nat×AVal):=match P.underlying t with
 | some (.slice e)=>match P.info? e,GJ P e with |some i,some (.int k n)=>if i.size=1 then some (i.bytes,.int k n)else none|some i,some (.bool b)=>if i.size=1 then some (i.bytes,.bool b)else none|some i,some (.str [])=>if i.size=1 then some (i.bytes,.str [])else none|_,_=>none
 |_=>none
def PP (E:Env) (t:TypeId) (x y:AVal) (st:St):Option (AVal×St):=match x,y,OY E.P t with |.int _ n,.int _ n',some (b,z)=>if n=n'∧0≤n∧n≤DY∧n * b≤140737488355328 then some (.bsl 1 st.next 0 n.toNat,{m:=(st.next,List.replicate n.toNat z)::st.m,next:=st.next+1})else none|_,_,_=>none
def QR (E:Env) (t:TypeId) (x y:AVal) (st:St):Option (AVal×St):=match x,y,OY E.P t with |.int _ n,.int _ n',some (b,z)=>if 0≤n∧n≤n'∧n'≤DY∧n' * b≤140737488355328 then some (.gsl 1 st.next n.toNat,{m:=(st.next,List.replicate n.toNat z)::st.m,next:=st.next+1})else none|_,_,_=>none
def MN (E:Env) (s d:TypeId) (x:AVal) (st:St):Option (AVal×St):=match x with
 |.str l=>if u8T E.P d=true∧Ch E.P s=true then some (.bsl 1 st.next 0 l.length,{m:=(st.next,l.map fun c=>.int .u8 (AC c))::st.m,next:=st.next+1})else none
 | .bsl w i off len=>if w=1∧(u8T E.P s&&Ch E.P d)=true then match Bv st.m i with
 | some cs=>match bytesOf ((cs.drop off).take len)with |some l=>if l.length=len∧len≤DY then some (.str l,st)else none|none=>none
 |none=>none else none
 | .gsl w i len=>if w=1∧(u8T E.P s&&Ch E.P d)=true then match Bv st.m i with
 | some cs=>match bytesOf (cs.take len)with |some l=>if l.length=len∧len≤DY then some (.str l,st)else none|none=>none
 |none=>none else none
 |_=>none
section
variable{E:Env}{F:Nat→Nat}{Γ:Ghost}{st:St}{w:World}{af:List AVal}{a:Act}
theorem RepL.replicate{x:AVal}{v:Value} (h:Rep Γ x v): ∀n,RepL Γ (List.replicate n x) (List.replicate n v) |0=>.nil|n+1=>.cons h (RepL.replicate h n)
theorem Mm: ∀(xs:List AVal) (vs:List Value),(∀x,x∈xs→∀v,VM.own Γ w x v)→ownL Γ w xs vs |[],_,_=>by simp[ownL]|_::_,[],_=>by simp[ownL]|x::xs,v::vs,h=>by rw[ownL];exact⟨h x eU v,Mm xs vs fun y hy=>h y (by simp[hy])⟩
theorem Mg (b:Nat): ∀(xs:List AVal) (vs:List Value),(∀x,x∈xs→∀v,cnt b x v=0)→AJ b xs vs=0 |[],_,_=>by simp[AJ]|_::_,[],_=>by simp[AJ]|x::xs,v::vs,h=>by rw[AJ,h x eU v,Mg b xs vs fun y hy=>h y (by simp[hy])]
theorem NH (v:Value) (n:Nat):(madeCells #[v] n).toList=List.replicate n v:=by
 apply List.ext_getElem;·simp[madeCells]
 ·intro i h1 h2;simp[madeCells,Nat.mod_one]
theorem OU (hs:Sim E F Γ st w af a.tmps.toList){o:Oper}{w1:World}{cells:Array Value}{e:TypeId}{cs:List AVal}{fz:Nat×Nat}{cap:Nat} (hs1:Sim E F Γ st w1 af a.tmps.toList) (hx:Ext F Γ w Γ w1) (hfz: ∀j,j<cells.size→¬(fz.1≤j∧j<fz.2)) (hr:RepL Γ cs (cells.toList.take cs.length)) (h1: ∀v,v∈cells.toList.take cs.length→v.oneCell'=true) (ho: ∀x,x∈cs→(∀v,VM.own Γ w1 x v)∧∀b v,cnt b x v=0) (hl:cs.length≤cap∧cs.length≤DY) (hrun:(execOp a.eval o).run E.P w=.ok (.value (.slice (some ⟨w1.heap.size,0,none⟩) cs.length cap)) (w1.alloc (.cells cells e fz))):∃nx w' a' Γ',Stepped E F Γ st w a o (Am af o.dst (.bsl 1 st.next 0 cs.length)) {m:=(st.next,cs)::st.m,next:=st.next+1} nx w' a' Γ':=by
 have hc: ∀b vs,AJ b cs vs=0:=fun b vs=>Mg b cs vs fun x hx=>(ho x hx).2 b;obtain⟨k1,k2,k3⟩:=hs1.newBox (e:=e) (cells:=cells) (cs:=cs) (fz:=fz) hfz (hr.mono (hs1.le_box _)) (Mm _ _ fun x hx=>(ho x hx).1) h1 (fun b=>by rw[hc];have:=hs1.tok b;omega);have hb:(Γ.box st.next w1.heap.size (e,cells.size)).bx st.next=some w1.heap.size:=by cases k3 with |ptr h=>exact h
 refine⟨_,_,_,_,hrun,fun K Q hk=>hk,put_defers _ _ _,hx.trans k2,eU,?_⟩;refine k1.put o.dst (.bsl hb (.inr rfl) hl) (by simp[VM.own]) fun b=>?_;have:=k1.tok b;simp only[cnt];omega
theorem RJ (hs:Sim E F Γ st w af a.tmps.toList){o:Oper}{w1:World}{cells:Array Value}{e:TypeId}{cs:List AVal}{fz:Nat×Nat}{cap len:Nat}{r:AVal} (hs1:Sim E F Γ st w1 af a.tmps.toList) (hx:Ext F Γ w Γ w1) (hfz: ∀j,j<cells.size→¬(fz.1≤j∧j<fz.2)) (hr:RepL Γ cs (cells.toList.take cs.length)) (h1: ∀v,v∈cells.toList.take cs.length→v.oneCell'=true) (ho: ∀x,x∈cs→(∀v,VM.own Γ w1 x v)∧∀b v,cnt b x v=0) (hrr: ∀Γ':Ghost,Γ'.bx st.next=some w1.heap.size→Γ'.bt st.next=some (e,cells.size)→Rep Γ' r (.slice (some ⟨w1.heap.size,0,none⟩) len cap)) (hro: ∀Γ' w' v,VM.own Γ' w' r v) (hrc: ∀b v,cnt b r v=0) (hrun:(execOp a.eval o).run E.P w=.ok (.value (.slice (some ⟨w1.heap.size,0,none⟩) len cap)) (w1.alloc (.cells cells e fz))):∃nx w' a' Γ',Stepped E F Γ st w a o (Am af o.dst r) {m:=(st.next,cs)::st.m,next:=st.next+1} nx w' a' Γ':=by
 have hc: ∀b vs,AJ b cs vs=0:=fun b vs=>Mg b cs vs fun x hx=>(ho x hx).2 b;obtain⟨k1,k2,k3⟩:=hs1.newBox (e:=e) (cells:=cells) (cs:=cs) (fz:=fz) hfz (hr.mono (hs1.le_box _)) (Mm _ _ fun x hx=>(ho x hx).1) h1 (fun b=>by rw[hc];have:=hs1.tok b;omega);have hb:(Γ.box st.next w1.heap.size (e,cells.size)).bx st.next=some w1.heap.size:=by cases k3 with |ptr h=>exact h
 refine⟨_,_,_,_,hrun,fun K Q hk=>hk,put_defers _ _ _,hx.trans k2,eU,?_⟩;refine k1.put o.dst (hrr _ hb (by simp[Ghost.box])) (hro _ _ _) fun b=>?_;have:=k1.tok b;have:=hrc b (.slice (some ⟨w1.heap.size,0,none⟩) len cap);omega
theorem AAX (hs:Sim E F Γ st w af a.tmps.toList){o:Oper}{w1:World}{cells:Array Value}{e:TypeId}{cs:List AVal}{fz:Nat×Nat}{cap len:Nat} (hs1:Sim E F Γ st w1 af a.tmps.toList) (hx:Ext F Γ w Γ w1) (hfz: ∀j,j<cells.size→¬(fz.1≤j∧j<fz.2)) (hr:RepL Γ cs (cells.toList.take cs.length)) (h1: ∀v,v∈cells.toList.take cs.length→v.oneCell'=true) (ho: ∀x,x∈cs→(∀v,VM.own Γ w1 x v)∧∀b v,cnt b x v=0) (hl:len≤cap∧len≤DY) (hcz:cap=cells.size) (hrun:(execOp a.eval o).run E.P w=.ok (.value (.slice (some ⟨w1.heap.size,0,none⟩) len cap)) (w1.alloc (.cells cells e fz))):∃nx w' a' Γ',Stepped E F Γ st w a o (Am af o.dst (.gsl 1 st.next len)) {m:=(st.next,cs)::st.m,next:=st.next+1} nx w' a' Γ':=RJ hs hs1 hx hfz hr h1 ho (fun Γ' h1 h2=>.gsl h1 h2 hl eT) (fun _ _ _=>by simp[VM.own]) (fun _ _=>by simp[cnt]) hrun
theorem TW{P:Program}{t:TypeId}{b:Nat}{z:AVal} (hI:OY P t=some (b,z)): ∃e i v,P.underlying t=some (.slice e)∧P.info? e=some i∧i.zero=some v∧i.size=1∧i.bytes=b∧Dz z v=true∧v.cells= #[v]∧v.oneCell'=true∧∀Γ w,(∀u,VM.own Γ w z u)∧∀b u,cnt b z u=0:=by
 unfold OY at hI;split at hI
 ·rename_i e he;split at hI
  ·rename_i j k0 n0 hj hz;split at hI;·rename_i hsz;simp only[ac,aA]at hI;obtain⟨rfl,rfl⟩:=hI;obtain⟨i',v,q1,q2,q3⟩:=Ic hz;rw[hj]at q1;cases q1;refine⟨e,j,v,he,hj,q2,hsz,rfl,q3,?_⟩;cases v<;>simp[Dz]at q3;exact⟨rfl,rfl,fun Γ w=>⟨fun u=>by simp[VM.own],fun b u=>by simp[cnt]⟩⟩
   ·cases hI
  ·rename_i j b0 hj hz;split at hI;·rename_i hsz;simp only[ac,aA]at hI;obtain⟨rfl,rfl⟩:=hI;obtain⟨i',v,q1,q2,q3⟩:=Ic hz;rw[hj]at q1;cases q1;refine⟨e,j,v,he,hj,q2,hsz,rfl,q3,?_⟩;cases v<;>simp[Dz]at q3;exact⟨rfl,rfl,fun Γ w=>⟨fun u=>by simp[VM.own],fun b u=>by simp[cnt]⟩⟩
   ·cases hI
  ·rename_i j hj hz;split at hI;·rename_i hsz;simp only[ac,aA]at hI;obtain⟨rfl,rfl⟩:=hI;obtain⟨i',v,q1,q2,q3⟩:=Ic hz;rw[hj]at q1;cases q1;refine⟨e,j,v,he,hj,q2,hsz,rfl,q3,?_⟩;cases v<;>simp[Dz]at q3;exact⟨rfl,rfl,fun Γ w=>⟨fun u=>by simp[VM.own],fun b u=>by simp[cnt]⟩⟩
   ·cases hI
  ·cases hI
 ·cases hI
theorem AIx (hs:Sim E F Γ st w af a.tmps.toList){o:Oper}{t:TypeId}{x y:Operand}{r:AVal}{st':St} (hop:o.op=.makeSlice t x y) (h:PP E t (rd E af 0 x) (rd E af 0 y) st=some (r,st')):∃nx w' a' Γ',Stepped E F Γ st w a o (Am af o.dst r) st' nx w' a' Γ':=by
 have hx:=hs.rd 0 x;have hy:=hs.rd 0 y;generalize rd E af 0 x=ax at *;generalize rd E af 0 y=ay at *;unfold PP at h;split at h
 ·rename_i k n k' n' b z hI;split at h;·rename_i hc;obtain⟨rfl,h0,h1,h2⟩:=hc;simp only[ac,aA]at h;obtain⟨rfl,rfl⟩:=h;generalize hvx:a.eval x=vx at hx;generalize hvy:a.eval y=vy at hy;cases hx;cases hy;obtain⟨e,i,v,g1,g2,g3,g4,g5,g6,g7⟩:=TW hI;have hrep:=(Gv Γ w z v g6).rep;have hrun:=run_make (P:=E.P) w t e i v g1 g2 g3 k k' n n h0 (be _) (by rw[g5];have e1:(b:Int) * n=n * b:=Int.mul_comm _ _;omega) (by unfold DY at h1;omega);rw[g7.1,g4,eQ]at hrun;have hlen:(List.replicate n.toNat z).length=n.toNat:=cM;have key:=OU (o:=o) (w1:=w) (cells:=madeCells #[v] n.toNat) (e:=e) (cs:=List.replicate n.toNat z) (fz:=(0,0)) (cap:=n.toNat) hs hs (Ext.refl _ _ _) eU (by rw[NH,hlen];rw[aM eU];exact RepL.replicate hrep _) (by rw[NH];intro u hu;have:=bQ hu;rw[cC this];exact g7.2.1) (fun x hx=>by rw[cC hx];exact g7.2.2 _ _) (by rw[hlen];exact⟨ao _,eT⟩) (by rw[hlen];simp only[execOp,hop,hvx,hvy];rw[au,hrun];rfl);rw[hlen]at key;exact key
  ·cases h
 ·cases h
theorem AFJ (hs:Sim E F Γ st w af a.tmps.toList){o:Oper}{t:TypeId}{x y:Operand}{r:AVal}{st':St} (hop:o.op=.makeSlice t x y) (h:QR E t (rd E af 0 x) (rd E af 0 y) st=some (r,st')):∃nx w' a' Γ',Stepped E F Γ st w a o (Am af o.dst r) st' nx w' a' Γ':=by
 have hx:=hs.rd 0 x;have hy:=hs.rd 0 y;generalize rd E af 0 x=ax at *;generalize rd E af 0 y=ay at *;unfold QR at h;split at h
 ·rename_i k n k' n' b z hI;split at h
  ·rename_i hc;obtain⟨h0,hle,h1,h2⟩:=hc;simp only[ac,aA]at h;obtain⟨rfl,rfl⟩:=h;generalize hvx:a.eval x=vx at hx;generalize hvy:a.eval y=vy at hy;cases hx;cases hy;obtain⟨e,i,v,g1,g2,g3,g4,g5,g6,g7⟩:=TW hI;have hrep:=(Gv Γ w z v g6).rep;have hrun:=run_make (P:=E.P) w t e i v g1 g2 g3 k k' n n' h0 hle (by rw[g5];have e1:(b:Int) * n'=n' * b:=Int.mul_comm _ _;omega) (by unfold DY at h1;omega);rw[g7.1,g4,eQ]at hrun;have hlen:(List.replicate n.toNat z).length=n.toNat:=cM;have hmc:(madeCells #[v] n'.toNat).size=n'.toNat:=by rw[←ap,NH];simp
   exact AAX (o:=o) (w1:=w) (cells:=madeCells #[v] n'.toNat) (e:=e) (cs:=List.replicate n.toNat z) (fz:=(0,0)) (cap:=n'.toNat) (len:=n.toNat) hs hs (Ext.refl _ _ _) eU (by rw[NH,hlen,List.take_replicate,eH eT];exact RepL.replicate hrep _) (by rw[NH];intro u hu;have:=bQ hu;rw[cC this];exact g7.2.1) (fun x hx=>by rw[cC hx];exact g7.2.2 _ _) ⟨eT,by unfold DY at *;omega⟩ eT (by simp only[execOp,hop,hvx,hvy];rw[au,hrun];rfl)
  ·cases h
 ·cases h
theorem MB: ∀ {xs:List AVal}{l:List UInt8}{vs:List Value},bytesOf xs=some l→RepL Γ xs vs→∃ns:List Int,ns.length=xs.length∧(∀j,j<ns.length→vs[j]?=some (.int .u8 (ns.getD j 0)))∧l=ns.map FZ
 |[],l,vs,h,_=>by simp[bytesOf]at h;subst h;exact⟨[],rfl,eU,rfl⟩
 | x::xs,l,vs,h,hr=>by
  cases hr with
  | cons hx t=>
   rename_i v vs;unfold bytesOf at h;split at h;·rename_i e;cases e
   ·rename_i n xs' e;cases e;cases hx;cases hb:bytesOf xs with |none=>simp[hb]at h| some l'=>simp[hb]at h;subst h;obtain⟨ns,h1,h2,h3⟩:=MB hb t;refine⟨n::ns,by simp[h1],?_,by simp[h3]⟩;intro j hj;cases j with |zero=>simp|succ j=>simpa using h2 j (by simpa using hj)
   ·cases h
theorem RepL.takeN{xs:List AVal}{vs:List Value} (h:RepL Γ xs vs): ∀n,RepL Γ (xs.take n) (vs.take n):=by induction xs generalizing vs with |nil=>intro n;cases h;simpa using RepL.nil| cons x xs ih=>intro n;cases h with | cons h t=>cases n with |zero=>simpa using RepL.nil|succ n=>exact .cons h (ih t n)
theorem AF5 (hs:Sim E F Γ st w af a.tmps.toList){o:Oper}{s d:TypeId}{x:Operand}{r:AVal}{st':St} (hop:o.op=.convert s d x) (h:MN E s d (rd E af s x) st=some (r,st')):∃nx w' a' Γ',Stepped E F Γ st w a o (Am af o.dst r) st' nx w' a' Γ':=by
 have hx:=hs.rd s x;generalize rd E af s x=ax at *;unfold MN at h;split at h
 ·rename_i l;split at h
  ·rename_i hc;simp only[ac,aA]at h;obtain⟨rfl,rfl⟩:=h;generalize hv:a.eval x=v at hx;cases hx with
   |str b hn=>
    obtain⟨e,h1,h2⟩:=QQ hc.1;have hrun:=run_bytes_of_string (P:=E.P) w s d e b (Bh hc.2) h1 h2;have hsz:b.size=b.data.toList.length:=by rw[ap];rfl
    have hcs:(b.data.toList.map fun c=>AVal.int .u8 (AC c)).length=b.size:=by rw[bE,hsz]
    have hrow:(bytesRow b (grownCap w b.size 0 e)).toList=(b.data.toList.map fun c=>Value.int .u8 (AC c))++List.replicate (grownCap w b.size 0 e-b.size) (.int .u8 0):=by simp[bytesRow,AC]
    have htake:(bytesRow b (grownCap w b.size 0 e)).toList.take b.size=b.data.toList.map fun c=>Value.int .u8 (AC c):=by rw[hrow,List.take_left' (by rw[bE,hsz])]
    have hcap:b.size≤grownCap w b.size 0 e:=d5 w b.size 0 e;have key:=OU (o:=o) (w1:=w.drew) (cells:=bytesRow b (grownCap w b.size 0 e)) (e:=e) (cs:=b.data.toList.map fun c=>.int .u8 (AC c)) (fz:=((bytesRow b (grownCap w b.size 0 e)).size,(bytesRow b (grownCap w b.size 0 e)).size+1)) (cap:=grownCap w b.size 0 e) hs hs.drew ⟨Γ.le_refl,fun _ _=>⟨rfl,rfl⟩,ao _,rfl,rfl,rfl⟩ (fun j hj=>by simp only[];omega) (by rw[hcs,htake];generalize b.data.toList=l;induction l with |nil=>exact .nil|cons c l ih=>exact .cons (.int _ _) ih) (by rw[hcs,htake];intro v hv;obtain⟨c,_,rfl⟩:=bo.1 hv;rfl) (fun x hx=>by obtain⟨c,_,rfl⟩:=bo.1 hx;exact⟨fun v=>by simp[VM.own],fun b v=>by simp[cnt]⟩) (by rw[hcs];exact⟨hcap,by rw[hsz];exact hn⟩) (by rw[hcs];simp only[execOp,hop,hv];rw[au,hrun];rfl);rw[hcs]at key;rw[←hsz];exact key
  ·cases h
 ·rename_i wd i off len;split at h
  ·rename_i hc;obtain⟨rfl,hg⟩:=hc;simp only[az]at hg;split at h
   ·rename_i cs hm;split at h
    ·rename_i l hb;split at h
     ·rename_i hl;simp only[ac,aA]at h;obtain⟨rfl,rfl⟩:=h;generalize hv:a.eval x=v at hx;cases hx with
      |bsl hbx ho hcap=>
       rename_i off' b cap;obtain⟨b',arr,e',hbo⟩:=hs.box hm hbx;have:b'=b:=by have:=hbo.bx;rw[hbx]at this;exact(aQ this).symm
       subst this;obtain⟨lo,hi,hh,hf⟩:=hbo.heap;obtain⟨e,h1,h2⟩:=QQ hg.1;obtain⟨ns,n1,n2,n3⟩:=MB hb ((hbo.rep.drop off).takeN len);have hnl:ns.length=len:=by have:=a7 List.length n3;simp at this;omega
       have hcell: ∀j,j<len→w.cell? ⟨b',off'+j,none⟩=some (.int .u8 (ns.getD j 0)):=by intro j hj;have ho':off'=off:=eT;subst ho';have q:=n2 j eT;have q1:=List.getElem?_take_some q;rw[b7]at q1;have q2:=List.getElem?_take_some q1;simp only[World.cell?,hh];simpa using q2
       have key:=dr w s e h1 h2 b' off' len cap ns eT hcell d (Bh hg.2);have hsz:(strOfNums ns).data.toList=l:=by rw[dS,n3];rfl
       refine⟨.value (.string (strOfNums ns)),w,a.put o.dst (.string (strOfNums ns)),Γ,by simp only[execOp,hop,hv];rw[au,key];rfl,fun K Q hk=>hk,put_defers _ _ _,Ext.refl _ _ _,ao _,?_⟩;rw[←hsz];refine hs.put o.dst (.str _ (by rw[hsz];omega)) (by simp[VM.own]) fun n=>?_;have:=hs.tok n;simp only[cnt];omega
     ·cases h
    ·cases h
   ·cases h
  ·cases h
 ·rename_i wd i len;split at h
  ·rename_i hc;obtain⟨rfl,hg⟩:=hc;simp only[az]at hg;split at h
   ·rename_i cs hm;split at h
    ·rename_i l hb;split at h
     ·rename_i hl;simp only[ac,aA]at h;obtain⟨rfl,rfl⟩:=h;generalize hv:a.eval x=v at hx;cases hx with
      |gsl hbx hbt hcap hcz=>
       rename_i b cap nn T;obtain⟨b',arr,e',hbo⟩:=hs.box hm hbx;have:b'=b:=by have:=hbo.bx;rw[hbx]at this;exact(aQ this).symm
       subst this;obtain⟨lo,hi,hh,hf⟩:=hbo.heap;obtain⟨e,h1,h2⟩:=QQ hg.1;obtain⟨ns,n1,n2,n3⟩:=MB hb (hbo.rep.takeN len);have hnl:ns.length=len:=by have:=a7 List.length n3;simp at this;omega
       have hcell: ∀j,j<len→w.cell? ⟨b',0+j,none⟩=some (.int .u8 (ns.getD j 0)):=by intro j hj;have q:=n2 j eT;have q1:=List.getElem?_take_some q;have q2:=List.getElem?_take_some q1;simp only[World.cell?,hh,bp];simpa using q2
       have key:=dr w s e h1 h2 b' 0 len cap ns eT hcell d (Bh hg.2);have hsz:(strOfNums ns).data.toList=l:=by rw[dS,n3];rfl
       refine⟨.value (.string (strOfNums ns)),w,a.put o.dst (.string (strOfNums ns)),Γ,by simp only[execOp,hop,hv];rw[au,key];rfl,fun K Q hk=>hk,put_defers _ _ _,Ext.refl _ _ _,ao _,?_⟩;rw[←hsz];refine hs.put o.dst (.str _ (by rw[hsz];omega)) (by simp[VM.own]) fun n=>?_;have:=hs.tok n;simp only[cnt];omega
     ·cases h
    ·cases h
   ·cases h
  ·cases h
 ·cases h
end
end Go.VM
set_option linter.unusedVariables false
namespace Go.VM
def PX (P:Program) (s d T:TypeId) (n:Nat):Bool:=match P.underlying s,P.underlying d with
 |some (.pointer t),some .unsafePointer=>(match P.info? t with|some j=>j.size !=0&&decide (0<n)|none=>false)
 |some .unsafePointer,some (.pointer u)=>(match P.info? u with|some _=>liesAt P P.depth T (n / P.cellsOf T) 0 u 1|none=>false)
 |_,_=>false
def NV (E:Env) (s d:TypeId) (x:AVal) (st:St):Option AVal:=match x with
 | .ptr i 0=>match Bv st.m i with |some (.nself j T n::_)=>if j=i∧PX E.P s d T n=true then some (.ptr i 0)else none|_=>none
 |_=>none
def NK (x:AVal):Option AVal:=match x with |.buf e l o=>some (.bufp e l o)|_=>none
def ptrTo (P:Program) (t e:TypeId):Bool:=match P.underlying t with|some (.pointer e')=>e'==e&&P.cellsOf e==1|_=>false
def Pn (E:Env) (t0:TypeId) (x y:AVal):Option AVal:=match x,y with |.bufp e l true,.int .i64 n=>if ptrTo E.P t0 e=true∧n=l.length then some (.str l)else none|_,_=>none
section
variable{E:Env}{F:Nat→Nat}{Γ:Ghost}{st:St}{w:World}{af:List AVal}{a:Act}
theorem AGj (hs:Sim E F Γ st w af a.tmps.toList){o:Oper}{s d:TypeId}{x:Operand}{r:AVal} (hop:o.op=.convert s d x) (h:NV E s d (rd E af s x) st=some r):∃nx w' a' Γ',Stepped E F Γ st w a o (Am af o.dst r) st nx w' a' Γ':=by
 have hx:=hs.rd s x;generalize rd E af s x=ax at *;generalize hvx:a.eval x=vx at hx;unfold NV at h;split at h
 ·rename_i i;split at h
  ·rename_i j T n rest hm;split at h
   ·rename_i hc;obtain⟨rfl,hcp⟩:=hc;cases h;obtain⟨b0,hbx0⟩: ∃b0,Γ.bx j=some b0:=by cases hx with|ptr hbx=>exact⟨_,hbx⟩
    obtain⟨b,arr,e,hb⟩:=hs.box hm hbx0;obtain⟨lo,hi,hh,hf⟩:=hb.heap;have hbt:Γ.bt j=some (T,n):=by have:=hb.rep;generalize arr.toList.take _=vs at this;cases this with |cons h _=>cases h;assumption
    obtain⟨rfl,hsz⟩:=hb.ty _ _ hbt;cases hx with
    | ptr hbx=>
     have:_=b:=aQ (hbx.symm.trans hb.bx);subst this;rename_i b;have hsh:w.shape? b=some (e,n):=by simp[World.shape?,hh,hsz]
     have hrun:(convert s d (.pointer (some ⟨b,0,none⟩))).run E.P w=.ok (.pointer (some ⟨b,0,none⟩)) w:=by
      unfold PX at hcp;split at hcp
      ·rename_i t hs1 hd1;split at hcp;·rename_i j' hj;simp only[az,dO,dp,al]at hcp;exact Go.Lib.run_to_unsafe w ⟨b,0,none⟩ hs1 hd1 hj hcp.1 hsh hcp.2
       ·cases hcp
      ·rename_i u hs1 hd1;split at hcp;·rename_i j' hj;exact Go.Lib.run_from_unsafe w ⟨b,0,none⟩ hs1 hd1 hj hsh hcp
       ·cases hcp
      ·cases hcp
     refine⟨.value (.pointer (some ⟨b,0,none⟩)),w,a.put o.dst _,Γ,by simp only[execOp,hop,hvx];rw[au,hrun];rfl,fun K Q hk=>hk,put_defers _ _ _,Ext.refl _ _ _,ao _,?_⟩;refine hs.put o.dst (.ptr hbx) (by simp[VM.own]) fun m=>?_;have:=hs.tok m;simp only[cnt];omega
   ·cases h
  ·cases h
 ·cases h
theorem AGE (hs:Sim E F Γ st w af a.tmps.toList){o:Oper}{x:Operand}{t0:TypeId}{ts:List TypeId}{r:AVal} (hop:o.op=.call {callee:=.builtin .unsafeSliceData,args:=⟨[x]⟩,argTypes:=⟨t0::ts⟩}) (h:NK (rd E af t0 x)=some r):∃nx w' a' Γ',Stepped E F Γ st w a o (Am (stripAt af x) o.dst r) st nx w' a' Γ':=by
 have hx:=hs.rd t0 x;have hox:=hs.rd_own t0 x;have hcx:=fun b=>hs.rd_cnt t0 x b;have hs1:=hs.stripAt x;have htk:=hs.tok;generalize rd E af t0 x=ax at *;generalize hvx:a.eval x=vx at *;unfold NK at h;split at h
 ·rename_i e l ow;cases h;have hargs:Array.map a.eval ⟨[x]⟩= #[vx]:=by simp[hvx]
  have hexec: ∀v,(Builtin.unsafeSliceData_ ⟨t0::ts⟩ o.type #[vx]).run E.P w=.ok v w→(execOp a.eval o).run E.P w=.ok (.value v) w:=by intro v hr;simp only[execOp,hop,resolve,hargs,au,aZ,aq,invoke,builtin];rw[hr];rfl
  cases hx with
  | buf _ hx hk=>
   have hul:(u8s l).length=l.length:=by simp[u8s]
   cases vx with
   | slice base len cap=>
    cases base with
    | none=>
     obtain⟨rfl,rfl⟩:=hk;have hl:l=[]:=by generalize u8s l=q at hx hul;cases hx;exact aY (by simpa using hul.symm)
     subst hl;refine⟨_,w,a.put o.dst _,Γ,hexec _ (Go.Lib.run_unsafeSliceData_nil w _ _ 0 0),fun K Q hk=>hk,put_defers _ _ _,Ext.refl _ _ _,ao _,?_⟩;refine hs1.put o.dst (.bnil _ _) ?_ fun b=>?_;·cases ow<;>simp[VM.own,TR,LW]
     ·have:=htk b;have:=hcx b;cases ow<;>simp only[cnt,LW]<;>omega
    | some ad=>
     obtain⟨b,off,sp⟩:=ad;obtain⟨h1,h2,h3,h4⟩:=hk;simp only at h1 h2 h4;subst h1;subst h2;obtain⟨cells,hc,hS,hlm⟩: ∃cells,Γ.com b=some cells∧RepS Γ 1 (u8s l) cells∧l.length≤DY:=by generalize u8s l=q at hx hul;cases hx with |snil=>exact absurd rfl h3|slice _ hb hl hc hS hnn=>exact⟨_,hb,by simpa using hS,eT⟩
     refine⟨_,w,a.put o.dst _,Γ,hexec _ (Go.Lib.run_unsafeSliceData_row w _ _ ⟨b,0,none⟩ len cap h3),fun K Q hk=>hk,put_defers _ _ _,Ext.refl _ _ _,ao _,?_⟩;refine hs1.put o.dst (.bufp _ hc h4 hS hlm) ?_ fun n=>?_
     ·cases ow;·simp[VM.own]
      ·simp only[VM.own]at hox⊢;exact hox.2
     ·have:=htk n;have h9:=hcx n;cases ow;·simp only[cnt]at h9⊢;omega
      ·have:LW n (.pointer (some ⟨b,0,none⟩))=Es n (.slice (some ⟨b,0,none⟩) len cap):=rfl;simp only[cnt]at h9⊢;omega
   |_=>exact hk.elim
 ·cases h
theorem Sim.freeze (hs:Sim E F Γ st w af a.tmps.toList){b:Nat}{cells:List Value}{arr:Array Value}{e:TypeId}{fz fz':Nat×Nat}{w':World} (hcom:Γ.com b=some cells) (hh:w.heap[b]?=some (.cells arr e fz)) (hw:w'.heap[b]?=some (.cells arr e fz')) (hk: ∀k,k≠b→w'.heap[k]?=w.heap[k]?) (hz:w'.heap.size=w.heap.size) (ho:w'.os=w.os) (hou:w'.output=w.output) (hta:w'.tape=w.tape) (ht:F b+AJ b af a.tmps.toList+Aa Γ w b st.m=0):Sim E F Γ st w' af a.tmps.toList∧Ext F Γ w Γ w':=by
 have hbox: ∀p,p∈st.m→∀k,Γ.bx p.1=some k→k≠b:=by
  intro p hp k hk' e';rcases hs.box_ok p hp with⟨k',ar,e2,hb⟩|⟨v,hv⟩;rotate_left;·have:=hv.bx;rw[hk']at this;cases this
  have h1:=hb.bx;rw[hk']at h1;cases h1;have:=hb.com;rw[e',hcom]at this;cases this
 have hcm: ∀n,Aa Γ w' n st.m=Aa Γ w n st.m:=fun n=>Dc fun p hp=>⟨rfl,fun k hkk=>hk k (hbox p hp k hkk)⟩;refine⟨?_,⟨Γ.le_refl,fun n hn=>⟨hk n (fun e=>by subst e;omega),rfl⟩,eT,ho,hou,hta⟩⟩;refine {hs with com_ok:=?_,box_ok:=?_,bx_lt:=?_,F_lt:=?_,own:=?_,tok:=?_}
 ·intro n cs h;obtain⟨ar,e',fz2,h2,h3⟩:=hs.com_ok n cs h;by_cases hnb:n=b;·subst hnb;rw[hh]at h2;cases h2;exact⟨arr,e,fz',hw,h3⟩
  ·exact⟨ar,e',fz2,by rw[hk n hnb];exact h2,h3⟩
 ·intro p hp;rcases hs.box_ok p hp with⟨k,ar,e',hb⟩|⟨v,hv⟩;rotate_left;·refine .inr ⟨v,hv.keep Γ.le_refl hv.bx fun n hn=>⟨hk n fun e=>?_,rfl⟩⟩;subst e;have:=hv.cnt n;have:=Pb (Γ:=Γ) (w:=w) (b:=n) hp;omega
  obtain⟨l2,h2,h3,h4⟩:=hb.heap;have hkb:=hbox p hp k hb.bx;refine .inl ⟨k,ar,e',hb.bx,⟨l2,h2,by rw[hk k hkb];exact h3,h4⟩,hb.rep,A9 Γ.le_refl _ _ hb.own fun n hn=>⟨hk n fun e=>?_,rfl⟩,hb.com,hb.one,hb.ty⟩;subst e;have hcb:CX Γ w n p=AJ n p.2 ar.toList:=by simp only[CX,hb.bx,hcells,h3]
  have:=ABW (Γ:=Γ) (w:=w) (b:=n) hp;omega
 ·intro i n h;rw[hz];exact hs.bx_lt i n h
 ·intro n hn;rw[hz]at hn;exact hs.F_lt n hn
 ·exact A9 Γ.le_refl _ _ hs.own fun n hn=>⟨hk n fun e=>by subst e;omega,rfl⟩
 ·intro n;rw[hcm n];exact hs.tok n
theorem RepS.u8_get{Γ:Ghost}: ∀ {l:List UInt8}{cells:List Value},RepS Γ 1 (u8s l) cells→l.length≤cells.length∧∀(j:Nat) (x:UInt8),l[j]?=some x→cells[j]?=some (Value.int .u8 x.toNat)
 |[],cells,_=>⟨bk _,fun j x h=>by simp at h⟩
 | c::l,cells,h=>by
  have h':RepS Γ 1 (.int .u8 c.toNat::u8s l) cells:=h;generalize hq:AVal.int .u8 c.toNat::u8s l=q at h';cases h' with
  |nil=>cases hq
  | cons h hw t=>
   cases hq;cases h;obtain⟨h1,h2⟩:=RepS.u8_get (l:=l) t;refine⟨?_,fun j x hj=>?_⟩;·rw[aj,ae];have:(Value.int IntKind.u8 ↑c.toNat).cells.toList.length=1:=rfl;omega
   ·cases j with |zero=>simp at hj;subst hj;rfl|succ j=>exact h2 j x (by simpa using hj)
theorem AIn (hs:Sim E F Γ st w af a.tmps.toList){o:Oper}{x y:Operand}{t0 t1:TypeId}{r:AVal} (hop:o.op=.call {callee:=.builtin .unsafeString,args:=⟨[x,y]⟩,argTypes:=⟨[t0,t1]⟩}) (h:Pn E t0 (rd E af t0 x) (rd E af t1 y)=some r):∃nx w' a' Γ',Stepped E F Γ st w a o (Am (stripAt af x) o.dst r) st nx w' a' Γ':=by
 have hx:=hs.rd t0 x;have hy:=hs.rd t1 y;have hcx:=fun b=>hs.rd_cnt t0 x b;have hs1:=hs.stripAt x;have htk:=hs.tok;generalize rd E af t0 x=ax at *;generalize rd E af t1 y=ay at *;generalize hvx:a.eval x=vx at *;generalize hvy:a.eval y=vy at *;unfold Pn at h;split at h
 ·rename_i e l n;split at h
  ·rename_i hc;obtain⟨hpt,rfl⟩:=hc;cases h;have hargs:Array.map a.eval ⟨[x,y]⟩= #[vx,vy]:=by simp[hvx,hvy]
   cases hy;have hexec: ∀v w',(Builtin.unsafeString_ #[t0,t1] o.type #[vx,.int .i64 l.length]).run E.P w=.ok v w'→(execOp a.eval o).run E.P w=.ok (.value v) w':=by intro v w' hr;simp only[execOp,hop,resolve,hargs,au,aZ,aq,invoke,builtin];rw[hr];rfl
   obtain⟨hu,hc1⟩:E.P.underlying t0=some (.pointer e)∧E.P.cellsOf e=1:=by
    unfold ptrTo at hpt;split at hpt;·rename_i e' hu;simp only[az,bw]at hpt;obtain⟨rfl,h2⟩:=hpt;exact⟨hu,h2⟩
    ·cases hpt
   by_cases hl0:l=[]
   ·subst hl0;obtain⟨p,rfl⟩: ∃p,vx=.pointer p:=by cases hx<;>exact⟨_,rfl⟩
    refine⟨_,w,a.put o.dst _,Γ,hexec _ _ (Go.Lib.run_unsafeString_none w t0 t1 o.type p),fun K Q hk=>hk,put_defers _ _ _,Ext.refl _ _ _,ao _,?_⟩;refine hs1.put o.dst (.str .empty (by simp[DY])) (by simp[VM.own]) fun n=>?_;have:=htk n;have:=hcx n;simp only[cnt];omega
   ·cases hx with
    |bnil=>exact absurd rfl hl0
    | bufp _ hb hct hS hlm=>
     rename_i b cells;obtain⟨arr,e',fz,hh,⟨ds,hds⟩,hce⟩:=hs.com_ok _ _ hb;have:=hce _ hct;subst this;obtain⟨hlc,hg⟩:=hS.u8_get;have hsize:cells.length+ds.length=arr.size:=by rw[←aj,←hds,ap]
     have hlm':l.length≤4611686018427387904:=hlm;have hrun:=Go.Lib.run_unsafeString_row (P:=E.P) w t0 t1 o.type e' hu hc1 b arr.size (by simp[World.shape?,hh]) l hl0 eT eT (fun j x hj=>by
      have h1:=hg j x hj;have h2:arr.toList[j]?=some (.int .u8 x.toNat):=by rw[hds,bZ (bK.1 h1).1];exact h1
      have e2:(⟨b,0,none⟩:Addr).add j=⟨b,j,none⟩:=by unfold Addr.add;split<;>simp_all
      rw[e2];simp only[World.cell?,hh];simpa using h2);have hcb:cnt b (.bufp e' l true) (.pointer (some ⟨b,0,none⟩))=1:=by simp[cnt,LW]
     have hz:F b+AJ b (stripAt af x) a.tmps.toList+Aa Γ w b st.m=0:=by have:=htk b;have:=hcx b;omega
     have hll:l.length≠0:=fun h=>hl0 (aY h);obtain⟨s2,x2⟩:=hs1.freeze (w':=w.freeze ⟨b,0,none⟩ l.length) (fz':=if fz.1==fz.2 then(0,0+l.length)else(min fz.1 0,max fz.2 (0+l.length))) hb hh (by simp[World.freeze,hll,cN,hh]) (fun k hk=>by simp only[World.freeze,ag hll,cN];rw[ag (fun e=>hk e.symm)]) (by simp[World.freeze,hll]) (by simp[World.freeze,hll]) (by simp[World.freeze,hll]) (by simp[World.freeze,hll]) hz;refine⟨_,_,a.put o.dst _,Γ,hexec _ _ hrun,fun K Q hk=>hk,put_defers _ _ _,x2,ao _,?_⟩;have hrs:Rep Γ (.str l) (.string ⟨l.toArray⟩):=Rep.str (Γ:=Γ) ⟨l.toArray⟩ (by simpa using hlm);refine s2.put o.dst hrs (by simp[VM.own]) fun n=>?_;have:=s2.tok n;simp only[cnt];omega
  ·cases h
 ·cases h
end
end Go.VM
set_option linter.unusedVariables false
namespace Go.VM
def Jm:List (List UInt8)→List AVal→List UInt8→Option AVal |k::ks,v::vs,s=>if s=k then some v else Jm ks vs s|_,_,_=>none
def M4:List (List UInt8)→List AVal→List UInt8→AVal→List AVal |k::ks,v::vs,s,x=>if s=k then x::vs else v::M4 ks vs s x|_,_,_,x=>[x]
def M9:List (List UInt8)→List UInt8→List (List UInt8) |k::ks,s=>if s=k then k::ks else k::M9 ks s|[],s=>[s]
def AAU (P:Program) (t:TypeId):Option TypeId:=match P.underlying t with |some (.map k e)=>if Ch P k=true then some e else none|_=>none
def Vi (st:St) (x:AVal):Option (Nat×List (List UInt8)×List AVal):=match x with
 |.sh i=>match Bv st.m i with|some [.map ks vs]=>some (i,ks,vs)|_=>none
 |_=>none
def PY (E:Env) (t:TypeId) (m k:AVal) (ok:Bool) (st:St):Option AVal:=
  match AAU E.P t,Vi st m,k with
  | some e,some (_,ks,vs),.str s=>
    match GJ E.P e with
    | some z=>
      let r:=match Jm ks vs s with|some x=>x.strip|none=>z.strip
      some (if ok then .tuple [r,.bool (Jm ks vs s).isSome]else r)
    |none=>none
  |_,_,_=>none
def Pp (E:Env) (t:TypeId) (m k x:AVal) (st:St):Option St:=match AAU E.P t,Vi st m,k with |some _,some (i,ks,vs),.str s=>some {st with m:=CP st.m i [.map (M9 ks s) (M4 ks vs s x)]}|_,_,_=>none
def Ghost.num (Γ:Ghost) (i:Nat) (v:Value):Ghost:= {Γ with sx:=fun j=>if j=i then some v else Γ.sx j}
section
variable{E:Env}{F:Nat→Nat}{Γ:Ghost}{st:St}{w:World}{af:List AVal}{a:Act}
theorem SF (hs:Sim E F Γ st w af a.tmps.toList){b:Nat} (h:0<Aa Γ w b st.m):b<w.heap.size:=by
 have: ∀m,(∀p,p∈m→p∈st.m)→0<Aa Γ w b m→b<w.heap.size:=by
  intro m;induction m with
  |nil=>intro _ h;simp[Aa]at h
  | cons p m ih=>
   intro hm h;rw[Aa]at h;rcases hs.box_ok p (hm p eU)with⟨k,arr,e',hb⟩|⟨v,hv⟩;rotate_left
   ·have hc':=hv.cnt b;rcases aS 0 (AJ b p.2 [v])with h'|h';·exact(BC _ _ hv.own h').1
    ·exact ih (fun q hq=>hm q (aC _ hq)) eT
   obtain⟨lo,hi,h3,h4⟩:=hb.heap;have hc':CX Γ w b p=AJ b p.2 arr.toList:=by simp[CX,hb.bx,hcells,h3]
   rcases aS 0 (AJ b p.2 arr.toList)with h'|h';·exact(BC _ _ hb.own h').1
   ·exact ih (fun q hq=>hm q (aC _ hq)) eT
 exact this st.m (fun _ h=>h) h
theorem Sim.elsewhere (hs:Sim E F Γ st w af a.tmps.toList){w':World}{b:Nat} (hk: ∀n,n<w.heap.size→n≠b→w'.heap[n]?=w.heap[n]?) (hz:w.heap.size≤w'.heap.size) (h1:Γ.com b=none) (h2: ∀i,i∈st.m.map (·.1)→Γ.bx i≠some b) (h3:AJ b af a.tmps.toList=0) (h4:Aa Γ w b st.m=0):Sim E F Γ st w' af a.tmps.toList:=by
 have kb: ∀p,p∈st.m→∀k,Γ.bx p.1=some k→w'.heap[k]?=w.heap[k]?:=fun p hp k hk'=>hk k (hs.bx_lt _ _ hk') (fun e=>h2 p.1 (dE hp) (by rw[hk',e]));have oneb: ∀p,p∈st.m→CX Γ w b p=0:=by
  intro p hp;have: ∀m,p∈m→CX Γ w b p≤Aa Γ w b m:=by
   intro m;induction m with
   |nil=>intro h;simp at h
   | cons q m ih=>
    intro h;rw[Aa];rcases aL.1 h with rfl|h;·omega
    ·have:=ih h;omega
  have:=this st.m hp;omega
 refine {hs with com_ok:=?_,box_ok:=?_,bx_lt:=?_,F_lt:=?_,own:=?_,tok:=?_};·intro n cs h;obtain⟨ar,e',fz,q2,q3⟩:=hs.com_ok n cs h;exact⟨ar,e',fz,by rw[hk n (hs.com_lt h) (fun e=>by subst e;rw[h1]at h;cases h)];exact q2,q3⟩
 ·intro p hp;rcases hs.box_ok p hp with⟨k,ar,e',hb⟩|⟨v,hv⟩;rotate_left;·have h0:=oneb p hp;have:=hv.cnt b;exact .inr ⟨v,hv.keep Γ.le_refl hv.bx fun n hn=>⟨hk n (BC _ _ hv.own hn).1 (fun e=>by subst e;omega),rfl⟩⟩
  obtain⟨lo,hi,q3,q4⟩:=hb.heap;have hc':CX Γ w b p=AJ b p.2 ar.toList:=by simp[CX,hb.bx,hcells,q3]
  have h0:=oneb p hp;refine .inl ⟨k,ar,e',hb.bx,⟨lo,hi,by rw[kb p hp k hb.bx];exact q3,q4⟩,hb.rep,A9 Γ.le_refl _ _ hb.own fun n hn=>?_,hb.com,hb.one,hb.ty⟩;exact⟨hk n (BC _ _ hb.own hn).1 (fun e=>by subst e;omega),rfl⟩
 ·intro i n h;have:=hs.bx_lt i n h;omega
 ·intro n hn;exact hs.F_lt n eT
 ·exact A9 Γ.le_refl _ _ hs.own fun n hn=>⟨hk n (BC _ _ hs.own hn).1 (fun e=>by subst e;omega),rfl⟩
 ·intro n;rw[Dc (w:=w) fun p hp=>⟨rfl,kb p hp⟩];exact hs.tok n
theorem Sim.le_num{tm:List Value} (hs:Sim E F Γ st w af tm) (v:Value):Γ.le (Γ.num st.next v):=by refine⟨fun b cs h=>⟨[],by simpa[Ghost.num]using h⟩,fun _ _ h=>h,fun _ _ h=>h,fun _ _ h=>h,fun i u h=>?_⟩;simp only[Ghost.num];have:=(hs.sx_next i u h).1;rw[ag eT];exact h
theorem Sim.newSh{tm:List Value} (hs:Sim E F Γ st w af tm){x:AVal}{v:Value} (hr:Rep Γ x v) (ho:VM.own Γ w x v) (ht: ∀b,F b+AJ b af tm+cnt b x v+Aa Γ w b st.m≤1):Sim E F (Γ.num st.next v) {m:=(st.next,[x])::st.m,next:=st.next+1} w af tm∧Ext F Γ w (Γ.num st.next v) w:=by
 have hle:=hs.le_num v;have hbn:Γ.bx st.next=none:=by cases h:Γ.bx st.next with |none=>rfl|some b=>exact absurd (hs.bx_next _ _ h) eT
 refine⟨?_,⟨hle,fun _ _=>⟨rfl,rfl⟩,ao _,rfl,rfl,rfl⟩⟩;refine {com_ok:=hs.com_ok,box_ok:=?_,sx_next:=?_,keys:=?_,inj:=hs.inj,bx_lt:=hs.bx_lt,bx_next:=fun i b h=>?_,tyd:=hs.tyd,bx_F:=?_,F_lt:=hs.F_lt,glob:=fun g cs h=>(hs.glob g cs h).mono hle,rep:=hs.rep.mono hle,own:=A9 hle _ _ hs.own fun _ _=>⟨rfl,rfl⟩,tok:=fun b=>?_}
 ·intro p hp;rcases aL.1 hp with rfl|hp;·exact .inr ⟨v,by simp[Ghost.num],hbn,.cons (hr.mono hle) .nil,by rw[ownL];exact⟨AAp hle _ _ ho fun _ _=>⟨rfl,rfl⟩,by simp[ownL]⟩⟩
  ·rcases hs.box_ok p hp with⟨k,ar,e',hb⟩|⟨u,hv⟩;·exact .inl ⟨k,ar,e',hb.bx,hb.heap,hb.rep.mono hle,A9 hle _ _ hb.own fun _ _=>⟨rfl,rfl⟩,hb.com,hb.one,hb.ty⟩
   ·exact .inr ⟨u,hv.keep hle hv.bx fun _ _=>⟨rfl,rfl⟩⟩
 ·intro i u h;show i<st.next+1∧_;simp only[Ghost.num]at h;split at h;·rename_i e;subst e;exact⟨eT,hbn⟩
  ·obtain⟨h1,h2⟩:=hs.sx_next i u h;exact⟨eT,h2⟩
 ·simp only[aK,bY];refine⟨fun hm=>?_,hs.keys⟩;obtain⟨p,hp,e⟩:=bo.1 hm;have:=hs.key_lt hp;omega
 ·have:=hs.bx_next i b h;show i<st.next+1;omega
 ·intro p b hp hb;rcases aL.1 hp with rfl|hp;·have:Γ.bx st.next=some b:=hb;rw[hbn]at this;cases this
  ·exact hs.bx_F p b hp hb
 ·have hck:Aa (Γ.num st.next v) w b st.m=Aa Γ w b st.m:=Dc (fun p hp=>⟨rfl,fun _ _=>rfl⟩) (fun p hp=>by have:=hs.key_lt hp;simp only[Ghost.num];rw[ag eT]);rw[Aa,hck];have hc:CX (Γ.num st.next v) w b (st.next,[x])=cnt b x v:=by
   have h1:(Γ.num st.next v).bx st.next=none:=hbn;have h2:(Γ.num st.next v).sx st.next=some v:=by simp[Ghost.num]
   simp only[CX,h1,h2,AJ];omega
  rw[hc];have:=ht b;omega
theorem Sim.fresh (hs:Sim E F Γ st w af a.tmps.toList) (o:Obj):Sim E F Γ st (w.alloc o) af a.tmps.toList∧Ext F Γ w Γ (w.alloc o)∧F w.heap.size=0∧AJ w.heap.size af a.tmps.toList=0∧Aa Γ (w.alloc o) w.heap.size st.m=0:=by
 have hold: ∀n,n<w.heap.size→(w.alloc o).heap[n]?=w.heap[n]?:=fun n hn=>alloc_old o hn;have h1:AJ w.heap.size af a.tmps.toList=0:=by
  rcases aS 0 (AJ w.heap.size af a.tmps.toList)with h|h;·have:=(BC _ _ hs.own h).1;omega
  ·omega
 have h2:Aa Γ w w.heap.size st.m=0:=by
  rcases aS 0 (Aa Γ w w.heap.size st.m)with h|h;·have:=SF hs h;omega
  ·omega
 refine⟨hs.elsewhere (b:=w.heap.size) (fun n hn _=>hold n hn) eU (hs.com_none (ao _)) (fun i hi h=>?_) h1 h2,⟨Γ.le_refl,fun n hn=>⟨hold n (hs.F_of hn),rfl⟩,eU,rfl,rfl,rfl⟩,hs.F_lt _ (ao _),h1,?_⟩;·have:=hs.bx_lt _ _ h;omega
 ·rw[Dc (Γ:=Γ) (w:=w) fun p hp=>⟨rfl,fun k hk=>hold k (hs.bx_lt _ _ hk)⟩];exact h2
theorem WZ (hs:Sim E F Γ st w af a.tmps.toList){o:Oper}{t:TypeId} (hop:o.op=.makeMap t none):∃nx w' a' Γ',Stepped E F Γ st w a o (Am af o.dst (.sh st.next)) {m:=(st.next,[.map [] []])::st.m,next:=st.next+1} nx w' a' Γ':=by
 obtain⟨s1,x1,f1,f2,f3⟩:=hs.fresh (.map #[] 0);have hcnt: ∀b,cnt b (.map [] []) (.map (some w.heap.size))=if w.heap.size=b then 1 else 0:=fun b=>by simp[cnt,PE]
 obtain⟨s2,x2⟩:=s1.newSh (x:=.map [] []) (v:=.map (some w.heap.size)) (.map _ _ _) (by simp only[VM.own];exact⟨_,#[],0,rfl,Kj _,.nil⟩) (fun b=>by
  rw[hcnt];split;·rename_i e;subst e;omega
  ·have:=s1.tok b;omega);refine⟨.value (.map (some w.heap.size)),w.alloc (.map #[] 0),a.put o.dst (.map (some w.heap.size)),_,?_,fun K Q hk=>hk,put_defers _ _ _,x1.trans x2,eU,?_⟩;·simp only[execOp,hop];rfl
 ·refine s2.put o.dst (.sh (by simp[Ghost.num]) ⟨rfl,rfl⟩) (by simp[VM.own]) fun b=>?_;have:=s2.tok b;simp only[cnt];omega
theorem Vv{P:Program}{t e:TypeId} (h:AAU P t=some e): ∃k,P.underlying t=some (.map k e)∧P.underlying k=some .string:=by
 unfold AAU at h;split at h
 ·split at h;·rename_i k e' hu hk;cases h;exact⟨k,hu,Bh hk⟩
  ·cases h
 ·cases h
theorem Tz (hs:Sim E F Γ st w af a.tmps.toList){x:AVal}{v:Value}{i:Nat}{ks:List (List UInt8)}{vs:List AVal} (h:Vi st x=some (i,ks,vs)) (hr:Rep Γ x v):Bv st.m i=some [.map ks vs]∧ShOK Γ w (i,[.map ks vs]) v∧Xv Γ w ks vs v:=by
 unfold Vi at h;split at h
 ·rename_i j;split at h
  ·rename_i ks' vs' hg;cases h;cases hr with
   | sh hsx hk=>
    rcases hs.box_ok _ (K9 hg)with⟨b,arr,e,hb⟩|⟨u,hv⟩;·have:=(hs.sx_next _ _ hsx).2;have h2:=hb.bx;rw[this]at h2;cases h2
    ·have:u=v:=by have:=hv.sx;rw[hsx]at this;exact(aQ this).symm
     subst this;have:=hv.own;simp only[ownL,VM.own]at this;exact⟨hg,hv,this.1⟩
  ·cases h
 ·cases h
theorem Yc{a b:ByteArray}:Value.string a=Value.string b↔a.data.toList=b.data.toList:=by
 constructor;·intro h;cases h;rfl
 ·intro h;obtain⟨a⟩:=a;obtain⟨b⟩:=b;have:a=b:=dv.1 h;rw[this]
theorem RepK.find{ks:List (List UInt8)}{vs:List AVal}{es:List MapEntry} (h:RepK Γ ks vs es) (s:ByteArray): ∀i,(Instr.findNow .string (.string s) es i=some none∧Jm ks vs s.data.toList=none∧∀x val born,Rep Γ x val→RepK Γ (M9 ks s.data.toList) (M4 ks vs s.data.toList x) (es++[⟨.string s,val,born⟩]))∨∃j e0 x0,Instr.findNow .string (.string s) es i=some (some (i+j,e0.val))∧es[j]?=some e0∧e0.key=.string s∧Jm ks vs s.data.toList=some x0∧Rep Γ x0 e0.val∧∀x val,Rep Γ x val→RepK Γ (M9 ks s.data.toList) (M4 ks vs s.data.toList x) (es.modify j fun e=>{e with key:=.string s,val:=val}):=by
 induction h with
 |nil=>exact fun i=>.inl ⟨rfl,rfl,fun x val born hx=>.cons rfl hx .nil⟩
 | @cons b x e ks vs es hk hv t ih=>
  intro i;by_cases he:s=b
  ·subst he;have hb:(s==s)=true:=(Go.MapKept.bytes_beq s s).2 rfl;refine .inr ⟨0,e,x,?_,rfl,hk,by simp[Jm],hv,fun y val hy=>?_⟩;·rw[Instr.findNow,hk];simp[Instr.sameNow,hb]
   ·simp only[M9,M4,aE,List.modify_zero_cons];exact .cons rfl hy t
  ·have hb:(s==b)=false:=by cases h:s==b with |false=>rfl|true=>exact absurd ((Go.MapKept.bytes_beq s b).1 h) he
   have hne: ¬s.data.toList=b.data.toList:=fun h=>he (by have:=Yc.2 h;cases this;rfl);have hf:Instr.findNow .string (.string s) (e::es) i=Instr.findNow .string (.string s) es (i+1):=by rw[Instr.findNow,hk];simp[Instr.sameNow,hb]
   rw[hf];rcases ih (i+1)with⟨h1,h2,h3⟩|⟨j,e0,x0,h1,h2,h3,h4,h5,h6⟩;·exact .inl ⟨h1,by rw[Jm,ag hne];exact h2,fun y val born hy=>by rw[M9,M4,ag hne,ag hne];exact .cons hk hv (h3 y val born hy)⟩
   ·refine .inr ⟨j+1,e0,x0,by rw[h1];congr 3;omega,by simpa using h2,h3,by rw[Jm,ag hne];exact h4,h5,fun y val hy=>?_⟩;rw[M9,M4,ag hne,ag hne,List.modify_succ_cons];exact .cons hk hv (h6 y val hy)
theorem ABG (hs:Sim E F Γ st w af a.tmps.toList){o:Oper}{t:TypeId}{m k:Operand}{ok:Bool}{r:AVal} (hop:o.op=.lookup t m k ok) (h:PY E t (rd E af t m) (rd E af 0 k) ok st=some r):∃nx w' a' Γ',Stepped E F Γ st w a o (Am af o.dst r) st nx w' a' Γ':=by
 have hm:=hs.rd t m;have hk:=hs.rd 0 k;generalize rd E af t m=am at *;generalize rd E af 0 k=ak at *;generalize hvm:a.eval m=vm at *;generalize hvk:a.eval k=vk at *;unfold PY at h;split at h
 ·rename_i e i ks vs s ht hma;split at h
  ·rename_i z hz;simp only[ac]at h;subst h;obtain⟨kt,hu,huk⟩:=Vv ht;obtain⟨_,_,b,es,clock,rfl,hb,hK⟩:=Tz hs hma hm;obtain⟨zv,hzv,hc⟩:=NT (Γ:=Γ) (w:=w) hz;cases hk with
   | str sb hn=>
    have key: ∃u r',(Instr.lookup t (.map (some b)) (.string sb) ok).run E.P w=.ok u w∧Rep Γ (if ok then .tuple [(match Jm ks vs sb.data.toList with|some x=>x.strip|none=>z.strip),.bool (Jm ks vs sb.data.toList).isSome]else(match Jm ks vs sb.data.toList with|some x=>x.strip|none=>z.strip)) u∧(if ok then .tuple [(match Jm ks vs sb.data.toList with|some x=>x.strip|none=>z.strip),.bool (Jm ks vs sb.data.toList).isSome]else(match Jm ks vs sb.data.toList with|some x=>x.strip|none=>z.strip))=AVal.strip r':=by
     rcases hK.find sb 0 with⟨h1,h2,_⟩|⟨j,e0,x0,h1,_,_,h4,h5,_⟩
     ·rw[h2];refine⟨if ok then .tuple #[zv,.bool false]else zv,if ok then .tuple [z,.bool false]else z,?_,?_,?_⟩;·cases ok<;>simp[Instr.lookup,aB hu,cv hb,cH huk (d:=.string) (k:=.string sb) trivial,cL huk h1,hzv,Result.andThen]
      ·cases ok;·exact hc.rep.strip
       ·exact .tuple (.cons hc.rep.strip (.cons (.bool _) .nil))
      ·cases ok<;>simp[AVal.strip,stripL]
     ·rw[h4];refine⟨if ok then .tuple #[e0.val,.bool true]else e0.val,if ok then .tuple [x0,.bool true]else x0,?_,?_,?_⟩;·cases ok<;>simp[Instr.lookup,aB hu,cv hb,cH huk (d:=.string) (k:=.string sb) trivial,cL huk h1,Result.andThen]
      ·cases ok;·exact h5.strip
       ·exact .tuple (.cons h5.strip (.cons (.bool _) .nil))
      ·cases ok<;>simp[AVal.strip,stripL]
    obtain⟨u,r',hrun,hrep,hst⟩:=key;refine⟨.value u,w,a.put o.dst u,Γ,?_,fun K Q hk=>hk,put_defers _ _ _,Ext.refl _ _ _,ao _,?_⟩;·simp only[execOp,hop,hvm,hvk];rw[au,hrun];rfl
    ·refine hs.put o.dst hrep (by rw[hst];exact Jw _ _ _ _) fun b=>?_;rw[hst,Iz];exact hs.tok b
  ·cases h
 ·cases h
theorem Rb (hs:Sim E F Γ st w af a.tmps.toList){o:Oper}{t:TypeId}{m k x:Operand}{st':St} (hop:o.op=.mapUpdate t m k x∨o.op=.insert t m k x) (hd:o.dst=none) (h:Pp E t (rd E af t m) (rd E af 0 k) (rd E af 0 x) st=some st'):∃nx w' a' Γ',Stepped E F Γ st w a o af st' nx w' a' Γ':=by
 have hm:=hs.rd t m;have hk:=hs.rd 0 k;have hx:=hs.rd 0 x;generalize rd E af t m=am at *;generalize rd E af 0 k=ak at *;generalize rd E af 0 x=ax at *;generalize hvm:a.eval m=vm at *;generalize hvk:a.eval k=vk at *;generalize hvx:a.eval x=vx at *;unfold Pp at h;split at h
 ·rename_i e i ks vs s ht hma;simp only[ac]at h;subst h;obtain⟨kt,hu,huk⟩:=Vv ht;obtain⟨hg,hv,b,es,clock,rfl,hb,hK⟩:=Tz hs hma hm;cases hk with
  | str sb hn=>
   obtain⟨es',clock',hrun,hK'⟩: ∃es' clock',(Instr.mapUpdate t (.map (some b)) (.string sb) vx).run E.P w=.ok () {w with heap:=w.heap.setIfInBounds b (.map es' clock')}∧RepK Γ (M9 ks sb.data.toList) (M4 ks vs sb.data.toList ax) es'.toList:=by
    rcases hK.find sb 0 with⟨h1,h2,h3⟩|⟨j,e0,x0,h1,h2,h3,h4,h5,h6⟩;·refine⟨es.push ⟨.string sb,vx,clock⟩,clock+1,?_,by rw[Array.toList_push];exact h3 _ _ _ hx⟩;simp[Instr.mapUpdate,aB hu,cv hb,cH huk (d:=.string) (k:=.string sb) trivial,cL huk h1,dX _ hb,Result.andThen]
    ·refine⟨es.modify j fun e=>{e with key:=.string sb,val:=vx},clock,?_,by rw[Array.toList_modify];exact h6 _ _ hx⟩;have hj:es[j]?=some e0:=by simpa using h2
     simp[Instr.mapUpdate,aB hu,cv hb,cH huk (d:=.string) (k:=.string sb) trivial,cL huk h1,hj,h3,Go.MapKept.run_keyThatStays (d:=.string) (k:=.string sb) trivial,dX _ hb,Result.andThen]
   have hlt:b<w.heap.size:=SI hb;have hc1: ∀n,AJ n [.map ks vs] [.map (some b)]=if b=n then 1 else 0:=fun n=>by simp[AJ,cnt,PE]
   have hcm: ∀n,Aa Γ w n (CP st.m i [.any])+(if b=n then 1 else 0)=Aa Γ w n st.m:=fun n=>by
    have e1:=Hl (Γ:=Γ) (Γ':=Γ) (w:=w) (w':=w) (b:=n) (x:=[.any]) hs.keys hg (fun p hp hne=>rfl);have e2:=hv.cnt n;rw[hc1]at e2;have e3:CX Γ w n (i,[.any])=0:=by simp only[CX,hv.bx,hv.sx];simp[AJ,cnt]
    omega
   have s1:Sim E F Γ {st with m:=CP st.m i [.any]} w af a.tmps.toList:=hs.setSh hg hv (.cons (.any _) .nil) (by simp[ownL,VM.own]) (fun n=>by rw[hc1];have:=hs.tok n;simp only[AJ,cnt];omega);have htb:=hs.tok b;have hcb:=hcm b;rw[ah rfl]at hcb;have hold: ∀n,n≠b→({w with heap:=w.heap.setIfInBounds b (.map es' clock')}:World).heap[n]?=w.heap[n]?:=fun n hn=>by simp only[];rw[dn (fun e=>hn e.symm)]
   have hnew:({w with heap:=w.heap.setIfInBounds b (.map es' clock')}:World).heap[b]?=some (.map es' clock'):=by simp[hlt]
   have s2:Sim E F Γ {st with m:=CP st.m i [.any]} {w with heap:=w.heap.setIfInBounds b (.map es' clock')} af a.tmps.toList:=s1.elsewhere (b:=b) (fun n _ hn=>hold n hn) eU (by cases hc:Γ.com b with |none=>rfl|some cs=>obtain⟨ar,e',fz,q2,_⟩:=hs.com_ok b cs hc;rw[hb]at q2;cases q2) (fun j hj hbx=>by
    obtain⟨p,hp,rfl⟩:=bo.1 hj;rcases s1.box_ok p hp with⟨k,ar,e',hbk⟩|⟨u,hu'⟩;·obtain⟨lo,hi,q3,_⟩:=hbk.heap;have:=hbk.bx;rw[hbx]at this;cases this;rw[hb]at q3;cases q3
    ·have:=hu'.bx;rw[hbx]at this;cases this) eT (by show Aa Γ w b (CP st.m i [.any])=0;omega);have hg2:Bv (CP st.m i [.any]) i=some [.any]:=Ku hg;have hv2:ShOK Γ {w with heap:=w.heap.setIfInBounds b (.map es' clock')} (i,[.any]) (.map (some b)):=⟨hv.sx,hv.bx,.cons (.any _) .nil,by simp[ownL,VM.own]⟩;have s3:=s2.setSh (cs':=[.map (M9 ks sb.data.toList) (M4 ks vs sb.data.toList ax)]) hg2 hv2 (.cons (.map _ _ _) .nil) (by simp only[ownL,VM.own,cY];exact⟨b,es',clock',rfl,hnew,hK'⟩) (fun n=>by
    have h1:AJ n [.map (M9 ks sb.data.toList) (M4 ks vs sb.data.toList ax)] [.map (some b)]=if b=n then 1 else 0:=by simp[AJ,cnt,PE]
    have h2:Aa Γ {w with heap:=w.heap.setIfInBounds b (.map es' clock')} n (CP st.m i [.any])=Aa Γ w n (CP st.m i [.any]):=Dc fun p hp=>⟨rfl,fun k hk=>hold k (fun e=>by
     subst e;rcases s1.box_ok p hp with⟨k',ar,e',hbk⟩|⟨u,hu'⟩;·obtain⟨lo,hi,q3,_⟩:=hbk.heap;have:=hbk.bx;rw[hk]at this;cases this;rw[hb]at q3;cases q3
     ·have:=hu'.bx;rw[hk]at this;cases this)⟩;rw[h1];show _+Aa Γ {w with heap:=w.heap.setIfInBounds b (.map es' clock')} n (CP st.m i [.any])≤_;rw[h2];have:=hs.tok n;have:=hcm n;omega);simp only[Nj]at s3;refine⟨.skip,_,a.put o.dst undef,Γ,?_,fun K Q hk=>hk,put_defers _ _ _,⟨Γ.le_refl,fun n hn=>⟨hold n (fun e=>by subst e;omega),rfl⟩,eU,rfl,rfl,rfl⟩,ao _,by rw[hd];exact s3⟩;rcases hop with hop|hop<;>(simp only[execOp,hop,hvm,hvk,hvx];rw[au,hrun];rfl)
 ·cases h
def Lj (E:Env) (t0 t1:TypeId) (s y:AVal):Option AVal:=match s with
 | .slice wd xs true=>match Lp E.P t0,Mk wd y with |some (z,by_),some [y1]=>if z=wd∧JC E.P t1=none∧A7 E.P t1=true∧(xs.length+1) * by_≤140737488355328∧xs.length+1≤DY then some (.slop wd xs)else none|_,_=>none
 |_=>none
set_option maxHeartbeats 1000000 in theorem WI (hs:Sim E F Γ st w af a.tmps.toList){o:Oper}{x y:Operand}{t0 t1:TypeId}{ts:List TypeId}{r:AVal} (hop:o.op=.call {callee:=.builtin .append,args:=#[x,y],argTypes:=⟨t0::t1::ts⟩}) (h:Lj E t0 t1 (rd E af t0 x) (rd E af t1 y)=some r):∃v w' Γ',(execOp a.eval o).run E.P w=.ok (.value v) w'∧Ext F Γ w Γ' w'∧Sim E F Γ' st w' (stripAt af x) a.tmps.toList∧Rep Γ' r v∧VM.own Γ' w' r v∧(v.cells= #[v]∧v.oneCell'=true)∧(∀n,F n+AJ n (stripAt af x) a.tmps.toList+cnt n r v+Aa Γ' w' n st.m≤1):=by
 have hx:=hs.rd t0 x;have hox:=hs.rd_own t0 x;have hcx:=fun b=>hs.rd_cnt t0 x b;have hy:=hs.rd t1 y;have hs1:=hs.stripAt x;have htk:=hs.tok;generalize rd E af t1 y=ay at *;generalize rd E af t0 x=ax at *;generalize hvx:a.eval x=vx at *;generalize hvy:a.eval y=vy at *;unfold Lj at h;split at h
 ·rename_i wd xs;split at h
  ·rename_i z byt y1 hap hsrc;split at h
   ·rename_i hc;obtain⟨rfl,hint,hkn,hroom,h62'⟩:=hc;have h62:xs.length+1≤4611686018427387904:=h62';simp only[ac]at h;subst h;obtain⟨e,i,zv,hu,hi,hz,hzs,his,hib⟩:=Ki hap;obtain⟨news,src⟩:=TD hs hy hsrc;obtain⟨d1,hd1⟩:=DX hkn;have hargs:Array.map a.eval #[x,y]= #[vx,vy]:=by simp[hvx,hvy]
    have hexec: ∀r,(Builtin.append_ ⟨t0::t1::ts⟩ o.type #[vx,vy]).run E.P w=r→(execOp a.eval o).run E.P w=r.andThen fun v w'=>.ok (.value v) w':=by intro r hr;simp only[execOp,hop,resolve,hargs,au,aZ,aq,invoke,builtin];rw[hr]
    by_cases hfit: ∃b off len cap,vx=.slice (some ⟨b,off,none⟩) len cap∧len+[y1].length≤cap
    ·obtain⟨b,off,len,cap,rfl,hfits⟩:=hfit;have hfits1:len+1≤cap:=hfits;simp only[VM.own]at hox;obtain⟨arr,e',lo,hi',cells,hh,hf,hcom,hcl,hsz⟩:=RD hox eT;obtain⟨arr0,e0,fz0,hh0,⟨ds,hds⟩,hct0⟩:=hs.com_ok b cells hcom;rw[hh]at hh0;cases hh0;obtain⟨hl,hS⟩:xs.length=len∧RepS Γ z xs (cells.drop off):=by cases hx with |snil=>omega|slice _ hb hl hcap hS hnn=>rw[hcom]at hb;cases hb;exact⟨hl,hS⟩
     have hlenarr:cells.length+ds.length=arr.size:=by rw[←aj,←hds,ap]
     have hnl:news.length≤ds.length:=by rw[src.size];have:(len+[y1].length) * z≤cap * z:=ce _ hfits;rw[bR]at this;omega
     obtain⟨w',arr',r1,q1,q2,q3,q4,q5,q6,q7,q8⟩:=FY (P:=E.P) (b:=b) (base:=off+len * z) news 0 arr w hh hf eT src.one;rw[bM,←hcl,hds,G8 _ _ _ hnl]at q2;have hbt:1≤cnt b (.slice z xs true) (.slice (some ⟨b,off,none⟩) len cap):=by simp only[cnt,Gn];rw[ah ⟨eT,trivial⟩];omega
     have hzero:F b+AJ b (stripAt af x) a.tmps.toList+Aa Γ w b st.m=0:=by have:=hcx b;have:=htk b;omega
     obtain⟨s2,x2,hcm⟩:=hs1.grow (news:=[]) (rest:=news++ds.drop news.length) hcom q1 (by rw[q2];simp) q4 q5 q6 q7 q8 eU hzero hct0;have hlen:=src.len w;have hfirst:=src.first w (fun _ _=>rfl);rw[←his]at hfirst r1;have hrun:(Builtin.append_ ⟨t0::t1::ts⟩ o.type #[.slice (some ⟨b,off,none⟩) len cap,vy]).run E.P w=.ok (.slice (some ⟨b,off,none⟩) (len+[y1].length) cap) w':=by rw[LJ hu hi hd1 hint hlen hfits hfirst];simp only[addr_add];rw[au,r1];rfl
     refine⟨_,w',_,hexec _ hrun,x2,s2,.slop (cells:=cells++[]) (by simp[Ghost.ext]) (by simp[hl]) ⟨hfits,by rw[←hl];exact h62'⟩ ?_,?_,⟨rfl,rfl⟩,?_⟩
     ·have hS2:RepS Γ z xs ((cells++[]).drop off):=by rw[aI];exact hS
      exact hS2.mono x2.le
     ·simp only[VM.own,LZ];exact⟨arr',e',lo,hi',cells++[],q1,by rw[q3];exact hf,trivial,by simp[Ghost.ext],by rw[aI,hcl,hl],by rw[q3];exact hsz,by rw[hl];rfl⟩
     ·intro n;rw[hcm n];have h1:cnt n (.slop z xs) (.slice (some ⟨b,off,none⟩) (len+[y1].length) cap)≤cnt n (.slice z xs true) (.slice (some ⟨b,off,none⟩) len cap):=by
       simp only[cnt,Gn,Es];split;·rename_i hh';rw[ah ⟨eT,hh'⟩];omega
       ·omega
      have:=hcx n;have:=htk n;omega
    ·obtain⟨base,len,cap,rfl,hlen,hcap⟩: ∃base len cap,vx=.slice base len cap∧xs.length=len∧len≤cap:=by cases hx with |snil=>exact⟨_,0,0,rfl,rfl,ao _⟩|slice _ hb hl hc hS hnn=>exact⟨_,_,_,rfl,hl,hc.1⟩
     obtain⟨olds,so⟩:=Nu hs hx;subst hlen;have hneed: ¬(xs.length+[y1].length≤cap):=by intro hle;apply hfit;cases hx with |snil=>exact absurd hle eU|slice _ hb hl hc hS hnn=>exact⟨_,_,_,_,rfl,hle⟩
     have hy1:[y1].length=1:=rfl;have h63: ¬(9223372036854775807<((xs.length:Int)+([y1].length:Int))):=eT;have h48: ¬(281474976710656<Builtin.nextslicecap (xs.length+[y1].length) cap * i.bytes):=by have:=eN (need:=xs.length+[y1].length) (old:=cap) (bytes:=i.bytes) eT (by rw[hib];exact hroom);omega
     have hl1:=src.len w;have hf1:=src.first w.drew (fun _ _=>rfl);have hf0:=so.first w.drew (fun _ _=>rfl);rw[←his]at hf1 hf0;generalize hnc:grownCap w (xs.length+[y1].length) cap e=nc;have hge:xs.length+[y1].length≤nc:=by rw[←hnc];exact d5 _ _ _ _
     have hrun:(Builtin.append_ ⟨t0::t1::ts⟩ o.type #[.slice base xs.length cap,vy]).run E.P w=.ok (.slice (some ⟨w.heap.size,0,none⟩) (xs.length+[y1].length) nc) (w.drew.alloc (.cells (olds.toArray++news.toArray++Builtin.zeroCells zv.cells (nc-(xs.length+[y1].length))) e)):=by
      subst hnc;have e3:IntKind.i64.max=9223372036854775807:=eV;have h64: ¬(((xs.length+[y1].length:Nat):Int)>IntKind.i64.max):=by rw[e3];omega
      exact KL hu hi hz hd1 hint hl1 hneed eT h64 hf0 hf1
     have hsd:Sim E F Γ st w.drew (stripAt af x) a.tmps.toList:=hs1.drew;obtain⟨s2,x2,hcm⟩:=hsd.newArr (cells:=olds.toArray++news.toArray++Builtin.zeroCells zv.cells (nc-(xs.length+[y1].length))) (e:=e) (pre:=olds) (spare:=news++(Builtin.zeroCells zv.cells (nc-(xs.length+[y1].length))).toList) (fz:=(0,0)) eU so.one;have x0:Ext F Γ w Γ w.drew:=⟨Γ.le_refl,fun _ _=>⟨rfl,rfl⟩,ao _,rfl,rfl,rfl⟩;refine⟨_,_,_,hexec _ hrun,x0.trans x2,s2,.slop (cells:=olds) (by simp[Ghost.arr]) eU ⟨hge,h62'⟩ ?_,?_,⟨rfl,rfl⟩,?_⟩;·rw[aT];exact so.rep.mono x2.le
     ·simp only[VM.own,LZ];refine⟨_,e,0,0,olds,Kj _,eT,trivial,by simp[Ghost.arr],?_,?_,rfl⟩;·rw[so.size,bp]
      ·simp only[Array.size_append,bU,so.size,src.size,Builtin.zeroCells,eO,et,hzs,←bR];rw[bp];apply ce;omega
     ·intro n;have hcn:AJ n (stripAt af x) a.tmps.toList+Aa (Γ.arr w.drew.heap.size olds e) (w.drew.alloc (.cells (olds.toArray++news.toArray++Builtin.zeroCells zv.cells (nc-(xs.length+[y1].length))) e)) n st.m+F n+(if n=w.heap.size then 1 else 0)≤1:=hcm n;have h1:cnt n (.slop z xs) (.slice (some ⟨w.heap.size,0,none⟩) (xs.length+[y1].length) nc)≤if n=w.heap.size then 1 else 0:=by
       simp only[cnt,Es];split;·rename_i hh';rw[ah hh'.symm];omega
       ·omega
      omega
   ·cases h
  ·cases h
 ·cases h
theorem YS (hs:Sim E F Γ st w af a.tmps.toList){o:Oper}{x y:Operand}{t0 t1:TypeId}{ts:List TypeId}{r:AVal} (hop:o.op=.call {callee:=.builtin .append,args:=#[x,y],argTypes:=⟨t0::t1::ts⟩}) (h:Lj E t0 t1 (rd E af t0 x) (rd E af t1 y)=some r):∃nx w' a' Γ',Stepped E F Γ st w a o (Am (stripAt af x) o.dst (.sh st.next)) {m:=(st.next,[r])::st.m,next:=st.next+1} nx w' a' Γ':=by obtain⟨v,w',Γ',hrun,x1,s1,hr,ho,hv,ht⟩:=WI hs hop h;obtain⟨s2,x2⟩:=s1.newSh hr ho ht;refine⟨.value v,w',a.put o.dst v,_,hrun,fun K Q hk=>hk,put_defers _ _ _,x1.trans x2,eU,?_⟩;refine s2.put o.dst (.sh (by simp[Ghost.num]) hv) (by simp[VM.own]) fun b=>?_;have:=s2.tok b;simp only[cnt];omega
def Ig (E:Env) (t:TypeId) (x i:AVal) (st:St):Option AVal:=match Wh st x,x,i with |some (j,w,xs),.sh _,.int _ n=>if DU E.P t=some w∧n=xs.length then some (.sptr j w xs.length)else none|_,_,_=>none
theorem TS (vs:List Value) (t:Nat) (d:Value):vs.set t (vs.getD t d)=vs:=by
 apply dm;intro i;rw[bS];split
 ·rename_i e;subst e;split;·rename_i h;simp[List.getD,aN h]
  ·rename_i h;rw[bz (du h)]
 ·rfl
theorem AX4 (hs:Sim E F Γ st w af a.tmps.toList){i:Nat}{cs:List AVal}{v:Value} (hsx:Γ.sx i=some v) (hg:Bv st.m i=some cs):ShOK Γ w (i,cs) v:=by
 rcases hs.box_ok _ (K9 hg)with⟨b,arr,e,hb⟩|⟨u,hv⟩;·have:=(hs.sx_next _ _ hsx).2;have h2:=hb.bx;rw[this]at h2;cases h2
 ·have:u=v:=by have:=hv.sx;rw[hsx]at this;exact(aQ this).symm
  subst this;exact hv
theorem Ry (hs:Sim E F Γ st w af a.tmps.toList){o:Oper}{t:TypeId}{x i:Operand}{r:AVal} (hop:o.op=.indexAddr t x i) (h:Ig E t (rd E af t x) (rd E af 0 i) st=some r):∃nx w' a' Γ',Stepped E F Γ st w a o (Am af o.dst r) st nx w' a' Γ':=by
 have hx:=hs.rd t x;have hi:=hs.rd 0 i;generalize rd E af t x=ax at *;generalize rd E af 0 i=ai at *;generalize hvx:a.eval x=vx at *;generalize hvi:a.eval i=vi at *;unfold Ig at h;split at h
 ·rename_i j w' xs k kd n ho;split at h
  ·rename_i hc;obtain⟨hsl,rfl⟩:=hc;simp only[ac]at h;subst h;unfold Wh at ho;simp only at ho;split at ho
   ·rename_i w2 xs2 hg;cases ho;cases hi;cases hx with
    | sh hsx hk=>
     have hv:=AX4 hs hsx hg;have hown:=hv.own;simp only[ownL,VM.own,cY]at hown;unfold LZ at hown;split at hown
     ·rename_i ad len cap;obtain⟨arr,e,lo,hi,cells,h1,h2,h3,h4,h5,h6,h7⟩:=hown;obtain⟨b,off,spot⟩:=ad;simp only at h3;subst h3;obtain⟨el,hu,hz⟩:=Bg hsl;have hrun:(Instr.indexAt t (.slice (some ⟨b,off,none⟩) len cap) (.int kd xs.length)).run E.P w=.ok (.pointer (some ⟨b,off+xs.length * w',none⟩)) w:=by have h2:((xs.length:Nat):Int)<(len:Int):=eT;have h3:(0:Int)≤((xs.length:Nat):Int):=eT;have h8:xs.length<len:=eT;simp[Instr.indexAt,asIntOf,aB hu,h3,h8,De hz,addr_add]
      refine⟨.value (.pointer (some ⟨b,off+xs.length * w',none⟩)),w,a.put o.dst (.pointer (some ⟨b,off+xs.length * w',none⟩)),Γ,?_,fun K Q hk=>hk,put_defers _ _ _,Ext.refl _ _ _,ao _,?_⟩;·simp only[execOp,hop,hvx,hvi];rw[au,hrun];rfl
      ·refine hs.put o.dst (.sptr hsx) (by simp[VM.own]) fun n=>?_;have:=hs.tok n;simp only[cnt];omega
     ·exact hown.elim
   ·cases ho
  ·cases h
 ·cases h
theorem AAW (hs:Sim E F Γ st w af a.tmps.toList){o:Oper}{t:TypeId}{x y:Operand}{st':St} (hop:o.op=.store t x y) (hd:o.dst=none) (h:V4 E t (rd E af 0 x) (rd E af t y) st=some st'):∃nx w' a' Γ',Stepped E F Γ st w a o af st' nx w' a' Γ'∧a'.tmps=a.tmps:=by
 have hx:=hs.rd 0 x;have hr:=hs.rd t y;generalize rd E af 0 x=ax at *;generalize rd E af t y=ay at *;generalize hvx:a.eval x=vx at *;generalize hvy:a.eval y=vy at *;unfold V4 at h;split at h
 ·rename_i j w1 n1 i w2 xs ho;split at h
  ·rename_i hc;obtain⟨hok,hz,hcl⟩:=hc;simp only[ac]at h;subst h;unfold Wh at ho;simp only at ho;split at ho
   ·rename_i w3 xs3 hg;split at ho
    ·rename_i hc2;obtain⟨rfl,rfl⟩:=hc2;cases ho;cases hx with
     | sptr hsx=>
      rename_i b off len cap;have hv:=AX4 hs hsx hg;have hown:=hv.own;simp only[ownL,VM.own,cY,LZ]at hown;obtain⟨arr,e,lo,hi,cells,hh,hf,_,hcom,hcl2,hsz,hlen⟩:=hown;have hrep:=hv.rep;obtain⟨hS,hcap⟩:RepS Γ w2 xs (cells.drop off)∧(len≤cap∧len≤DY):=by cases hrep with | cons h _=>cases h with |slop hb hl hc hS=>rw[hcom]at hb;cases hb;exact⟨hS,hc⟩
      obtain⟨arr0,e0,fz0,hh0,⟨ds,hds⟩,hct0⟩:=hs.com_ok b cells hcom;rw[hh]at hh0;cases hh0;have hvc:vy.cells.toList.length=w2:=by rw[←(hr.cellsOK hok).length,hcl]
      have hlenarr:cells.length+ds.length=arr.size:=by rw[←aj,←hds,ap]
      have hcapz:off+xs.length * w2+w2≤arr.size:=by have:(xs.length+1) * w2≤cap * w2:=ce _ eT;rw[bR]at this;omega
      have hnl:vy.cells.toList.length≤ds.length:=eT;obtain⟨w',arr',r1,q1,q2,q3,q4,q5,q6,q7,q8⟩:=FY (P:=E.P) (b:=b) (base:=off+xs.length * w2) vy.cells.toList 0 arr w hh hf eT (hr.one hok);rw[bM,←hcl2,hds,G8 _ _ _ hnl]at q2;have hc1: ∀n,AJ n [.slop w2 xs] [.slice (some ⟨b,off,none⟩) len cap]=if b=n then 1 else 0:=fun n=>by simp[AJ,cnt,Es]
      have hcm: ∀n,Aa Γ w n (CP st.m j [.any])+(if b=n then 1 else 0)=Aa Γ w n st.m:=fun n=>by
       have e1:=Hl (Γ:=Γ) (Γ':=Γ) (w:=w) (w':=w) (b:=n) (x:=[.any]) hs.keys hg (fun p hp hne=>rfl);have e2:=hv.cnt n;rw[hc1]at e2;have e3:CX Γ w n (j,[.any])=0:=by simp only[CX,hv.bx,hv.sx];simp[AJ,cnt]
       omega
      have s1:Sim E F Γ {st with m:=CP st.m j [.any]} w af a.tmps.toList:=hs.setSh hg hv (.cons (.any _) .nil) (by simp[ownL,VM.own]) (fun n=>by rw[hc1];have:=hs.tok n;simp only[AJ,cnt];omega);have htb:=hs.tok b;have hcb:=hcm b;rw[ah rfl]at hcb;obtain⟨s2,x2,hcm2⟩:=s1.grow (rest:=ds.drop vy.cells.toList.length) hcom q1 (by rw[q2]) q4 q5 q6 q7 q8 (hr.one hok) (by show F b+_+Aa Γ w b (CP st.m j [.any])=0;omega) hct0;have hg2:Bv (CP st.m j [.any]) j=some [.any]:=Ku hg;have hv2:ShOK (Γ.ext b (cells++vy.cells.toList)) w' (j,[.any]) (.slice (some ⟨b,off,none⟩) len cap):=⟨hv.sx,hv.bx,.cons (.any _) .nil,by simp[ownL,VM.own]⟩;have hxs:(xs++[ay.strip]).length=len:=by simp[hlen]
      have s3:=s2.setSh (cs':=[.slice w2 (xs++[ay.strip]) true]) hg2 hv2 (.cons (.slice _ (cells:=cells++vy.cells.toList) (by simp[Ghost.ext]) hxs hcap (by rw[cd eT];refine RepS.append (hS.mono x2.le) (by rw[aw];omega) ?_;have:=RepS.cons (w:=w2) (cs:=[]) (hr.strip.mono x2.le) ⟨by rw[←ap];exact hvc,hr.one hok⟩ (.nil _ _);simpa using this) (fun _ h=>absurd h eU)) .nil) (by simp only[ownL,VM.own,cY,H8];intro hlt;exact⟨arr',e,lo,hi,cells++vy.cells.toList,q1,by rw[q3];exact hf,trivial,by simp[Ghost.ext],by rw[aj,hvc,hlen,bR];omega,by rw[q3];exact hsz⟩) (fun n=>by
       have h1:AJ n [.slice w2 (xs++[ay.strip]) true] [.slice (some ⟨b,off,none⟩) len cap]≤if b=n then 1 else 0:=by
        simp only[AJ,cnt,Gn];split;·rename_i hh';rw[ah hh'.2];omega
        ·omega
       show F n+AJ n af a.tmps.toList+_+Aa (Γ.ext b (cells++vy.cells.toList)) w' n (CP st.m j [.any])≤_;rw[show Aa (Γ.ext b (cells++vy.cells.toList)) w' n (CP st.m j [.any])=Aa Γ w n (CP st.m j [.any])from hcm2 n];have:=hs.tok n;have:=hcm n;omega);simp only[Nj]at s3;refine⟨.skip,_,a.put o.dst undef,_,⟨?_,fun K Q hk=>hk,put_defers _ _ _,x2,ao _,by rw[hd];exact s3⟩,by rw[hd];rfl⟩;simp only[execOp,hop,hvx,hvy,Instr.storeAt,Instr.sureAddr];have hsz2:vy.cells.size=w2:=by rw[←ap];exact hvc
      simp[storeVar,De hz,hsz2,r1]
    ·cases ho
   ·cases ho
  ·cases h
 ·cases h
theorem Sim.unsh{tm:List Value} (hs:Sim E F Γ st w af tm){d i:Nat}{x:AVal} (hd:af.getD d .any=.sh i) (hg:Bv st.m i=some [x]):Sim E F Γ {st with m:=CP st.m i [x.strip]} w (af.set d x) tm∧Rep Γ (.sh i) (tm.getD d undef):=by
 have hr:=hs.rep.get d undef;rw[hd]at hr;generalize hv:tm.getD d undef=v at hr;cases hr with
 | sh hsx hk=>
  have hsh:ShOK Γ w (i,[x]) v:=by
   rcases hs.box_ok _ (K9 hg)with⟨b,arr,e,hb⟩|⟨u,hu⟩;·have:=(hs.sx_next _ _ hsx).2;have h2:=hb.bx;rw[this]at h2;cases h2
   ·have:u=v:=by have:=hu.sx;rw[hsx]at this;exact(aQ this).symm
    subst this;exact hu
  have hrx:Rep Γ x v:=by have:=hsh.rep;cases this;assumption
  have hox:VM.own Γ w x v:=by have:=hsh.own;rw[ownL]at this;exact this.1
  have hset:tm=tm.set d v:=by rw[←hv,TS]
  have hcm: ∀n,Aa Γ w n (CP st.m i [x.strip])+cnt n x v=Aa Γ w n st.m:=fun n=>by
   have e1:=Hl (Γ:=Γ) (Γ':=Γ) (w:=w) (w':=w) (b:=n) (x:=[x.strip]) hs.keys hg (fun p hp hne=>rfl);have e2:=hsh.cnt n;have e3:CX Γ w n (i,[x.strip])=0:=by simp only[CX,hsh.bx,hsh.sx];simp[AJ,Iz]
   simp only[AJ]at e2;omega
  have s1:=hs.setSh hg hsh (cs':=[x.strip]) (.cons hrx.strip .nil) (by rw[ownL];exact⟨Jw _ _ _ _,by simp[ownL]⟩) (fun n=>by have:=hs.tok n;simp only[AJ,Iz];omega);refine⟨{s1 with rep:=?_,own:=?_,tok:=?_},.sh hsx hk⟩;·have:=s1.rep.set d hrx;rwa[←hset]at this
  ·have:=s1.own.set d hox;rwa[←hset]at this
  ·intro n;have h1:=GG n af tm d x v;rw[←hset]at h1;have:=hs.tok n;have:=hcm n;show F n+AJ n (af.set d x) tm+Aa Γ w n (CP st.m i [x.strip])≤1;omega
theorem Sim.resay{tm:List Value} (hs:Sim E F Γ st w af tm){d:Nat}{x:AVal} (hr:Rep Γ x (tm.getD d undef)) (ho:VM.own Γ w x (tm.getD d undef)) (hc: ∀n,cnt n x (tm.getD d undef)=0):Sim E F Γ st w (af.set d x) tm:=by
 have hset:tm=tm.set d (tm.getD d undef):=by rw[TS]
 refine {hs with rep:=?_,own:=?_,tok:=?_};·have:=hs.rep.set d hr;rwa[←hset]at this
 ·have:=hs.own.set d ho;rwa[←hset]at this
 ·intro n;have h1:=GG n af tm d x (tm.getD d undef);rw[←hset,hc]at h1;have:=hs.tok n;omega
theorem NW (hs:Sim E F Γ st w af a.tmps.toList){o:Oper}{t:TypeId}{x y:Operand}{st':St} (hop:o.op=.store t x y) (hd:o.dst=none) (h:Mh E t (rd E af 0 x) (rd E af t y) st=some st'):∃nx w' a' Γ',Stepped E F Γ st w a o (stripAt af y) st' nx w' a' Γ'∧a'.tmps=a.tmps:=by
 unfold Mh at h;split at h;·rename_i i off hx;exact AEQ hs hop hd (by rw[hx];exact h)
 ·obtain⟨nx,w',a',Γ',hp,ha⟩:=AAW hs hop hd h;refine⟨nx,w',a',Γ',{hp with sim:=?_},ha⟩;exact hp.sim.stripAt y
theorem AGs (hs:Sim E F Γ st w af a.tmps.toList){o:Oper}{t:TypeId}{x y:Operand}{st':St} (hop:o.op=.store t x y) (hd:o.dst=none) (h:Lt E t (rd E af 0 x) (rd E af t y) st=some st'):∃nx w' a' Γ',Stepped E F Γ st w a o (stripAt af y) st' nx w' a' Γ':=by
 unfold Lt at h;split at h
 ·rename_i i hy;split at h
  ·rename_i wd xs o' hg;obtain⟨d,rfl,hd'⟩: ∃d,y=.tmp d∧af.getD d .any=.sh i:=by cases y with |tmp d=>exact⟨d,rfl,hy⟩|const v=>simp only[rd]at hy;unfold Gh at hy;split at hy<;>(try split at hy)<;>cases hy|global g=>simp only[rd]at hy;split at hy<;>cases hy|func f=>simp only[rd]at hy;cases hy
   split at h
   ·rename_i hxd;obtain⟨s1,hsh⟩:=hs.unsh hd' hg;have hlt:d<af.length:=by
     rcases aS d af.length with h|h;·exact h
     ·rw[List.getD,bz h]at hd';cases hd'
    have h1:rd E (af.set d (.slice wd xs o')) t (.tmp d)=.slice wd xs o':=by simp[rd,List.getD,hlt]
    have h2:rd E (af.set d (.slice wd xs o')) 0 x=rd E af 0 x:=by
     cases x with
     | tmp e=>
      have:d≠e:=fun he=>by subst he;simp only[rd,hd',Jl]at hxd;cases hxd
      simp[rd,List.getD,cf this]
     |_=>rfl
    obtain⟨nx,w',a',Γ',hp,ha⟩:=NW (x:=x) (y:=.tmp d) s1 hop hd (by rw[h1,h2];exact h);refine⟨nx,w',a',Γ',{hp with sim:=?_}⟩;have h3:stripAt (af.set d (.slice wd xs o')) (.tmp d)=af.set d (.slice wd xs false):=by simp[stripAt,List.getD,hlt,AVal.strip]
    have s2:=hp.sim;rw[h3,ha]at s2;have s3:=s2.resay (d:=d) (x:=.sh i) (hsh.mono hp.ext.le) (by simp[VM.own]) (fun n=>by simp[cnt]);rw[eS]at s3;have h4:stripAt af (.tmp d)=af.set d (.sh i):=by simp only[stripAt,hd',AVal.strip]
    rw[h4,ha];exact s3
   ·cases h
  ·obtain⟨nx,w',a',Γ',hp,_⟩:=NW hs hop hd (by rw[hy];exact h);exact⟨nx,w',a',Γ',hp⟩
 ·obtain⟨nx,w',a',Γ',hp,_⟩:=NW hs hop hd h;exact⟨nx,w',a',Γ',hp⟩
end
end Go.VM
set_option linter.unusedVariables false
namespace Go.VM
section
variable{E:Env}{F:Nat→Nat}{Γ:Ghost}{st:St}{w:World}{af:List AVal}{a:Act}
theorem OI{Γ:Ghost}{w:World}{b:Nat}{m m':List (Nat×List AVal)} (h:m.Perm m'):Aa Γ w b m=Aa Γ w b m':=by induction h with |nil=>rfl|cons x _ ih=>simp only[Aa,ih]|swap x y l=>simp only[Aa];omega|trans _ _ i1 i2=>exact i1.trans i2
theorem Sim.perm{F:Nat→Nat}{Γ:Ghost}{w:World}{tm:List Value}{m m':List (Nat×List AVal)}{n:Nat} (hs:Sim E F Γ ⟨m,n⟩ w af tm) (h:m.Perm m'):Sim E F Γ ⟨m',n⟩ w af tm:=
  { hs with
    box_ok:=fun p hp=>hs.box_ok p (h.mem_iff.2 hp)
    keys:=(h.map (·.1)).nodup_iff.1 hs.keys
    bx_F:=fun p b hp=>hs.bx_F p b (h.mem_iff.2 hp)
    tok:=fun b=>by rw[←OI h];exact hs.tok b}
def FB:List (Nat×List AVal)→Nat→List (Nat×List AVal) |[],_=>[]|(j,c)::m,i=>if i=j then m else(j,c)::FB m i
theorem Jq: ∀ {m:List (Nat×List AVal)}{i:Nat}{c:List AVal},Bv m i=some c→m.Perm ((i,c)::FB m i)
 |[],_,_,h=>by simp[Bv]at h
 | (j,d)::m,i,c,h=>by
  simp only[Bv]at h;simp only[FB];split at h;·rename_i e;subst e;simp only[ac]at h;subst h;simp
  ·rename_i e;rw[ag e];exact((Jq h).cons _).trans (List.Perm.swap _ _ _)
theorem Sim.fewer (hs:Sim E F Γ st w af a.tmps.toList){m:List (Nat×List AVal)} (hm:m.Sublist st.m):Sim E F Γ {st with m:=m} w af a.tmps.toList:=by
 have hle: ∀n,Aa Γ w n m≤Aa Γ w n st.m:=by intro n;generalize st.m=m' at hm;induction hm with |slnil=>exact ao _|cons p _ ih=>rw[Aa];omega|cons_cons p _ ih=>rw[Aa,Aa];omega
 refine {hs with box_ok:=fun p hp=>hs.box_ok p (hm.subset hp),keys:=(hm.map _).nodup hs.keys,bx_F:=fun p b hp hb=>hs.bx_F p b (hm.subset hp) hb,tok:=fun n=>?_};have:=hle n;have:=hs.tok n;simp only;omega
theorem RepL.cat{xs ys:List AVal}{us vs:List Value} (h:RepL Γ xs us) (k:RepL Γ ys vs):RepL Γ (xs++ys) (us++vs):=by induction xs generalizing us with |nil=>cases h;exact k|cons x xs ih=>cases h with|cons h t=>exact .cons h (ih t)
theorem ownL.cat{xs ys:List AVal}{us vs:List Value} (hl:xs.length=us.length) (h:ownL Γ w xs us) (k:ownL Γ w ys vs):ownL Γ w (xs++ys) (us++vs):=by
 induction xs generalizing us with
 | nil=>cases us with |nil=>exact k|cons _ _=>simp at hl
 | cons x xs ih=>cases us with |nil=>simp at hl|cons u us=>rw[aJ,aJ,ownL];rw[ownL]at h;exact⟨h.1,ih (by simpa using hl) h.2⟩
theorem QT (b:Nat){xs ys:List AVal}{us vs:List Value} (hl:xs.length=us.length):AJ b (xs++ys) (us++vs)=AJ b xs us+AJ b ys vs:=by
 induction xs generalizing us with
 | nil=>cases us with |nil=>simp[AJ]|cons _ _=>simp at hl
 | cons x xs ih=>cases us with |nil=>simp at hl|cons u us=>rw[aJ,aJ,AJ,AJ,ih (by simpa using hl)];omega
def Gx (E:Env) (t:TypeId) (len:Nat) (ps:List (Nat×AVal)):Option (Nat×List AVal):=match Lp E.P t with | some (z,_)=>if len * z≤16777216∧len≤DY∧ps.map (·.1)=List.range len∧(ps.all fun p=>C8 p.2&&(AY p.2).length==z)=true then some (z,ps.flatMap fun p=>AY p.2)else none|none=>none
theorem AFO{z:Nat}: ∀ {ps:List (Nat×AVal)}{us:List (Nat×Value)}{k n:Nat}{pre rest:List Value}{arr:Array Value},arr.toList=pre++rest→pre.length=k * z→rest.length=n * z→ps.map (·.1)=List.range' k n→Fj Γ w ps us→(∀p,p∈ps→C8 p.2=true∧(AY p.2).length=z)→∃arr' new,Instr.fill (fun i=>some (i * z,z)) arr us=some arr'∧arr'.toList=pre++new∧RepL Γ (ps.flatMap fun p=>AY p.2) new∧new.length=n * z∧(∀v,v∈new→v.oneCell'=true)∧ownL Γ w (ps.flatMap fun p=>AY p.2) new∧∀b,AJ b (ps.flatMap fun p=>AY p.2) new=AD1 b ps us:=by
 intro ps;induction ps with
 | nil=>
  intro us k n pre rest arr harr hpre hrest hidx hp hok;have hn:n=0:=by have:=a7 List.length hidx;simpa using this.symm
  subst hn;cases us with | nil=>have:rest=[]:=aY (by simpa using hrest);subst this;exact⟨arr,[],rfl,harr,.nil,eU,eU,by simp[ownL],fun b=>by simp[AJ,AD1]⟩|cons u us=>simp[Fj]at hp
 | cons p ps ih=>
  intro us k n pre rest arr harr hpre hrest hidx hp hok;obtain⟨i,x⟩:=p;cases us with
  |nil=>simp[Fj]at hp
  | cons u us=>
   obtain⟨j,v⟩:=u;simp only[Fj]at hp;obtain⟨rfl,hx,hox,hp⟩:=hp;cases n with
   |zero=>simp at hidx
   | succ n=>
    simp only[aK,cF,List.cons.injEq]at hidx;obtain⟨rfl,hidx⟩:=hidx;obtain⟨hokx,hzx⟩:=hok (i,x) eU;have hxc:=hx.cellsOK hokx;have hvs:v.cells.size=z:=by rw[←hzx,hxc.length,ap]
    have hsize:arr.size=(i+(n+1)) * z:=by rw[←ap,harr,aj,hpre,hrest,←bR]
    have hzr:z≤rest.length:=by rw[hrest,bC];omega
    have hfold:(v.cells.zipIdx.foldl (fun cs x=>cs.setIfInBounds (i * z+x.2) x.1) arr).toList=pre++v.cells.toList++rest.drop z:=by rw[←dU,dJ,SS (i * z) v.cells.toList 0 arr,harr,bM,←hpre];rw[G8 _ _ _ (by rw[ap,hvs];exact hzr),ap,hvs]
    generalize hga:v.cells.zipIdx.foldl (fun cs x=>cs.setIfInBounds (i * z+x.2) x.1) arr=arr1 at hfold;obtain⟨arr',new,q1,q2,q3,q4,q5,q6,q7⟩:=ih (k:=i+1) (n:=n) (pre:=pre++v.cells.toList) (rest:=rest.drop z) hfold (by rw[aj,hpre,ap,hvs,bC]) (by rw[aw,hrest,bC];omega) hidx hp (fun q hq=>hok q (aC _ hq));refine⟨arr',v.cells.toList++new,?_,by rw[q2,bb],?_,by rw[aj,q4,ap,hvs,bC];omega,?_,?_,?_⟩
    ·rw[Instr.fill];simp only;rw[ag];·rw[←q1,←hga]
     ·simp only[hvs,dp,ch,dL,bd,al,Nat.not_lt,hsize,bR,bC];omega
    ·rw[bc];exact hxc.cat q3
    ·intro u hu;rcases aV.1 hu with hu|hu;·exact hx.one hokx u hu
     ·exact q5 u hu
    ·rw[bc];exact ownL.cat hxc.length (OD hx hokx hox) q6
    ·intro b;rw[bc,QT b hxc.length,Nh hx hokx,q7 b];rfl
theorem Qy (hs:Sim E F Γ st w af a.tmps.toList){o:Oper}{t:TypeId}{len z:Nat}{cs:List AVal}{ps:List (Nat×Operand)} (hop:o.op=.buildSlice t len ⟨ps⟩) (h:Gx E t len (Ay E (fun _=>Ac E.P t 0) af ps).2=some (z,cs)):∃nx w' a' Γ',Stepped E F Γ st w a o (Am (Ay E (fun _=>Ac E.P t 0) af ps).1 o.dst (.gsl z st.next len)) {m:=(st.next,cs)::st.m,next:=st.next+1} nx w' a' Γ':=by
 obtain⟨h1,h2,h3⟩:=L8 (fun _=>Ac E.P t 0) ps hs;generalize hps:(Ay E (fun _=>Ac E.P t 0) af ps).2=qs at *;generalize (Ay E (fun _=>Ac E.P t 0) af ps).1=af1 at *;unfold Gx at h;split at h
 ·rename_i z by_ hap;split at h
  ·rename_i hc;obtain⟨hsz,hln,hidx,hall⟩:=hc;simp only[ac,aA]at h;obtain⟨rfl,rfl⟩:=h;obtain⟨e,i,zv,hu,hi,hz,hzs,his,hib⟩:=Ki hap;have hok: ∀p,p∈qs→C8 p.2=true∧(AY p.2).length=z:=by intro p hp;have:=br.1 hall p hp;simp only[az,bw]at this;exact this
   generalize hzero:(if len * z=0 then(#[]:Array Value)else zv.cells)=zero;have hfill:=AFO (Γ:=Γ) (w:=w) (z:=z) (ps:=qs) (us:=ps.map fun p=>(p.1,a.eval p.2)) (k:=0) (n:=len) (pre:=[]) (rest:=((Array.range (len * z)).map (fun j=>zero[j % zero.size]!)).toList) (arr:=(Array.range (len * z)).map (fun j=>zero[j % zero.size]!)) eU eU eU (by rw[hidx,dy]) h2 hok;obtain⟨arr',new,q1,q2,q3,q4,q5,q6,q7⟩:=hfill;rw[ba]at q2;have hrun:(execOp a.eval o).run E.P w=.ok (.value (.slice (some ⟨w.heap.size,0,none⟩) len len)) (w.alloc (.cells arr' e)):=by
    have hs0:(sizeOf e).run E.P w=.ok z w:=by simp[sizeOf,typeInfo,hi,his]
    have hparts:(Array.map (fun x=>(x.fst,a.eval x.snd)) ⟨ps⟩).toList=ps.map fun p=>(p.1,a.eval p.2):=eU;have hzz:(zeroValue e).run E.P w=.ok zv w:=by simp[zeroValue,typeInfo,hi,hz]
    have hsz': ¬(len * z>2^24):=eT;simp only[execOp,hop,Instr.buildSlice];rw[au,au,aB hu];simp only[aq];rw[au,hs0];simp only[aq,hsz',aR];by_cases hlz:len * z=0;·rw[ah hlz]at hzero;subst hzero;simp only[hlz,aE,hparts];rw[hlz]at q1;rw[au,aZ];simp only[aq,q1];rfl
    ·rw[ag hlz]at hzero;subst hzero;simp only[hlz,aR,hparts];rw[au,hzz];simp only[aq];rw[au,aZ];simp only[aq,q1];rfl
   have hasz:arr'.size=len * z:=by rw[←ap,q2,q4]
   have htk:arr'.toList.take (qs.flatMap fun p=>AY p.2).length=new:=by rw[q2,q3.length,ev]
   obtain⟨k1,k2,k3⟩:=h1.newBox (e:=e) (cells:=arr') (cs:=qs.flatMap fun p=>AY p.2) (fz:=(0,0)) eU (by rw[htk];exact q3.mono (h1.le_box _)) (by rw[q2];exact q6) (by rw[htk];exact q5) (fun b=>by rw[q2,q7];have:=h3 b;have:=hs.tok b;omega);have hb:(Γ.box st.next w.heap.size (e,arr'.size)).bx st.next=some w.heap.size:=by cases k3 with |ptr h=>exact h
   have hbt:(Γ.box st.next w.heap.size (e,arr'.size)).bt st.next=some (e,arr'.size):=by simp[Ghost.box]
   refine⟨_,_,a.put o.dst _,_,hrun,fun K Q hk=>hk,put_defers _ _ _,k2,eU,?_⟩;refine k1.put o.dst (.gsl hb hbt ⟨ao _,hln⟩ eT) (by simp[VM.own]) fun b=>?_;have:=k1.tok b;simp only[cnt];omega
  ·cases h
 ·cases h
theorem MV: ∀(m:List (Nat×List AVal)) (i:Nat),(FB m i).Sublist m
 |[],_=>.slnil
 | (j,c)::m,i=>by
  simp only[FB];split;·exact .cons _ (bG _)
  ·exact .cons_cons _ (MV m i)
theorem Sim.later{tm:List Value} (hs:Sim E F Γ st w af tm):Sim E F Γ {st with next:=st.next+1} w af tm:=
  { hs with
    sx_next:=fun i v h=>⟨by have:=(hs.sx_next i v h).1;show i<st.next+1;omega,(hs.sx_next i v h).2⟩
    bx_next:=fun i b h=>by have:=hs.bx_next i b h;show i<st.next+1;omega}
theorem ownL.takeA: ∀ {xs:List AVal}{vs:List Value} (n:Nat),ownL Γ w xs vs→ownL Γ w (xs.take n) (vs.take n) |_,_,0,_=>by simp[ownL]|[],_,n+1,_=>by simp[ownL]|x::xs,[],n+1,_=>by simp[ownL]| x::xs,v::vs,n+1,h=>by rw[ownL]at h;simp only[bX,ownL];exact⟨h.1,ownL.takeA n h.2⟩
theorem O9 (b:Nat): ∀(xs:List AVal) (vs:List Value) (n:Nat),AJ b (xs.take n) (vs.take n)≤AJ b xs vs |_,_,0=>by simp[AJ]|[],_,n+1=>by simp[AJ]|x::xs,[],n+1=>by simp[AJ]| x::xs,v::vs,n+1=>by simp only[bX,AJ];have:=O9 b xs vs n;omega
theorem RepL.takeA: ∀ {xs:List AVal}{vs:List Value} (n:Nat),RepL Γ xs vs→RepL Γ (xs.take n) (vs.take n) |_,_,0,_=>by simp;exact .nil|_,_,n+1,.nil=>by simp;exact .nil|_,_,n+1,.cons h t=>by simp only[bX];exact .cons h (RepL.takeA n t)
def ASv (E:Env) (t0 t1:TypeId) (x y:AVal) (st:St):Option (Nat×Nat×List AVal×List (Nat×List AVal)×Option Nat):=
  match y with
  | .gsl wd n k=>
    match Bv st.m n,Lp E.P t0 with
    | some ys,some (z,by_)=>
      if z=wd∧ys.length=k * wd∧0<k∧JC E.P t1=none∧A7 E.P t1=true then
        match x with
        |.slice w' [] true=>if w'=wd∧wd≠1∧k * by_≤140737488355328∧k≤DY then some (wd,k,ys,FB st.m n,none)else none
        | .gsl w' j len=>
          match Bv (FB st.m n) j with
          |some cs=>if w'=wd∧len * wd≤cs.length∧(len+k) * by_≤140737488355328∧len+k≤DY then some (wd,len+k,cs.take (len * wd)++ys,FB (FB st.m n) j,some j)else none
          |none=>none
        |_=>none
      else none
    |_,_=>none
  |_=>none
theorem Ol (hs:Sim E F Γ st w af a.tmps.toList){o:Oper}{x y:Operand}{t0 t1 e:TypeId}{ts:List TypeId}{wd len cap k by_:Nat}{base:Option Addr}{vy zv:Value}{i:TypeInfo}{d1:TypeDesc}{csO ys:List AVal}{olds news:List Value}{rest:List (Nat×List AVal)} (hop:o.op=.call {callee:=.builtin .append,args:=#[x,y],argTypes:=⟨t0::t1::ts⟩}) (hvx:a.eval x=.slice base len cap) (hvy:a.eval y=vy) (hu:E.P.underlying t0=some (.slice e)) (hi:E.P.info? e=some i) (hz:i.zero=some zv) (hzs:zv.cells.size=i.size) (his:i.size=wd) (hib:i.bytes=by_) (hd1:E.P.underlying t1=some d1) (hint:JC E.P t1=none) (hroom:(len+k) * by_≤140737488355328) (h62:len+k≤DY) (hcap:len≤cap) (hno: ¬(len+k≤cap)) (hl1: ∀w',(Builtin.lenOf vy).run E.P w'=.ok k w') (hf1:(Builtin.firstCells wd k vy).run E.P w.drew=.ok news.toArray w.drew) (hf0:(Builtin.firstCells wd len (.slice base len cap)).run E.P w.drew=.ok olds.toArray w.drew) (ho:RepL Γ csO olds) (hn:RepL Γ ys news) (hol:olds.length=len * wd) (hnl:news.length=k * wd) (ho1: ∀v,v∈olds→v.oneCell'=true) (hn1: ∀v,v∈news→v.oneCell'=true) (hoo:ownL Γ w csO olds) (hno2:ownL Γ w ys news) (hsub:rest.Sublist st.m) (htk: ∀b,F b+AJ b af a.tmps.toList+AJ b csO olds+AJ b ys news+Aa Γ w b rest≤1):∃nx w' a' Γ',Stepped E F Γ st w a o (Am af o.dst (.gsl wd st.next (len+k))) {m:=(st.next,csO++ys)::rest,next:=st.next+1} nx w' a' Γ':=by
 have h62':len+k≤4611686018427387904:=h62;have h48: ¬(281474976710656<Builtin.nextslicecap (len+k) cap * i.bytes):=by have:=eN (need:=len+k) (old:=cap) (bytes:=i.bytes) eT (by rw[hib];exact hroom);omega
 rw[←his]at hf1 hf0;generalize hnc:grownCap w (len+k) cap e=nc;have hge:len+k≤nc:=by rw[←hnc];exact d5 _ _ _ _
 have hargs:Array.map a.eval #[x,y]= #[.slice base len cap,vy]:=by simp[hvx,hvy]
 have hrun:(Builtin.append_ ⟨t0::t1::ts⟩ o.type #[.slice base len cap,vy]).run E.P w=.ok (.slice (some ⟨w.heap.size,0,none⟩) (len+k) nc) (w.drew.alloc (.cells (olds.toArray++news.toArray++Builtin.zeroCells zv.cells (nc-(len+k))) e)):=by
  subst hnc;have e3:IntKind.i64.max=9223372036854775807:=eV;have h64: ¬(((len+k:Nat):Int)>IntKind.i64.max):=by rw[e3];omega
  exact KL hu hi hz hd1 hint (hl1 w) hno eT h64 hf0 hf1
 have hexec:(execOp a.eval o).run E.P w=.ok (.value (.slice (some ⟨w.heap.size,0,none⟩) (len+k) nc)) (w.drew.alloc (.cells (olds.toArray++news.toArray++Builtin.zeroCells zv.cells (nc-(len+k))) e)):=by simp only[execOp,hop,resolve,hargs,au,aZ,aq,invoke,builtin];rw[hrun];rfl
 have hsd:Sim E F Γ {st with m:=rest} w.drew af a.tmps.toList:=(hs.fewer hsub).drew;have hcl:(csO++ys).length=(olds++news).length:=by rw[aj,aj,ho.length,hn.length]
 generalize hcells:(olds.toArray++news.toArray++Builtin.zeroCells zv.cells (nc-(len+k)))=cells at *;have hlist:cells.toList=(olds++news)++(Builtin.zeroCells zv.cells (nc-(len+k))).toList:=by rw[←hcells];simp
 have htake:cells.toList.take (csO++ys).length=olds++news:=by rw[hcl,hlist,dg]
 have hsz:cells.size=nc * wd:=by rw[←ap,hlist,aj,aj,hol,hnl];simp only[Builtin.zeroCells,ap,eO,et,hzs,his,←bR];congr 1;omega
 have hown:ownL Γ w.drew (csO++ys) cells.toList:=by rw[←I1,htake];exact A9 Γ.le_refl _ _ (ownL.cat ho.length hoo hno2) fun _ _=>⟨rfl,rfl⟩
 have hcm: ∀n,Aa Γ w.drew n rest=Aa Γ w n rest:=fun n=>Dc fun p hp=>⟨rfl,fun _ _=>rfl⟩;obtain⟨k1,k2,k3⟩:=hsd.newBox (e:=e) (cells:=cells) (cs:=csO++ys) (fz:=(0,0)) eU (by rw[htake];exact(ho.cat hn).mono (hsd.le_box _)) hown (by rw[htake];intro v hv;rcases aV.1 hv with hv|hv;exact ho1 v hv;exact hn1 v hv) (fun b=>by
  have e1:AJ b (csO++ys) cells.toList=AJ b csO olds+AJ b ys news:=by rw[←Iw,htake,QT b ho.length]
  rw[e1];have:=htk b;show F b+AJ b af a.tmps.toList+_+Aa Γ w.drew b rest≤1;rw[hcm b];omega);have hb:(Γ.box st.next w.drew.heap.size (e,cells.size)).bx st.next=some w.heap.size:=by cases k3 with |ptr h=>exact h
 have hbt:(Γ.box st.next w.drew.heap.size (e,cells.size)).bt st.next=some (e,cells.size):=by simp[Ghost.box]
 have x0:Ext F Γ w Γ w.drew:=⟨Γ.le_refl,fun _ _=>⟨rfl,rfl⟩,ao _,rfl,rfl,rfl⟩;refine⟨_,_,a.put o.dst _,_,hexec,fun K Q hk=>hk,put_defers _ _ _,x0.trans k2,eU,?_⟩;refine k1.put o.dst (.gsl hb hbt ⟨hge,h62⟩ eT) (by simp[VM.own]) fun b=>?_;have:=k1.tok b;simp only[cnt];omega
theorem Qm{P:Program}{b:Nat}{arr:Array Value}{e:TypeId}{fz:Nat×Nat}{wd n len cap:Nat}{vs:List Value} (hh:w.heap[b]?=some (.cells arr e fz)) (hv:vs=arr.toList.take (n * wd)) (hl:vs.length=n * wd):∀w',w'.heap[b]?=w.heap[b]?→(Builtin.firstCells wd n (.slice (some ⟨b,0,none⟩) len cap)).run P w'=.ok vs.toArray w':=by intro w' hw;refine dI (P:=P) w' wd n ⟨b,0,none⟩ len cap vs hl fun j u hj=>?_;rw[addr_add];subst hv;have:=List.getElem?_take_some hj;simp only[World.cell?,hw,hh,bp];simpa using this
set_option maxHeartbeats 1000000 in theorem AKJ (hs:Sim E F Γ st w af a.tmps.toList){o:Oper}{x y:Operand}{t0 t1:TypeId}{ts:List TypeId}{wd l:Nat}{cs:List AVal}{rest:List (Nat×List AVal)}{jo:Option Nat} (hop:o.op=.call {callee:=.builtin .append,args:=#[x,y],argTypes:=⟨t0::t1::ts⟩}) (h:ASv E t0 t1 (rd E af t0 x) (rd E af t1 y) st=some (wd,l,cs,rest,jo)):∃i,(i=st.next∨jo=some i)∧∃nx w' a' Γ',Stepped E F Γ st w a o (Am af o.dst (.gsl wd i l)) {m:=(i,cs)::rest,next:=st.next+1} nx w' a' Γ':=by
 have hx:=hs.rd t0 x;have hy:=hs.rd t1 y;generalize rd E af t0 x=ax at *;generalize rd E af t1 y=ay at *;generalize hvx:a.eval x=vx at *;generalize hvy:a.eval y=vy at *;unfold ASv at h;split at h;rotate_left;·cases h
 rename_i wd' n k;split at h;rotate_left;·cases h
 rename_i ys z by_ hgn hap;split at h;rotate_left;·cases h
 rename_i hc;obtain⟨rfl,hyl,hk0,hint,hkn⟩:=hc;obtain⟨e,i,zv,hu,hi,hz,hzs,his,hib⟩:=Ki hap;obtain⟨d1,hd1⟩:=DX hkn;cases hy with
 |gsl hbn hbtn hcn hczn=>
  rename_i bn capn sn Tn;obtain⟨bn',arrn,en,hbox⟩:=hs.box hgn hbn;have:bn'=bn:=by have:=hbox.bx;rw[hbn]at this;exact(aQ this).symm
  subst this;obtain⟨lon,hin,hhn,_⟩:=hbox.heap;have hnl:(arrn.toList.take (k * z)).length=k * z:=by rw[←hyl];exact hbox.rep.length.symm
  have hrn:RepL Γ ys (arrn.toList.take (k * z)):=by rw[←hyl];exact hbox.rep
  have hone: ∀v,v∈arrn.toList.take (k * z)→v.oneCell'=true:=by rw[←hyl];exact hbox.one
  have hon:ownL Γ w ys (arrn.toList.take (k * z)):=by rw[←hyl,I1];exact hbox.own
  have hcnn: ∀b,AJ b ys (arrn.toList.take (k * z))=AJ b ys arrn.toList:=fun b=>by rw[←hyl,Iw]
  have hl1: ∀w',(Builtin.lenOf (.slice (some ⟨bn',0,none⟩) k capn)).run E.P w'=.ok k w':=fun w'=>by simp[Builtin.lenOf]
  have hf1:=Qm (P:=E.P) (wd:=z) (n:=k) (len:=k) (cap:=capn) hhn rfl hnl;have hcm1: ∀b,Aa Γ w b st.m=AJ b ys arrn.toList+Aa Γ w b (FB st.m n):=fun b=>by rw[OI (Jq hgn),Aa];simp only[CX,hbox.bx,hcells,hhn]
  split at h
  ·rename_i w';split at h;rotate_left;·cases h
   rename_i hc;obtain⟨rfl,hw1,hroom,h62⟩:=hc;simp only[ac,aA]at h;obtain⟨rfl,rfl,rfl,rfl,rfl⟩:=h;obtain⟨base,rfl⟩: ∃base,vx=.slice base 0 0:=by cases hx with |snil=>exact⟨_,rfl⟩| slice _ hb hl hc hS hnn=>have h0:=(hnn rfl rfl).resolve_right hw1;simp only[an]at hl;subst hl;subst h0;exact⟨_,rfl⟩
   have hxn:Rep Γ (.slice w' [] true) (.slice base 0 0):=.snil _ _ _;obtain⟨olds,so⟩:=Nu hs hxn;have hold:olds=[]:=aY (by rw[so.size];simp);subst hold;refine⟨st.next,.inl rfl,?_⟩;have:=Ol (hs:=hs) (csO:=[]) (ys:=ys) (olds:=[]) (rest:=FB st.m n) (len:=0) (k:=k) hop hvx hvy hu hi hz (by rw[his];exact hzs) his hib hd1 hint (by simpa using hroom) (by simpa using h62) (ao _) eT hl1 (hf1 w.drew rfl) (by have:=so.first w.drew (fun _ _=>rfl);simpa using this) .nil hrn eU hnl eU hone (by simp[ownL]) hon (MV _ _) (fun b=>by have:=hs.tok b;rw[hcm1 b]at this;rw[hcnn b];simp only[AJ];omega);simpa using this
  ·rename_i w' j len;split at h;rotate_left;·cases h
   rename_i cs0 hgj;split at h;rotate_left;·cases h
   rename_i hc;obtain⟨rfl,hcl,hroom,h62⟩:=hc;simp only[ac,aA]at h;obtain⟨rfl,rfl,rfl,rfl,rfl⟩:=h;cases hx with
   |gsl hbj hbtj hcj hczj=>
    rename_i bj capj sj Tj;have hs1:Sim E F Γ {st with m:=FB st.m n} w af a.tmps.toList:=hs.fewer (MV _ _);have hs2:Sim E F Γ {st with m:=(j,cs0)::FB (FB st.m n) j} w af a.tmps.toList:=hs1.perm (Jq hgj);have hg2:Bv ((j,cs0)::FB (FB st.m n) j) j=some cs0:=by simp[Bv]
    obtain⟨bj',arrj,ej,hboxj⟩:=hs2.box hg2 hbj;have:bj'=bj:=by have:=hboxj.bx;rw[hbj]at this;exact(aQ this).symm
    subst this;obtain⟨loj,hij,hhj,hfj⟩:=hboxj.heap;obtain⟨rfl,hsj⟩:=hboxj.ty _ _ hbtj;have hcm2: ∀b,Aa Γ w b (FB st.m n)=AJ b cs0 arrj.toList+Aa Γ w b (FB (FB st.m n) j):=fun b=>by rw[OI (Jq hgj),Aa];simp only[CX,hboxj.bx,hcells,hhj]
    have hle:=hboxj.le;have hol:(arrj.toList.take (len * w')).length=len * w':=by rw[bm,ap];omega
    have htt:(arrj.toList.take cs0.length).take (len * w')=arrj.toList.take (len * w'):=by rw[eM];congr 1;omega
    have hro:RepL Γ (cs0.take (len * w')) (arrj.toList.take (len * w')):=by have:=hboxj.rep.takeA (len * w');rwa[htt]at this
    have hoo:ownL Γ w (cs0.take (len * w')) (arrj.toList.take (len * w')):=hboxj.own.takeA _;have hco: ∀b,AJ b (cs0.take (len * w')) (arrj.toList.take (len * w'))≤AJ b cs0 arrj.toList:=fun b=>O9 b _ _ _;have ho1: ∀v,v∈arrj.toList.take (len * w')→v.oneCell'=true:=fun v hv=>hboxj.one v (by rw[←htt]at hv;exact bQ hv);by_cases hfits:len+k≤capj
    ·refine⟨j,.inr rfl,?_⟩;have hroomj:len * w'+k * w'≤arrj.size:=by have:(len+k) * w'≤capj * w':=ce _ hfits;rw[bR]at this;omega
     obtain⟨w1,arr',r1,q1,q2,q3,q4,q5,q6,q7,q8⟩:=FY (P:=E.P) (b:=bj') (base:=0+len * w') (arrn.toList.take (k * w')) 0 arrj w hhj hfj (by rw[hnl];omega) hone;have q2':arr'.toList=arrj.toList.take (len * w')++arrn.toList.take (k * w')++(arrj.toList.drop (len * w')).drop (k * w'):=by rw[q2,bM,bp];have:=G8 (arrj.toList.take (len * w')) (arrj.toList.drop (len * w')) (arrn.toList.take (k * w')) (by rw[hnl,aw,ap];omega);rw[hol,bF,hnl]at this;exact this
     have hcl':(cs0.take (len * w')++ys).length=(arrj.toList.take (len * w')++arrn.toList.take (k * w')).length:=by rw[aj,aj,hro.length,hrn.length]
     have htake:arr'.toList.take (cs0.take (len * w')++ys).length=arrj.toList.take (len * w')++arrn.toList.take (k * w'):=by rw[hcl',q2',dg]
     have hfz: ∀q,q<arr'.size→¬(loj≤q∧q<hij):=by rw[q3];exact hfj
     obtain⟨s3,x3⟩:=hs2.setBox (w':=w1) (cs':=cs0.take (len * w')++ys) (arr':=arr') (lo:=loj) (hi:=hij) hg2 hboxj q1 hfz q4 q5 q6 q7 q8 (by rw[htake];exact hro.cat hrn) (by rw[←I1,htake];exact ownL.cat hro.length hoo hon) (by rw[htake];intro v hv;rcases aV.1 hv with hv|hv;exact ho1 v hv;exact hone v hv) (fun b=>by
      have e1:AJ b (cs0.take (len * w')++ys) arr'.toList=AJ b (cs0.take (len * w')) (arrj.toList.take (len * w'))+AJ b ys (arrn.toList.take (k * w')):=by rw[←Iw,htake,QT b hro.length]
      rw[e1,hcnn b];have e2:Aa Γ w b ((j,cs0)::FB (FB st.m n) j)=AJ b cs0 arrj.toList+Aa Γ w b (FB (FB st.m n) j):=by rw[Aa];simp only[CX,hboxj.bx,hcells,hhj]
      show F b+AJ b af a.tmps.toList+_+Aa Γ w b ((j,cs0)::FB (FB st.m n) j)≤_;rw[e2];have:=hs.tok b;rw[hcm1 b,hcm2 b]at this;have:=hco b;omega) q3;have hms:CP ((j,cs0)::FB (FB st.m n) j) j (cs0.take (len * w')++ys)=(j,cs0.take (len * w')++ys)::FB (FB st.m n) j:=by simp[CP]
     simp only[hms]at s3;have s4:=s3.later;have hargs:Array.map a.eval #[x,y]= #[.slice (some ⟨bj',0,none⟩) len capj,.slice (some ⟨bn',0,none⟩) k capn]:=by simp[hvx,hvy]
     have hf1':=hf1 w rfl;rw[←his]at hf1' r1;have hrun:(Builtin.append_ ⟨t0::t1::ts⟩ o.type #[.slice (some ⟨bj',0,none⟩) len capj,.slice (some ⟨bn',0,none⟩) k capn]).run E.P w=.ok (.slice (some ⟨bj',0,none⟩) (len+k) capj) w1:=by rw[LJ hu hi hd1 hint (hl1 w) hfits hf1'];simp only[addr_add];rw[au,r1];rfl
     refine⟨.value (.slice (some ⟨bj',0,none⟩) (len+k) capj),_,a.put o.dst (.slice (some ⟨bj',0,none⟩) (len+k) capj),_,?_,fun K Q hk=>hk,put_defers _ _ _,x3,eU,?_⟩;·simp only[execOp,hop,resolve,hargs,au,aZ,aq,invoke,builtin];rw[hrun];rfl
     ·refine s4.put o.dst (.gsl hbj hbtj ⟨hfits,h62⟩ hczj) (by simp[VM.own]) fun b=>?_;have:=s4.tok b;simp only[cnt];omega
    ·refine⟨st.next,.inl rfl,?_⟩;have hf0:=Qm (P:=E.P) (wd:=w') (n:=len) (len:=len) (cap:=capj) hhj rfl hol;exact Ol (hs:=hs) (csO:=cs0.take (len * w')) (ys:=ys) (rest:=FB (FB st.m n) j) hop hvx hvy hu hi hz (by rw[his];exact hzs) his hib hd1 hint hroom h62 hcj.1 hfits hl1 (hf1 w.drew rfl) (hf0 w.drew rfl) hro hrn hol hnl ho1 hone hoo hon ((MV _ _).trans (MV _ _)) (fun b=>by have:=hs.tok b;rw[hcm1 b,hcm2 b]at this;rw[hcnn b];have:=hco b;omega)
  ·cases h
def AI1 (E:Env) (t0 t1:TypeId) (x y:AVal) (st:St):Option (Nat×Nat×List AVal×List (Nat×List AVal)×Option Nat):=match x,y with
 | .gsl w j len,.str s=>match Bv st.m j,Lp E.P t0 with |some cs,some (z,by_)=>if w=1∧z=1∧len≤cs.length∧(len+s.length) * by_≤140737488355328∧len+s.length≤DY∧JC E.P t1=none∧A7 E.P t1=true then some (1,len+s.length,cs.take len++u8s s,FB st.m j,some j)else none|_,_=>none
 |_,_=>none
theorem U5 (l:List UInt8): ∀x,x∈u8s l→(∀Γ w v,VM.own Γ w x v)∧∀b v,cnt b x v=0:=by intro x hx;obtain⟨c,_,rfl⟩:=bo.1 hx;exact⟨fun Γ w v=>by simp[VM.own],fun b v=>by simp[cnt]⟩
theorem AH9: ∀l:List UInt8,RepL Γ (u8s l) (l.map fun b=>Value.int .u8 b.toNat) |[]=>.nil|c::l=>.cons (.int _ _) (AH9 l)
set_option maxHeartbeats 1000000 in theorem ALJ (hs:Sim E F Γ st w af a.tmps.toList){o:Oper}{x y:Operand}{t0 t1:TypeId}{ts:List TypeId}{wd l:Nat}{cs:List AVal}{rest:List (Nat×List AVal)}{jo:Option Nat} (hop:o.op=.call {callee:=.builtin .append,args:=#[x,y],argTypes:=⟨t0::t1::ts⟩}) (h:AI1 E t0 t1 (rd E af t0 x) (rd E af t1 y) st=some (wd,l,cs,rest,jo)):∃i,(i=st.next∨jo=some i)∧∃nx w' a' Γ',Stepped E F Γ st w a o (Am af o.dst (.gsl wd i l)) {m:=(i,cs)::rest,next:=st.next+1} nx w' a' Γ':=by
 have hx:=hs.rd t0 x;have hy:=hs.rd t1 y;generalize rd E af t0 x=ax at *;generalize rd E af t1 y=ay at *;generalize hvx:a.eval x=vx at *;generalize hvy:a.eval y=vy at *;unfold AI1 at h;split at h;rotate_left;·cases h
 rename_i wx j len str;split at h;rotate_left;·cases h
 rename_i cs0 z by_ hgj hap;split at h;rotate_left;·cases h
 rename_i hc;obtain⟨rfl,rfl,hcl,hroom,h62,hint,hkn⟩:=hc;simp only[ac,aA]at h;obtain⟨rfl,rfl,rfl,rfl,rfl⟩:=h;obtain⟨e,i,zv,hu,hi,hz,hzs,his,hib⟩:=Ki hap;obtain⟨d1,hd1⟩:=DX hkn;cases hy with
 |str sb hsn=>
  have src:=AHv (E:=E) (Γ:=Γ) (w:=w) (s:=sb) (wd:=1) rfl;generalize hnews:(sb.data.toList.map fun b=>Value.int .u8 b.toNat)=news at src;have hys:(sb.data.toList.map fun b=>AVal.int .u8 b.toNat)=u8s sb.data.toList:=rfl;rw[hys]at src;generalize sb.data.toList=str at *;have hul:(u8s str).length=str.length:=by simp[u8s]
  have hnl:news.length=str.length * 1:=by rw[src.size,hul]
  have hrn:RepL Γ (u8s str) news:=by rw[←hnews];exact AH9 str
  have hone: ∀v,v∈news→v.oneCell'=true:=src.one;have hon: ∀(Γ':Ghost) (w':World),ownL Γ' w' (u8s str) news:=fun Γ' w'=>Mm _ _ fun x hx=>(U5 str x hx).1 Γ' w';have hcn: ∀b vs,AJ b (u8s str) vs=0:=fun b vs=>Mg b _ vs fun x hx=>(U5 str x hx).2 b;have hl1: ∀w',(Builtin.lenOf (.string sb)).run E.P w'=.ok str.length w':=fun w'=>by have:=src.len w';rwa[hul]at this
  have hf1: ∀w',(∀b o,w'.cell? ⟨b,o,none⟩=w.cell? ⟨b,o,none⟩)→(Builtin.firstCells 1 str.length (.string sb)).run E.P w'=.ok news.toArray w':=fun w' q=>by have:=src.first w' q;rwa[hul]at this
  cases hx with
  |gsl hbj hbtj hcj hczj=>
   rename_i bj capj sj Tj;have hs2:Sim E F Γ {st with m:=(j,cs0)::FB st.m j} w af a.tmps.toList:=hs.perm (Jq hgj);have hg2:Bv ((j,cs0)::FB st.m j) j=some cs0:=by simp[Bv]
   obtain⟨bj',arrj,ej,hboxj⟩:=hs2.box hg2 hbj;have:bj'=bj:=by have:=hboxj.bx;rw[hbj]at this;exact(aQ this).symm
   subst this;obtain⟨loj,hij,hhj,hfj⟩:=hboxj.heap;obtain⟨rfl,hsj⟩:=hboxj.ty _ _ hbtj;have hcm2: ∀b,Aa Γ w b st.m=AJ b cs0 arrj.toList+Aa Γ w b (FB st.m j):=fun b=>by rw[OI (Jq hgj),Aa];simp only[CX,hboxj.bx,hcells,hhj]
   have hle:=hboxj.le;have hol:(arrj.toList.take (len * 1)).length=len * 1:=by rw[bm,ap];omega
   have htt:(arrj.toList.take cs0.length).take (len * 1)=arrj.toList.take (len * 1):=by rw[eM];congr 1;omega
   have hro:RepL Γ (cs0.take (len * 1)) (arrj.toList.take (len * 1)):=by have:=hboxj.rep.takeA (len * 1);rwa[htt]at this
   have hoo:ownL Γ w (cs0.take (len * 1)) (arrj.toList.take (len * 1)):=hboxj.own.takeA _;have hco: ∀b,AJ b (cs0.take (len * 1)) (arrj.toList.take (len * 1))≤AJ b cs0 arrj.toList:=fun b=>O9 b _ _ _;have ho1: ∀v,v∈arrj.toList.take (len * 1)→v.oneCell'=true:=fun v hv=>hboxj.one v (by rw[←htt]at hv;exact bQ hv);have e11:len * 1=len:=eQ _;by_cases hfits:len+str.length≤capj
   ·refine⟨j,.inr rfl,?_⟩;have hroomj:len+str.length≤arrj.size:=by rw[hsj];omega
    obtain⟨w1,arr',r1,q1,q2,q3,q4,q5,q6,q7,q8⟩:=FY (P:=E.P) (b:=bj') (base:=0+len * 1) news 0 arrj w hhj hfj (by rw[hnl];omega) hone;have q2':arr'.toList=arrj.toList.take (len * 1)++news++(arrj.toList.drop (len * 1)).drop (str.length * 1):=by rw[q2,bM,bp];have:=G8 (arrj.toList.take (len * 1)) (arrj.toList.drop (len * 1)) news (by have e:=ap (xs:=arrj);rw[hnl,aw];omega);rw[hol,bF,hnl]at this;exact this
    have hcl':(cs0.take (len * 1)++u8s str).length=(arrj.toList.take (len * 1)++news).length:=by rw[aj,aj,hro.length,hrn.length]
    have htake:arr'.toList.take (cs0.take (len * 1)++u8s str).length=arrj.toList.take (len * 1)++news:=by rw[hcl',q2',dg]
    have hfz: ∀q,q<arr'.size→¬(loj≤q∧q<hij):=by rw[q3];exact hfj
    obtain⟨s3,x3⟩:=hs2.setBox (w':=w1) (cs':=cs0.take (len * 1)++u8s str) (arr':=arr') (lo:=loj) (hi:=hij) hg2 hboxj q1 hfz q4 q5 q6 q7 q8 (by rw[htake];exact hro.cat hrn) (by rw[←I1,htake];exact ownL.cat hro.length hoo (hon _ _)) (by rw[htake];intro v hv;rcases aV.1 hv with hv|hv;exact ho1 v hv;exact hone v hv) (fun b=>by
     have e1:AJ b (cs0.take (len * 1)++u8s str) arr'.toList=AJ b (cs0.take (len * 1)) (arrj.toList.take (len * 1))+AJ b (u8s str) news:=by rw[←Iw,htake,QT b hro.length]
     rw[e1,hcn b];have e2:Aa Γ w b ((j,cs0)::FB st.m j)=AJ b cs0 arrj.toList+Aa Γ w b (FB st.m j):=by rw[Aa];simp only[CX,hboxj.bx,hcells,hhj]
     show F b+AJ b af a.tmps.toList+_+Aa Γ w b ((j,cs0)::FB st.m j)≤_;rw[e2];have:=hs.tok b;rw[hcm2 b]at this;have:=hco b;omega) q3;have hms:CP ((j,cs0)::FB st.m j) j (cs0.take (len * 1)++u8s str)=(j,cs0.take (len * 1)++u8s str)::FB st.m j:=by simp[CP]
    simp only[hms]at s3;have s4:=s3.later;have hargs:Array.map a.eval #[x,y]= #[.slice (some ⟨bj',0,none⟩) len capj,.string sb]:=by simp[hvx,hvy]
    have hf1':=hf1 w (fun _ _=>rfl);rw[←his]at hf1' r1;have hrun:(Builtin.append_ ⟨t0::t1::ts⟩ o.type #[.slice (some ⟨bj',0,none⟩) len capj,.string sb]).run E.P w=.ok (.slice (some ⟨bj',0,none⟩) (len+str.length) capj) w1:=by rw[LJ hu hi hd1 hint (hl1 w) hfits hf1'];simp only[addr_add];rw[au,r1];rfl
    refine⟨.value (.slice (some ⟨bj',0,none⟩) (len+str.length) capj),_,a.put o.dst (.slice (some ⟨bj',0,none⟩) (len+str.length) capj),_,?_,fun K Q hk=>hk,put_defers _ _ _,x3,eU,?_⟩;·simp only[execOp,hop,resolve,hargs,au,aZ,aq,invoke,builtin];rw[hrun];rfl
    ·rw[e11]at s4;refine s4.put o.dst (.gsl hbj hbtj ⟨hfits,h62⟩ hczj) (by simp[VM.own]) fun b=>?_;have:=s4.tok b;simp only[cnt];omega
   ·refine⟨st.next,.inl rfl,?_⟩;have hf0:=Qm (P:=E.P) (wd:=1) (n:=len) (len:=len) (cap:=capj) hhj rfl hol;have key:=Ol (hs:=hs) (csO:=cs0.take (len * 1)) (ys:=u8s str) (rest:=FB st.m j) (k:=str.length) hop hvx hvy hu hi hz (by rw[his];exact hzs) his hib hd1 hint hroom h62 hcj.1 hfits hl1 (hf1 w.drew (fun _ _=>rfl)) (hf0 w.drew rfl) hro hrn hol hnl ho1 hone hoo (hon _ _) (MV _ _) (fun b=>by have:=hs.tok b;rw[hcm2 b]at this;rw[hcn b];have:=hco b;omega);rw[e11]at key;exact key
def appG (E:Env) (t0 t1:TypeId) (x y:AVal) (st:St):Option (Nat×Nat×List AVal×List (Nat×List AVal)×Option Nat):=match y with |.str s=>AI1 E t0 t1 x (.str s) st|y=>ASv E t0 t1 x y st
theorem AIT (hs:Sim E F Γ st w af a.tmps.toList){o:Oper}{x y:Operand}{t0 t1:TypeId}{ts:List TypeId}{wd l:Nat}{cs:List AVal}{rest:List (Nat×List AVal)}{jo:Option Nat} (hop:o.op=.call {callee:=.builtin .append,args:=#[x,y],argTypes:=⟨t0::t1::ts⟩}) (h:appG E t0 t1 (rd E af t0 x) (rd E af t1 y) st=some (wd,l,cs,rest,jo)):∃i,(i=st.next∨jo=some i)∧∃nx w' a' Γ',Stepped E F Γ st w a o (Am af o.dst (.gsl wd i l)) {m:=(i,cs)::rest,next:=st.next+1} nx w' a' Γ':=by
 unfold appG at h;split at h;·rename_i s hy;rw[←hy]at h;exact ALJ hs hop h
 ·exact AKJ hs hop h
end
end Go.VM
