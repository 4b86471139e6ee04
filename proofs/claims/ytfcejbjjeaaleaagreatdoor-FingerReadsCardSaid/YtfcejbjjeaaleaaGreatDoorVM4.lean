import Derived.Laws.MakeOwn
import Derived.Laws.IdiomStrings
import Derived.Test.YtfcejbjjeaaleaaGreatDoorVM1
import Derived.Lib.UnsafeStr
import Derived.Lib.Bytealg
import Derived.MapKept
set_option linter.defProp false
set_option linter.unusedSimpArgs false
set_option linter.unusedVariables false
namespace Go.VM
def WK (P:Program) (t:TypeId):Option (Nat×AVal):=match P.underlying t with
 | some (.slice e)=>match P.info? e,FQ P e with |some i,some (.int k n)=>if i.size=1 then some (i.bytes,.int k n)else none|some i,some (.bool b)=>if i.size=1 then some (i.bytes,.bool b)else none|some i,some (.str [])=>if i.size=1 then some (i.bytes,.str [])else none|_,_=>none
 |_=>none
def Yr (E:Env) (t:TypeId) (x y:AVal) (st:St):Option (AVal×St):=match x,y,WK E.P t with |.int _ n,.int _ n',some (b,z)=>if n=n'/\0<=n/\n<=Dp/\n * b<=140737488355328 then some (.bsl 1 st.next 0 n.toNat,{m:=(st.next,List.replicate n.toNat z)::st.m,next:=st.next+1})else none|_,_,_=>none
def Xx (E:Env) (t:TypeId) (x y:AVal) (st:St):Option (AVal×St):=match x,y,WK E.P t with |.int _ n,.int _ n',some (b,z)=>if 0<=n/\n<=n'/\n'<=Dp/\n' * b<=140737488355328 then some (.gsl 1 st.next n.toNat,{m:=(st.next,List.replicate n.toNat z)::st.m,next:=st.next+1})else none|_,_,_=>none
def SG (E:Env) (s d:TypeId) (x:AVal) (st:St):Option (AVal×St):=match x with
 |.str l=>if u8T E.P d=true/\EW E.P s=true then some (.bsl 1 st.next 0 l.length,{m:=(st.next,l.map λc=>.int .u8 (AC c))::st.m,next:=st.next+1})else none
 | .bsl w i off len=>if w=1/\(u8T E.P s&&EW E.P d)=true then match A9 st.m i with
 | some cs=>match bytesOf ((cs.drop off).take len)with |some l=>if l.length=len/\len<=Dp then some (.str l,st)else none|none=>none
 |none=>none else none
 | .gsl w i len=>if w=1/\(u8T E.P s&&EW E.P d)=true then match A9 st.m i with
 | some cs=>match bytesOf (cs.take len)with |some l=>if l.length=len/\len<=Dp then some (.str l,st)else none|none=>none
 |none=>none else none
 |_=>none
section
variable{E:Env}{F:Nat->Nat}{Γ:Ghost}{st:St}{w:World}{af:List AVal}{a:Act}
theorem RepL.replicate{x:AVal}{v:Value} (h:Rep Γ x v): ∀n,RepL Γ (List.replicate n x) (List.replicate n v) |0=>.nil|n+1=>.cons h (RepL.replicate h n)
def TG: ∀(xs:List AVal) (vs:List Value),(∀x,x∈xs->∀v,VM.own Γ w x v)->ownL Γ w xs vs |[],_,_=>by simp[ownL]|_::_,[],_=>by simp[ownL]|x::xs,v::vs,h=>by rw[ownL];exact⟨h x fH v,TG xs vs λy hy=>h y (by grind)⟩
def Sq (b:Nat): ∀(xs:List AVal) (vs:List Value),(∀x,x∈xs->∀v,cnt b x v=0)->AP b xs vs=0 |[],_,_=>by simp[AP]|_::_,[],_=>by simp[AP]|x::xs,v::vs,h=>by rw[AP,h x fH v,Sq b xs vs λy hy=>h y (by grind)]
theorem Uc (v:Value) (n:Nat):(madeCells #[v] n).toList=List.replicate n v:=by
 apply List.ext_getElem;·simp[madeCells]
 ·intro i h1 h2;simp[madeCells,Nat.mod_one]
def V7 (hs:Sim E F Γ st w af a.tmps.toList){o:Oper}{w1:World}{cells:Array Value}{e:TypeId}{cs:List AVal}{fz:Nat×Nat}{cap:Nat} (hs1:Sim E F Γ st w1 af a.tmps.toList) (hx:Ext F Γ w Γ w1) (hfz: ∀j,j<cells.size->¬(fz.1<=j/\j<fz.2)) (hr:RepL Γ cs (cells.toList.take cs.length)) (h1: ∀v,v∈cells.toList.take cs.length->v.oneCell'=true) (ho: ∀x,x∈cs->(∀v,VM.own Γ w1 x v)/\∀b v,cnt b x v=0) (hl:cs.length<=cap/\cs.length<=Dp) (hrun:(execOp a.eval o).run E.P w=.ok (.value (.slice (some ⟨w1.heap.size,0,none⟩) cs.length cap)) (w1.alloc (.cells cells e fz))):∃nx w' a' Γ',Stepped E F Γ st w a o (BN af o.dst (.bsl 1 st.next 0 cs.length)) {m:=(st.next,cs)::st.m,next:=st.next+1} nx w' a' Γ':=by
 have hc: ∀b vs,AP b cs vs=0:=λb vs=>Sq b cs vs λx hx=>(ho x hx).2 b;obtain⟨k1,k2,k3⟩:=hs1.newBox (e:=e) (cells:=cells) (cs:=cs) (fz:=fz) hfz (hr.mono (hs1.le_box _)) (TG _ _ λx hx=>(ho x hx).1) h1 (λb=>by rw[hc];have:=hs1.tok b;omega);have hb:(Γ.box st.next w1.heap.size (e,cells.size)).bx st.next=some w1.heap.size:=by cases k3 with |ptr h=>exact h
 refine⟨_,_,_,_,hrun,λK Q hk=>hk,put_defers _ _ _,hx.trans k2,fH,?_⟩;refine k1.put o.dst (.bsl hb (.inr rfl) hl) (by simp[VM.own]) λb=>?_;have:=k1.tok b;grind[cnt]
def AAB (hs:Sim E F Γ st w af a.tmps.toList){o:Oper}{w1:World}{cells:Array Value}{e:TypeId}{cs:List AVal}{fz:Nat×Nat}{cap len:Nat}{r:AVal} (hs1:Sim E F Γ st w1 af a.tmps.toList) (hx:Ext F Γ w Γ w1) (hfz: ∀j,j<cells.size->¬(fz.1<=j/\j<fz.2)) (hr:RepL Γ cs (cells.toList.take cs.length)) (h1: ∀v,v∈cells.toList.take cs.length->v.oneCell'=true) (ho: ∀x,x∈cs->(∀v,VM.own Γ w1 x v)/\∀b v,cnt b x v=0) (hrr: ∀Γ':Ghost,Γ'.bx st.next=some w1.heap.size->Γ'.bt st.next=some (e,cells.size)->Rep Γ' r (.slice (some ⟨w1.heap.size,0,none⟩) len cap)) (hro: ∀Γ' w' v,VM.own Γ' w' r v) (hrc: ∀b v,cnt b r v=0) (hrun:(execOp a.eval o).run E.P w=.ok (.value (.slice (some ⟨w1.heap.size,0,none⟩) len cap)) (w1.alloc (.cells cells e fz))):∃nx w' a' Γ',Stepped E F Γ st w a o (BN af o.dst r) {m:=(st.next,cs)::st.m,next:=st.next+1} nx w' a' Γ':=by
 have hc: ∀b vs,AP b cs vs=0:=λb vs=>Sq b cs vs λx hx=>(ho x hx).2 b;obtain⟨k1,k2,k3⟩:=hs1.newBox (e:=e) (cells:=cells) (cs:=cs) (fz:=fz) hfz (hr.mono (hs1.le_box _)) (TG _ _ λx hx=>(ho x hx).1) h1 (λb=>by rw[hc];have:=hs1.tok b;omega);have hb:(Γ.box st.next w1.heap.size (e,cells.size)).bx st.next=some w1.heap.size:=by cases k3 with |ptr h=>exact h
 refine⟨_,_,_,_,hrun,λK Q hk=>hk,put_defers _ _ _,hx.trans k2,fH,?_⟩;refine k1.put o.dst (hrr _ hb (by simp[Ghost.box])) (hro _ _ _) λb=>?_;have:=k1.tok b;grind
def ASi (hs:Sim E F Γ st w af a.tmps.toList){o:Oper}{w1:World}{cells:Array Value}{e:TypeId}{cs:List AVal}{fz:Nat×Nat}{cap len:Nat} (hs1:Sim E F Γ st w1 af a.tmps.toList) (hx:Ext F Γ w Γ w1) (hfz: ∀j,j<cells.size->¬(fz.1<=j/\j<fz.2)) (hr:RepL Γ cs (cells.toList.take cs.length)) (h1: ∀v,v∈cells.toList.take cs.length->v.oneCell'=true) (ho: ∀x,x∈cs->(∀v,VM.own Γ w1 x v)/\∀b v,cnt b x v=0) (hl:len<=cap/\len<=Dp) (hcz:cap=cells.size) (hrun:(execOp a.eval o).run E.P w=.ok (.value (.slice (some ⟨w1.heap.size,0,none⟩) len cap)) (w1.alloc (.cells cells e fz))):∃nx w' a' Γ',Stepped E F Γ st w a o (BN af o.dst (.gsl 1 st.next len)) {m:=(st.next,cs)::st.m,next:=st.next+1} nx w' a' Γ':=AAB hs hs1 hx hfz hr h1 ho (λΓ' h1 h2=>.gsl h1 h2 hl fG) (λ_ _ _=>by simp[VM.own]) (λ_ _=>by simp[cnt]) hrun
def ABy{P:Program}{t:TypeId}{b:Nat}{z:AVal} (hI:WK P t=some (b,z)): ∃e i v,P.underlying t=some (.slice e)/\P.info? e=some i/\i.zero=some v/\i.size=1/\i.bytes=b/\F8 z v=true/\v.cells= #[v]/\v.oneCell'=true/\∀Γ w,(∀u,VM.own Γ w z u)/\∀b u,cnt b z u=0:=by
 unfold WK at hI;split at hI
 ·rename_i e he;split at hI
  ·rename_i j k0 n0 hj hz;split at hI;·rename_i hsz;simp only[al,aD]at hI;obtain⟨rfl,rfl⟩:=hI;obtain⟨i',v,q1,q2,q3⟩:=NI hz;rw[hj]at q1;cases q1;refine⟨e,j,v,he,hj,q2,hsz,rfl,q3,?_⟩;cases v<;>simp[F8]at q3;exact⟨rfl,rfl,λΓ w=>⟨λu=>by simp[VM.own],λb u=>by simp[cnt]⟩⟩
   grind
  ·rename_i j b0 hj hz;split at hI;·rename_i hsz;simp only[al,aD]at hI;obtain⟨rfl,rfl⟩:=hI;obtain⟨i',v,q1,q2,q3⟩:=NI hz;rw[hj]at q1;cases q1;refine⟨e,j,v,he,hj,q2,hsz,rfl,q3,?_⟩;cases v<;>simp[F8]at q3;exact⟨rfl,rfl,λΓ w=>⟨λu=>by simp[VM.own],λb u=>by simp[cnt]⟩⟩
   grind
  ·rename_i j hj hz;split at hI;·rename_i hsz;simp only[al,aD]at hI;obtain⟨rfl,rfl⟩:=hI;obtain⟨i',v,q1,q2,q3⟩:=NI hz;rw[hj]at q1;cases q1;refine⟨e,j,v,he,hj,q2,hsz,rfl,q3,?_⟩;cases v<;>simp[F8]at q3;exact⟨rfl,rfl,λΓ w=>⟨λu=>by simp[VM.own],λb u=>by simp[cnt]⟩⟩
   grind
  grind
 grind
theorem AY2 (hs:Sim E F Γ st w af a.tmps.toList){o:Oper}{t:TypeId}{x y:Operand}{r:AVal}{st':St} (hop:o.op=.makeSlice t x y) (h:Yr E t (rd E af 0 x) (rd E af 0 y) st=some (r,st')):∃nx w' a' Γ',Stepped E F Γ st w a o (BN af o.dst r) st' nx w' a' Γ':=by
 have hx:=hs.rd 0 x;have hy:=hs.rd 0 y;generalize rd E af 0 x=ax at *;generalize rd E af 0 y=ay at *;unfold Yr at h;split at h
 ·rename_i k n k' n' b z hI;split at h;·rename_i hc;obtain⟨rfl,h0,h1,h2⟩:=hc;simp only[al,aD]at h;obtain⟨rfl,rfl⟩:=h;generalize hvx:a.eval x=vx at hx;generalize hvy:a.eval y=vy at hy;cases hx;cases hy;obtain⟨e,i,v,g1,g2,g3,g4,g5,g6,g7⟩:=ABy hI;have hrep:=(Lp Γ w z v g6).rep;have hrun:=run_make (P:=E.P) w t e i v g1 g2 g3 k k' n n h0 (bu _) (by grind) (by grind[Dp]);rw[g7.1,g4,fB]at hrun;have hlen:(List.replicate n.toNat z).length=n.toNat:=dw;have key:=V7 (o:=o) (w1:=w) (cells:=madeCells #[v] n.toNat) (e:=e) (cs:=List.replicate n.toNat z) (fz:=(0,0)) (cap:=n.toNat) hs hs (Ext.refl _ _ _) fH (by grind[Uc,List.take_of_length_le,RepL.replicate]) (by rw[Uc];intro u hu;have:=cU hu;rw[cZ this];exact g7.2.1) (λx hx=>by rw[cZ hx];exact g7.2.2 _ _) fG (by simp_all[execOp]);grind
  grind
 grind
theorem AWY (hs:Sim E F Γ st w af a.tmps.toList){o:Oper}{t:TypeId}{x y:Operand}{r:AVal}{st':St} (hop:o.op=.makeSlice t x y) (h:Xx E t (rd E af 0 x) (rd E af 0 y) st=some (r,st')):∃nx w' a' Γ',Stepped E F Γ st w a o (BN af o.dst r) st' nx w' a' Γ':=by
 have hx:=hs.rd 0 x;have hy:=hs.rd 0 y;generalize rd E af 0 x=ax at *;generalize rd E af 0 y=ay at *;unfold Xx at h;split at h
 ·rename_i k n k' n' b z hI;split at h
  ·rename_i hc;obtain⟨h0,hle,h1,h2⟩:=hc;simp only[al,aD]at h;obtain⟨rfl,rfl⟩:=h;generalize hvx:a.eval x=vx at hx;generalize hvy:a.eval y=vy at hy;cases hx;cases hy;obtain⟨e,i,v,g1,g2,g3,g4,g5,g6,g7⟩:=ABy hI;have hrep:=(Lp Γ w z v g6).rep;have hrun:=run_make (P:=E.P) w t e i v g1 g2 g3 k k' n n' h0 hle (by grind) (by grind[Dp]);rw[g7.1,g4,fB]at hrun;have hlen:(List.replicate n.toNat z).length=n.toNat:=dw;have hmc:(madeCells #[v] n'.toNat).size=n'.toNat:=by grind[Array.length_toList,Uc]
   exact ASi (o:=o) (w1:=w) (cells:=madeCells #[v] n'.toNat) (e:=e) (cs:=List.replicate n.toNat z) (fz:=(0,0)) (cap:=n'.toNat) (len:=n.toNat) hs hs (Ext.refl _ _ _) fH (by rw[Uc,hlen,List.take_replicate,cR fG];exact RepL.replicate hrep _) (by rw[Uc];intro u hu;have:=cU hu;rw[cZ this];exact g7.2.1) (λx hx=>by rw[cZ hx];exact g7.2.2 _ _) ⟨fG,fG⟩ fG (by simp_all[execOp])
  grind
 grind
def Rs: ∀ {xs:List AVal}{l:B8}{vs:List Value},bytesOf xs=some l->RepL Γ xs vs->∃ns:List Int,ns.length=xs.length/\(∀j,j<ns.length->vs[j]?=some (.int .u8 (ns.getD j 0)))/\l=ns.map Ha
 |[],l,vs,h,_=>by simp[bytesOf]at h;subst h;exact⟨[],rfl,fH,rfl⟩
 | x::xs,l,vs,h,hr=>by
  cases hr with
  | cons hx t=>
   rename_i v vs;unfold bytesOf at h;split at h;·grind
   ·rename_i n xs' e;cases e;cases hx;cases hb:bytesOf xs with |none=>grind| some l'=>simp[hb]at h;subst h;obtain⟨ns,h1,h2,h3⟩:=Rs hb t;refine⟨n::ns,by grind,?_,by grind⟩;grind
   grind
def RepL.takeN{xs:List AVal}{vs:List Value} (h:RepL Γ xs vs): ∀n,RepL Γ (xs.take n) (vs.take n):=by induction xs generalizing vs with |nil=>intro n;cases h;simpa using RepL.nil| cons x xs ih=>intro n;cases h with | cons h t=>cases n with |zero=>grind|succ n=>exact .cons h (ih t n)
theorem AWf (hs:Sim E F Γ st w af a.tmps.toList){o:Oper}{s d:TypeId}{x:Operand}{r:AVal}{st':St} (hop:o.op=.convert s d x) (h:SG E s d (rd E af s x) st=some (r,st')):∃nx w' a' Γ',Stepped E F Γ st w a o (BN af o.dst r) st' nx w' a' Γ':=by
 have hx:=hs.rd s x;generalize rd E af s x=ax at *;unfold SG at h;split at h
 ·rename_i l;split at h
  ·rename_i hc;simp only[al,aD]at h;obtain⟨rfl,rfl⟩:=h;generalize hv:a.eval x=v at hx;cases hx with
   |str b hn=>
    obtain⟨e,h1,h2⟩:=YP hc.1;have hrun:=run_bytes_of_string (P:=E.P) w s d e b (DU hc.2) h1 h2;have hsz:b.size=b.data.toList.length:=fH;have hcs:(b.data.toList.map λc=>AVal.int .u8 (AC c)).length=b.size:=fH;have hrow:(bytesRow b (grownCap w b.size 0 e)).toList=(b.data.toList.map λc=>Value.int .u8 (AC c))++List.replicate (grownCap w b.size 0 e-b.size) (.int .u8 0):=by simp[bytesRow,AC]
    have htake:(bytesRow b (grownCap w b.size 0 e)).toList.take b.size=b.data.toList.map λc=>Value.int .u8 (AC c):=by grind
    have hcap:b.size<=grownCap w b.size 0 e:=eV w b.size 0 e;have key:=V7 (o:=o) (w1:=w.drew) (cells:=bytesRow b (grownCap w b.size 0 e)) (e:=e) (cs:=b.data.toList.map λc=>.int .u8 (AC c)) (fz:=((bytesRow b (grownCap w b.size 0 e)).size,(bytesRow b (grownCap w b.size 0 e)).size+1)) (cap:=grownCap w b.size 0 e) hs hs.drew ⟨Γ.le_refl,λ_ _=>⟨rfl,rfl⟩,aw _,rfl,rfl,rfl⟩ (λj hj=>by omega) (by rw[hcs,htake];generalize b.data.toList=l;induction l with |nil=>exact .nil|cons c l ih=>exact .cons (.int _ _) ih) (by rw[hcs,htake];intro v hv;obtain⟨c,_,rfl⟩:=bz.1 hv;rfl) (λx hx=>by obtain⟨c,_,rfl⟩:=bz.1 hx;grind[VM.own,cnt]) fG (by rw[hcs];simp only[execOp,hop,hv];rw[aM,hrun];rfl);grind
  grind
 ·rename_i wd i off len;split at h
  ·rename_i hc;obtain⟨rfl,hg⟩:=hc;simp only[az]at hg;split at h
   ·rename_i cs hm;split at h
    ·rename_i l hb;split at h
     ·rename_i hl;simp only[al,aD]at h;obtain⟨rfl,rfl⟩:=h;generalize hv:a.eval x=v at hx;cases hx with
      |bsl hbx ho hcap=>
       rename_i off' b cap;obtain⟨b',arr,e',hbo⟩:=hs.box hm hbx;have:b'=b:=by have:=hbo.bx;grind
       subst this;obtain⟨lo,hi,hh,hf⟩:=hbo.heap;obtain⟨e,h1,h2⟩:=YP hg.1;obtain⟨ns,n1,n2,n3⟩:=Rs hb ((hbo.rep.drop off).takeN len);have hnl:ns.length=len:=by simp_all
       have hcell: ∀j,j<len->w.cell? ⟨b',off'+j,none⟩=some (.int .u8 (ns.getD j 0)):=by grind[World.cell?]
       have key:=d8 w s e h1 h2 b' off' len cap ns fG hcell d (DU hg.2);have hsz:(strOfNums ns).data.toList=l:=by rw[fw,n3];rfl
       refine⟨.value (.string (strOfNums ns)),w,a.put o.dst (.string (strOfNums ns)),Γ,by simp_all[execOp],λK Q hk=>hk,put_defers _ _ _,Ext.refl _ _ _,aw _,?_⟩;rw[<-hsz];refine hs.put o.dst (.str _ (by grind)) (by simp[VM.own]) λn=>?_;have:=hs.tok n;grind[cnt]
     grind
    grind
   grind
  grind
 ·rename_i wd i len;split at h
  ·rename_i hc;obtain⟨rfl,hg⟩:=hc;simp only[az]at hg;split at h
   ·rename_i cs hm;split at h
    ·rename_i l hb;split at h
     ·rename_i hl;simp only[al,aD]at h;obtain⟨rfl,rfl⟩:=h;generalize hv:a.eval x=v at hx;cases hx with
      |gsl hbx hbt hcap hcz=>
       rename_i b cap nn T;obtain⟨b',arr,e',hbo⟩:=hs.box hm hbx;have:b'=b:=by have:=hbo.bx;grind
       subst this;obtain⟨lo,hi,hh,hf⟩:=hbo.heap;obtain⟨e,h1,h2⟩:=YP hg.1;obtain⟨ns,n1,n2,n3⟩:=Rs hb (hbo.rep.takeN len);have hnl:ns.length=len:=by simp_all
       have hcell: ∀j,j<len->w.cell? ⟨b',0+j,none⟩=some (.int .u8 (ns.getD j 0)):=by intro j hj;have q:=n2 j fG;have q1:=List.getElem?_take_some q;have q2:=List.getElem?_take_some q1;simp_all[World.cell?]
       have key:=d8 w s e h1 h2 b' 0 len cap ns fG hcell d (DU hg.2);have hsz:(strOfNums ns).data.toList=l:=by rw[fw,n3];rfl
       refine⟨.value (.string (strOfNums ns)),w,a.put o.dst (.string (strOfNums ns)),Γ,by simp_all[execOp],λK Q hk=>hk,put_defers _ _ _,Ext.refl _ _ _,aw _,?_⟩;rw[<-hsz];refine hs.put o.dst (.str _ (by grind)) (by simp[VM.own]) λn=>?_;have:=hs.tok n;grind[cnt]
     grind
    grind
   grind
  grind
 grind
end
end Go.VM
set_option linter.unusedVariables false
namespace Go.VM
def XZ (P:Program) (s d T:TypeId) (n:Nat):Bool:=match P.underlying s,P.underlying d with
 |some (.pointer t),some .unsafePointer=>(match P.info? t with|some j=>j.size !=0&&decide (0<n)|none=>false)
 |some .unsafePointer,some (.pointer u)=>(match P.info? u with|some _=>liesAt P P.depth T (n / P.cellsOf T) 0 u 1|none=>false)
 |_,_=>false
def UN (E:Env) (s d:TypeId) (x:AVal) (st:St):Option AVal:=match x with
 | .ptr i 0=>match A9 st.m i with |some (.nself j T n::_)=>if j=i/\XZ E.P s d T n=true then some (.ptr i 0)else none|_=>none
 |_=>none
def Uj (x:AVal):Option AVal:=match x with |.buf e l o=>some (.bufp e l o)|_=>none
def ptrTo (P:Program) (t e:TypeId):Bool:=match P.underlying t with|some (.pointer e')=>e'==e&&P.cellsOf e==1|_=>false
def Yc (E:Env) (t0:TypeId) (x y:AVal):Option AVal:=match x,y with |.bufp e l true,.int .i64 n=>if ptrTo E.P t0 e=true/\n=l.length then some (.str l)else none|_,_=>none
section
variable{E:Env}{F:Nat->Nat}{Γ:Ghost}{st:St}{w:World}{af:List AVal}{a:Act}
theorem AVY (hs:Sim E F Γ st w af a.tmps.toList){o:Oper}{s d:TypeId}{x:Operand}{r:AVal} (hop:o.op=.convert s d x) (h:UN E s d (rd E af s x) st=some r):∃nx w' a' Γ',Stepped E F Γ st w a o (BN af o.dst r) st nx w' a' Γ':=by
 have hx:=hs.rd s x;generalize rd E af s x=ax at *;generalize hvx:a.eval x=vx at hx;unfold UN at h;split at h
 ·rename_i i;split at h
  ·rename_i j T n rest hm;split at h
   ·rename_i hc;obtain⟨rfl,hcp⟩:=hc;cases h;obtain⟨b0,hbx0⟩: ∃b0,Γ.bx j=some b0:=by cases hx with|ptr hbx=>grind
    obtain⟨b,arr,e,hb⟩:=hs.box hm hbx0;obtain⟨lo,hi,hh,hf⟩:=hb.heap;have hbt:Γ.bt j=some (T,n):=by have:=hb.rep;generalize arr.toList.take _=vs at this;cases this with |cons h _=>cases h;omega
    obtain⟨rfl,hsz⟩:=hb.ty _ _ hbt;cases hx with
    | ptr hbx=>
     have:_=b:=cQ (hbx.symm.trans hb.bx);subst this;rename_i b;have hsh:w.shape? b=some (e,n):=by grind[World.shape?]
     have hrun:(convert s d (.pointer (some ⟨b,0,none⟩))).run E.P w=.ok (.pointer (some ⟨b,0,none⟩)) w:=by
      unfold XZ at hcp;split at hcp
      ·rename_i t hs1 hd1;split at hcp;·rename_i j' hj;simp only[az,dQ,dY,au]at hcp;grind[Go.Lib.run_to_unsafe]
       grind
      ·grind[Go.Lib.run_from_unsafe]
      grind
     refine⟨.value (.pointer (some ⟨b,0,none⟩)),w,a.put o.dst _,Γ,by simp_all[execOp],λK Q hk=>hk,put_defers _ _ _,Ext.refl _ _ _,aw _,?_⟩;refine hs.put o.dst (.ptr hbx) (by simp[VM.own]) λm=>?_;have:=hs.tok m;grind[cnt]
   grind
  grind
 grind
theorem ATh (hs:Sim E F Γ st w af a.tmps.toList){o:Oper}{x:Operand}{t0:TypeId}{ts:List TypeId}{r:AVal} (hop:o.op=.call {callee:=.builtin .unsafeSliceData,args:=⟨[x]⟩,argTypes:=⟨t0::ts⟩}) (h:Uj (rd E af t0 x)=some r):∃nx w' a' Γ',Stepped E F Γ st w a o (BN (stripAt af x) o.dst r) st nx w' a' Γ':=by
 have hx:=hs.rd t0 x;have hox:=hs.rd_own t0 x;have hcx:=λb=>hs.rd_cnt t0 x b;have hs1:=hs.stripAt x;have htk:=hs.tok;generalize rd E af t0 x=ax at *;generalize hvx:a.eval x=vx at *;unfold Uj at h;split at h
 ·rename_i e l ow;cases h;have hargs:Array.map a.eval ⟨[x]⟩= #[vx]:=by grind
  have hexec: ∀v,(Builtin.unsafeSliceData_ ⟨t0::ts⟩ o.type #[vx]).run E.P w=.ok v w->(execOp a.eval o).run E.P w=.ok (.value v) w:=by simp_all[execOp,resolve,invoke,builtin]
  cases hx with
  | buf _ hx hk=>
   have hul:(u8s l).length=l.length:=by simp[u8s]
   cases vx with
   | slice base len cap=>
    cases base with
    | none=>
     obtain⟨rfl,rfl⟩:=hk;have hl:l=[]:=by generalize u8s l=q at hx hul;cases hx;grind
     subst hl;refine⟨_,w,a.put o.dst _,Γ,hexec _ (Go.Lib.run_unsafeSliceData_nil w _ _ 0 0),λK Q hk=>hk,put_defers _ _ _,Ext.refl _ _ _,aw _,?_⟩;refine hs1.put o.dst (.bnil _ _) ?_ λb=>?_;·cases ow<;>simp[VM.own,AB7,Rk]
     ·have:=htk b;have:=hcx b;cases ow<;>simp only[cnt,Rk]<;>omega
    | some ad=>
     obtain⟨b,off,sp⟩:=ad;obtain⟨h1,h2,h3,h4⟩:=hk;simp only at h1 h2 h4;subst h1;subst h2;obtain⟨cells,hc,hS,hlm⟩: ∃cells,Γ.com b=some cells/\RepS Γ 1 (u8s l) cells/\l.length<=Dp:=by generalize u8s l=q at hx hul;cases hx with |snil=>omega|slice _ hb hl hc hS hnn=>grind
     refine⟨_,w,a.put o.dst _,Γ,hexec _ (Go.Lib.run_unsafeSliceData_row w _ _ ⟨b,0,none⟩ len cap h3),λK Q hk=>hk,put_defers _ _ _,Ext.refl _ _ _,aw _,?_⟩;refine hs1.put o.dst (.bufp _ hc h4 hS hlm) ?_ λn=>?_
     ·cases ow;·simp[VM.own]
      ·simp only[VM.own]at hox⊢;exact hox.2
     ·have:=htk n;have h9:=hcx n;cases ow;·grind[cnt]
      ·have:Rk n (.pointer (some ⟨b,0,none⟩))=Ic n (.slice (some ⟨b,0,none⟩) len cap):=rfl;grind[cnt]
   |_=>exact hk.elim
 grind
theorem Sim.freeze (hs:Sim E F Γ st w af a.tmps.toList){b:Nat}{cells:List Value}{arr:Array Value}{e:TypeId}{fz fz':Nat×Nat}{w':World} (hcom:Γ.com b=some cells) (hh:w.heap[b]?=some (.cells arr e fz)) (hw:w'.heap[b]?=some (.cells arr e fz')) (hk: ∀k,k≠b->w'.heap[k]?=w.heap[k]?) (hz:w'.heap.size=w.heap.size) (ho:w'.os=w.os) (hou:w'.output=w.output) (hta:w'.tape=w.tape) (ht:F b+AP b af a.tmps.toList+A7 Γ w b st.m=0):Sim E F Γ st w' af a.tmps.toList/\Ext F Γ w Γ w':=by
 have hbox: ∀p,p∈st.m->∀k,Γ.bx p.1=some k->k≠b:=by
  intro p hp k hk' e';rcases hs.box_ok p hp with⟨k',ar,e2,hb⟩|⟨v,hv⟩;rotate_left;·have:=hv.bx;grind
  have h1:=hb.bx;rw[hk']at h1;cases h1;have:=hb.com;grind
 have hcm: ∀n,A7 Γ w' n st.m=A7 Γ w n st.m:=λn=>Gu λp hp=>⟨rfl,λk hkk=>hk k (hbox p hp k hkk)⟩;refine⟨?_,⟨Γ.le_refl,λn hn=>⟨hk n (λe=>by grind),rfl⟩,fG,ho,hou,hta⟩⟩;refine {hs with com_ok:=?_,box_ok:=?_,bx_lt:=?_,F_lt:=?_,own:=?_,tok:=?_};·intro n cs h;obtain⟨ar,e',fz2,h2,h3⟩:=hs.com_ok n cs h;grind
 ·intro p hp;rcases hs.box_ok p hp with⟨k,ar,e',hb⟩|⟨v,hv⟩;rotate_left;·refine .inr ⟨v,hv.keep Γ.le_refl hv.bx λn hn=>⟨hk n λe=>?_,rfl⟩⟩;subst e;have:=hv.cnt n;have:=YH (Γ:=Γ) (w:=w) (b:=n) hp;omega
  obtain⟨l2,h2,h3,h4⟩:=hb.heap;have hkb:=hbox p hp k hb.bx;refine .inl ⟨k,ar,e',hb.bx,⟨l2,h2,by grind,h4⟩,hb.rep,CV Γ.le_refl _ _ hb.own λn hn=>⟨hk n λe=>?_,rfl⟩,hb.com,hb.one,hb.ty⟩;subst e;have hcb:EU Γ w n p=AP n p.2 ar.toList:=by simp only[EU,hb.bx,hcells,h3]
  have:=APs (Γ:=Γ) (w:=w) (b:=n) hp;omega
 ·intro i n h;rw[hz];exact hs.bx_lt i n h
 ·intro n hn;rw[hz]at hn;exact hs.F_lt n hn
 ·exact CV Γ.le_refl _ _ hs.own λn hn=>⟨hk n λe=>by grind,rfl⟩
 ·intro n;rw[hcm n];exact hs.tok n
theorem RepS.u8_get{Γ:Ghost}: ∀ {l:B8}{cells:List Value},RepS Γ 1 (u8s l) cells->l.length<=cells.length/\∀(j:Nat) (x:UInt8),l[j]?=some x->cells[j]?=some (Value.int .u8 x.toNat)
 |[],cells,_=>⟨bP _,λj x h=>by grind⟩
 | c::l,cells,h=>by
  have h':RepS Γ 1 (.int .u8 c.toNat::u8s l) cells:=h;generalize hq:AVal.int .u8 c.toNat::u8s l=q at h';cases h' with
  |nil=>grind
  | cons h hw t=>
   cases hq;cases h;obtain⟨h1,h2⟩:=RepS.u8_get (l:=l) t;refine⟨?_,λj x hj=>?_⟩;·rw[an,ag];have:(Value.int IntKind.u8 ↑c.toNat).cells.toList.length=1:=rfl;omega
   ·cases j with |zero=>simp at hj;subst hj;rfl|succ j=>grind
theorem AZK (hs:Sim E F Γ st w af a.tmps.toList){o:Oper}{x y:Operand}{t0 t1:TypeId}{r:AVal} (hop:o.op=.call {callee:=.builtin .unsafeString,args:=⟨[x,y]⟩,argTypes:=⟨[t0,t1]⟩}) (h:Yc E t0 (rd E af t0 x) (rd E af t1 y)=some r):∃nx w' a' Γ',Stepped E F Γ st w a o (BN (stripAt af x) o.dst r) st nx w' a' Γ':=by
 have hx:=hs.rd t0 x;have hy:=hs.rd t1 y;have hcx:=λb=>hs.rd_cnt t0 x b;have hs1:=hs.stripAt x;have htk:=hs.tok;generalize rd E af t0 x=ax at *;generalize rd E af t1 y=ay at *;generalize hvx:a.eval x=vx at *;generalize hvy:a.eval y=vy at *;unfold Yc at h;split at h
 ·rename_i e l n;split at h
  ·rename_i hc;obtain⟨hpt,rfl⟩:=hc;cases h;have hargs:Array.map a.eval ⟨[x,y]⟩= #[vx,vy]:=by grind
   cases hy;have hexec: ∀v w',(Builtin.unsafeString_ #[t0,t1] o.type #[vx,.int .i64 l.length]).run E.P w=.ok v w'->(execOp a.eval o).run E.P w=.ok (.value v) w':=by simp_all[execOp,resolve,invoke,builtin]
   obtain⟨hu,hc1⟩:E.P.underlying t0=some (.pointer e)/\E.P.cellsOf e=1:=by
    unfold ptrTo at hpt;split at hpt;·rename_i e' hu;simp only[az,bE]at hpt;obtain⟨rfl,h2⟩:=hpt;exact⟨hu,h2⟩
    ·cases hpt
   by_cases hl0:l=[]
   ·subst hl0;obtain⟨p,rfl⟩: ∃p,vx=.pointer p:=by cases hx<;>exact⟨_,rfl⟩
    refine⟨_,w,a.put o.dst _,Γ,hexec _ _ (Go.Lib.run_unsafeString_none w t0 t1 o.type p),λK Q hk=>hk,put_defers _ _ _,Ext.refl _ _ _,aw _,?_⟩;refine hs1.put o.dst (.str .empty fH) (by simp[VM.own]) λn=>?_;grind[cnt]
   ·cases hx with
    |bnil=>grind
    | bufp _ hb hct hS hlm=>
     rename_i b cells;obtain⟨arr,e',fz,hh,⟨ds,hds⟩,hce⟩:=hs.com_ok _ _ hb;have:=hce _ hct;subst this;obtain⟨hlc,hg⟩:=hS.u8_get;have hsize:cells.length+ds.length=arr.size:=by grind[List.length_append,Array.length_toList]
     have hlm':l.length<=4611686018427387904:=hlm;have hrun:=Go.Lib.run_unsafeString_row (P:=E.P) w t0 t1 o.type e' hu hc1 b arr.size (by grind[World.shape?]) l hl0 fG fG (λj x hj=>by
      have h1:=hg j x hj;have h2:arr.toList[j]?=some (.int .u8 x.toNat):=by grind
      grind[Addr.add,World.cell?]);have hcb:cnt b (.bufp e' l true) (.pointer (some ⟨b,0,none⟩))=1:=by simp[cnt,Rk]
     have hz:F b+AP b (stripAt af x) a.tmps.toList+A7 Γ w b st.m=0:=by grind
     have hll:l.length≠0:=λh=>hl0 (bG h);obtain⟨s2,x2⟩:=hs1.freeze (w':=w.freeze ⟨b,0,none⟩ l.length) (fz':=if fz.1==fz.2 then(0,0+l.length)else(min fz.1 0,max fz.2 (0+l.length))) hb hh (by grind[World.freeze]) (λk hk=>by simp only[World.freeze,ae hll,ft];rw[ae (λe=>hk e.symm)]) (by grind[World.freeze]) (by grind[World.freeze]) (by grind[World.freeze]) (by grind[World.freeze]) hz;refine⟨_,_,a.put o.dst _,Γ,hexec _ _ hrun,λK Q hk=>hk,put_defers _ _ _,x2,aw _,?_⟩;have hrs:Rep Γ (.str l) (.string ⟨l.toArray⟩):=Rep.str (Γ:=Γ) ⟨l.toArray⟩ fG;refine s2.put o.dst hrs (by simp[VM.own]) λn=>?_;have:=s2.tok n;grind[cnt]
  grind
 grind
end
end Go.VM
set_option linter.unusedVariables false
namespace Go.VM
def Lx:List B8->List AVal->B8->Option AVal |k::ks,v::vs,s=>if s=k then some v else Lx ks vs s|_,_,_=>none
def Kc:List B8->List AVal->B8->AVal->List AVal |k::ks,v::vs,s,x=>if s=k then x::vs else v::Kc ks vs s x|_,_,_,x=>[x]
def IW:List B8->B8->List B8 |k::ks,s=>if s=k then k::ks else k::IW ks s|[],s=>[s]
def Tg (P:Program) (t:TypeId):Option TypeId:=match P.underlying t with |some (.map k e)=>if EW P k=true then some e else none|_=>none
def WC (st:St) (x:AVal):Option (Nat×List B8×List AVal):=match x with
 |.sh i=>match A9 st.m i with|some [.map ks vs]=>some (i,ks,vs)|_=>none
 |_=>none
def Qw (E:Env) (t:TypeId) (m k:AVal) (ok:Bool) (st:St):Option AVal:=
  match Tg E.P t,WC st m,k with
  | some e,some (_,ks,vs),.str s=>
    match FQ E.P e with
    | some z=>
      let r:=match Lx ks vs s with|some x=>x.strip|none=>z.strip
      some (if ok then .tuple [r,.bool (Lx ks vs s).isSome]else r)
    |none=>none
  |_,_,_=>none
def Vp (E:Env) (t:TypeId) (m k x:AVal) (st:St):Option St:=match Tg E.P t,WC st m,k with |some _,some (i,ks,vs),.str s=>some {st with m:=CU st.m i [.map (IW ks s) (Kc ks vs s x)]}|_,_,_=>none
def Ghost.num (Γ:Ghost) (i:Nat) (v:Value):Ghost:= {Γ with sx:=λj=>if j=i then some v else Γ.sx j}
section
variable{E:Env}{F:Nat->Nat}{Γ:Ghost}{st:St}{w:World}{af:List AVal}{a:Act}
def ABP (hs:Sim E F Γ st w af a.tmps.toList){b:Nat} (h:0<A7 Γ w b st.m):b<w.heap.size:=by
 have: ∀m,(∀p,p∈m->p∈st.m)->0<A7 Γ w b m->b<w.heap.size:=by
  intro m;induction m with
  |nil=>grind[A7]
  | cons p m ih=>
   intro hm h;rw[A7]at h;rcases hs.box_ok p (hm p fH)with⟨k,arr,e',hb⟩|⟨v,hv⟩;rotate_left
   ·have hc':=hv.cnt b;rcases aV 0 (AP b p.2 [v])with h'|h';·exact(Ca _ _ hv.own h').1
    grind
   obtain⟨lo,hi,h3,h4⟩:=hb.heap;have hc':EU Γ w b p=AP b p.2 arr.toList:=by simp[EU,hb.bx,hcells,h3]
   rcases aV 0 (AP b p.2 arr.toList)with h'|h';·exact(Ca _ _ hb.own h').1
   grind
 grind
def Sim.elsewhere (hs:Sim E F Γ st w af a.tmps.toList){w':World}{b:Nat} (hk: ∀n,n<w.heap.size->n≠b->w'.heap[n]?=w.heap[n]?) (hz:w.heap.size<=w'.heap.size) (h1:Γ.com b=none) (h2: ∀i,i∈st.m.map (·.1)->Γ.bx i≠some b) (h3:AP b af a.tmps.toList=0) (h4:A7 Γ w b st.m=0):Sim E F Γ st w' af a.tmps.toList:=by
 have kb: ∀p,p∈st.m->∀k,Γ.bx p.1=some k->w'.heap[k]?=w.heap[k]?:=λp hp k hk'=>hk k (hs.bx_lt _ _ hk') (λe=>h2 p.1 (eG hp) (by grind));have oneb: ∀p,p∈st.m->EU Γ w b p=0:=by
  intro p hp;have: ∀m,p∈m->EU Γ w b p<=A7 Γ w b m:=by
   intro m;induction m with
   |nil=>simp
   | cons q m ih=>
    intro h;rw[A7];rcases aI.1 h with rfl|h;·omega
    grind
  grind
 refine {hs with com_ok:=?_,box_ok:=?_,bx_lt:=?_,F_lt:=?_,own:=?_,tok:=?_};·intro n cs h;obtain⟨ar,e',fz,q2,q3⟩:=hs.com_ok n cs h;grind
 ·intro p hp;rcases hs.box_ok p hp with⟨k,ar,e',hb⟩|⟨v,hv⟩;rotate_left;·have h0:=oneb p hp;have:=hv.cnt b;exact .inr ⟨v,hv.keep Γ.le_refl hv.bx λn hn=>⟨hk n (Ca _ _ hv.own hn).1 (λe=>by grind),rfl⟩⟩
  obtain⟨lo,hi,q3,q4⟩:=hb.heap;have hc':EU Γ w b p=AP b p.2 ar.toList:=by simp[EU,hb.bx,hcells,q3]
  have h0:=oneb p hp;refine .inl ⟨k,ar,e',hb.bx,⟨lo,hi,by rw[kb p hp k hb.bx];omega,q4⟩,hb.rep,CV Γ.le_refl _ _ hb.own λn hn=>?_,hb.com,hb.one,hb.ty⟩;exact⟨hk n (Ca _ _ hb.own hn).1 (λe=>by grind),rfl⟩
 ·intro i n h;have:=hs.bx_lt i n h;omega
 ·intro n hn;exact hs.F_lt n fG
 ·exact CV Γ.le_refl _ _ hs.own λn hn=>⟨hk n (Ca _ _ hs.own hn).1 (λe=>by grind),rfl⟩
 ·intro n;rw[Gu (w:=w) λp hp=>⟨rfl,kb p hp⟩];exact hs.tok n
def Sim.le_num{tm:List Value} (hs:Sim E F Γ st w af tm) (v:Value):Γ.le (Γ.num st.next v):=by refine⟨λb cs h=>⟨[],by grind[Ghost.num]⟩,λ_ _ h=>h,λ_ _ h=>h,λ_ _ h=>h,λi u h=>?_⟩;simp only[Ghost.num];have:=(hs.sx_next i u h).1;rw[ae fG];exact h
def Sim.newSh{tm:List Value} (hs:Sim E F Γ st w af tm){x:AVal}{v:Value} (hr:Rep Γ x v) (ho:VM.own Γ w x v) (ht: ∀b,F b+AP b af tm+cnt b x v+A7 Γ w b st.m<=1):Sim E F (Γ.num st.next v) {m:=(st.next,[x])::st.m,next:=st.next+1} w af tm/\Ext F Γ w (Γ.num st.next v) w:=by
 have hle:=hs.le_num v;have hbn:Γ.bx st.next=none:=by cases h:Γ.bx st.next with |none=>rfl|some b=>exact absurd (hs.bx_next _ _ h) fG
 refine⟨?_,⟨hle,λ_ _=>⟨rfl,rfl⟩,aw _,rfl,rfl,rfl⟩⟩;refine {com_ok:=hs.com_ok,box_ok:=?_,sx_next:=?_,keys:=?_,inj:=hs.inj,bx_lt:=hs.bx_lt,bx_next:=λi b h=>?_,tyd:=hs.tyd,bx_F:=?_,F_lt:=hs.F_lt,glob:=λg cs h=>(hs.glob g cs h).mono hle,rep:=hs.rep.mono hle,own:=CV hle _ _ hs.own λ_ _=>⟨rfl,rfl⟩,tok:=λb=>?_}
 ·intro p hp;rcases aI.1 hp with rfl|hp;·exact .inr ⟨v,by simp[Ghost.num],hbn,.cons (hr.mono hle) .nil,by rw[ownL];exact⟨APl hle _ _ ho λ_ _=>⟨rfl,rfl⟩,by simp[ownL]⟩⟩
  ·rcases hs.box_ok p hp with⟨k,ar,e',hb⟩|⟨u,hv⟩;·exact .inl ⟨k,ar,e',hb.bx,hb.heap,hb.rep.mono hle,CV hle _ _ hb.own λ_ _=>⟨rfl,rfl⟩,hb.com,hb.one,hb.ty⟩
   ·exact .inr ⟨u,hv.keep hle hv.bx λ_ _=>⟨rfl,rfl⟩⟩
 ·intro i u h;show i<st.next+1/\_;simp only[Ghost.num]at h;split at h;·rename_i e;subst e;exact⟨fG,hbn⟩
  ·obtain⟨h1,h2⟩:=hs.sx_next i u h;exact⟨fG,h2⟩
 ·simp only[aE,ch];refine⟨λhm=>?_,hs.keys⟩;obtain⟨p,hp,e⟩:=bz.1 hm;have:=hs.key_lt hp;omega
 ·have:=hs.bx_next i b h;grind
 ·intro p b hp hb;rcases aI.1 hp with rfl|hp;·have:Γ.bx st.next=some b:=hb;grind
  ·exact hs.bx_F p b hp hb
 ·have hck:A7 (Γ.num st.next v) w b st.m=A7 Γ w b st.m:=Gu (λp hp=>⟨rfl,λ_ _=>rfl⟩) (λp hp=>by have:=hs.key_lt hp;simp only[Ghost.num];grind);rw[A7,hck];have hc:EU (Γ.num st.next v) w b (st.next,[x])=cnt b x v:=by simp_all[Ghost.num,EU,AP]
  grind
def Sim.fresh (hs:Sim E F Γ st w af a.tmps.toList) (o:Obj):Sim E F Γ st (w.alloc o) af a.tmps.toList/\Ext F Γ w Γ (w.alloc o)/\F w.heap.size=0/\AP w.heap.size af a.tmps.toList=0/\A7 Γ (w.alloc o) w.heap.size st.m=0:=by
 have hold: ∀n,n<w.heap.size->(w.alloc o).heap[n]?=w.heap[n]?:=λn hn=>alloc_old o hn;have h1:AP w.heap.size af a.tmps.toList=0:=by
  rcases aV 0 (AP w.heap.size af a.tmps.toList)with h|h;·have:=(Ca _ _ hs.own h).1;omega
  omega
 have h2:A7 Γ w w.heap.size st.m=0:=by
  rcases aV 0 (A7 Γ w w.heap.size st.m)with h|h;·have:=ABP hs h;omega
  omega
 refine⟨hs.elsewhere (b:=w.heap.size) (λn hn _=>hold n hn) fH (hs.com_none (aw _)) (λi hi h=>?_) h1 h2,⟨Γ.le_refl,λn hn=>⟨hold n (hs.F_of hn),rfl⟩,fH,rfl,rfl,rfl⟩,hs.F_lt _ (aw _),h1,?_⟩;·have:=hs.bx_lt _ _ h;omega
 ·rw[Gu (Γ:=Γ) (w:=w) λp hp=>⟨rfl,λk hk=>hold k (hs.bx_lt _ _ hk)⟩];omega
theorem AHQ (hs:Sim E F Γ st w af a.tmps.toList){o:Oper}{t:TypeId} (hop:o.op=.makeMap t none):∃nx w' a' Γ',Stepped E F Γ st w a o (BN af o.dst (.sh st.next)) {m:=(st.next,[.map [] []])::st.m,next:=st.next+1} nx w' a' Γ':=by
 obtain⟨s1,x1,f1,f2,f3⟩:=hs.fresh (.map #[] 0);have hcnt: ∀b,cnt b (.map [] []) (.map (some w.heap.size))=if w.heap.size=b then 1 else 0:=λb=>by simp[cnt,Wz]
 obtain⟨s2,x2⟩:=s1.newSh (x:=.map [] []) (v:=.map (some w.heap.size)) (.map _ _ _) (by simp only[VM.own];exact⟨_,#[],0,rfl,QK _,.nil⟩) (λb=>by
  rw[hcnt];split;·grind
  ·have:=s1.tok b;omega);refine⟨.value (.map (some w.heap.size)),w.alloc (.map #[] 0),a.put o.dst (.map (some w.heap.size)),_,?_,λK Q hk=>hk,put_defers _ _ _,x1.trans x2,fH,?_⟩;·simp only[execOp,hop];rfl
 ·refine s2.put o.dst (.sh (by simp[Ghost.num]) ⟨rfl,rfl⟩) (by simp[VM.own]) λb=>?_;have:=s2.tok b;grind[cnt]
def AFW{P:Program}{t e:TypeId} (h:Tg P t=some e): ∃k,P.underlying t=some (.map k e)/\P.underlying k=some .string:=by grind[Tg,DU]
def AC2 (hs:Sim E F Γ st w af a.tmps.toList){x:AVal}{v:Value}{i:Nat}{ks:List B8}{vs:List AVal} (h:WC st x=some (i,ks,vs)) (hr:Rep Γ x v):A9 st.m i=some [.map ks vs]/\ShOK Γ w (i,[.map ks vs]) v/\AJr Γ w ks vs v:=by
 unfold WC at h;split at h
 ·rename_i j;split at h
  ·rename_i ks' vs' hg;cases h;cases hr with
   | sh hsx hk=>
    rcases hs.box_ok _ (M4 hg)with⟨b,arr,e,hb⟩|⟨u,hv⟩;·have:=(hs.sx_next _ _ hsx).2;have h2:=hb.bx;grind
    ·have:u=v:=by have:=hv.sx;grind
     subst this;have:=hv.own;grind[ownL,VM.own]
  grind
 grind
theorem AKX{a b:ByteArray}:Value.string a=Value.string b<->a.data.toList=b.data.toList:=by
 constructor;·grind
 ·intro h;obtain⟨a⟩:=a;simp_all
def RepK.find{ks:List B8}{vs:List AVal}{es:List MapEntry} (h:RepK Γ ks vs es) (s:ByteArray): ∀i,(Instr.findNow .string (.string s) es i=some none/\Lx ks vs s.data.toList=none/\∀x val born,Rep Γ x val->RepK Γ (IW ks s.data.toList) (Kc ks vs s.data.toList x) (es++[⟨.string s,val,born⟩]))\/∃j e0 x0,Instr.findNow .string (.string s) es i=some (some (i+j,e0.val))/\es[j]?=some e0/\e0.key=.string s/\Lx ks vs s.data.toList=some x0/\Rep Γ x0 e0.val/\∀x val,Rep Γ x val->RepK Γ (IW ks s.data.toList) (Kc ks vs s.data.toList x) (es.modify j λe=>{e with key:=.string s,val:=val}):=by
 induction h with
 |nil=>exact λi=>.inl ⟨rfl,rfl,λx val born hx=>.cons rfl hx .nil⟩
 | @cons b x e ks vs es hk hv t ih=>
  intro i;by_cases he:s=b
  ·subst he;have hb:(s==s)=true:=(Go.MapKept.bytes_beq s s).2 rfl;refine .inr ⟨0,e,x,?_,rfl,hk,by simp[Lx],hv,λy val hy=>?_⟩;·grind[Instr.findNow,Instr.sameNow]
   ·simp only[IW,Kc,av,List.modify_zero_cons];exact .cons rfl hy t
  ·have hb:(s==b)=false:=by grind[absurd,Go.MapKept.bytes_beq]
   have hne: ¬s.data.toList=b.data.toList:=λh=>he (by grind[AKX]);have hf:Instr.findNow .string (.string s) (e::es) i=Instr.findNow .string (.string s) es (i+1):=by grind[Instr.findNow,Instr.sameNow]
   rw[hf];rcases ih (i+1)with⟨h1,h2,h3⟩|⟨j,e0,x0,h1,h2,h3,h4,h5,h6⟩;·exact .inl ⟨h1,by simp_all[Lx],λy val born hy=>by rw[IW,Kc,ae hne,ae hne];exact .cons hk hv (h3 y val born hy)⟩
   ·refine .inr ⟨j+1,e0,x0,by grind,by grind,h3,by simp_all[Lx],h5,λy val hy=>?_⟩;rw[IW,Kc,ae hne,ae hne,List.modify_succ_cons];exact .cons hk hv (h6 y val hy)
theorem APy (hs:Sim E F Γ st w af a.tmps.toList){o:Oper}{t:TypeId}{m k:Operand}{ok:Bool}{r:AVal} (hop:o.op=.lookup t m k ok) (h:Qw E t (rd E af t m) (rd E af 0 k) ok st=some r):∃nx w' a' Γ',Stepped E F Γ st w a o (BN af o.dst r) st nx w' a' Γ':=by
 have hm:=hs.rd t m;have hk:=hs.rd 0 k;generalize rd E af t m=am at *;generalize rd E af 0 k=ak at *;generalize hvm:a.eval m=vm at *;generalize hvk:a.eval k=vk at *;unfold Qw at h;split at h
 ·rename_i e i ks vs s ht hma;split at h
  ·rename_i z hz;simp only[al]at h;subst h;obtain⟨kt,hu,huk⟩:=AFW ht;obtain⟨_,_,b,es,clock,rfl,hb,hK⟩:=AC2 hs hma hm;obtain⟨zv,hzv,hc⟩:=Tu (Γ:=Γ) (w:=w) hz;cases hk with
   | str sb hn=>
    have key: ∃u r',(Instr.lookup t (.map (some b)) (.string sb) ok).run E.P w=.ok u w/\Rep Γ (if ok then .tuple [(match Lx ks vs sb.data.toList with|some x=>x.strip|none=>z.strip),.bool (Lx ks vs sb.data.toList).isSome]else(match Lx ks vs sb.data.toList with|some x=>x.strip|none=>z.strip)) u/\(if ok then .tuple [(match Lx ks vs sb.data.toList with|some x=>x.strip|none=>z.strip),.bool (Lx ks vs sb.data.toList).isSome]else(match Lx ks vs sb.data.toList with|some x=>x.strip|none=>z.strip))=AVal.strip r':=by
     rcases hK.find sb 0 with⟨h1,h2,_⟩|⟨j,e0,x0,h1,_,_,h4,h5,_⟩
     ·rw[h2];refine⟨if ok then .tuple #[zv,.bool false]else zv,if ok then .tuple [z,.bool false]else z,?_,?_,?_⟩;·cases ok<;>simp[Instr.lookup,aH hu,cO hb,dh huk (d:=.string) (k:=.string sb) trivial,dt huk h1,hzv,Result.andThen]
      ·cases ok;·exact hc.rep.strip
       ·exact .tuple (.cons hc.rep.strip (.cons (.bool _) .nil))
      grind[AVal.strip,stripL]
     ·rw[h4];refine⟨if ok then .tuple #[e0.val,.bool true]else e0.val,if ok then .tuple [x0,.bool true]else x0,?_,?_,?_⟩;·cases ok<;>simp[Instr.lookup,aH hu,cO hb,dh huk (d:=.string) (k:=.string sb) trivial,dt huk h1,Result.andThen]
      ·cases ok;·exact h5.strip
       ·exact .tuple (.cons h5.strip (.cons (.bool _) .nil))
      grind[AVal.strip,stripL]
    obtain⟨u,r',hrun,hrep,hst⟩:=key;refine⟨.value u,w,a.put o.dst u,Γ,?_,λK Q hk=>hk,put_defers _ _ _,Ext.refl _ _ _,aw _,?_⟩;·simp_all[execOp]
    ·refine hs.put o.dst hrep (by grind[Nk]) λb=>?_;rw[hst,KH];exact hs.tok b
  grind
 grind
def AAm (hs:Sim E F Γ st w af a.tmps.toList){o:Oper}{t:TypeId}{m k x:Operand}{st':St} (hop:o.op=.mapUpdate t m k x\/o.op=.insert t m k x) (hd:o.dst=none) (h:Vp E t (rd E af t m) (rd E af 0 k) (rd E af 0 x) st=some st'):∃nx w' a' Γ',Stepped E F Γ st w a o af st' nx w' a' Γ':=by
 have hm:=hs.rd t m;have hk:=hs.rd 0 k;have hx:=hs.rd 0 x;generalize rd E af t m=am at *;generalize rd E af 0 k=ak at *;generalize rd E af 0 x=ax at *;generalize hvm:a.eval m=vm at *;generalize hvk:a.eval k=vk at *;generalize hvx:a.eval x=vx at *;unfold Vp at h;split at h
 ·rename_i e i ks vs s ht hma;simp only[al]at h;subst h;obtain⟨kt,hu,huk⟩:=AFW ht;obtain⟨hg,hv,b,es,clock,rfl,hb,hK⟩:=AC2 hs hma hm;cases hk with
  | str sb hn=>
   obtain⟨es',clock',hrun,hK'⟩: ∃es' clock',(Instr.mapUpdate t (.map (some b)) (.string sb) vx).run E.P w=.ok () {w with heap:=w.heap.setIfInBounds b (.map es' clock')}/\RepK Γ (IW ks sb.data.toList) (Kc ks vs sb.data.toList ax) es'.toList:=by
    rcases hK.find sb 0 with⟨h1,h2,h3⟩|⟨j,e0,x0,h1,h2,h3,h4,h5,h6⟩;·refine⟨es.push ⟨.string sb,vx,clock⟩,clock+1,?_,by grind⟩;simp[Instr.mapUpdate,aH hu,cO hb,dh huk (d:=.string) (k:=.string sb) trivial,dt huk h1,eR _ hb,Result.andThen]
    ·refine⟨es.modify j λe=>{e with key:=.string sb,val:=vx},clock,?_,by grind⟩;have hj:es[j]?=some e0:=by grind
     simp[Instr.mapUpdate,aH hu,cO hb,dh huk (d:=.string) (k:=.string sb) trivial,dt huk h1,hj,h3,Go.MapKept.run_keyThatStays (d:=.string) (k:=.string sb) trivial,eR _ hb,Result.andThen]
   have hlt:b<w.heap.size:=Alf hb;have hc1: ∀n,AP n [.map ks vs] [.map (some b)]=if b=n then 1 else 0:=λn=>by simp[AP,cnt,Wz]
   have hcm: ∀n,A7 Γ w n (CU st.m i [.any])+(if b=n then 1 else 0)=A7 Γ w n st.m:=λn=>by
    have e1:=LY (Γ:=Γ) (Γ':=Γ) (w:=w) (w':=w) (b:=n) (x:=[.any]) hs.keys hg (λp hp hne=>rfl);have e2:=hv.cnt n;rw[hc1]at e2;have e3:EU Γ w n (i,[.any])=0:=by simp only[EU,hv.bx,hv.sx];simp[AP,cnt]
    omega
   have s1:Sim E F Γ {st with m:=CU st.m i [.any]} w af a.tmps.toList:=hs.setSh hg hv (.cons (.any _) .nil) (by simp[ownL,VM.own]) (λn=>by rw[hc1];have:=hs.tok n;grind[AP,cnt]);have htb:=hs.tok b;have hcb:=hcm b;rw[ah rfl]at hcb;have hold: ∀n,n≠b->({w with heap:=w.heap.setIfInBounds b (.map es' clock')}:World).heap[n]?=w.heap[n]?:=λn hn=>by grind
   have hnew:({w with heap:=w.heap.setIfInBounds b (.map es' clock')}:World).heap[b]?=some (.map es' clock'):=by grind
   have s2:Sim E F Γ {st with m:=CU st.m i [.any]} {w with heap:=w.heap.setIfInBounds b (.map es' clock')} af a.tmps.toList:=s1.elsewhere (b:=b) (λn _ hn=>hold n hn) fH (by cases hc:Γ.com b with |none=>rfl|some cs=>obtain⟨ar,e',fz,q2,_⟩:=hs.com_ok b cs hc;grind) (λj hj hbx=>by
    obtain⟨p,hp,rfl⟩:=bz.1 hj;rcases s1.box_ok p hp with⟨k,ar,e',hbk⟩|⟨u,hu'⟩;·obtain⟨lo,hi,q3,_⟩:=hbk.heap;have:=hbk.bx;grind
    ·have:=hu'.bx;grind) fG (by grind);have hg2:A9 (CU st.m i [.any]) i=some [.any]:=KO hg;have hv2:ShOK Γ {w with heap:=w.heap.setIfInBounds b (.map es' clock')} (i,[.any]) (.map (some b)):=⟨hv.sx,hv.bx,.cons (.any _) .nil,by simp[ownL,VM.own]⟩;have s3:=s2.setSh (cs':=[.map (IW ks sb.data.toList) (Kc ks vs sb.data.toList ax)]) hg2 hv2 (.cons (.map _ _ _) .nil) (by simp only[ownL,VM.own,da];exact⟨b,es',clock',rfl,hnew,hK'⟩) (λn=>by
    have h1:AP n [.map (IW ks sb.data.toList) (Kc ks vs sb.data.toList ax)] [.map (some b)]=if b=n then 1 else 0:=by simp[AP,cnt,Wz]
    have h2:A7 Γ {w with heap:=w.heap.setIfInBounds b (.map es' clock')} n (CU st.m i [.any])=A7 Γ w n (CU st.m i [.any]):=Gu λp hp=>⟨rfl,λk hk=>hold k (λe=>by
     subst e;rcases s1.box_ok p hp with⟨k',ar,e',hbk⟩|⟨u,hu'⟩;·obtain⟨lo,hi,q3,_⟩:=hbk.heap;have:=hbk.bx;grind
     ·have:=hu'.bx;grind)⟩;rw[h1];show _+A7 Γ {w with heap:=w.heap.setIfInBounds b (.map es' clock')} n (CU st.m i [.any])<=_;rw[h2];have:=hs.tok n;grind);simp only[Vf]at s3;refine⟨.skip,_,a.put o.dst undef,Γ,?_,λK Q hk=>hk,put_defers _ _ _,⟨Γ.le_refl,λn hn=>⟨hold n (λe=>by grind),rfl⟩,fH,rfl,rfl,rfl⟩,aw _,by rw[hd];exact s3⟩;rcases hop with hop|hop<;>(simp_all[execOp])
 grind
def QH (E:Env) (t0 t1:TypeId) (s y:AVal):Option AVal:=match s with
 | .slice wd xs true=>match QC E.P t0,Uf wd y with |some (z,by_),some [y1]=>if z=wd/\Mt E.P t1=none/\BI E.P t1=true/\(xs.length+1) * by_<=140737488355328/\xs.length+1<=Dp then some (.slop wd xs)else none|_,_=>none
 |_=>none
set_option maxHeartbeats 1000000 in theorem ALY (hs:Sim E F Γ st w af a.tmps.toList){o:Oper}{x y:Operand}{t0 t1:TypeId}{ts:List TypeId}{r:AVal} (hop:o.op=.call {callee:=.builtin .append,args:=#[x,y],argTypes:=⟨t0::t1::ts⟩}) (h:QH E t0 t1 (rd E af t0 x) (rd E af t1 y)=some r):∃v w' Γ',(execOp a.eval o).run E.P w=.ok (.value v) w'/\Ext F Γ w Γ' w'/\Sim E F Γ' st w' (stripAt af x) a.tmps.toList/\Rep Γ' r v/\VM.own Γ' w' r v/\(v.cells= #[v]/\v.oneCell'=true)/\(∀n,F n+AP n (stripAt af x) a.tmps.toList+cnt n r v+A7 Γ' w' n st.m<=1):=by
 have hx:=hs.rd t0 x;have hox:=hs.rd_own t0 x;have hcx:=λb=>hs.rd_cnt t0 x b;have hy:=hs.rd t1 y;have hs1:=hs.stripAt x;have htk:=hs.tok;generalize rd E af t1 y=ay at *;generalize rd E af t0 x=ax at *;generalize hvx:a.eval x=vx at *;generalize hvy:a.eval y=vy at *;unfold QH at h;split at h
 ·rename_i wd xs;split at h
  ·rename_i z byt y1 hap hsrc;split at h
   ·rename_i hc;obtain⟨rfl,hint,hkn,hroom,h62'⟩:=hc;have h62:xs.length+1<=4611686018427387904:=h62';simp only[al]at h;subst h;obtain⟨e,i,zv,hu,hi,hz,hzs,his,hib⟩:=QM hap;obtain⟨news,src⟩:=ADP hs hy hsrc;obtain⟨d1,hd1⟩:=FH hkn;have hargs:Array.map a.eval #[x,y]= #[vx,vy]:=by grind
    have hexec: ∀r,(Builtin.append_ ⟨t0::t1::ts⟩ o.type #[vx,vy]).run E.P w=r->(execOp a.eval o).run E.P w=r.andThen λv w'=>.ok (.value v) w':=by simp_all[execOp,resolve,invoke,builtin]
    by_cases hfit: ∃b off len cap,vx=.slice (some ⟨b,off,none⟩) len cap/\len+[y1].length<=cap
    ·obtain⟨b,off,len,cap,rfl,hfits⟩:=hfit;have hfits1:len+1<=cap:=hfits;simp only[VM.own]at hox;obtain⟨arr,e',lo,hi',cells,hh,hf,hcom,hcl,hsz⟩:=AAQ hox fG;obtain⟨arr0,e0,fz0,hh0,⟨ds,hds⟩,hct0⟩:=hs.com_ok b cells hcom;rw[hh]at hh0;cases hh0;obtain⟨hl,hS⟩:xs.length=len/\RepS Γ z xs (cells.drop off):=by cases hx with |snil=>omega|slice _ hb hl hcap hS hnn=>grind
     have hlenarr:cells.length+ds.length=arr.size:=by grind[List.length_append,Array.length_toList]
     have hnl:news.length<=ds.length:=by rw[src.size];have:(len+[y1].length) * z<=cap * z:=b9 _ hfits;grind
     obtain⟨w',arr',r1,q1,q2,q3,q4,q5,q6,q7,q8⟩:=JM (P:=E.P) (b:=b) (base:=off+len * z) news 0 arr w hh hf fG src.one;rw[bB,<-hcl,hds,MC _ _ _ hnl]at q2;have hbt:1<=cnt b (.slice z xs true) (.slice (some ⟨b,off,none⟩) len cap):=by simp only[cnt,Lg];rw[ah ⟨fG,trivial⟩];omega
     have hzero:F b+AP b (stripAt af x) a.tmps.toList+A7 Γ w b st.m=0:=by grind
     obtain⟨s2,x2,hcm⟩:=hs1.grow (news:=[]) (rest:=news++ds.drop news.length) hcom q1 (by grind) q4 q5 q6 q7 q8 fH hzero hct0;have hlen:=src.len w;have hfirst:=src.first w (λ_ _=>rfl);rw[<-his]at hfirst r1;have hrun:(Builtin.append_ ⟨t0::t1::ts⟩ o.type #[.slice (some ⟨b,off,none⟩) len cap,vy]).run E.P w=.ok (.slice (some ⟨b,off,none⟩) (len+[y1].length) cap) w':=by rw[QS hu hi hd1 hint hlen hfits hfirst];simp only[addr_add];simp_all
     refine⟨_,w',_,hexec _ hrun,x2,s2,.slop (cells:=cells++[]) (by simp[Ghost.ext]) (by grind) ⟨hfits,by grind⟩ ?_,?_,⟨rfl,rfl⟩,?_⟩
     ·have hS2:RepS Γ z xs ((cells++[]).drop off):=by grind
      exact hS2.mono x2.le
     ·simp only[VM.own,Rl];exact⟨arr',e',lo,hi',cells++[],q1,by grind,trivial,by simp[Ghost.ext],by grind,fG,by grind⟩
     ·intro n;rw[hcm n];have h1:cnt n (.slop z xs) (.slice (some ⟨b,off,none⟩) (len+[y1].length) cap)<=cnt n (.slice z xs true) (.slice (some ⟨b,off,none⟩) len cap):=by
       simp only[cnt,Lg,Ic];split;·rename_i hh';rw[ah ⟨fG,hh'⟩];omega
       omega
      grind
    ·obtain⟨base,len,cap,rfl,hlen,hcap⟩: ∃base len cap,vx=.slice base len cap/\xs.length=len/\len<=cap:=by cases hx with |snil=>exact⟨_,0,0,rfl,rfl,aw _⟩|slice _ hb hl hc hS hnn=>exact⟨_,_,_,rfl,hl,hc.1⟩
     obtain⟨olds,so⟩:=Vg hs hx;subst hlen;have hneed: ¬(xs.length+[y1].length<=cap):=by intro hle;apply hfit;cases hx with |snil=>grind|slice _ hb hl hc hS hnn=>exact⟨_,_,_,_,rfl,hle⟩
     have hy1:[y1].length=1:=rfl;have h63: ¬(9223372036854775807<((xs.length:Int)+([y1].length:Int))):=fG;have h48: ¬(281474976710656<Builtin.nextslicecap (xs.length+[y1].length) cap * i.bytes):=by have:=fx (need:=xs.length+[y1].length) (old:=cap) (bytes:=i.bytes) fG (by grind);omega
     have hl1:=src.len w;have hf1:=src.first w.drew (λ_ _=>rfl);have hf0:=so.first w.drew (λ_ _=>rfl);rw[<-his]at hf1 hf0;generalize hnc:grownCap w (xs.length+[y1].length) cap e=nc;have hge:xs.length+[y1].length<=nc:=by grind[grownCap_ge]
     have hrun:(Builtin.append_ ⟨t0::t1::ts⟩ o.type #[.slice base xs.length cap,vy]).run E.P w=.ok (.slice (some ⟨w.heap.size,0,none⟩) (xs.length+[y1].length) nc) (w.drew.alloc (.cells (olds.toArray++news.toArray++Builtin.zeroCells zv.cells (nc-(xs.length+[y1].length))) e)):=by subst hnc;have e3:IntKind.i64.max=9223372036854775807:=fI;grind[Pq]
     have hsd:Sim E F Γ st w.drew (stripAt af x) a.tmps.toList:=hs1.drew;obtain⟨s2,x2,hcm⟩:=hsd.newArr (cells:=olds.toArray++news.toArray++Builtin.zeroCells zv.cells (nc-(xs.length+[y1].length))) (e:=e) (pre:=olds) (spare:=news++(Builtin.zeroCells zv.cells (nc-(xs.length+[y1].length))).toList) (fz:=(0,0)) fH so.one;have x0:Ext F Γ w Γ w.drew:=⟨Γ.le_refl,λ_ _=>⟨rfl,rfl⟩,aw _,rfl,rfl,rfl⟩;refine⟨_,_,_,hexec _ hrun,x0.trans x2,s2,.slop (cells:=olds) (by simp[Ghost.arr]) fH ⟨hge,h62'⟩ ?_,?_,⟨rfl,rfl⟩,?_⟩;·rw[ba];exact so.rep.mono x2.le
     ·simp only[VM.own,Rl];refine⟨_,e,0,0,olds,QK _,fG,trivial,by simp[Ghost.arr],?_,?_,rfl⟩;·rw[so.size,ci]
      ·simp only[Array.size_append,d5,so.size,src.size,Builtin.zeroCells,fy,fb,hzs,<-dk];simp_all
     ·intro n;have hcn:AP n (stripAt af x) a.tmps.toList+A7 (Γ.arr w.drew.heap.size olds e) (w.drew.alloc (.cells (olds.toArray++news.toArray++Builtin.zeroCells zv.cells (nc-(xs.length+[y1].length))) e)) n st.m+F n+(if n=w.heap.size then 1 else 0)<=1:=hcm n;have h1:cnt n (.slop z xs) (.slice (some ⟨w.heap.size,0,none⟩) (xs.length+[y1].length) nc)<=if n=w.heap.size then 1 else 0:=by
       simp only[cnt,Ic];split;·simp_all
       omega
      omega
   grind
  grind
 grind
theorem AIX (hs:Sim E F Γ st w af a.tmps.toList){o:Oper}{x y:Operand}{t0 t1:TypeId}{ts:List TypeId}{r:AVal} (hop:o.op=.call {callee:=.builtin .append,args:=#[x,y],argTypes:=⟨t0::t1::ts⟩}) (h:QH E t0 t1 (rd E af t0 x) (rd E af t1 y)=some r):∃nx w' a' Γ',Stepped E F Γ st w a o (BN (stripAt af x) o.dst (.sh st.next)) {m:=(st.next,[r])::st.m,next:=st.next+1} nx w' a' Γ':=by obtain⟨v,w',Γ',hrun,x1,s1,hr,ho,hv,ht⟩:=ALY hs hop h;obtain⟨s2,x2⟩:=s1.newSh hr ho ht;refine⟨.value v,w',a.put o.dst v,_,hrun,λK Q hk=>hk,put_defers _ _ _,x1.trans x2,fH,?_⟩;refine s2.put o.dst (.sh (by simp[Ghost.num]) hv) (by simp[VM.own]) λb=>?_;have:=s2.tok b;grind[cnt]
def Kl (E:Env) (t:TypeId) (x i:AVal) (st:St):Option AVal:=match Zo st x,x,i with |some (j,w,xs),.sh _,.int _ n=>if EB E.P t=some w/\n=xs.length then some (.sptr j w xs.length)else none|_,_,_=>none
theorem ADV (vs:List Value) (t:Nat) (d:Value):vs.set t (vs.getD t d)=vs:=by apply cE;grind
def Aq1 (hs:Sim E F Γ st w af a.tmps.toList){i:Nat}{cs:List AVal}{v:Value} (hsx:Γ.sx i=some v) (hg:A9 st.m i=some cs):ShOK Γ w (i,cs) v:=by
 rcases hs.box_ok _ (M4 hg)with⟨b,arr,e,hb⟩|⟨u,hv⟩;·have:=(hs.sx_next _ _ hsx).2;have h2:=hb.bx;grind
 ·have:u=v:=by have:=hv.sx;grind
  grind
theorem AA1 (hs:Sim E F Γ st w af a.tmps.toList){o:Oper}{t:TypeId}{x i:Operand}{r:AVal} (hop:o.op=.indexAddr t x i) (h:Kl E t (rd E af t x) (rd E af 0 i) st=some r):∃nx w' a' Γ',Stepped E F Γ st w a o (BN af o.dst r) st nx w' a' Γ':=by
 have hx:=hs.rd t x;have hi:=hs.rd 0 i;generalize rd E af t x=ax at *;generalize rd E af 0 i=ai at *;generalize hvx:a.eval x=vx at *;generalize hvi:a.eval i=vi at *;unfold Kl at h;split at h
 ·rename_i j w' xs k kd n ho;split at h
  ·rename_i hc;obtain⟨hsl,rfl⟩:=hc;simp only[al]at h;subst h;unfold Zo at ho;simp only at ho;split at ho
   ·rename_i w2 xs2 hg;cases ho;cases hi;cases hx with
    | sh hsx hk=>
     have hv:=Aq1 hs hsx hg;have hown:=hv.own;simp only[ownL,VM.own,da]at hown;unfold Rl at hown;split at hown
     ·rename_i ad len cap;obtain⟨arr,e,lo,hi,cells,h1,h2,h3,h4,h5,h6,h7⟩:=hown;obtain⟨b,off,spot⟩:=ad;simp only at h3;subst h3;obtain⟨el,hu,hz⟩:=DR hsl;have hrun:(Instr.indexAt t (.slice (some ⟨b,off,none⟩) len cap) (.int kd xs.length)).run E.P w=.ok (.pointer (some ⟨b,off+xs.length * w',none⟩)) w:=by have h2:((xs.length:Nat):Int)<(len:Int):=fG;have h3:(0:Int)<=((xs.length:Nat):Int):=fG;have h8:xs.length<len:=fG;simp[Instr.indexAt,asIntOf,aH hu,h3,h8,FJ hz,addr_add]
      refine⟨.value (.pointer (some ⟨b,off+xs.length * w',none⟩)),w,a.put o.dst (.pointer (some ⟨b,off+xs.length * w',none⟩)),Γ,?_,λK Q hk=>hk,put_defers _ _ _,Ext.refl _ _ _,aw _,?_⟩;·simp_all[execOp]
      ·refine hs.put o.dst (.sptr hsx) (by simp[VM.own]) λn=>?_;have:=hs.tok n;grind[cnt]
     grind
   grind
  grind
 grind
def AOA (hs:Sim E F Γ st w af a.tmps.toList){o:Oper}{t:TypeId}{x y:Operand}{st':St} (hop:o.op=.store t x y) (hd:o.dst=none) (h:ACq E t (rd E af 0 x) (rd E af t y) st=some st'):∃nx w' a' Γ',Stepped E F Γ st w a o af st' nx w' a' Γ'/\a'.tmps=a.tmps:=by
 have hx:=hs.rd 0 x;have hr:=hs.rd t y;generalize rd E af 0 x=ax at *;generalize rd E af t y=ay at *;generalize hvx:a.eval x=vx at *;generalize hvy:a.eval y=vy at *;unfold ACq at h;split at h
 ·rename_i j w1 n1 i w2 xs ho;split at h
  ·rename_i hc;obtain⟨hok,hz,hcl⟩:=hc;simp only[al]at h;subst h;unfold Zo at ho;simp only at ho;split at ho
   ·rename_i w3 xs3 hg;split at ho
    ·rename_i hc2;obtain⟨rfl,rfl⟩:=hc2;cases ho;cases hx with
     | sptr hsx=>
      rename_i b off len cap;have hv:=Aq1 hs hsx hg;have hown:=hv.own;simp only[ownL,VM.own,da,Rl]at hown;obtain⟨arr,e,lo,hi,cells,hh,hf,_,hcom,hcl2,hsz,hlen⟩:=hown;have hrep:=hv.rep;obtain⟨hS,hcap⟩:RepS Γ w2 xs (cells.drop off)/\(len<=cap/\len<=Dp):=by cases hrep with | cons h _=>cases h with |slop hb hl hc hS=>grind
      obtain⟨arr0,e0,fz0,hh0,⟨ds,hds⟩,hct0⟩:=hs.com_ok b cells hcom;rw[hh]at hh0;cases hh0;have hvc:vy.cells.toList.length=w2:=by rw[<-(hr.cellsOK hok).length,hcl]
      have hlenarr:cells.length+ds.length=arr.size:=by grind[List.length_append,Array.length_toList]
      have hcapz:off+xs.length * w2+w2<=arr.size:=by have:(xs.length+1) * w2<=cap * w2:=b9 _ fG;grind
      have hnl:vy.cells.toList.length<=ds.length:=fG;obtain⟨w',arr',r1,q1,q2,q3,q4,q5,q6,q7,q8⟩:=JM (P:=E.P) (b:=b) (base:=off+xs.length * w2) vy.cells.toList 0 arr w hh hf fG (hr.one hok);rw[bB,<-hcl2,hds,MC _ _ _ hnl]at q2;have hc1: ∀n,AP n [.slop w2 xs] [.slice (some ⟨b,off,none⟩) len cap]=if b=n then 1 else 0:=λn=>by simp[AP,cnt,Ic]
      have hcm: ∀n,A7 Γ w n (CU st.m j [.any])+(if b=n then 1 else 0)=A7 Γ w n st.m:=λn=>by
       have e1:=LY (Γ:=Γ) (Γ':=Γ) (w:=w) (w':=w) (b:=n) (x:=[.any]) hs.keys hg (λp hp hne=>rfl);have e2:=hv.cnt n;rw[hc1]at e2;have e3:EU Γ w n (j,[.any])=0:=by simp only[EU,hv.bx,hv.sx];simp[AP,cnt]
       omega
      have s1:Sim E F Γ {st with m:=CU st.m j [.any]} w af a.tmps.toList:=hs.setSh hg hv (.cons (.any _) .nil) (by simp[ownL,VM.own]) (λn=>by rw[hc1];have:=hs.tok n;grind[AP,cnt]);have htb:=hs.tok b;have hcb:=hcm b;rw[ah rfl]at hcb;obtain⟨s2,x2,hcm2⟩:=s1.grow (rest:=ds.drop vy.cells.toList.length) hcom q1 (by rw[q2]) q4 q5 q6 q7 q8 (hr.one hok) (by grind) hct0;have hg2:A9 (CU st.m j [.any]) j=some [.any]:=KO hg;have hv2:ShOK (Γ.ext b (cells++vy.cells.toList)) w' (j,[.any]) (.slice (some ⟨b,off,none⟩) len cap):=⟨hv.sx,hv.bx,.cons (.any _) .nil,by simp[ownL,VM.own]⟩;have hxs:(xs++[ay.strip]).length=len:=by grind
      have s3:=s2.setSh (cs':=[.slice w2 (xs++[ay.strip]) true]) hg2 hv2 (.cons (.slice _ (cells:=cells++vy.cells.toList) (by simp[Ghost.ext]) hxs hcap (by rw[dj fG];refine RepS.append (hS.mono x2.le) (by grind) ?_;have:=RepS.cons (w:=w2) (cs:=[]) (hr.strip.mono x2.le) ⟨fG,hr.one hok⟩ (.nil _ _);grind) (λ_ h=>absurd h fH)) .nil) (by simp only[ownL,VM.own,da,Mj];intro hlt;exact⟨arr',e,lo,hi,cells++vy.cells.toList,q1,by grind,trivial,by simp[Ghost.ext],by grind,fG⟩) (λn=>by
       have h1:AP n [.slice w2 (xs++[ay.strip]) true] [.slice (some ⟨b,off,none⟩) len cap]<=if b=n then 1 else 0:=by simp only[AP,cnt,Lg];split<;>simp_all
       show F n+AP n af a.tmps.toList+_+A7 (Γ.ext b (cells++vy.cells.toList)) w' n (CU st.m j [.any])<=_;rw[show A7 (Γ.ext b (cells++vy.cells.toList)) w' n (CU st.m j [.any])=A7 Γ w n (CU st.m j [.any])from hcm2 n];have:=hs.tok n;grind);simp only[Vf]at s3;refine⟨.skip,_,a.put o.dst undef,_,⟨?_,λK Q hk=>hk,put_defers _ _ _,x2,aw _,by rw[hd];exact s3⟩,by rw[hd];rfl⟩;simp only[execOp,hop,hvx,hvy,Instr.storeAt,Instr.sureAddr];have hsz2:vy.cells.size=w2:=fG;simp[storeVar,FJ hz,hsz2,r1]
    grind
   grind
  grind
 grind
def Sim.unsh{tm:List Value} (hs:Sim E F Γ st w af tm){d i:Nat}{x:AVal} (hd:af.getD d .any=.sh i) (hg:A9 st.m i=some [x]):Sim E F Γ {st with m:=CU st.m i [x.strip]} w (af.set d x) tm/\Rep Γ (.sh i) (tm.getD d undef):=by
 have hr:=hs.rep.get d undef;rw[hd]at hr;generalize hv:tm.getD d undef=v at hr;cases hr with
 | sh hsx hk=>
  have hsh:ShOK Γ w (i,[x]) v:=by
   rcases hs.box_ok _ (M4 hg)with⟨b,arr,e,hb⟩|⟨u,hu⟩;·have:=(hs.sx_next _ _ hsx).2;have h2:=hb.bx;grind
   ·have:u=v:=by have:=hu.sx;grind
    grind
  have hrx:Rep Γ x v:=by have:=hsh.rep;cases this;omega
  have hox:VM.own Γ w x v:=by have:=hsh.own;grind[ownL]
  have hset:tm=tm.set d v:=by grind[ADV]
  have hcm: ∀n,A7 Γ w n (CU st.m i [x.strip])+cnt n x v=A7 Γ w n st.m:=λn=>by
   have e1:=LY (Γ:=Γ) (Γ':=Γ) (w:=w) (w':=w) (b:=n) (x:=[x.strip]) hs.keys hg (λp hp hne=>rfl);have e2:=hsh.cnt n;have e3:EU Γ w n (i,[x.strip])=0:=by simp only[EU,hsh.bx,hsh.sx];simp[AP,KH]
   grind[AP]
  have s1:=hs.setSh hg hsh (cs':=[x.strip]) (.cons hrx.strip .nil) (by grind[ownL,Nk]) (λn=>by have:=hs.tok n;grind[AP,KH]);refine⟨{s1 with rep:=?_,own:=?_,tok:=?_},.sh hsx hk⟩;·have:=s1.rep.set d hrx;grind
  ·have:=s1.own.set d hox;grind
  ·intro n;have h1:=Jj n af tm d x v;rw[<-hset]at h1;have:=hs.tok n;grind
def Sim.resay{tm:List Value} (hs:Sim E F Γ st w af tm){d:Nat}{x:AVal} (hr:Rep Γ x (tm.getD d undef)) (ho:VM.own Γ w x (tm.getD d undef)) (hc: ∀n,cnt n x (tm.getD d undef)=0):Sim E F Γ st w (af.set d x) tm:=by
 have hset:tm=tm.set d (tm.getD d undef):=by rw[ADV]
 refine {hs with rep:=?_,own:=?_,tok:=?_};·have:=hs.rep.set d hr;grind
 ·have:=hs.own.set d ho;grind
 ·intro n;have h1:=Jj n af tm d x (tm.getD d undef);rw[<-hset,hc]at h1;have:=hs.tok n;omega
theorem UD (hs:Sim E F Γ st w af a.tmps.toList){o:Oper}{t:TypeId}{x y:Operand}{st':St} (hop:o.op=.store t x y) (hd:o.dst=none) (h:Rx E t (rd E af 0 x) (rd E af t y) st=some st'):∃nx w' a' Γ',Stepped E F Γ st w a o (stripAt af y) st' nx w' a' Γ'/\a'.tmps=a.tmps:=by
 unfold Rx at h;split at h;·grind[ASO]
 ·obtain⟨nx,w',a',Γ',hp,ha⟩:=AOA hs hop hd h;refine⟨nx,w',a',Γ',{hp with sim:=?_},ha⟩;exact hp.sim.stripAt y
def ATl (hs:Sim E F Γ st w af a.tmps.toList){o:Oper}{t:TypeId}{x y:Operand}{st':St} (hop:o.op=.store t x y) (hd:o.dst=none) (h:Pm E t (rd E af 0 x) (rd E af t y) st=some st'):∃nx w' a' Γ',Stepped E F Γ st w a o (stripAt af y) st' nx w' a' Γ':=by
 unfold Pm at h;split at h
 ·rename_i i hy;split at h
  ·rename_i wd xs o' hg;obtain⟨d,rfl,hd'⟩: ∃d,y=.tmp d/\af.getD d .any=.sh i:=by cases y with |tmp d=>exact⟨d,rfl,hy⟩|const v=>simp only[rd]at hy;unfold Kk at hy;split at hy<;>(try split at hy)<;>cases hy|global g=>simp only[rd]at hy;split at hy<;>cases hy|func f=>grind[rd]
   split at h
   ·rename_i hxd;obtain⟨s1,hsh⟩:=hs.unsh hd' hg;have hlt:d<af.length:=by grind
    have h1:rd E (af.set d (.slice wd xs o')) t (.tmp d)=.slice wd xs o':=by grind[rd,List.getD]
    have h2:rd E (af.set d (.slice wd xs o')) 0 x=rd E af 0 x:=by cases x with | tmp e=>grind[rd,Mo,List.getD]|_=>rfl
    obtain⟨nx,w',a',Γ',hp,ha⟩:=UD (x:=x) (y:=.tmp d) s1 hop hd (by rw[h1,h2];exact h);refine⟨nx,w',a',Γ',{hp with sim:=?_}⟩;have h3:stripAt (af.set d (.slice wd xs o')) (.tmp d)=af.set d (.slice wd xs false):=by simp_all[stripAt,List.getD,AVal.strip]
    have s2:=hp.sim;rw[h3,ha]at s2;have s3:=s2.resay (d:=d) (x:=.sh i) (hsh.mono hp.ext.le) (by simp[VM.own]) (λn=>by simp[cnt]);grind[List.set_set,stripAt,AVal.strip]
   grind
  grind[UD]
 grind[UD]
end
end Go.VM
set_option linter.unusedVariables false
namespace Go.VM
section
variable{E:Env}{F:Nat->Nat}{Γ:Ghost}{st:St}{w:World}{af:List AVal}{a:Act}
def Va{Γ:Ghost}{w:World}{b:Nat}{m m':List (Nat×List AVal)} (h:m.Perm m'):A7 Γ w b m=A7 Γ w b m':=by induction h<;>grind[A7,trans]
def Sim.perm{F:Nat->Nat}{Γ:Ghost}{w:World}{tm:List Value}{m m':List (Nat×List AVal)}{n:Nat} (hs:Sim E F Γ ⟨m,n⟩ w af tm) (h:m.Perm m'):Sim E F Γ ⟨m',n⟩ w af tm:=
  { hs with
    box_ok:=λp hp=>hs.box_ok p (h.mem_iff.2 hp)
    keys:=(h.map (·.1)).nodup_iff.1 hs.keys
    bx_F:=λp b hp=>hs.bx_F p b (h.mem_iff.2 hp)
    tok:=λb=>by rw[<-Va h];exact hs.tok b}
def Ed:List (Nat×List AVal)->Nat->List (Nat×List AVal) |[],_=>[]|(j,c)::m,i=>if i=j then m else(j,c)::Ed m i
def LK: ∀ {m:List (Nat×List AVal)}{i:Nat}{c:List AVal},A9 m i=some c->m.Perm ((i,c)::Ed m i)
 |[],_,_,h=>by grind[A9]
 | (j,d)::m,i,c,h=>by
  simp only[A9]at h;simp only[Ed];split at h;·simp_all
  ·rename_i e;rw[ae e];exact((LK h).cons _).trans (cB _ _ _)
def Sim.fewer (hs:Sim E F Γ st w af a.tmps.toList){m:List (Nat×List AVal)} (hm:m.Sublist st.m):Sim E F Γ {st with m:=m} w af a.tmps.toList:=by
 have hle: ∀n,A7 Γ w n m<=A7 Γ w n st.m:=by intro n;generalize st.m=m' at hm;induction hm with |slnil=>omega|cons p _ ih=>grind[A7]|cons_cons p _ ih=>grind[A7]
 refine {hs with box_ok:=λp hp=>hs.box_ok p (hm.subset hp),keys:=(hm.map _).nodup hs.keys,bx_F:=λp b hp hb=>hs.bx_F p b (hm.subset hp) hb,tok:=λn=>?_};have:=hle n;have:=hs.tok n;grind
theorem RepL.cat{xs ys:List AVal}{us vs:List Value} (h:RepL Γ xs us) (k:RepL Γ ys vs):RepL Γ (xs++ys) (us++vs):=by induction xs generalizing us with |nil=>cases h;exact k|cons x xs ih=>cases h with|cons h t=>exact .cons h (ih t)
theorem ownL.cat{xs ys:List AVal}{us vs:List Value} (hl:xs.length=us.length) (h:ownL Γ w xs us) (k:ownL Γ w ys vs):ownL Γ w (xs++ys) (us++vs):=by induction xs generalizing us with |nil=>grind| cons x xs ih=>cases us with |nil=>grind|cons u us=>grind[ownL]
theorem XY (b:Nat){xs ys:List AVal}{us vs:List Value} (hl:xs.length=us.length):AP b (xs++ys) (us++vs)=AP b xs us+AP b ys vs:=by induction xs generalizing us with |nil=>grind[AP]| cons x xs ih=>cases us with |nil=>grind|cons u us=>grind[AP]
def Jb (E:Env) (t:TypeId) (len:Nat) (ps:List (Nat×AVal)):Option (Nat×List AVal):=match QC E.P t with | some (z,_)=>if len * z<=16777216/\len<=Dp/\ps.map (·.1)=List.range len/\(ps.all λp=>Ei p.2&&(Ai p.2).length==z)=true then some (z,ps.flatMap λp=>Ai p.2)else none|none=>none
def AWn{z:Nat}: ∀ {ps:List (Nat×AVal)}{us:List (Nat×Value)}{k n:Nat}{pre rest:List Value}{arr:Array Value},arr.toList=pre++rest->pre.length=k * z->rest.length=n * z->ps.map (·.1)=List.range' k n->Jh Γ w ps us->(∀p,p∈ps->Ei p.2=true/\(Ai p.2).length=z)->∃arr' new,Instr.fill (λi=>some (i * z,z)) arr us=some arr'/\arr'.toList=pre++new/\RepL Γ (ps.flatMap λp=>Ai p.2) new/\new.length=n * z/\(∀v,v∈new->v.oneCell'=true)/\ownL Γ w (ps.flatMap λp=>Ai p.2) new/\∀b,AP b (ps.flatMap λp=>Ai p.2) new=AQW b ps us:=by
 intro ps;induction ps with
 | nil=>
  intro us k n pre rest arr harr hpre hrest hidx hp hok;have hn:n=0:=by simp_all
  subst hn;cases us with | nil=>have:rest=[]:=bG fG;subst this;exact⟨arr,[],rfl,harr,.nil,fH,fH,by simp[ownL],λb=>by simp[AP,AQW]⟩|cons u us=>grind[Jh]
 | cons p ps ih=>
  intro us k n pre rest arr harr hpre hrest hidx hp hok;obtain⟨i,x⟩:=p;cases us with
  |nil=>grind[Jh]
  | cons u us=>
   obtain⟨j,v⟩:=u;simp only[Jh]at hp;obtain⟨rfl,hx,hox,hp⟩:=hp;cases n with
   |zero=>grind
   | succ n=>
    simp only[aE,df,ce]at hidx;obtain⟨rfl,hidx⟩:=hidx;obtain⟨hokx,hzx⟩:=hok (i,x) fH;have hxc:=hx.cellsOK hokx;have hvs:v.cells.size=z:=by rw[<-hzx,hxc.length,aJ]
    have hsize:arr.size=(i+(n+1)) * z:=by grind[Array.length_toList,List.length_append,Nat.add_mul]
    have hzr:z<=rest.length:=by grind
    have hfold:(v.cells.zipIdx.foldl (λcs x=>cs.setIfInBounds (i * z+x.2) x.1) arr).toList=pre++v.cells.toList++rest.drop z:=by rw[<-eO,eF,ADf (i * z) v.cells.toList 0 arr,harr,bB,<-hpre];grind[MC,Array.length_toList]
    generalize hga:v.cells.zipIdx.foldl (λcs x=>cs.setIfInBounds (i * z+x.2) x.1) arr=arr1 at hfold;obtain⟨arr',new,q1,q2,q3,q4,q5,q6,q7⟩:=ih (k:=i+1) (n:=n) (pre:=pre++v.cells.toList) (rest:=rest.drop z) hfold (by grind) (by grind[List.length_drop,Nat.succ_mul]) hidx hp (λq hq=>hok q (aZ _ hq));refine⟨arr',v.cells.toList++new,?_,by grind,?_,by grind[List.length_append,Array.length_toList,Nat.succ_mul],?_,?_,?_⟩
    ·rw[Instr.fill];simp only;rw[ae];·grind
     ·simp only[hvs,dY,cW,aX,be,au,Nat.not_lt,hsize,dk,bX];omega
    ·rw[aQ];exact hxc.cat q3
    ·intro u hu;rcases aY.1 hu with hu|hu;·exact hx.one hokx u hu
     grind
    ·rw[aQ];exact ownL.cat hxc.length (VD hx hokx hox) q6
    ·intro b;rw[aQ,XY b hxc.length,VN hx hokx,q7 b];rfl
theorem Zh (hs:Sim E F Γ st w af a.tmps.toList){o:Oper}{t:TypeId}{len z:Nat}{cs:List AVal}{ps:List (Nat×Operand)} (hop:o.op=.buildSlice t len ⟨ps⟩) (h:Jb E t len (Bf E (λ_=>Ab E.P t 0) af ps).2=some (z,cs)):∃nx w' a' Γ',Stepped E F Γ st w a o (BN (Bf E (λ_=>Ab E.P t 0) af ps).1 o.dst (.gsl z st.next len)) {m:=(st.next,cs)::st.m,next:=st.next+1} nx w' a' Γ':=by
 obtain⟨h1,h2,h3⟩:=Ry (λ_=>Ab E.P t 0) ps hs;generalize hps:(Bf E (λ_=>Ab E.P t 0) af ps).2=qs at *;generalize (Bf E (λ_=>Ab E.P t 0) af ps).1=af1 at *;unfold Jb at h;split at h
 ·rename_i z by_ hap;split at h
  ·rename_i hc;obtain⟨hsz,hln,hidx,hall⟩:=hc;simp only[al,aD]at h;obtain⟨rfl,rfl⟩:=h;obtain⟨e,i,zv,hu,hi,hz,hzs,his,hib⟩:=QM hap;have hok: ∀p,p∈qs->Ei p.2=true/\(Ai p.2).length=z:=by intro p hp;have:=aS.1 hall p hp;simp_all
   generalize hzero:(if len * z=0 then(#[]:Array Value)else zv.cells)=zero;have hfill:=AWn (Γ:=Γ) (w:=w) (z:=z) (ps:=qs) (us:=ps.map λp=>(p.1,a.eval p.2)) (k:=0) (n:=len) (pre:=[]) (rest:=((Array.range (len * z)).map (λj=>zero[j % zero.size]!)).toList) (arr:=(Array.range (len * z)).map (λj=>zero[j % zero.size]!)) fH fH fH (by grind[List.range_eq_range']) h2 hok;obtain⟨arr',new,q1,q2,q3,q4,q5,q6,q7⟩:=hfill;rw[aT]at q2;have hrun:(execOp a.eval o).run E.P w=.ok (.value (.slice (some ⟨w.heap.size,0,none⟩) len len)) (w.alloc (.cells arr' e)):=by
    have hs0:(sizeOf e).run E.P w=.ok z w:=by simp_all[sizeOf,typeInfo]
    have hparts:(Array.map (λx=>(x.fst,a.eval x.snd)) ⟨ps⟩).toList=ps.map λp=>(p.1,a.eval p.2):=fH;have hzz:(zeroValue e).run E.P w=.ok zv w:=by simp_all[zeroValue,typeInfo]
    have hsz': ¬(len * z>2^24):=fG;simp only[execOp,hop,Instr.buildSlice];rw[aM,aM,aH hu];simp only[aC];rw[aM,hs0];simp only[aC,hsz',aq];by_cases hlz:len * z=0;·rw[ah hlz]at hzero;subst hzero;simp only[hlz,av,hparts];rw[hlz]at q1;rw[aM,bC];simp only[aC,q1];rfl
    ·rw[ae hlz]at hzero;subst hzero;simp only[hlz,aq,hparts];rw[aM,hzz];simp only[aC];rw[aM,bC];simp only[aC,q1];rfl
   have hasz:arr'.size=len * z:=by grind
   have htk:arr'.toList.take (qs.flatMap λp=>Ai p.2).length=new:=by rw[q2,q3.length,fc]
   obtain⟨k1,k2,k3⟩:=h1.newBox (e:=e) (cells:=arr') (cs:=qs.flatMap λp=>Ai p.2) (fz:=(0,0)) fH (by rw[htk];exact q3.mono (h1.le_box _)) (by grind) (by grind) (λb=>by rw[q2,q7];have:=h3 b;have:=hs.tok b;omega);have hb:(Γ.box st.next w.heap.size (e,arr'.size)).bx st.next=some w.heap.size:=by cases k3 with |ptr h=>exact h
   have hbt:(Γ.box st.next w.heap.size (e,arr'.size)).bt st.next=some (e,arr'.size):=by simp[Ghost.box]
   refine⟨_,_,a.put o.dst _,_,hrun,λK Q hk=>hk,put_defers _ _ _,k2,fH,?_⟩;refine k1.put o.dst (.gsl hb hbt ⟨aw _,hln⟩ fG) (by simp[VM.own]) λb=>?_;have:=k1.tok b;grind[cnt]
  grind
 grind
def SY: ∀(m:List (Nat×List AVal)) (i:Nat),(Ed m i).Sublist m
 |[],_=>.slnil
 | (j,c)::m,i=>by
  simp only[Ed];split;·simp
  ·exact .cons_cons _ (SY m i)
def Sim.later{tm:List Value} (hs:Sim E F Γ st w af tm):Sim E F Γ {st with next:=st.next+1} w af tm:=
  { hs with
    sx_next:=λi v h=>⟨by have:=(hs.sx_next i v h).1;grind,(hs.sx_next i v h).2⟩
    bx_next:=λi b h=>by have:=hs.bx_next i b h;grind}
def ownL.takeA: ∀ {xs:List AVal}{vs:List Value} (n:Nat),ownL Γ w xs vs->ownL Γ w (xs.take n) (vs.take n) |_,_,0,_=>by simp[ownL]|[],_,n+1,_=>by simp[ownL]|x::xs,[],n+1,_=>by simp[ownL]| x::xs,v::vs,n+1,h=>by rw[ownL]at h;simp only[bT,ownL];exact⟨h.1,ownL.takeA n h.2⟩
def Wm (b:Nat): ∀(xs:List AVal) (vs:List Value) (n:Nat),AP b (xs.take n) (vs.take n)<=AP b xs vs |_,_,0=>by simp[AP]|[],_,n+1=>by simp[AP]|x::xs,[],n+1=>by simp[AP]| x::xs,v::vs,n+1=>by simp only[bT,AP];have:=Wm b xs vs n;omega
def RepL.takeA: ∀ {xs:List AVal}{vs:List Value} (n:Nat),RepL Γ xs vs->RepL Γ (xs.take n) (vs.take n) |_,_,0,_=>by simp;exact .nil|_,_,n+1,.nil=>by simp;exact .nil|_,_,n+1,.cons h t=>by simp only[bT];exact .cons h (RepL.takeA n t)
def AQO (E:Env) (t0 t1:TypeId) (x y:AVal) (st:St):Option (Nat×Nat×List AVal×List (Nat×List AVal)×Option Nat):=
  match y with
  | .gsl wd n k=>
    match A9 st.m n,QC E.P t0 with
    | some ys,some (z,by_)=>
      if z=wd/\ys.length=k * wd/\0<k/\Mt E.P t1=none/\BI E.P t1=true then
        match x with
        |.slice w' [] true=>if w'=wd/\wd≠1/\k * by_<=140737488355328/\k<=Dp then some (wd,k,ys,Ed st.m n,none)else none
        | .gsl w' j len=>
          match A9 (Ed st.m n) j with
          |some cs=>if w'=wd/\len * wd<=cs.length/\(len+k) * by_<=140737488355328/\len+k<=Dp then some (wd,len+k,cs.take (len * wd)++ys,Ed (Ed st.m n) j,some j)else none
          |none=>none
        |_=>none
      else none
    |_,_=>none
  |_=>none
def XO (hs:Sim E F Γ st w af a.tmps.toList){o:Oper}{x y:Operand}{t0 t1 e:TypeId}{ts:List TypeId}{wd len cap k by_:Nat}{base:Option Addr}{vy zv:Value}{i:TypeInfo}{d1:TypeDesc}{csO ys:List AVal}{olds news:List Value}{rest:List (Nat×List AVal)} (hop:o.op=.call {callee:=.builtin .append,args:=#[x,y],argTypes:=⟨t0::t1::ts⟩}) (hvx:a.eval x=.slice base len cap) (hvy:a.eval y=vy) (hu:E.P.underlying t0=some (.slice e)) (hi:E.P.info? e=some i) (hz:i.zero=some zv) (hzs:zv.cells.size=i.size) (his:i.size=wd) (hib:i.bytes=by_) (hd1:E.P.underlying t1=some d1) (hint:Mt E.P t1=none) (hroom:(len+k) * by_<=140737488355328) (h62:len+k<=Dp) (hcap:len<=cap) (hno: ¬(len+k<=cap)) (hl1: ∀w',(Builtin.lenOf vy).run E.P w'=.ok k w') (hf1:(Builtin.firstCells wd k vy).run E.P w.drew=.ok news.toArray w.drew) (hf0:(Builtin.firstCells wd len (.slice base len cap)).run E.P w.drew=.ok olds.toArray w.drew) (ho:RepL Γ csO olds) (hn:RepL Γ ys news) (hol:olds.length=len * wd) (hnl:news.length=k * wd) (ho1: ∀v,v∈olds->v.oneCell'=true) (hn1: ∀v,v∈news->v.oneCell'=true) (hoo:ownL Γ w csO olds) (hno2:ownL Γ w ys news) (hsub:rest.Sublist st.m) (htk: ∀b,F b+AP b af a.tmps.toList+AP b csO olds+AP b ys news+A7 Γ w b rest<=1):∃nx w' a' Γ',Stepped E F Γ st w a o (BN af o.dst (.gsl wd st.next (len+k))) {m:=(st.next,csO++ys)::rest,next:=st.next+1} nx w' a' Γ':=by
 have h62':len+k<=4611686018427387904:=h62;have h48: ¬(281474976710656<Builtin.nextslicecap (len+k) cap * i.bytes):=by have:=fx (need:=len+k) (old:=cap) (bytes:=i.bytes) fG (by grind);omega
 rw[<-his]at hf1 hf0;generalize hnc:grownCap w (len+k) cap e=nc;have hge:len+k<=nc:=by grind[grownCap_ge]
 have hargs:Array.map a.eval #[x,y]= #[.slice base len cap,vy]:=by grind
 have hrun:(Builtin.append_ ⟨t0::t1::ts⟩ o.type #[.slice base len cap,vy]).run E.P w=.ok (.slice (some ⟨w.heap.size,0,none⟩) (len+k) nc) (w.drew.alloc (.cells (olds.toArray++news.toArray++Builtin.zeroCells zv.cells (nc-(len+k))) e)):=by subst hnc;have e3:IntKind.i64.max=9223372036854775807:=fI;grind[Pq]
 have hexec:(execOp a.eval o).run E.P w=.ok (.value (.slice (some ⟨w.heap.size,0,none⟩) (len+k) nc)) (w.drew.alloc (.cells (olds.toArray++news.toArray++Builtin.zeroCells zv.cells (nc-(len+k))) e)):=by simp only[execOp,hop,resolve,hargs,aM,bC,aC,invoke,builtin];simp_all
 have hsd:Sim E F Γ {st with m:=rest} w.drew af a.tmps.toList:=(hs.fewer hsub).drew;have hcl:(csO++ys).length=(olds++news).length:=by rw[an,an,ho.length,hn.length]
 generalize hcells:(olds.toArray++news.toArray++Builtin.zeroCells zv.cells (nc-(len+k)))=cells at *;have hlist:cells.toList=(olds++news)++(Builtin.zeroCells zv.cells (nc-(len+k))).toList:=by grind
 have htake:cells.toList.take (csO++ys).length=olds++news:=by grind
 have hsz:cells.size=nc * wd:=by rw[<-aJ,hlist,an,an,hol,hnl];simp only[Builtin.zeroCells,aJ,fy,fb,hzs,his,<-dk];grind
 have hown:ownL Γ w.drew (csO++ys) cells.toList:=by rw[<-Nv,htake];exact CV Γ.le_refl _ _ (ownL.cat ho.length hoo hno2) λ_ _=>⟨rfl,rfl⟩
 have hcm: ∀n,A7 Γ w.drew n rest=A7 Γ w n rest:=λn=>Gu λp hp=>⟨rfl,λ_ _=>rfl⟩;obtain⟨k1,k2,k3⟩:=hsd.newBox (e:=e) (cells:=cells) (cs:=csO++ys) (fz:=(0,0)) fH (by rw[htake];exact(ho.cat hn).mono (hsd.le_box _)) hown (by grind) (λb=>by
  have e1:AP b (csO++ys) cells.toList=AP b csO olds+AP b ys news:=by rw[<-Nc,htake,XY b ho.length]
  grind);have hb:(Γ.box st.next w.drew.heap.size (e,cells.size)).bx st.next=some w.heap.size:=by cases k3 with |ptr h=>exact h
 have hbt:(Γ.box st.next w.drew.heap.size (e,cells.size)).bt st.next=some (e,cells.size):=by simp[Ghost.box]
 have x0:Ext F Γ w Γ w.drew:=⟨Γ.le_refl,λ_ _=>⟨rfl,rfl⟩,aw _,rfl,rfl,rfl⟩;refine⟨_,_,a.put o.dst _,_,hexec,λK Q hk=>hk,put_defers _ _ _,x0.trans k2,fH,?_⟩;refine k1.put o.dst (.gsl hb hbt ⟨hge,h62⟩ fG) (by simp[VM.own]) λb=>?_;have:=k1.tok b;grind[cnt]
def Z0{P:Program}{b:Nat}{arr:Array Value}{e:TypeId}{fz:Nat×Nat}{wd n len cap:Nat}{vs:List Value} (hh:w.heap[b]?=some (.cells arr e fz)) (hv:vs=arr.toList.take (n * wd)) (hl:vs.length=n * wd):∀w',w'.heap[b]?=w.heap[b]?->(Builtin.firstCells wd n (.slice (some ⟨b,0,none⟩) len cap)).run P w'=.ok vs.toArray w':=by intro w' hw;refine eD (P:=P) w' wd n ⟨b,0,none⟩ len cap vs hl λj u hj=>?_;rw[addr_add];subst hv;have:=List.getElem?_take_some hj;simp_all[World.cell?]
set_option maxHeartbeats 1000000 in theorem AYo (hs:Sim E F Γ st w af a.tmps.toList){o:Oper}{x y:Operand}{t0 t1:TypeId}{ts:List TypeId}{wd l:Nat}{cs:List AVal}{rest:List (Nat×List AVal)}{jo:Option Nat} (hop:o.op=.call {callee:=.builtin .append,args:=#[x,y],argTypes:=⟨t0::t1::ts⟩}) (h:AQO E t0 t1 (rd E af t0 x) (rd E af t1 y) st=some (wd,l,cs,rest,jo)):∃i,(i=st.next\/jo=some i)/\∃nx w' a' Γ',Stepped E F Γ st w a o (BN af o.dst (.gsl wd i l)) {m:=(i,cs)::rest,next:=st.next+1} nx w' a' Γ':=by
 have hx:=hs.rd t0 x;have hy:=hs.rd t1 y;generalize rd E af t0 x=ax at *;generalize rd E af t1 y=ay at *;generalize hvx:a.eval x=vx at *;generalize hvy:a.eval y=vy at *;unfold AQO at h;split at h;rotate_left;·cases h
 rename_i wd' n k;split at h;rotate_left;·cases h
 rename_i ys z by_ hgn hap;split at h;rotate_left;·cases h
 rename_i hc;obtain⟨rfl,hyl,hk0,hint,hkn⟩:=hc;obtain⟨e,i,zv,hu,hi,hz,hzs,his,hib⟩:=QM hap;obtain⟨d1,hd1⟩:=FH hkn;cases hy with
 |gsl hbn hbtn hcn hczn=>
  rename_i bn capn sn Tn;obtain⟨bn',arrn,en,hbox⟩:=hs.box hgn hbn;have:bn'=bn:=by have:=hbox.bx;grind
  subst this;obtain⟨lon,hin,hhn,_⟩:=hbox.heap;have hnl:(arrn.toList.take (k * z)).length=k * z:=by rw[<-hyl];exact hbox.rep.length.symm
  have hrn:RepL Γ ys (arrn.toList.take (k * z)):=by rw[<-hyl];exact hbox.rep
  have hone: ∀v,v∈arrn.toList.take (k * z)->v.oneCell'=true:=by rw[<-hyl];exact hbox.one
  have hon:ownL Γ w ys (arrn.toList.take (k * z)):=by rw[<-hyl,Nv];exact hbox.own
  have hcnn: ∀b,AP b ys (arrn.toList.take (k * z))=AP b ys arrn.toList:=λb=>by grind[Nc]
  have hl1: ∀w',(Builtin.lenOf (.slice (some ⟨bn',0,none⟩) k capn)).run E.P w'=.ok k w':=λw'=>by simp[Builtin.lenOf]
  have hf1:=Z0 (P:=E.P) (wd:=z) (n:=k) (len:=k) (cap:=capn) hhn rfl hnl;have hcm1: ∀b,A7 Γ w b st.m=AP b ys arrn.toList+A7 Γ w b (Ed st.m n):=λb=>by rw[Va (LK hgn),A7];grind[EU,hcells]
  split at h
  ·rename_i w';split at h;rotate_left;·cases h
   rename_i hc;obtain⟨rfl,hw1,hroom,h62⟩:=hc;simp only[al,aD]at h;obtain⟨rfl,rfl,rfl,rfl,rfl⟩:=h;obtain⟨base,rfl⟩: ∃base,vx=.slice base 0 0:=by cases hx with |snil=>simp| slice _ hb hl hc hS hnn=>simp_all
   have hxn:Rep Γ (.slice w' [] true) (.slice base 0 0):=.snil _ _ _;obtain⟨olds,so⟩:=Vg hs hxn;have hold:olds=[]:=bG (by rw[so.size];simp);subst hold;refine⟨st.next,.inl rfl,?_⟩;have:=XO (hs:=hs) (csO:=[]) (ys:=ys) (olds:=[]) (rest:=Ed st.m n) (len:=0) (k:=k) hop hvx hvy hu hi hz fG his hib hd1 hint (by grind) fG (aw _) fG hl1 (hf1 w.drew rfl) (by have:=so.first w.drew (λ_ _=>rfl);omega) .nil hrn fH hnl fH hone (by simp[ownL]) hon (SY _ _) (λb=>by have:=hs.tok b;grind[AP]);grind
  ·rename_i w' j len;split at h;rotate_left;·cases h
   rename_i cs0 hgj;split at h;rotate_left;·cases h
   rename_i hc;obtain⟨rfl,hcl,hroom,h62⟩:=hc;simp only[al,aD]at h;obtain⟨rfl,rfl,rfl,rfl,rfl⟩:=h;cases hx with
   |gsl hbj hbtj hcj hczj=>
    rename_i bj capj sj Tj;have hs1:Sim E F Γ {st with m:=Ed st.m n} w af a.tmps.toList:=hs.fewer (SY _ _);have hs2:Sim E F Γ {st with m:=(j,cs0)::Ed (Ed st.m n) j} w af a.tmps.toList:=hs1.perm (LK hgj);have hg2:A9 ((j,cs0)::Ed (Ed st.m n) j) j=some cs0:=by simp[A9]
    obtain⟨bj',arrj,ej,hboxj⟩:=hs2.box hg2 hbj;have:bj'=bj:=by have:=hboxj.bx;grind
    subst this;obtain⟨loj,hij,hhj,hfj⟩:=hboxj.heap;obtain⟨rfl,hsj⟩:=hboxj.ty _ _ hbtj;have hcm2: ∀b,A7 Γ w b (Ed st.m n)=AP b cs0 arrj.toList+A7 Γ w b (Ed (Ed st.m n) j):=λb=>by rw[Va (LK hgj),A7];grind[EU,hcells]
    have hle:=hboxj.le;have hol:(arrj.toList.take (len * w')).length=len * w':=by grind
    have htt:(arrj.toList.take cs0.length).take (len * w')=arrj.toList.take (len * w'):=by grind
    have hro:RepL Γ (cs0.take (len * w')) (arrj.toList.take (len * w')):=by have:=hboxj.rep.takeA (len * w');grind
    have hoo:ownL Γ w (cs0.take (len * w')) (arrj.toList.take (len * w')):=hboxj.own.takeA _;have hco: ∀b,AP b (cs0.take (len * w')) (arrj.toList.take (len * w'))<=AP b cs0 arrj.toList:=λb=>Wm b _ _ _;have ho1: ∀v,v∈arrj.toList.take (len * w')->v.oneCell'=true:=λv hv=>hboxj.one v (by grind);by_cases hfits:len+k<=capj
    ·refine⟨j,.inr rfl,?_⟩;have hroomj:len * w'+k * w'<=arrj.size:=by have:(len+k) * w'<=capj * w':=b9 _ hfits;grind
     obtain⟨w1,arr',r1,q1,q2,q3,q4,q5,q6,q7,q8⟩:=JM (P:=E.P) (b:=bj') (base:=0+len * w') (arrn.toList.take (k * w')) 0 arrj w hhj hfj fG hone;have q2':arr'.toList=arrj.toList.take (len * w')++arrn.toList.take (k * w')++(arrj.toList.drop (len * w')).drop (k * w'):=by rw[q2,bB,ci];grind[MC,List.length_drop,Array.length_toList,List.take_append_drop]
     have hcl':(cs0.take (len * w')++ys).length=(arrj.toList.take (len * w')++arrn.toList.take (k * w')).length:=by grind
     have htake:arr'.toList.take (cs0.take (len * w')++ys).length=arrj.toList.take (len * w')++arrn.toList.take (k * w'):=by grind
     have hfz: ∀q,q<arr'.size->¬(loj<=q/\q<hij):=by grind
     obtain⟨s3,x3⟩:=hs2.setBox (w':=w1) (cs':=cs0.take (len * w')++ys) (arr':=arr') (lo:=loj) (hi:=hij) hg2 hboxj q1 hfz q4 q5 q6 q7 q8 (by rw[htake];exact hro.cat hrn) (by rw[<-Nv,htake];grind[ownL.cat]) (by grind) (λb=>by
      have e1:AP b (cs0.take (len * w')++ys) arr'.toList=AP b (cs0.take (len * w')) (arrj.toList.take (len * w'))+AP b ys (arrn.toList.take (k * w')):=by rw[<-Nc,htake,XY b hro.length]
      rw[e1,hcnn b];have e2:A7 Γ w b ((j,cs0)::Ed (Ed st.m n) j)=AP b cs0 arrj.toList+A7 Γ w b (Ed (Ed st.m n) j):=by simp_all[A7,EU,hcells]
      show F b+AP b af a.tmps.toList+_+A7 Γ w b ((j,cs0)::Ed (Ed st.m n) j)<=_;rw[e2];have:=hs.tok b;grind) q3;have hms:CU ((j,cs0)::Ed (Ed st.m n) j) j (cs0.take (len * w')++ys)=(j,cs0.take (len * w')++ys)::Ed (Ed st.m n) j:=by simp[CU]
     simp only[hms]at s3;have s4:=s3.later;have hargs:Array.map a.eval #[x,y]= #[.slice (some ⟨bj',0,none⟩) len capj,.slice (some ⟨bn',0,none⟩) k capn]:=by grind
     have hf1':=hf1 w rfl;rw[<-his]at hf1' r1;have hrun:(Builtin.append_ ⟨t0::t1::ts⟩ o.type #[.slice (some ⟨bj',0,none⟩) len capj,.slice (some ⟨bn',0,none⟩) k capn]).run E.P w=.ok (.slice (some ⟨bj',0,none⟩) (len+k) capj) w1:=by rw[QS hu hi hd1 hint (hl1 w) hfits hf1'];simp only[addr_add];simp_all
     refine⟨.value (.slice (some ⟨bj',0,none⟩) (len+k) capj),_,a.put o.dst (.slice (some ⟨bj',0,none⟩) (len+k) capj),_,?_,λK Q hk=>hk,put_defers _ _ _,x3,fH,?_⟩;·simp only[execOp,hop,resolve,hargs,aM,bC,aC,invoke,builtin];simp_all
     ·refine s4.put o.dst (.gsl hbj hbtj ⟨hfits,h62⟩ hczj) (by simp[VM.own]) λb=>?_;have:=s4.tok b;grind[cnt]
    ·refine⟨st.next,.inl rfl,?_⟩;have hf0:=Z0 (P:=E.P) (wd:=w') (n:=len) (len:=len) (cap:=capj) hhj rfl hol;exact XO (hs:=hs) (csO:=cs0.take (len * w')) (ys:=ys) (rest:=Ed (Ed st.m n) j) hop hvx hvy hu hi hz fG his hib hd1 hint hroom h62 hcj.1 hfits hl1 (hf1 w.drew rfl) (hf0 w.drew rfl) hro hrn hol hnl ho1 hone hoo hon ((SY _ _).trans (SY _ _)) (λb=>by have:=hs.tok b;grind)
  grind
def Aca (E:Env) (t0 t1:TypeId) (x y:AVal) (st:St):Option (Nat×Nat×List AVal×List (Nat×List AVal)×Option Nat):=match x,y with
 | .gsl w j len,.str s=>match A9 st.m j,QC E.P t0 with |some cs,some (z,by_)=>if w=1/\z=1/\len<=cs.length/\(len+s.length) * by_<=140737488355328/\len+s.length<=Dp/\Mt E.P t1=none/\BI E.P t1=true then some (1,len+s.length,cs.take len++u8s s,Ed st.m j,some j)else none|_,_=>none
 |_,_=>none
def AGI (l:B8): ∀x,x∈u8s l->(∀Γ w v,VM.own Γ w x v)/\∀b v,cnt b x v=0:=by intro x hx;obtain⟨c,_,rfl⟩:=bz.1 hx;grind[VM.own,cnt]
theorem AXz: ∀l:B8,RepL Γ (u8s l) (l.map λb=>Value.int .u8 b.toNat) |[]=>.nil|c::l=>.cons (.int _ _) (AXz l)
set_option maxHeartbeats 1000000 in theorem AaL (hs:Sim E F Γ st w af a.tmps.toList){o:Oper}{x y:Operand}{t0 t1:TypeId}{ts:List TypeId}{wd l:Nat}{cs:List AVal}{rest:List (Nat×List AVal)}{jo:Option Nat} (hop:o.op=.call {callee:=.builtin .append,args:=#[x,y],argTypes:=⟨t0::t1::ts⟩}) (h:Aca E t0 t1 (rd E af t0 x) (rd E af t1 y) st=some (wd,l,cs,rest,jo)):∃i,(i=st.next\/jo=some i)/\∃nx w' a' Γ',Stepped E F Γ st w a o (BN af o.dst (.gsl wd i l)) {m:=(i,cs)::rest,next:=st.next+1} nx w' a' Γ':=by
 have hx:=hs.rd t0 x;have hy:=hs.rd t1 y;generalize rd E af t0 x=ax at *;generalize rd E af t1 y=ay at *;generalize hvx:a.eval x=vx at *;generalize hvy:a.eval y=vy at *;unfold Aca at h;split at h;rotate_left;·cases h
 rename_i wx j len str;split at h;rotate_left;·cases h
 rename_i cs0 z by_ hgj hap;split at h;rotate_left;·cases h
 rename_i hc;obtain⟨rfl,rfl,hcl,hroom,h62,hint,hkn⟩:=hc;simp only[al,aD]at h;obtain⟨rfl,rfl,rfl,rfl,rfl⟩:=h;obtain⟨e,i,zv,hu,hi,hz,hzs,his,hib⟩:=QM hap;obtain⟨d1,hd1⟩:=FH hkn;cases hy with
 |str sb hsn=>
  have src:=AXC (E:=E) (Γ:=Γ) (w:=w) (s:=sb) (wd:=1) rfl;generalize hnews:(sb.data.toList.map λb=>Value.int .u8 b.toNat)=news at src;have hys:(sb.data.toList.map λb=>AVal.int .u8 b.toNat)=u8s sb.data.toList:=rfl;rw[hys]at src;generalize sb.data.toList=str at *;have hul:(u8s str).length=str.length:=by grind
  have hnl:news.length=str.length * 1:=by grind
  have hrn:RepL Γ (u8s str) news:=by grind[AXz]
  have hone: ∀v,v∈news->v.oneCell'=true:=src.one;have hon: ∀(Γ':Ghost) (w':World),ownL Γ' w' (u8s str) news:=λΓ' w'=>TG _ _ λx hx=>(AGI str x hx).1 Γ' w';have hcn: ∀b vs,AP b (u8s str) vs=0:=λb vs=>Sq b _ vs λx hx=>(AGI str x hx).2 b;have hl1: ∀w',(Builtin.lenOf (.string sb)).run E.P w'=.ok str.length w':=λw'=>by have:=src.len w';grind
  have hf1: ∀w',(∀b o,w'.cell? ⟨b,o,none⟩=w.cell? ⟨b,o,none⟩)->(Builtin.firstCells 1 str.length (.string sb)).run E.P w'=.ok news.toArray w':=λw' q=>by have:=src.first w' q;grind
  cases hx with
  |gsl hbj hbtj hcj hczj=>
   rename_i bj capj sj Tj;have hs2:Sim E F Γ {st with m:=(j,cs0)::Ed st.m j} w af a.tmps.toList:=hs.perm (LK hgj);have hg2:A9 ((j,cs0)::Ed st.m j) j=some cs0:=by simp[A9]
   obtain⟨bj',arrj,ej,hboxj⟩:=hs2.box hg2 hbj;have:bj'=bj:=by have:=hboxj.bx;grind
   subst this;obtain⟨loj,hij,hhj,hfj⟩:=hboxj.heap;obtain⟨rfl,hsj⟩:=hboxj.ty _ _ hbtj;have hcm2: ∀b,A7 Γ w b st.m=AP b cs0 arrj.toList+A7 Γ w b (Ed st.m j):=λb=>by rw[Va (LK hgj),A7];grind[EU,hcells]
   have hle:=hboxj.le;have hol:(arrj.toList.take (len * 1)).length=len * 1:=by grind
   have htt:(arrj.toList.take cs0.length).take (len * 1)=arrj.toList.take (len * 1):=by grind
   have hro:RepL Γ (cs0.take (len * 1)) (arrj.toList.take (len * 1)):=by have:=hboxj.rep.takeA (len * 1);grind
   have hoo:ownL Γ w (cs0.take (len * 1)) (arrj.toList.take (len * 1)):=hboxj.own.takeA _;have hco: ∀b,AP b (cs0.take (len * 1)) (arrj.toList.take (len * 1))<=AP b cs0 arrj.toList:=λb=>Wm b _ _ _;have ho1: ∀v,v∈arrj.toList.take (len * 1)->v.oneCell'=true:=λv hv=>hboxj.one v (by grind);have e11:len * 1=len:=fB _;by_cases hfits:len+str.length<=capj
   ·refine⟨j,.inr rfl,?_⟩;have hroomj:len+str.length<=arrj.size:=fG;obtain⟨w1,arr',r1,q1,q2,q3,q4,q5,q6,q7,q8⟩:=JM (P:=E.P) (b:=bj') (base:=0+len * 1) news 0 arrj w hhj hfj fG hone;have q2':arr'.toList=arrj.toList.take (len * 1)++news++(arrj.toList.drop (len * 1)).drop (str.length * 1):=by rw[q2,bB,ci];grind[MC,Array.length_toList,List.length_drop,List.take_append_drop]
    have hcl':(cs0.take (len * 1)++u8s str).length=(arrj.toList.take (len * 1)++news).length:=by grind
    have htake:arr'.toList.take (cs0.take (len * 1)++u8s str).length=arrj.toList.take (len * 1)++news:=by grind
    have hfz: ∀q,q<arr'.size->¬(loj<=q/\q<hij):=by grind
    obtain⟨s3,x3⟩:=hs2.setBox (w':=w1) (cs':=cs0.take (len * 1)++u8s str) (arr':=arr') (lo:=loj) (hi:=hij) hg2 hboxj q1 hfz q4 q5 q6 q7 q8 (by rw[htake];exact hro.cat hrn) (by rw[<-Nv,htake];grind[ownL.cat]) (by grind) (λb=>by
     have e1:AP b (cs0.take (len * 1)++u8s str) arr'.toList=AP b (cs0.take (len * 1)) (arrj.toList.take (len * 1))+AP b (u8s str) news:=by grind[Nc,XY]
     rw[e1,hcn b];have e2:A7 Γ w b ((j,cs0)::Ed st.m j)=AP b cs0 arrj.toList+A7 Γ w b (Ed st.m j):=by simp_all[A7,EU,hcells]
     show F b+AP b af a.tmps.toList+_+A7 Γ w b ((j,cs0)::Ed st.m j)<=_;rw[e2];have:=hs.tok b;grind) q3;have hms:CU ((j,cs0)::Ed st.m j) j (cs0.take (len * 1)++u8s str)=(j,cs0.take (len * 1)++u8s str)::Ed st.m j:=by simp[CU]
    simp only[hms]at s3;have s4:=s3.later;have hargs:Array.map a.eval #[x,y]= #[.slice (some ⟨bj',0,none⟩) len capj,.string sb]:=by grind
    have hf1':=hf1 w (λ_ _=>rfl);rw[<-his]at hf1' r1;have hrun:(Builtin.append_ ⟨t0::t1::ts⟩ o.type #[.slice (some ⟨bj',0,none⟩) len capj,.string sb]).run E.P w=.ok (.slice (some ⟨bj',0,none⟩) (len+str.length) capj) w1:=by rw[QS hu hi hd1 hint (hl1 w) hfits hf1'];simp only[addr_add];simp_all
    refine⟨.value (.slice (some ⟨bj',0,none⟩) (len+str.length) capj),_,a.put o.dst (.slice (some ⟨bj',0,none⟩) (len+str.length) capj),_,?_,λK Q hk=>hk,put_defers _ _ _,x3,fH,?_⟩;·simp only[execOp,hop,resolve,hargs,aM,bC,aC,invoke,builtin];simp_all
    ·rw[e11]at s4;refine s4.put o.dst (.gsl hbj hbtj ⟨hfits,h62⟩ hczj) (by simp[VM.own]) λb=>?_;have:=s4.tok b;grind[cnt]
   ·refine⟨st.next,.inl rfl,?_⟩;have hf0:=Z0 (P:=E.P) (wd:=1) (n:=len) (len:=len) (cap:=capj) hhj rfl hol;have key:=XO (hs:=hs) (csO:=cs0.take (len * 1)) (ys:=u8s str) (rest:=Ed st.m j) (k:=str.length) hop hvx hvy hu hi hz fG his hib hd1 hint hroom h62 hcj.1 hfits hl1 (hf1 w.drew (λ_ _=>rfl)) (hf0 w.drew rfl) hro hrn hol hnl ho1 hone hoo (hon _ _) (SY _ _) (λb=>by have:=hs.tok b;grind);grind
def appG (E:Env) (t0 t1:TypeId) (x y:AVal) (st:St):Option (Nat×Nat×List AVal×List (Nat×List AVal)×Option Nat):=match y with |.str s=>Aca E t0 t1 x (.str s) st|y=>AQO E t0 t1 x y st
def AbP (hs:Sim E F Γ st w af a.tmps.toList){o:Oper}{x y:Operand}{t0 t1:TypeId}{ts:List TypeId}{wd l:Nat}{cs:List AVal}{rest:List (Nat×List AVal)}{jo:Option Nat} (hop:o.op=.call {callee:=.builtin .append,args:=#[x,y],argTypes:=⟨t0::t1::ts⟩}) (h:appG E t0 t1 (rd E af t0 x) (rd E af t1 y) st=some (wd,l,cs,rest,jo)):∃i,(i=st.next\/jo=some i)/\∃nx w' a' Γ',Stepped E F Γ st w a o (BN af o.dst (.gsl wd i l)) {m:=(i,cs)::rest,next:=st.next+1} nx w' a' Γ':=by unfold appG at h;grind[AaL,AYo]
theorem P5{m:List (Nat×List AVal)}{i j:Nat}{x:List AVal} (h:j≠i):A9 (CU m i x) j=A9 m j:=by induction m<;>grind[CU,A9]
def Sim.unshCell (hs:Sim E F Γ st w af a.tmps.toList){i j c:Nat}{cs:List AVal}{x:AVal} (hij:j≠i) (hg:A9 st.m j=some cs) (h2:2<=cs.length) (hc:cs[c]?=some (.sh i)) (hi:A9 st.m i=some [x]):Sim E F Γ {st with m:=CU (CU st.m i [x.strip]) j (cs.set c x)} w af a.tmps.toList:=by
 rcases hs.box_ok _ (M4 hg)with⟨b,arr,e,hb⟩|⟨v,hv⟩;rotate_left;·have:=hv.rep.length;grind
 obtain⟨lo,hi',hh,hf⟩:=hb.heap;obtain⟨u,hu,hru⟩:=hb.rep.get? hc;have hua:=List.getElem?_take_some hu;cases hru with
 | sh hsx hk=>
  have hsh:=Aq1 hs hsx hi;have hrx:Rep Γ x u:=by have:=hsh.rep;cases this;omega
  have hox:VM.own Γ w x u:=by have:=hsh.own;grind[ownL]
  have hcm: ∀n,A7 Γ w n (CU st.m i [x.strip])+cnt n x u=A7 Γ w n st.m:=λn=>by
   have e1:=LY (Γ:=Γ) (Γ':=Γ) (w:=w) (w':=w) (b:=n) (x:=[x.strip]) hs.keys hi (λp hp hne=>rfl);have e2:=hsh.cnt n;have e3:EU Γ w n (i,[x.strip])=0:=by simp only[EU,hsh.bx,hsh.sx];simp[AP,KH]
   grind[AP]
  have s1:=hs.setSh hi hsh (cs':=[x.strip]) (.cons hrx.strip .nil) (by grind[ownL,Nk]) (λn=>by have:=hs.tok n;grind[AP,KH]);have hg1:A9 (CU st.m i [x.strip]) j=some cs:=by grind[P5]
  have hset:arr.toList=arr.toList.set c u:=by apply cE;grind
  have hset2:arr.toList.take cs.length=(arr.toList.take cs.length).set c u:=by apply cE;grind
  have hr':RepL Γ (cs.set c x) (arr.toList.take (cs.set c x).length):=by rw[cp,hset2];exact hb.rep.set c hrx
  have ho':ownL Γ w (cs.set c x) arr.toList:=by have:=hb.own.set c hox;grind
  refine(s1.setBox (w':=w) (cs':=cs.set c x) (arr':=arr) (lo:=lo) (hi:=hi') hg1 hb hh hf (λ_ _=>rfl) rfl rfl rfl rfl hr' ho' (by rw[cp];exact hb.one) (λn=>?_) rfl).1;have h1:=Jj n cs arr.toList c x u;rw[<-hset]at h1;have:=hs.tok n;grind
end
end Go.VM
