import Derived.Test.YtmalodjbhonipaaGreatDoorVmFacts
import Derived.Test.YtmalodjbhonipaaGreatDoorDefs
import Derived.Test.YtmalodjbhonipaaGreatDoorVM7
import Derived.Test.YtmalodjbhonipaaGreatDoorW1
import Derived.Test.YtmalodjbhonipaaGreatDoorW2
import Derived.Test.YtmalodjbhonipaaGreatDoorW3
import Derived.Test.YtmalodjbhonipaaGreatDoorW4
import Derived.Test.YtmalodjbhonipaaGreatDoorW6
import Derived.Test.YtmalodjbhonipaaGreatDoorW7
import Derived.Test.YtmalodjbhonipaaGreatDoorW8
import Derived.Test.YtmalodjbhonipaaGreatDoorW9
import Derived.Test.YtmalodjbhonipaaGreatDoorW10
import Derived.Test.YtmalodjbhonipaaGreatDoorVM6
set_option linter.unusedVariables false
set_option linter.unusedSimpArgs false
set_option maxHeartbeats 4000000
set_option maxRecDepth 100000
set_option linter.defProp false
namespace Go.Proofs.YtmalodjbhonipaaGreatDoor
open Go.VM
attribute [local irreducible] AA grd letL
variable{N n:Nat}{m:MS}{Q:PQ}{args:List AVal}
instance ARr {a0 a1}:CF vE (Jv N a0 a1) 164 [.str a0,.int .i64 a1] (fun r=>.tuple [.int .i64 r.1,.bool r.2]):=Ae (Jv.eq_1 ..) Tryz.func164 rfl Tryz.ntmps164 Tryz.results164 [(1,[],.stop)]
@[reducible, instance] def XF {a0 a1 k2 k s7 bn} := LF.mk (X := BL N a0 a1 k2 k s7 bn) (G := fun k (s : Int × (List Int)) => BL N a0 a1 k2 k s.1 s.2) (s := (s7, bn)) (js := [(4, 2), (8, 3), (14, 43)]) (cs := [7]) (V := fun s => [.int .i64 s.1]) (Ms := fun s => [.s ([.slice 1 (List.map (AVal.int .u8) s.2) true])]) rfl (fun s => BL.eq_1 ..) (fun k s => BL.eq_2 ..)
instance AEn {a0 a1}:CF vE (Bf N a0 a1) 46 [.str a0,.str a1] (fun r=>.tuple [.str r.1,.int .i64 r.2]):=Ae (Bf.eq_1 ..) Tryz.func46 rfl Tryz.ntmps46 Tryz.results46 [(15,[38],.done),(17,[],.stop),(18,[53],.done)]
instance ABK {a0 a1 a2}:CF vE (strings_ReplaceAll N a0 a1 a2) 131 [.str a0,.str a1,.str a2] (fun r=>.str r):=Ae (strings_ReplaceAll.eq_1 ..) Tryz.func131 rfl Tryz.ntmps131 Tryz.results131
section
open Go.RowKit Go.Shelf
attribute [local go_sem] Oper.semAt_some
def RfG (W:World):Prop:=∃arr e fz k ds,W.heap[(0:Nat)]?=some (.cells arr e fz)∧arr.toList=.int .i64 k::ds
theorem AIB{W:World} (hG:RfG W): ∀g cs,vE.T g=some cs→Rep (F3 W) (.cptr cs) (.pointer (some ⟨g,0,none⟩)):=by
 intro g cs h
 obtain⟨arr,e,fz,k,ds,h1,h2⟩:=hG
 have h3:g=0∧cs=[.num .i64]:=by
  by_cases hg:g=0
  · subst hg;exact⟨rfl,(Option.some.inj h).symm⟩
  · exfalso
    have h3:vE.T g=none:=if_neg hg
    rw[h3]at h;cases h
 obtain⟨rfl,rfl⟩:=h3
 exact .cptr (cells:=arr.toList) (vs:=[.int .i64 k]) (rest:=ds) (by simp[F3,h1]) (by rw[List.drop_zero,h2];rfl) (.cons (.num _ _) .nil) (by simp[Value.oneCell'])
theorem RfGof{Γ:Ghost}{F:Nat→Nat}{w:World}{st:St}{af:List AVal}{tm:List Value} (hs:Sim vE F Γ st w af tm):RfG w:=by
 have h:=hs.glob 0 [.num .i64] rfl
 cases h with
 |cptr hb hd h ho=>
  cases h with
  |cons hr ht=>cases hr with
   |num _ k=>
    cases ht
    obtain⟨arr,e,fz,hw,⟨ds,ha⟩,_⟩:=hs.com_ok _ _ hb
    rw[List.drop_zero]at hd
    rw[hd]at ha
    exact⟨arr,e,fz,k,_,hw,ha⟩
theorem RfGbelow{W W':World} (h:RfG W) {n:Nat} (hn:n=W.heap.size) (hB:Below n W W'):RfG W':=by
 subst hn
 obtain⟨arr,e,fz,k,ds,h1,h2⟩:=h
 exact⟨arr,e,fz,k,ds,(hB.block _ (Array.getElem?_eq_some_iff.1 h1).1).trans h1,h2⟩
def QK (b:ByteArray):Prop:=b.data.toList.length≤DY
theorem AN2 (s c:ByteArray) (hs:QK s) (hc:QK c) {y} (h:strings_Cut N s.data.toList c.data.toList=some y) (W:World) (hG:RfG W):CallsIn Fence.wide n Tryz.prog 26 #[.string s,.string c] W fun e W'=>∃a b,e=.returned (.tuple #[.string a,.string b,.bool y.2.2])∧a.data.toList=y.1∧b.data.toList=y.2.1∧QK a∧QK b∧Below W.heap.size W W':=by refine callsIn_wide.2 ?_;have hw:ACall vE 26 [.str s.data.toList,.str c.data.toList] ⟨[],0⟩ (fun r _=>r=.tuple [.str y.1,.str y.2.1,.bool y.2.2]):=UR h rfl (fun _ _=>⟨rfl⟩);refine(ACall.shell (W:=W) (cargs:=#[.string s,.string c]) (AIB hG) (args':=[.str s.data.toList,.str c.data.toList]) (.cons (.str s hs) (.cons (.str c hc) .nil)) (by simp[stripL,AVal.strip]) hw).mono ?_;rintro e W' ⟨v,rfl,hB,Γ',r,st',hr,rfl⟩;cases hr with | @tuple cs arr h=>generalize ha:arr.toList=vs at h;cases h with | cons h1 h=>cases h with | cons h2 h=>cases h with | cons h3 h=>cases h;cases h3;generalize e1:y.1=l1 at h1;generalize e2:y.2.1=l2 at h2;cases h1 with | str a ha'=>cases h2 with | str b hb'=>refine⟨a,b,?_,rfl,rfl,ha',hb',hB⟩;congr 2;exact dv.1 ha
theorem AVf (s:ByteArray) (hs:QK s) {y} (h:Et N s.data.toList=some y) (W:World) (hG:RfG W):CallsIn Fence.wide n Tryz.prog 27 #[.string s] W fun e W'=>∃a,e=.returned (.tuple #[.string a,.int .i64 y.2])∧a.data.toList=y.1∧QK a∧Below W.heap.size W W':=by refine callsIn_wide.2 ?_;have hw:ACall vE 27 [.str s.data.toList] ⟨[],0⟩ (fun r _=>r=.tuple [.str y.1,.int .i64 y.2]):=Qk h rfl (fun _ _=>⟨rfl⟩);refine(ACall.shell (W:=W) (cargs:=#[.string s]) (AIB hG) (args':=[.str s.data.toList]) (.cons (.str s hs) .nil) (by simp[stripL,AVal.strip]) hw).mono ?_;rintro e W' ⟨v,rfl,hB,Γ',r,st',hr,rfl⟩;cases hr with | @tuple cs arr h=>generalize ha:arr.toList=vs at h;cases h with | cons h1 h=>cases h with | cons h2 h=>cases h;cases h2;generalize e1:y.1=l1 at h1;cases h1 with | str a ha'=>refine⟨a,?_,rfl,ha',hB⟩;congr 2;exact dv.1 ha
theorem AXN (b:ByteArray): ∀(k i:Nat) (acc:List UInt8),b.size-i=k→acc≠ []→ByteArray.toList.loop b i acc≠ []:=by intro k;induction k with | zero=>intro i acc h ha;unfold ByteArray.toList.loop;rw[ag eT];simpa using ha| succ k ih=>intro i acc h ha;unfold ByteArray.toList.loop;rw[ah eT];exact ih _ _ eT eU
theorem AX0{b:ByteArray} (h:b.toList=[]):b.data.toList=[]:=by
 rcases Nat.eq_zero_or_pos b.size with h0|h0;·have:b.data.toList.length=0:=h0;exact aY this
 ·exfalso;unfold ByteArray.toList at h;unfold ByteArray.toList.loop at h;rw[ah h0]at h;exact AXN b _ _ _ rfl eU h
theorem AVN{b:ByteArray} (h:b.data.toList=[]):b.toList=[]:=by
 have h0:b.size=0:=by have:=a7 List.length h;exact this
 unfold ByteArray.toList ByteArray.toList.loop;rw[ag eT];rfl
structure RfJoint (qb:Nat) (J:List UInt8→List ApiField→World→Prop):Prop where
  cell: ∀s acc W,J s acc W→ ∃b,b.data.toList=s∧QK b∧W.cell? ⟨qb,0,none⟩=some (.string b)∧W.frozen? ⟨qb,0,none⟩=false
  set: ∀s acc W b,J s acc W→QK b→J b.data.toList acc (W.setCell ⟨qb,0,none⟩ (.string b))
  below: ∀s acc W W',J s acc W→Below W.heap.size W W'→J s acc W'
  glob: ∀s acc W,J s acc W→RfG W
def AVB:ByteArray:=⟨#[38]⟩
set_option maxHeartbeats 1000000 in theorem ASB{qb l:Nat}{r:List ApiField}{J:List UInt8→List ApiField→World→Prop} (hJ:RfJoint qb J) (hY: ∀s acc acc' (x:ByteArray) W,J s acc W→QK x→Fq N x.data.toList acc=some acc'→YieldAt Fence.wide (n-1) Tryz.prog l #[.string x] W fun e W'=>e=.returned (.bool true)∧J s acc' W') {q:List UInt8}{W:World} (h0:J q [] W) (h:Dn N N q []=some r) (hn:1≤n):CallsIn Fence.wide n Tryz.prog 64 #[.func (.yield l) #[] #[],.pointer (some ⟨qb,0,none⟩)] W fun e W'=>(∃v,e=.returned v)∧∃s,J s r W':=by
 refine callsIn_of_wp Tryz.func64 rfl trivial ?_ rfl;simp only[Tryz.ntmps64,bU,ae,an,Nat.reduceAdd,Nat.reduceSub,dz,dA,d6,dK,ba,aJ];gi_wp2;gi_loopg [3] N (fun k p wr=>∃s acc,(p=.bool true∧J s acc wr∧Dn N k s acc=some r)∨(p=.bool false∧J s r wr));case atStart=>exact⟨q,[],.inl ⟨rfl,h0,h⟩⟩
 case round=>
  obtain⟨s,acc,⟨rfl,hj,he⟩|⟨rfl,hj⟩⟩:=hrel
  ·cases gk with
   |zero=>cases he
   | succ k=>
    rw[Dn]at he;obtain⟨y,hy,he1⟩:=cI.1 he;obtain⟨o,ho,he2⟩:=cI.1 he1;clear he he1;obtain⟨b,rfl,hbo,hc,hf⟩:=hJ.cell _ _ _ hj;have fin: ∀W',J y.2.1 o W'→∃k',k'<k+1∧∃s acc,(Value.bool y.2.2=.bool true∧J s acc W'∧Dn N k' s acc=some r)∨(Value.bool y.2.2=.bool false∧J s r W'):=by intro W' hw;cases hm:y.2.2 with |true=>rw[hm,ah rfl]at he2;exact⟨k,eT,y.2.1,o,.inl ⟨rfl,hw,he2⟩⟩| false=>rw[hm,ag eV]at he2;cases he2;exact⟨0,eT,y.2.1,r,.inr ⟨rfl,hw⟩⟩
    gi_wp2_with (refine⟨trivial,?_⟩;gi_at_call 26;refine(AN2 b AVB hbo (by unfold QK AVB;decide) hy wr (hJ.glob _ _ _ hj)).mono ?_;rintro e W1 ⟨a1,a2,rfl,ha1,ha2,ho1,ho2,hB⟩;have hj1:=hJ.below _ _ _ _ hj hB;obtain⟨b1,hb1,_,hc1,hf1⟩:=hJ.cell _ _ _ hj1)
    ·have hx:a1.toList=[]:=by assumption
     have hj2:J y.2.1 acc (W1.setCell ⟨qb,0,none⟩ (.string a2)):=by rw[←ha2];exact hJ.set _ _ _ a2 hj1 ho2
     refine⟨fun _ h=>(by cases h),?_⟩;rw[←ha1,AX0 hx]at ho;cases ho;obtain⟨k',hk,s',acc',hr⟩:=fin _ hj2;gi_wp2;gi_roundg k';case measure=>omega
     case rel=>exact⟨s',acc',hr⟩
    ·have hx: ¬a1.toList=[]:=by assumption
     have hj2:J y.2.1 acc (W1.setCell ⟨qb,0,none⟩ (.string a2)):=by rw[←ha2];exact hJ.set _ _ _ a2 hj1 ho2
     have hne:(y.1==[])=false:=by rw[←ha1];have:a1.data.toList≠ []:=fun h=>hx (AVN h);simpa using this
     rw[hne,ag eV,←ha1]at ho;obtain⟨fn,tmps,assign,body,hyy,hR⟩:=hY _ _ _ a1 _ hj2 ho1 ho;have hx2:a1.toList.isEmpty=false:=by simpa using hx
     rw[hyy];gi_wp2;refine hR.mono ?_;rintro e W3 ⟨rfl,hj3⟩;obtain⟨k',hk,s',acc',hr⟩:=fin _ hj3;simp only[hx2,bg];gi_wp2;gi_roundg k';case measure=>omega
     case rel=>exact⟨s',acc',hr⟩
  ·gi_wp2;go_end0;exact⟨⟨_,rfl⟩,s,hj⟩
def OP (l:List UInt8):ByteArray:=⟨l.toArray⟩
def OE (acc:List ApiField):List Value:=acc.flatMap fun f=>[.string (OP f.name),.string (OP f.value)]
theorem AIR{b:ByteArray}{l:List UInt8} (h:b.data.toList=l):b=OP l:=by subst h;cases b;simp[OP]
set_option maxHeartbeats 1000000 in theorem AOV (q:ByteArray) (w:World):CallsIn Fence.wide n Tryz.prog 25 #[.string q] w fun e w'=>e=.returned (.func (.func 64) #[] #[.pointer (some ⟨w.heap.size,0,none⟩)])∧w'=w.alloc (.cells #[.string q] 9):=by refine callsIn_of_wp Tryz.func25 rfl trivial ?_ rfl;simp only[Tryz.ntmps25,bU,ae,an,Nat.reduceAdd,Nat.reduceSub,dz,dA,d6,dK,ba,aJ];gi_wp2;go_ret;exact⟨rfl,rfl⟩
theorem ANw{W W':World} (h:Below W.heap.size W W'):W.grownBy W' none:=⟨h.os,h.tape,h.output,h.size,fun k hk _=>h.block k hk⟩
structure RfInv (w:World) (s:List UInt8) (acc:List ApiField) (W:World):Prop where
  bel:Below w.heap.size w W
  q: ∃b,b.data.toList=s∧QK b∧Boxed W (w.heap.size+1) 9 (.string b)
  o:((∀f,f∈acc→f.name.length≤DY∧f.value.length≤DY)∧acc.length≤DY)∧ ∃v,Boxed W w.heap.size 37 v∧W.ownsRow w.heap.size 75 2 v acc.length (OE acc)
theorem RfInv.mono{w W W':World} {s acc} (h:RfInv w s acc W) (hB:Below W.heap.size W W'):RfInv w s acc W':=by
 obtain⟨h1,⟨b,h2,h3,h4⟩,hs,v,h5,h6⟩:=h;have hg:=ANw hB;refine⟨h1.trans (hB.mono h1.size),⟨b,h2,h3,h4.kept hg eU⟩,hs,v,h5.kept hg eU,h6.kept hg ?_⟩;rcases h6.2 with⟨rfl,_⟩|⟨g,cap,cur,rfl,_⟩;·exact .inl rfl
 ·exact .inr (by simp[Value.ownBlock])
theorem RfInv.putObj{w W:World} {s acc} (h:RfInv w s acc W){l:Nat}{o:Obj} (o':Obj) (hl:W.heap[l]?=some o) (ho:o.isCells=false) (hw:w.heap.size≤l):RfInv w s acc (W.putObj l o'):=by
 obtain⟨h1,⟨b,h2,h3,h4⟩,hs,v,h5,h6⟩:=h;have hne: ∀ {B:Nat}{t:TypeId}{u:Value},Boxed W B t u→some B≠some l:=fun hb e=>by cases e;rw[show W.heap[_]?=_ from hb]at hl;cases hl;cases ho
 have hg:=grownBy_putObj' W l o';exact⟨h1.grown hg h1.size (fun k e=>by cases e;exact hw),⟨b,h2,h3,h4.kept hg (hne h4)⟩,hs,v,h5.kept hg (hne h5),ownsRow_putObj h6 o' hl ho⟩
theorem RfInv.setq{w W:World} {s acc} (h:RfInv w s acc W){b:ByteArray} (hb:QK b):RfInv w b.data.toList acc (W.setCell ⟨w.heap.size+1,0,none⟩ (.string b)):=by obtain⟨h1,⟨b0,h2,h3,h4⟩,hs,v,h5,h6⟩:=h;have hg:=grownBy_setCell' W (w.heap.size+1) (.string b);exact⟨h1.setCell (p:=⟨w.heap.size+1,0,none⟩) (Nat.le_succ _) _,⟨b,rfl,hb,h4.set _⟩,hs,v,h5.kept hg eU,h6.kept hg (.inr (h4.not_row eV h6).symm)⟩
theorem AWJ (W:World) (a b:Value) (e:TypeId): ∀(j:Nat) (u:Value),[a,b][j]?=some u→(W.alloc (.cells #[a,b] e)).cell? ((⟨W.heap.size,0,none⟩:Addr).add j)=some u:=by intro j u h;have e1:(W.alloc (.cells #[a,b] e)).heap[W.heap.size]?=some (.cells #[a,b] e):=World.alloc_heap_new W _;match j with |0=>cases h;show World.cell? _ ⟨W.heap.size,0+0,none⟩=_;unfold World.cell?;rw[e1];rfl|1=>cases h;show World.cell? _ ⟨W.heap.size,0+1,none⟩=_;unfold World.cell?;rw[e1];rfl|_+2=>cases h
theorem ATH:(Tryz.prog.info? 75).map (fun i=>(i.zero,i.size,i.bytes))=some (some (.agg #[.string ⟨#[]⟩,.string ⟨#[]⟩]),2,32):=by kernel_rfl
def AX2:ByteArray:=⟨#[61]⟩
set_option maxHeartbeats 2000000 in theorem AJu (q:ByteArray) (hq:QK q) {r} (h:Dn N N q.data.toList []=some r) (w:World) (hG:RfG w):CallsIn Fence.wide 10 Tryz.prog 8 #[.string q] w fun e W'=>∃v,e=.returned v∧W'.ownsRow w.heap.size 75 2 v r.length (OE r)∧Below w.heap.size w W'∧(∀f,f∈r→f.name.length≤DY∧f.value.length≤DY)∧r.length≤DY:=by
 obtain⟨i0,hi,hz0,hz1,hz2⟩:=info_parts ATH;refine callsIn_of_wp_marks Tryz.func8 rfl trivial ?_ rfl;simp only[Tryz.ntmps8,bU,ae,an,Nat.reduceAdd,Nat.reduceSub,dz,dA,d6,dK,ba,aJ];gi_wp2_with (refine⟨trivial,?_⟩;gi_at_call 25;refine(AOV _ _).mono ?_;rintro e w' ⟨rfl,rfl⟩);have bO:=Boxed.new w 37 (.slice none 0 0);have bN:=Boxed.new (w.alloc (.cells #[.slice none 0 0] 37)) 9 (.string q);rw[cE]at bN;have hB0:Below w.heap.size w ((w.alloc (.cells #[.slice none 0 0] 37)).alloc (.cells #[.string q] 9)):=((Below.refl _ w).alloc (ao _) _).alloc eU _;have hP0:RfInv w q.data.toList [] ((w.alloc (.cells #[.slice none 0 0] 37)).alloc (.cells #[.string q] 9)):=⟨hB0,⟨q,rfl,hq,bN⟩,⟨eU,eU⟩,_,bO.alloc _,World.ownsRow_nil _ _ _ _⟩;have hsz:((w.alloc (.cells #[.slice none 0 0] 37)).alloc (.cells #[.string q] 9)).heap.size=w.heap.size+2:=eU;generalize (w.alloc (.cells #[.slice none 0 0] 37)).alloc (.cells #[.string q] 9)=W0 at *;refine AJ8 eV (gf:=64) (lb:=#[.pointer (some ⟨w.heap.size+1,0,none⟩)]) rfl (enters_of Tryz.func64 (by kernel_rfl) rfl) (fun W=>∃s,RfInv w s r W) ?_ ?_
 ·intro fn W1 rc hrc hW1;have hP1:RfInv w q.data.toList [] W1:=by rw[hW1];exact hP0.mono (((Below.refl _ W0).alloc (ao _) _).alloc eU _)
  have hL1:W1.heap[W0.heap.size+1]?=some (.loop (rc .ready)):=by rw[hW1];have:=World.alloc_heap_new (W0.alloc (.deferred (some []))) (.loop (rc .ready));rwa[cE]at this
  have hK1:W1.heap[W0.heap.size]?=some (.deferred (some [])):=by rw[hW1];exact(Below.heap_alloc _ _ _ eU).trans (World.alloc_heap_new W0 _)
  clear hW1;have key:=ASB (N:=N) (n:=9) (qb:=w.heap.size+1) (l:=W0.heap.size+1) (r:=r) (q:=q.data.toList) (W:=W1) (J:=fun s acc W=>RfInv w s acc W∧W.heap[W0.heap.size+1]?=W1.heap[W0.heap.size+1]?∧W.heap[W0.heap.size]?=some (.deferred (some []))) ?_ ?_ ⟨hP1,rfl,hK1⟩ h eV;·refine key.mono ?_;rintro e W' ⟨hv,s,hp,hl,hk⟩;exact⟨hv,hl.trans hL1,hk,s,hp⟩
  ·refine⟨?_,?_,?_,fun s acc W h=>RfGbelow hG rfl h.1.bel⟩;·rintro s acc W ⟨⟨_,⟨b,h2,h3,h4⟩,_⟩,_,_⟩;exact⟨b,h2,h3,h4.cell,h4.frozen⟩
   ·rintro s acc W b ⟨hp,hl,hk⟩ hb;refine⟨hp.setq hb,?_,?_⟩;·exact(Below.heap_setCell _ _ _ _ eW).trans hl
    ·exact(Below.heap_setCell _ _ _ _ eW).trans hk
   ·rintro s acc W W' ⟨hp,hl,hk⟩ hB;refine⟨hp.mono hB,?_,?_⟩;·have:=(aD.1 (hl.trans hL1)).1;exact(hB.block _ this).trans hl
    ·have:=(aD.1 hk).1;exact(hB.block _ this).trans hk
  ·rintro s acc acc' x W ⟨hp,hl,hk⟩ hx hb;refine(AKB (R:=fun W3=>RfInv w s acc' W3∧W3.heap[W0.heap.size]?=some (.deferred (some []))) (hrc▸(hl.trans hL1)) rfl ?_).mono ?_
   ·obtain⟨c,hc,hb1⟩:=cI.1 hb;obtain⟨d,hd,hb2⟩:=cI.1 hb1;clear hb hb1;have hyes:(d.2==0)=true→CW (acc.length+1) 32∧acc++[⟨c.1,d.1⟩]=acc':=fun h0=>by
     rw[ah h0]at hb2;unfold grd at hb2;split at hb2;·rename_i hf;cases hb2;exact⟨hf,rfl⟩
     ·cases hb2
    have hl2:=hl.trans hL1;have hpB:=hp.putObj (.loop (rc .busy)) hl2 rfl eT;have hlB:(W.putObj (W0.heap.size+1) (.loop (rc .busy))).heap[W0.heap.size+1]?=some (.loop (rc .busy)):=World.putObj_heap_same (aD.1 hl2).1;have hkB:(W.putObj (W0.heap.size+1) (.loop (rc .busy))).heap[W0.heap.size]?=some (.deferred (some [])):=(World.putObj_heap_other eT).trans hk;rw[←hrc];have hD:w.heap.size≤W0.heap.size:=eT;clear hsz hrc;gi_wp2;refine⟨trivial,?_⟩;generalize W.putObj (W0.heap.size+1) (.loop (rc .busy))=WB at *;have keepB: ∀ {A B:World}{k:Nat}{o:Obj},Below A.heap.size A B→A.heap[k]?=some o→B.heap[k]?=some o:=fun hB h=>(hB.block _ (aD.1 h).1).trans h;gi_wp2_with (first | (refine⟨trivial,?_⟩;gi_at_call 26;refine(CallsIn.inRound _ (AN2 x AX2 hx (by unfold QK AX2;decide) hc WB (RfGbelow hG rfl hpB.bel))).mono ?_;rintro e W4 ⟨a1,a2,rfl,ha1,ha2,ho1,ho2,hB4⟩;have hp4:=hpB.mono hB4;have hl4:=keepB hB4 hlB;have hk4:=keepB hB4 hkB) | (refine⟨trivial,?_⟩;gi_at_call 27;refine(CallsIn.inRound _ (AVf a2 ho2 (y:=d) (by rw[ha2];exact hd) W4 (RfGbelow hG rfl hp4.bel))).mono ?_;rintro e W5 ⟨a3,rfl,ha3,ho3,hB5⟩;obtain⟨hbel,hqq,hst,v,hv,hrow⟩:=hp4.mono hB5;have hl5:=keepB hB5 hl4;have hk5:=keepB hB5 hk4;have hcv:=hv.cell;have hfv:=hv.frozen) | (gi_at_builtin;obtain⟨hft,hacc⟩:=hyes (by assumption);refine wpListIn_append_own _ rfl _ _ 37 rfl w.heap.size 75 i0 _ 2 32 Tryz.underlying37 hi hz0 hz1 hz2 rfl eV _ _ _ rfl (hrow.alloc _) ⟨W5.heap.size,0,none⟩ 1 1 [.string a1,.string a3] rfl rfl (AWJ _ _ _ _) (by simp[Value.oneCell']) (by unfold CW at hft;unfold maxLen;omega) hft.1 (by have:=hbel.size;simp;omega) ?_;intro v' w1 hown' hgrow _;obtain⟨g',cap',rfl⟩:=ownsRow_succ hown';obtain⟨hv1,hv2,hr2,hk2,hb3⟩:=hv.appended eV hrow hbel.size (ao _) hown' hgrow;have hc1:=hv1.cell;have hf1:=hv1.frozen))
    ·obtain⟨bq,hq1,hq2,hq3⟩:=hqq;have hq4:=((hq3.alloc (.cells #[.string a1,.string a3] 75)).kept hgrow (hq3.not_row eV hrow)).kept (grownBy_setCell' w1 w.heap.size (.slice (some ⟨g',0,none⟩) (acc.length+1) cap')) eU;refine⟨hk2.same _ _ hl5 rfl,⟨hbel.trans hb3,⟨bq,hq1,hq2,hq4⟩,?_,_,hv2,?_⟩,hk2.same _ _ hk5 rfl⟩
     ·rw[←hacc];refine⟨fun f hf=>?_,by unfold CW at hft;unfold DY;simp;omega⟩;rcases aV.1 hf with hf|hf;·exact hst.1 f hf
      ·rcases bh.1 hf with rfl;exact⟨by dsimp only;rw[←ha1];exact ho1,by dsimp only;rw[←ha3];exact ho3⟩
     have e1:=AIR ha1;have e3:=AIR ha3;subst e1 e3;rw[←hacc,show(acc++[(⟨c.1,d.1⟩:ApiField)]).length=acc.length+1 by simp,show OE (acc++[(⟨c.1,d.1⟩:ApiField)])=OE acc++[.string (OP c.1),.string (OP d.1)] by simp[OE]];exact hr2
    ·have hne: ¬(d.2==0)=true:=by first| assumption| (intro hh;simp_all)
     rw[ag hne]at hb2;cases hb2;exact⟨hbel,hqq,hst,v,hv,hrow⟩
   ·rintro e W' ⟨rfl,W3,⟨hp3,hk3⟩,hl3,rfl⟩;refine⟨rfl,hp3.putObj _ hl3 rfl eT,?_,?_⟩;·rw[←hrc];exact(World.putObj_heap_same (aD.1 hl3).1).trans hL1.symm
    ·exact(World.putObj_heap_other eT).trans hk3
 ·rintro W rr ⟨s,hp⟩ hl hk o;have hp':=hp.putObj o hl rfl eT;obtain⟨hB,_,hst,v,hv,hrow⟩:=hp';have hc:=hv.cell;have hk':(W.putObj (W0.heap.size+1) o).heap[W0.heap.size]?=some (.deferred (some [])):=(World.putObj_heap_other eT).trans hk;have hD:w.heap.size≤W0.heap.size:=eT;clear hsz;generalize W.putObj (W0.heap.size+1) o=W5 at *;gi_wp2;refine⟨eU,.inl ⟨_,_,rfl,run_takeDeferred hk',?_⟩⟩;exact⟨_,results_tmp rfl _ _ _,v,rfl,ownsRow_putObj hrow _ hk' rfl,hB.trans (belowK_b (w:=w) (ao _) _ W0.heap.size _ _ hD hk' rfl rfl),hst⟩
theorem Np (l:List UInt8):(OP l).data.toList=l:=by simp[OP]
theorem AOt{Γ:Ghost}: ∀(acc:List ApiField),(∀f,f∈acc→f.name.length≤DY∧f.value.length≤DY)→RepS Γ 2 (acc.map Cu) (OE acc)
 |[],_=>.nil _ _
 | f::acc,h=>by
  obtain⟨h1,h2⟩:=h f eU;have ih:=AOt (Γ:=Γ) acc fun g hg=>h g (by simp[hg]);have hr:Rep Γ (Cu f) (.agg #[.string (OP f.name),.string (OP f.value)]):=by
   refine .agg (.cons ?_ (.cons ?_ .nil)) (by simp[Value.oneCell']);·have:=Rep.str (Γ:=Γ) (OP f.name) (by rw[Np];exact h1);rwa[Np]at this
   ·have:=Rep.str (Γ:=Γ) (OP f.value) (by rw[Np];exact h2);rwa[Np]at this
  have hc:(Value.agg #[.string (OP f.name),.string (OP f.value)]).cells= #[.string (OP f.name),.string (OP f.value)]:=rfl;have:=RepS.cons hr (by rw[hc];exact⟨rfl,by simp[Value.oneCell']⟩) ih;rw[hc]at this;exact this
theorem Su {a0 r} (h:Ji N a0=some r) (ha:args=[.str a0]) (hQ: ∀n',n≤n'→Gl (Q (.slice 2 (List.map Cu r) false) ⟨m,n'⟩)):ACall vE 8 args ⟨m,n⟩ Q:=by
 subst ha;constructor;intro F Γ w cargs hs;have hrep:=hs.rep;generalize hv:cargs.toList=vs at hrep;cases hrep with
 | cons h1 h2=>
  cases h2;cases h1 with
  | str b hb=>
   have hc:cargs= #[.string b]:=dv.1 (by rw[hv]);subst hc;refine(callsIn_wide.1 (AJu b hb h w (RfGof hs))).mono ?_;rintro e W' ⟨v,rfl,⟨hlen,hrow⟩,hB,hst⟩;refine⟨v,rfl,?_⟩;rcases hrow with⟨rfl,h0⟩|⟨g,cap,cur,rfl,hg,hh,hk,hcap,hcs,hx⟩;·have hr0:r=[]:=aY h0;subst hr0;obtain⟨e1,e2⟩:=hs.behind (Γ':=Γ) hB Γ.le_refl rfl rfl rfl (fun _ _=>⟨rfl,rfl⟩) (fun b cs hb hc=>by have:=hs.com_lt hc;omega) (fun b e hb hc=>by obtain⟨cs,hcs⟩:=hs.tyd.2 _ _ hc;exact⟨cs,hcs⟩) (r:=.slice 2 [] false) (v:=.slice none 0 0) (.snil 2 false none) (by simp[VM.own]) (fun b=>rfl);exact⟨Γ,_,⟨m,n⟩,e1,ao _,e2,(hQ n (ao _)).go⟩
   ·have hn:=hs.com_none hg;have hle:Γ.le (Γ.arr g cur.toList 75):=by
     refine⟨fun b cs h=>⟨[],?_⟩,fun i b h=>h,fun i x h=>h,fun b x h=>?_,fun _ _ h=>h⟩;·have:=hs.com_lt h;simp only[Ghost.arr];rw[ag eT];simpa using h
     ·obtain⟨cs,hc⟩:=hs.tyd.2 _ _ h;have:=hs.com_lt hc;simp only[Ghost.arr];rw[ag eT];exact h
    have hcom:(Γ.arr g cur.toList 75).com g=some cur.toList:=by simp[Ghost.arr]
    have hS:RepS (Γ.arr g cur.toList 75) 2 (r.map Cu) cur.toList:=by have:=(AOt (Γ:=Γ.arr g cur.toList 75) r hst.1).more (cur.toList.drop (r.length * 2));rwa[←hx,bF]at this
    have hlm:r.length≤DY:=hst.2;obtain⟨e1,e2⟩:=hs.behind (Γ':=Γ.arr g cur.toList 75) hB hle rfl rfl rfl (fun b hb=>by simp only[Ghost.arr];rw[ag eT,ag eT];exact⟨rfl,rfl⟩) (fun b cs hb hc=>by
     simp only[Ghost.arr]at hc;split at hc;·rename_i hbg;subst hbg;cases hc;exact⟨cur,75,(0,0),hh,⟨[],eU⟩,fun T hT=>by simp[Ghost.arr]at hT;exact hT⟩
     ·have:=hs.com_lt hc;omega) (fun b e hb hc=>by
     simp only[Ghost.arr]at hc⊢;split at hc;·rename_i hbg;exact⟨_,by rw[ah hbg]⟩
     ·rename_i hbg;obtain⟨cs,hcs⟩:=hs.tyd.2 _ _ hc;exact⟨cs,by rw[ag hbg];exact hcs⟩) (r:=.slice 2 (r.map Cu) false) (v:=.slice (some ⟨g,0,none⟩) r.length cap) (.slice false hcom eU ⟨hk,hlm⟩ hS (fun h=>by cases h)) (by simp[VM.own]) (fun b=>rfl);exact⟨Γ.arr g cur.toList 75,_,⟨m,n⟩,e1,ao _,e2,(hQ n (ao _)).go⟩
end
instance APF {a0}:CF vE (Ji N a0) 8 [.str a0] (fun r=>.slice 2 (List.map Cu r) false):=⟨fun h hQ=>Su h rfl hQ⟩
instance AU5 {a0}:CF vE (HZ N a0) 42 [.str a0] (fun r=>.tuple [Ed r.1,.int .i64 r.2]):=Ae (HZ.eq_1 ..) Tryz.func42 rfl Tryz.ntmps42 Tryz.results42 [(7,[],.stop),(10,[],.take 0 (.take 1 (.take 2 (.take 3 (.take 4 (.take 5 (.take 6 (.take 7 (.alt 8 [6,5,4,3] (.take 9 (.alt 10 [6,5,4,3] (.alt 11 [] (.done) (.stop)) (.stop))) (.stop)))))))))),(17,[],.take 0 (.take 1 (.take 2 (.take 3 (.take 4 (.take 5 (.take 6 (.alt 7 [5,4,3] (.alt 8 [] (.done) (.stop)) (.stop)))))))))]
instance ALy {a0 a1}:CF vE (Gb N a0 a1) 142 [.str a0,.int .u64 a1] (fun r=>.tuple [.int .u64 r.1,.int .i64 r.2]):=Ae (Gb.eq_1 ..) Tryz.func142 rfl Tryz.ntmps142 Tryz.results142 [(1,[],.stop)]
instance ALz {a0 a1}:CF vE (strings_Split N a0 a1) 170 [.str a0,.str a1] (fun r=>.slice 1 (List.map AVal.str r) false):=Ae (strings_Split.eq_1 ..) Tryz.func170 rfl Tryz.ntmps170 Tryz.results170
instance ARh {a0 a1}:CF vE (J7 N a0 a1) 49 [Ed a0,Ed a1] (fun r=>Ed r):=Ae (J7.eq_1 ..) Tryz.func49 rfl Tryz.ntmps49 Tryz.results49 [(11,[],.take 0 (.take 1 (.take 2 (.take 3 (.take 4 (.alt 5 [3,2] (.take 6 (.alt 7 [] (.done) (.stop))) (.stop))))))),(12,[],.take 0 (.take 1 (.take 2 (.take 3 (.take 4 (.alt 5 [3,2] (.take 6 (.alt 7 [] (.done) (.stop))) (.stop))))))),(14,[],.take 0 (.take 1 (.take 2 (.take 3 (.take 4 (.alt 5 [3,2] (.take 6 (.alt 7 [] (.done) (.stop))) (.stop)))))))]
@[reducible, instance] def AEy {k13 xs} := LQ.mk (X := Cn N k13 xs) (G := fun xs i (s : Unit) => Cn N k13 xs) (s := ()) (js := [(3, 1), (7, 3), (49, 12)]) (cs := [48]) (V := fun i s => [.int .i64 i]) (Ms := fun i s => []) (fun _ => rfl) (fun i s => Cn.eq_1 ..) (fun x xs i s => Cn.eq_2 ..)
@[reducible, instance] def AEw {k25 xs} := LQ.mk (X := Cj N k25 xs) (G := fun xs i (s : Unit) => Cj N k25 xs) (s := ()) (js := [(3, 1), (68, 18)]) (cs := [13]) (V := fun i s => [.int .i64 i]) (Ms := fun i s => []) (fun _ => rfl) (fun i s => Cj.eq_1 ..) (fun x xs i s => Cj.eq_2 ..)
@[reducible, instance] def AEp {k20 xs s63 s10} := LR.mk (X := Bb N k20 xs s63 s10) (G := fun xs i (s : (List UInt8)) => Bb N k20 xs i s) (i := s63) (s := s10) (js := [(3, 1), (11, 5), (64, 36)]) (cs := [10, 63]) (V := fun i s => [.str s, .int .i64 i]) (Ms := fun i s => []) rfl (fun i s => Bb.eq_1 ..) (fun x xs i s => Bb.eq_2 ..)
instance AJZ {a0}:CF vE (GA N a0) 54 [.str a0] (fun r=>.tuple [Jy r.1,.int .i64 r.2]):=Ae (GA.eq_1 ..) Tryz.func54 rfl Tryz.ntmps54 Tryz.results54 [(26,[],.stop)]
@[reducible, instance] def AHl {k2 xs s3} := LQ.mk (X := Dr N k2 xs s3) (G := fun xs i (s : (List ApiField)) => Dr N k2 xs s) (s := s3) (js := [(5, 4), (13, 28)]) (cs := [3, 12]) (V := fun i s => [.slice 2 (List.map Cu s) true, .int .i64 i]) (Ms := fun i s => []) (fun _ => rfl) (fun i s => Dr.eq_1 ..) (fun x xs i s => Dr.eq_2 ..)
instance AQ4 {a0}:CF vE (JH N a0) 60 [.str a0] (fun r=>.slice 2 (List.map Cu r) false):=Ae (JH.eq_1 ..) Tryz.func60 rfl Tryz.ntmps60 Tryz.results60 [(7,[],.stop),(8,[32],.done)]
@[reducible, instance] def AHx {k4 xs} := LQ.mk (X := Dk N k4 xs) (G := fun xs i (s : Unit) => Dk N k4 xs) (s := ()) (js := [(2, 1), (5, 3), (13, 11)]) (cs := [12]) (V := fun i s => [.int .i64 i]) (Ms := fun i s => []) (fun _ => rfl) (fun i s => Dk.eq_1 ..) (fun x xs i s => Dk.eq_2 ..)
instance AOh {a0}:CF vE (Jc N a0) 178 [.str a0] (fun r=>.bool r):=Ae (Jc.eq_1 ..) Tryz.func178 rfl Tryz.ntmps178 Tryz.results178
instance ASr {a0}:CF vE (K3 N a0) 156 [.str a0] (fun r=>.tuple [.int .i64 r.1,.int .i64 r.2]):=Ae (K3.eq_1 ..) Tryz.func156 rfl Tryz.ntmps156 Tryz.results156 [(2,[],.stop)]
end Go.Proofs.YtmalodjbhonipaaGreatDoor
