import Derived.Test.YtjgdhjpafjpjgaaGreatDoorVmFacts
import Derived.Test.YtjgdhjpafjpjgaaGreatDoorDefs
import Derived.Test.YtjgdhjpafjpjgaaGreatDoorVM7
import Derived.Test.YtjgdhjpafjpjgaaGreatDoorW1
import Derived.Test.YtjgdhjpafjpjgaaGreatDoorW2
import Derived.Test.YtjgdhjpafjpjgaaGreatDoorW3
import Derived.Test.YtjgdhjpafjpjgaaGreatDoorW4
import Derived.Test.YtjgdhjpafjpjgaaGreatDoorW5
import Derived.Test.YtjgdhjpafjpjgaaGreatDoorW6
import Derived.Test.YtjgdhjpafjpjgaaGreatDoorW7
import Derived.Test.YtjgdhjpafjpjgaaGreatDoorW8
import Derived.Test.YtjgdhjpafjpjgaaGreatDoorW9
import Derived.Test.YtjgdhjpafjpjgaaGreatDoorW10
import Derived.Test.YtjgdhjpafjpjgaaGreatDoorVM5
import Derived.Test.YtjgdhjpafjpjgaaGreatDoorVM6
set_option linter.unusedVariables false
set_option linter.unusedSimpArgs false
set_option maxHeartbeats 4000000
set_option maxRecDepth 100000
set_option linter.defProp false
namespace Go.Proofs.YtjgdhjpafjpjgaaGreatDoor
open Go.VM
attribute [local irreducible] AA grd letL
variable{N n:Nat}{m:MS}{Q:PQ}{args:List AVal}
section
open Go.RowKit Go.Shelf
attribute [local go_sem] Oper.semAt_some
theorem AJr{W:World}: ∀g cs,vE.T g=some cs→Rep (Hz W) (.cptr cs) (.pointer (some ⟨g,0,none⟩)):=fun g cs h=>by cases h
def Qs (b:ByteArray):Prop:=b.data.toList.length≤Dk
theorem AQO (s c:ByteArray) (hs:Qs s) (hc:Qs c) {y} (h:strings_Cut N s.data.toList c.data.toList=some y) (W:World):
    CallsIn Fence.wide n Tryz.prog 38 #[.string s,.string c] W fun e W'=> ∃a b,e=.returned (.tuple #[.string a,.string b,.bool y.2.2])∧a.data.toList=y.1∧b.data.toList=y.2.1∧Qs a∧Qs b∧Below W.heap.size W W':=by
  refine callsIn_wide.2 ?_
  have hw:ACall vE 38 [.str s.data.toList,.str c.data.toList] ⟨[],0⟩ (fun r _=>r=.tuple [.str y.1,.str y.2.1,.bool y.2.2]):=Ve h rfl (fun _ _=>⟨rfl⟩)
  refine(ACall.shell (W:=W) (cargs:= #[.string s,.string c]) AJr (args':=[.str s.data.toList,.str c.data.toList]) (.cons (.str s hs) (.cons (.str c hc) .nil)) (by simp[stripL,AVal.strip]) hw).mono ?_
  rintro e W' ⟨v,rfl,hB,Γ',r,st',hr,rfl⟩
  cases hr with
  | @tuple cs arr h=>
    generalize ha:arr.toList=vs at h
    cases h with
    | cons h1 h=>
      cases h with
      | cons h2 h=>
        cases h with
        | cons h3 h=>
          cases h
          cases h3
          generalize e1:y.1=l1 at h1
          generalize e2:y.2.1=l2 at h2
          cases h1 with
          | str a ha'=>
            cases h2 with
            | str b hb'=>
              refine⟨a,b,?_,rfl,rfl,ha',hb',hB⟩
              congr 2
              exact Array.toList_inj.1 ha
theorem AZV (s:ByteArray) (hs:Qs s) {y} (h:E9 N s.data.toList=some y) (W:World):
    CallsIn Fence.wide n Tryz.prog 39 #[.string s] W fun e W'=> ∃a,e=.returned (.tuple #[.string a,.int .i64 y.2])∧a.data.toList=y.1∧Qs a∧Below W.heap.size W W':=by
  refine callsIn_wide.2 ?_
  have hw:ACall vE 39 [.str s.data.toList] ⟨[],0⟩ (fun r _=>r=.tuple [.str y.1,.int .i64 y.2]):=RQ h rfl (fun _ _=>⟨rfl⟩)
  refine(ACall.shell (W:=W) (cargs:= #[.string s]) AJr (args':=[.str s.data.toList]) (.cons (.str s hs) .nil) (by simp[stripL,AVal.strip]) hw).mono ?_
  rintro e W' ⟨v,rfl,hB,Γ',r,st',hr,rfl⟩
  cases hr with
  | @tuple cs arr h=>
    generalize ha:arr.toList=vs at h
    cases h with
    | cons h1 h=>
      cases h with
      | cons h2 h=>
        cases h
        cases h2
        generalize e1:y.1=l1 at h1
        cases h1 with
        | str a ha'=>
          refine⟨a,?_,rfl,ha',hB⟩
          congr 2
          exact Array.toList_inj.1 ha
theorem AZ4 (b:ByteArray): ∀(k i:Nat) (acc:List UInt8),b.size-i=k→acc≠ []→ByteArray.toList.loop b i acc≠ []:=by
  intro k
  induction k with
  | zero=>
    intro i acc h ha
    unfold ByteArray.toList.loop
    rw[if_neg (by omega)]
    simpa using ha
  | succ k ih=>
    intro i acc h ha
    unfold ByteArray.toList.loop
    rw[if_pos (by omega)]
    exact ih _ _ (by omega) (by simp)
theorem AaL{b:ByteArray} (h:b.toList=[]):b.data.toList=[]:=by
  rcases Nat.eq_zero_or_pos b.size with h0|h0
  · have:b.data.toList.length=0:=h0
    exact List.eq_nil_of_length_eq_zero this
  · exfalso
    unfold ByteArray.toList at h
    unfold ByteArray.toList.loop at h
    rw[if_pos h0]at h
    exact AZ4 b _ _ _ rfl (by simp) h
theorem AX6{b:ByteArray} (h:b.data.toList=[]):b.toList=[]:=by
  have h0:b.size=0:=by
    have:=congrArg List.length h
    exact this
  unfold ByteArray.toList ByteArray.toList.loop
  rw[if_neg (by omega)];rfl
structure RfJoint (qb:Nat) (J:List UInt8→List ApiField→World→Prop):Prop where
  cell: ∀s acc W,J s acc W→ ∃b,b.data.toList=s∧Qs b∧W.cell? ⟨qb,0,none⟩=some (.string b)∧W.frozen? ⟨qb,0,none⟩=false
  set: ∀s acc W b,J s acc W→Qs b→J b.data.toList acc (W.setCell ⟨qb,0,none⟩ (.string b))
  below: ∀s acc W W',J s acc W→Below W.heap.size W W'→J s acc W'
def AXe:ByteArray:=⟨#[38]⟩
set_option maxHeartbeats 1000000 in
theorem AW5{qb l:Nat}{r:List ApiField}{J:List UInt8→List ApiField→World→Prop} (hJ:RfJoint qb J)
    (hY: ∀s acc acc' (x:ByteArray) W,J s acc W→Qs x→Fz N x.data.toList acc=some acc'→YieldAt Fence.wide (n-1) Tryz.prog l #[.string x] W fun e W'=>e=.returned (.bool true)∧J s acc' W')
    {q:List UInt8}{W:World} (h0:J q [] W) (h:D5 N N q []=some r) (hn:1≤n):
    CallsIn Fence.wide n Tryz.prog 87 #[.func (.yield l) #[] #[],.pointer (some ⟨qb,0,none⟩)] W fun e W'=>(∃v,e=.returned v)∧ ∃s,J s r W':=by
  refine callsIn_of_wp Tryz.func87 rfl trivial ?_ rfl
  simp only[Tryz.ntmps87,List.size_toArray,List.length_cons,List.length_nil,Nat.reduceAdd,Nat.reduceSub,Array.replicate_succ,Array.replicate_zero,List.push_toArray,List.append_toArray,List.nil_append,List.cons_append]
  gi_wp2
  gi_loopg [3] N (fun k p wr=> ∃s acc,(p=.bool true∧J s acc wr∧D5 N k s acc=some r)∨(p=.bool false∧J s r wr))
  case atStart=>exact⟨q,[],.inl ⟨rfl,h0,h⟩⟩
  case round=>
    obtain⟨s,acc,⟨rfl,hj,he⟩|⟨rfl,hj⟩⟩:=hrel
    · cases gk with
      |zero=>cases he
      | succ k=>
        rw[D5]at he
        obtain⟨y,hy,he1⟩:=Option.bind_eq_some_iff.1 he
        obtain⟨o,ho,he2⟩:=Option.bind_eq_some_iff.1 he1
        clear he he1
        obtain⟨b,rfl,hbo,hc,hf⟩:=hJ.cell _ _ _ hj
        have fin: ∀W',J y.2.1 o W'→ ∃k',k'<k+1∧ ∃s acc,(Value.bool y.2.2=.bool true∧J s acc W'∧D5 N k' s acc=some r)∨(Value.bool y.2.2=.bool false∧J s r W'):=by
          intro W' hw
          cases hm:y.2.2 with
          |true=>rw[hm,if_pos rfl]at he2;exact⟨k,by omega,y.2.1,o,.inl ⟨rfl,hw,he2⟩⟩
          | false=>
            rw[hm,if_neg (by decide)]at he2
            cases he2
            exact⟨0,by omega,y.2.1,r,.inr ⟨rfl,hw⟩⟩
        gi_wp2_with (refine⟨trivial,?_⟩;gi_at_call 38;refine(AQO b AXe hbo (by unfold Qs AXe;decide) hy wr).mono ?_;rintro e W1 ⟨a1,a2,rfl,ha1,ha2,ho1,ho2,hB⟩;have hj1:=hJ.below _ _ _ _ hj hB;obtain⟨b1,hb1,_,hc1,hf1⟩:=hJ.cell _ _ _ hj1)
        · have hx:a1.toList=[]:=by assumption
          have hj2:J y.2.1 acc (W1.setCell ⟨qb,0,none⟩ (.string a2)):=by rw[←ha2];exact hJ.set _ _ _ a2 hj1 ho2
          refine⟨fun _ h=>(by cases h),?_⟩
          rw[←ha1,AaL hx]at ho
          cases ho
          obtain⟨k',hk,s',acc',hr⟩:=fin _ hj2
          gi_wp2
          gi_roundg k'
          case measure=>omega
          case rel=>exact⟨s',acc',hr⟩
        · have hx: ¬a1.toList=[]:=by assumption
          have hj2:J y.2.1 acc (W1.setCell ⟨qb,0,none⟩ (.string a2)):=by rw[←ha2];exact hJ.set _ _ _ a2 hj1 ho2
          have hne:(y.1==[])=false:=by
            rw[←ha1]
            have:a1.data.toList≠ []:=fun h=>hx (AX6 h)
            simpa using this
          rw[hne,if_neg (by decide),←ha1]at ho
          obtain⟨fn,tmps,assign,body,hyy,hR⟩:=hY _ _ _ a1 _ hj2 ho1 ho
          have hx2:a1.toList.isEmpty=false:=by simpa using hx
          rw[hyy]
          gi_wp2
          refine hR.mono ?_
          rintro e W3 ⟨rfl,hj3⟩
          obtain⟨k',hk,s',acc',hr⟩:=fin _ hj3
          simp only[hx2,Bool.not_false]
          gi_wp2
          gi_roundg k'
          case measure=>omega
          case rel=>exact⟨s',acc',hr⟩
    · gi_wp2
      go_end0
      exact⟨⟨_,rfl⟩,s,hj⟩
def Oy (l:List UInt8):ByteArray:=⟨l.toArray⟩
def OT (acc:List ApiField):List Value:=acc.flatMap fun f=>[.string (Oy f.name),.string (Oy f.value)]
theorem AJn{b:ByteArray}{l:List UInt8} (h:b.data.toList=l):b=Oy l:=by
  subst h
  cases b;simp[Oy]
set_option maxHeartbeats 1000000 in
theorem ASW (q:ByteArray) (w:World):
    CallsIn Fence.wide n Tryz.prog 37 #[.string q] w fun e w'=>e=.returned (.func (.func 87) #[] #[.pointer (some ⟨w.heap.size,0,none⟩)])∧w'=w.alloc (.cells #[.string q] 9):=by
  refine callsIn_of_wp Tryz.func37 rfl trivial ?_ rfl
  simp only[Tryz.ntmps37,List.size_toArray,List.length_cons,List.length_nil,Nat.reduceAdd,Nat.reduceSub,Array.replicate_succ,Array.replicate_zero,List.push_toArray,List.append_toArray,List.nil_append,List.cons_append]
  gi_wp2
  go_ret
  exact⟨rfl,rfl⟩
theorem AR2{W W':World} (h:Below W.heap.size W W'):W.grownBy W' none:=⟨h.os,h.tape,h.output,h.size,fun k hk _=>h.block k hk⟩
structure RfInv (w:World) (s:List UInt8) (acc:List ApiField) (W:World):Prop where
  bel:Below w.heap.size w W
  q: ∃b,b.data.toList=s∧Qs b∧Boxed W (w.heap.size+1) 9 (.string b)
  o:((∀f,f∈acc→f.name.length≤Dk∧f.value.length≤Dk)∧acc.length≤Dk)∧ ∃v,Boxed W w.heap.size 36 v∧W.ownsRow w.heap.size 70 2 v acc.length (OT acc)
theorem RfInv.mono{w W W':World} {s acc} (h:RfInv w s acc W) (hB:Below W.heap.size W W'):RfInv w s acc W':=by
  obtain⟨h1,⟨b,h2,h3,h4⟩,hs,v,h5,h6⟩:=h
  have hg:=AR2 hB
  refine⟨h1.trans (hB.mono h1.size),⟨b,h2,h3,h4.kept hg (by simp)⟩,hs,v,h5.kept hg (by simp),h6.kept hg ?_⟩
  rcases h6.2 with⟨rfl,_⟩|⟨g,cap,cur,rfl,_⟩
  · exact .inl rfl
  · exact .inr (by simp[Value.ownBlock])
theorem RfInv.putObj{w W:World} {s acc} (h:RfInv w s acc W){l:Nat}{o:Obj} (o':Obj) (hl:W.heap[l]?=some o) (ho:o.isCells=false) (hw:w.heap.size≤l):RfInv w s acc (W.putObj l o'):=by
  obtain⟨h1,⟨b,h2,h3,h4⟩,hs,v,h5,h6⟩:=h
  have hne: ∀ {B:Nat}{t:TypeId}{u:Value},Boxed W B t u→some B≠some l:=fun hb e=>by
    cases e
    rw[show W.heap[_]?=_ from hb]at hl;cases hl;cases ho
  have hg:=grownBy_putObj' W l o'
  exact⟨h1.grown hg h1.size (fun k e=>by cases e;exact hw),⟨b,h2,h3,h4.kept hg (hne h4)⟩,hs,v,h5.kept hg (hne h5),ownsRow_putObj h6 o' hl ho⟩
theorem RfInv.setq{w W:World} {s acc} (h:RfInv w s acc W){b:ByteArray} (hb:Qs b):RfInv w b.data.toList acc (W.setCell ⟨w.heap.size+1,0,none⟩ (.string b)):=by
  obtain⟨h1,⟨b0,h2,h3,h4⟩,hs,v,h5,h6⟩:=h
  have hg:=grownBy_setCell' W (w.heap.size+1) (.string b)
  exact⟨h1.setCell (p:=⟨w.heap.size+1,0,none⟩) (Nat.le_succ _) _,⟨b,rfl,hb,h4.set _⟩,hs,v,h5.kept hg (by simp),h6.kept hg (.inr (h4.not_row (by decide) h6).symm)⟩
theorem AYD (W:World) (a b:Value) (e:TypeId): ∀(j:Nat) (u:Value),[a,b][j]?=some u→(W.alloc (.cells #[a,b] e)).cell? ((⟨W.heap.size,0,none⟩:Addr).add j)=some u:=by
  intro j u h
  have e1:(W.alloc (.cells #[a,b] e)).heap[W.heap.size]?=some (.cells #[a,b] e):=World.alloc_heap_new W _
  match j with
  |0=>cases h;show World.cell? _ ⟨W.heap.size,0+0,none⟩=_;unfold World.cell?;rw[e1];rfl
  |1=>cases h;show World.cell? _ ⟨W.heap.size,0+1,none⟩=_;unfold World.cell?;rw[e1];rfl
  |_+2=>cases h
theorem AVb:(Tryz.prog.info? 70).map (fun i=>(i.zero,i.size,i.bytes))=some (some (.agg #[.string ⟨#[]⟩,.string ⟨#[]⟩]),2,32):=by kernel_rfl
def AaU:ByteArray:=⟨#[61]⟩
set_option maxHeartbeats 2000000 in
theorem AN1 (q:ByteArray) (hq:Qs q) {r} (h:D5 N N q.data.toList []=some r) (w:World):CallsIn Fence.wide 10 Tryz.prog 18 #[.string q] w fun e W'=> ∃v,e=.returned v∧W'.ownsRow w.heap.size 70 2 v r.length (OT r)∧Below w.heap.size w W'∧(∀f,f∈r→f.name.length≤Dk∧f.value.length≤Dk)∧r.length≤Dk:=by
  obtain⟨i0,hi,hz0,hz1,hz2⟩:=info_parts AVb
  refine callsIn_of_wp_marks Tryz.func18 rfl trivial ?_ rfl
  simp only[Tryz.ntmps18,List.size_toArray,List.length_cons,List.length_nil,Nat.reduceAdd,Nat.reduceSub,Array.replicate_succ,Array.replicate_zero,List.push_toArray,List.append_toArray,List.nil_append,List.cons_append]
  gi_wp2_with (refine⟨trivial,?_⟩;gi_at_call 37;refine(ASW _ _).mono ?_;rintro e w' ⟨rfl,rfl⟩)
  have bO:=Boxed.new w 36 (.slice none 0 0)
  have bN:=Boxed.new (w.alloc (.cells #[.slice none 0 0] 36)) 9 (.string q)
  rw[World.size_alloc]at bN
  have hB0:Below w.heap.size w ((w.alloc (.cells #[.slice none 0 0] 36)).alloc (.cells #[.string q] 9)):=((Below.refl _ w).alloc (Nat.le_refl _) _).alloc (by simp) _
  have hP0:RfInv w q.data.toList [] ((w.alloc (.cells #[.slice none 0 0] 36)).alloc (.cells #[.string q] 9)):=⟨hB0,⟨q,rfl,hq,bN⟩,⟨by simp,by simp⟩,_,bO.alloc _,World.ownsRow_nil _ _ _ _⟩
  have hsz:((w.alloc (.cells #[.slice none 0 0] 36)).alloc (.cells #[.string q] 9)).heap.size=w.heap.size+2:=by simp
  generalize (w.alloc (.cells #[.slice none 0 0] 36)).alloc (.cells #[.string q] 9)=W0 at *
  refine ANU (by decide) (gf:=87) (lb:= #[.pointer (some ⟨w.heap.size+1,0,none⟩)]) rfl (enters_of Tryz.func87 (by kernel_rfl) rfl) (fun W=> ∃s,RfInv w s r W) ?_ ?_
  · intro fn W1 rc hrc hW1
    have hP1:RfInv w q.data.toList [] W1:=by
      rw[hW1]
      exact hP0.mono (((Below.refl _ W0).alloc (Nat.le_refl _) _).alloc (by simp) _)
    have hL1:W1.heap[W0.heap.size+1]?=some (.loop (rc .ready)):=by
      rw[hW1];have:=World.alloc_heap_new (W0.alloc (.deferred (some []))) (.loop (rc .ready));rwa[World.size_alloc]at this
    have hK1:W1.heap[W0.heap.size]?=some (.deferred (some [])):=by
      rw[hW1];exact(Below.heap_alloc _ _ _ (by simp)).trans (World.alloc_heap_new W0 _)
    clear hW1
    have key:=AW5 (N:=N) (n:=9) (qb:=w.heap.size+1) (l:=W0.heap.size+1) (r:=r) (q:=q.data.toList) (W:=W1)
      (J:=fun s acc W=>RfInv w s acc W∧W.heap[W0.heap.size+1]?=W1.heap[W0.heap.size+1]?∧W.heap[W0.heap.size]?=some (.deferred (some []))) ?_ ?_ ⟨hP1,rfl,hK1⟩ h (by decide)
    · refine key.mono ?_
      rintro e W' ⟨hv,s,hp,hl,hk⟩
      exact⟨hv,hl.trans hL1,hk,s,hp⟩
    · refine⟨?_,?_,?_⟩
      · rintro s acc W ⟨⟨_,⟨b,h2,h3,h4⟩,_⟩,_,_⟩
        exact⟨b,h2,h3,h4.cell,h4.frozen⟩
      · rintro s acc W b ⟨hp,hl,hk⟩ hb
        refine⟨hp.setq hb,?_,?_⟩
        · exact(Below.heap_setCell _ _ _ _ (by simp;omega)).trans hl
        · exact(Below.heap_setCell _ _ _ _ (by simp;omega)).trans hk
      · rintro s acc W W' ⟨hp,hl,hk⟩ hB
        refine⟨hp.mono hB,?_,?_⟩
        · have:=(Array.getElem?_eq_some_iff.1 (hl.trans hL1)).1
          exact(hB.block _ this).trans hl
        · have:=(Array.getElem?_eq_some_iff.1 hk).1
          exact(hB.block _ this).trans hk
    · rintro s acc acc' x W ⟨hp,hl,hk⟩ hx hb
      refine(ALH (R:=fun W3=>RfInv w s acc' W3∧W3.heap[W0.heap.size]?=some (.deferred (some []))) (hrc▸(hl.trans hL1)) rfl ?_).mono ?_
      · obtain⟨c,hc,hb1⟩:=Option.bind_eq_some_iff.1 hb
        obtain⟨d,hd,hb2⟩:=Option.bind_eq_some_iff.1 hb1
        clear hb hb1
        have hyes:(d.2==0)=true→Cg (acc.length+1) 32∧acc++[⟨c.1,d.1⟩]=acc':=fun h0=>by
          rw[if_pos h0]at hb2
          unfold grd at hb2
          split at hb2
          · rename_i hf;cases hb2;exact⟨hf,rfl⟩
          · cases hb2
        have hl2:=hl.trans hL1
        have hpB:=hp.putObj (.loop (rc .busy)) hl2 rfl (by omega)
        have hlB:(W.putObj (W0.heap.size+1) (.loop (rc .busy))).heap[W0.heap.size+1]?=some (.loop (rc .busy)):=World.putObj_heap_same (Array.getElem?_eq_some_iff.1 hl2).1
        have hkB:(W.putObj (W0.heap.size+1) (.loop (rc .busy))).heap[W0.heap.size]?=some (.deferred (some [])):=(World.putObj_heap_other (by omega)).trans hk
        rw[←hrc]
        have hD:w.heap.size≤W0.heap.size:=by omega
        clear hsz hrc
        gi_wp2
        refine⟨trivial,?_⟩
        generalize W.putObj (W0.heap.size+1) (.loop (rc .busy))=WB at *
        have keepB: ∀ {A B:World}{k:Nat}{o:Obj},Below A.heap.size A B→A.heap[k]?=some o→B.heap[k]?=some o:=fun hB h=>(hB.block _ (Array.getElem?_eq_some_iff.1 h).1).trans h
        gi_wp2_with (first
          |(refine⟨trivial,?_⟩;gi_at_call 38;refine(CallsIn.inRound _ (AQO x AaU hx (by unfold Qs AaU;decide) hc WB)).mono ?_;rintro e W4 ⟨a1,a2,rfl,ha1,ha2,ho1,ho2,hB4⟩;have hp4:=hpB.mono hB4;have hl4:=keepB hB4 hlB;have hk4:=keepB hB4 hkB)
          |(refine⟨trivial,?_⟩;gi_at_call 39;refine(CallsIn.inRound _ (AZV a2 ho2 (y:=d) (by rw[ha2];exact hd) W4)).mono ?_;rintro e W5 ⟨a3,rfl,ha3,ho3,hB5⟩;obtain⟨hbel,hqq,hst,v,hv,hrow⟩:=hp4.mono hB5;have hl5:=keepB hB5 hl4;have hk5:=keepB hB5 hk4;have hcv:=hv.cell;have hfv:=hv.frozen)
          |(gi_at_builtin;obtain⟨hft,hacc⟩:=hyes (by assumption);refine wpListIn_append_own _ rfl _ _ 36 rfl w.heap.size 70 i0 _ 2 32 Tryz.underlying36 hi hz0 hz1 hz2 rfl (by decide) _ _ _ rfl (hrow.alloc _) ⟨W5.heap.size,0,none⟩ 1 1 [.string a1,.string a3] rfl rfl (AYD _ _ _ _) (by simp[Value.oneCell']) (by unfold Cg at hft;unfold maxLen;omega) hft.1 (by have:=hbel.size;simp;omega) ?_;intro v' w1 hown' hgrow _;obtain⟨g',cap',rfl⟩:=ownsRow_succ hown';obtain⟨hv1,hv2,hr2,hk2,hb3⟩:=hv.appended (by decide) hrow hbel.size (Nat.le_refl _) hown' hgrow;have hc1:=hv1.cell;have hf1:=hv1.frozen))
        · obtain⟨bq,hq1,hq2,hq3⟩:=hqq
          have hq4:=((hq3.alloc (.cells #[.string a1,.string a3] 70)).kept hgrow (hq3.not_row (by decide) hrow)).kept (grownBy_setCell' w1 w.heap.size (.slice (some ⟨g',0,none⟩) (acc.length+1) cap')) (by simp)
          refine⟨hk2.same _ _ hl5 rfl,⟨hbel.trans hb3,⟨bq,hq1,hq2,hq4⟩,?_,_,hv2,?_⟩,hk2.same _ _ hk5 rfl⟩
          · rw[←hacc]
            refine⟨fun f hf=>?_,by unfold Cg at hft;unfold Dk;simp;omega⟩
            rcases List.mem_append.1 hf with hf|hf
            · exact hst.1 f hf
            · rcases List.mem_singleton.1 hf with rfl
              exact⟨by dsimp only;rw[←ha1];exact ho1,by dsimp only;rw[←ha3];exact ho3⟩
          have e1:=AJn ha1
          have e3:=AJn ha3
          subst e1 e3
          rw[←hacc,show(acc++[(⟨c.1,d.1⟩:ApiField)]).length=acc.length+1 by simp,show OT (acc++[(⟨c.1,d.1⟩:ApiField)])=OT acc++[.string (Oy c.1),.string (Oy d.1)] by simp[OT]]
          exact hr2
        · have hne: ¬(d.2==0)=true:=by first|assumption|(intro hh;simp_all)
          rw[if_neg hne]at hb2
          cases hb2
          exact⟨hbel,hqq,hst,v,hv,hrow⟩
      · rintro e W' ⟨rfl,W3,⟨hp3,hk3⟩,hl3,rfl⟩
        refine⟨rfl,hp3.putObj _ hl3 rfl (by omega),?_,?_⟩
        · rw[←hrc];exact(World.putObj_heap_same (Array.getElem?_eq_some_iff.1 hl3).1).trans hL1.symm
        · exact(World.putObj_heap_other (by omega)).trans hk3
  · rintro W rr ⟨s,hp⟩ hl hk o
    have hp':=hp.putObj o hl rfl (by omega)
    obtain⟨hB,_,hst,v,hv,hrow⟩:=hp'
    have hc:=hv.cell
    have hk':(W.putObj (W0.heap.size+1) o).heap[W0.heap.size]?=some (.deferred (some [])):=(World.putObj_heap_other (by omega)).trans hk
    have hD:w.heap.size≤W0.heap.size:=by omega
    clear hsz
    generalize W.putObj (W0.heap.size+1) o=W5 at *
    gi_wp2
    refine⟨by simp,.inl ⟨_,_,rfl,run_takeDeferred hk',?_⟩⟩
    exact⟨_,results_tmp rfl _ _ _,v,rfl,ownsRow_putObj hrow _ hk' rfl,hB.trans (belowK_b (w:=w) (Nat.le_refl _) _ W0.heap.size _ _ hD hk' rfl rfl),hst⟩
theorem Oa (l:List UInt8):(Oy l).data.toList=l:=by simp[Oy]
theorem AQv{Γ:Ghost}: ∀(acc:List ApiField),(∀f,f∈acc→f.name.length≤Dk∧f.value.length≤Dk)→RepS Γ 2 (acc.map DU) (OT acc)
  |[],_=>.nil _ _
  | f::acc,h=>by
    obtain⟨h1,h2⟩:=h f (by simp)
    have ih:=AQv (Γ:=Γ) acc fun g hg=>h g (by simp[hg])
    have hr:Rep Γ (DU f) (.agg #[.string (Oy f.name),.string (Oy f.value)]):=by
      refine .agg (.cons ?_ (.cons ?_ .nil)) (by simp[Value.oneCell'])
      · have:=Rep.str (Γ:=Γ) (Oy f.name) (by rw[Oa];exact h1)
        rwa[Oa]at this
      · have:=Rep.str (Γ:=Γ) (Oy f.value) (by rw[Oa];exact h2)
        rwa[Oa]at this
    have hc:(Value.agg #[.string (Oy f.name),.string (Oy f.value)]).cells= #[.string (Oy f.name),.string (Oy f.value)]:=rfl
    have:=RepS.cons hr (by rw[hc];exact⟨rfl,by simp[Value.oneCell']⟩) ih
    rw[hc]at this
    exact this
theorem Uu {a0 r} (h:J2 N a0=some r) (ha:args=[.str a0]) (hQ: ∀n',n≤n'→Gl (Q (.slice 2 (List.map DU r) false) ⟨m,n'⟩)):ACall vE 18 args ⟨m,n⟩ Q:=by
  subst ha
  constructor
  intro F Γ w cargs hs
  have hrep:=hs.rep
  generalize hv:cargs.toList=vs at hrep
  cases hrep with
  | cons h1 h2=>
    cases h2
    cases h1 with
    | str b hb=>
      have hc:cargs= #[.string b]:=Array.toList_inj.1 (by rw[hv])
      subst hc
      refine(callsIn_wide.1 (AN1 b hb h w)).mono ?_
      rintro e W' ⟨v,rfl,⟨hlen,hrow⟩,hB,hst⟩
      refine⟨v,rfl,?_⟩
      rcases hrow with⟨rfl,h0⟩|⟨g,cap,cur,rfl,hg,hh,hk,hcap,hcs,hx⟩
      · have hr0:r=[]:=List.eq_nil_of_length_eq_zero h0
        subst hr0
        obtain⟨e1,e2⟩:=hs.behind (Γ':=Γ) hB Γ.le_refl rfl rfl rfl (fun _ _=>⟨rfl,rfl⟩) (fun b cs hb hc=>by have:=hs.com_lt hc;omega) (fun b e hb hc=>by obtain⟨cs,hcs⟩:=hs.tyd.2 _ _ hc;exact⟨cs,hcs⟩) (r:=.slice 2 [] false) (v:=.slice none 0 0) (.snil 2 false none) (by simp[VM.own]) (fun b=>rfl)
        exact⟨Γ,_,⟨m,n⟩,e1,Nat.le_refl _,e2,(hQ n (Nat.le_refl _)).go⟩
      · have hn:=hs.com_none hg
        have hle:Γ.le (Γ.arr g cur.toList 70):=by
          refine⟨fun b cs h=>⟨[],?_⟩,fun i b h=>h,fun i x h=>h,fun b x h=>?_,fun _ _ h=>h⟩
          · have:=hs.com_lt h
            simp only[Ghost.arr]
            rw[if_neg (by omega)]
            simpa using h
          · obtain⟨cs,hc⟩:=hs.tyd.2 _ _ h
            have:=hs.com_lt hc
            simp only[Ghost.arr]
            rw[if_neg (by omega)]
            exact h
        have hcom:(Γ.arr g cur.toList 70).com g=some cur.toList:=by simp[Ghost.arr]
        have hS:RepS (Γ.arr g cur.toList 70) 2 (r.map DU) cur.toList:=by
          have:=(AQv (Γ:=Γ.arr g cur.toList 70) r hst.1).more (cur.toList.drop (r.length * 2))
          rwa[←hx,List.take_append_drop]at this
        have hlm:r.length≤Dk:=hst.2
        obtain⟨e1,e2⟩:=hs.behind (Γ':=Γ.arr g cur.toList 70) hB hle rfl rfl rfl (fun b hb=>by simp only[Ghost.arr];rw[if_neg (by omega),if_neg (by omega)];exact⟨rfl,rfl⟩)
          (fun b cs hb hc=>by
            simp only[Ghost.arr]at hc
            split at hc
            · rename_i hbg;subst hbg;cases hc
              exact⟨cur,70,(0,0),hh,⟨[],by simp⟩,fun T hT=>by simp[Ghost.arr]at hT;exact hT⟩
            · have:=hs.com_lt hc;omega)
          (fun b e hb hc=>by
            simp only[Ghost.arr]at hc⊢
            split at hc
            · rename_i hbg;exact⟨_,by rw[if_pos hbg]⟩
            · rename_i hbg
              obtain⟨cs,hcs⟩:=hs.tyd.2 _ _ hc
              exact⟨cs,by rw[if_neg hbg];exact hcs⟩)
          (r:=.slice 2 (r.map DU) false) (v:=.slice (some ⟨g,0,none⟩) r.length cap) (.slice false hcom (by simp) ⟨hk,hlm⟩ hS (fun h=>by cases h)) (by simp[VM.own]) (fun b=>rfl)
        exact⟨Γ.arr g cur.toList 70,_,⟨m,n⟩,e1,Nat.le_refl _,e2,(hQ n (Nat.le_refl _)).go⟩
end
instance ARt {a0}:CF vE (J2 N a0) 18 [.str a0] (fun r=>.slice 2 (List.map DU r) false):=⟨fun h hQ=>Uu h rfl hQ⟩
instance AWQ {a0 a1}:CF vE (KI N a0 a1) 229 [.str a0,.int .i64 a1] (fun r=>.tuple [.int .i64 r.1,.bool r.2]):=mkF (KI.eq_1 ..) Tryz.func229 rfl Tryz.ntmps229 Tryz.results229 [(1,[],.stop)] false fun r n m R hR h hD=>tW
@[instance_reducible, instance] def YP {a0 a1 k2 k s7 bn} := LF.mk (X := BZ N a0 a1 k2 k s7 bn) (G := fun k (s : Int × (List Int)) => BZ N a0 a1 k2 k s.1 s.2) (s := (s7, bn)) (js := [(4, 2), (8, 3), (14, 43)]) (cs := [7]) (V := fun s => [.int .i64 s.1]) (Ms := fun s => [.s ([.slice 1 (List.map (AVal.int .u8) s.2) true])]) rfl (fun s => BZ.eq_1 ..) (fun k s => BZ.eq_2 ..)
instance AHD {a0 a1}:CF vE (Bt N a0 a1) 109 [.str a0,.str a1] (fun r=>.tuple [.str r.1,.int .i64 r.2]):=mkF (Bt.eq_1 ..) Tryz.func109 rfl Tryz.ntmps109 Tryz.results109 [(15,[38],.done),(17,[],.stop),(18,[53],.done)] false fun r n m R hR h hD=>tW
theorem Qf {a0 a1 a2 a3 r} (h:strings_Replace N a0 a1 a2 a3=some r) (ha:args=[.str a0,.str a1,.str a2,.int .i64 a3]) (hQ: ∀n',n≤n'→Gl (Q (.str r) ⟨m,n'⟩)):ACall vE 232 args ⟨m,n⟩ Q:=by
 rw[strings_Replace]at h
 subst ha
 refine ent hQ Tryz.func232 rfl Tryz.ntmps232 Tryz.results232 (.q (.r []) (.q .z .z)) fun R hR=>?_
 replace h:=And.intro trivial h
 simp(disch:=omega) only[vm,seval,h.1]
 refine⟨Gn (γ:=Unit) h [16,17,18,19,20,21] [22] (fun j1 g=>[.bool j1]) (fun j1 g=>m) (.r []) ?_ ?_⟩<;>clear h
 rintro j1 _ n4 hnn4 _ _ h
 refine BI (.c (.q (.r []) .z) .z) ?_
 rcases D9 h with h|h
 exact tR
 simp(disch:=omega) only[vm,seval,h.1]
 refine⟨Gn (γ:=Unit) h [8,9,24,25,26,27,28,29,30,31,32,33,34,35,36,37] [3] (fun j5 g=>[.int .i64 j5]) (fun j5 g=>m) (.q (.r []) (.q (.r []) (.c (.q (.r []) .z) .z))) ?_ ?_⟩<;>clear h
 rintro j5 _ n8 hnn8 _ _ h
 refine BI (.q (.r [10]) (.q (.r []) (.q (.r []) .z))) ?_
 obtain⟨y15,h⟩:=Ad h
 simp(disch:=omega) only[vm,seval,h.1]
 refine⟨NM h.1.1 tD (i0:=n8) (by simp(disch:=omega) only[vm,seval,h.1]) fun n16 hn16=>?_⟩
 try dsimp only at hn16
 simp(disch:=omega) only[vm,seval,h.1]
 refine⟨Gn (γ:=Unit) h [12,13,14,15,49,50,51,52,53,54,55,56,57,58,59,60,61,62,63,64,65,66,67,68,69,70,71,72,73,74,75,76,77,78,79,80,81,82,83,84,85,86,87,88,89,90,91,92,93,94,95,96,97,98] [11] (fun j17 g=>[.int .i64 j17.1]) (fun j17 g=>(n8,[Fj n8 196 2 j17.2.1,.buf 5 j17.2.2 true])::m) (.q (.r []) (.c (.q (.r []) .z) (.q (.r []) (.q (.r []) .z)))) ?_ ?_⟩<;>clear h
 rintro j17 _ n20 hnn20 _ _ h
 refine BI (.q (.r []) (.q (.r []) .z)) ?_
 obtain⟨x41,h⟩:=Ad h
 obtain⟨y42,h⟩:=Ad h
 simp(disch:=omega) only[vm,seval,h.1]
 refine⟨BM h.1.1 tD (i0:=n8) (by simp(disch:=omega) only[vm,seval,h.1]) fun n43 hn43=>?_⟩
 obtain⟨y44,h⟩:=Ad h
 simp(disch:=omega) only[vm,seval,h.1]
 refine⟨ML h.1.1 tD (i0:=n8) (by simp(disch:=omega) only[vm,seval,h.1]) fun n45 hn45=>?_⟩
 exact tR
 intro k18 Jk18 hk18 h
 rcases D9 h with h|h
 obtain⟨hfk21,h⟩:=GJ h
 simp(disch:=omega) only[vm,seval,h.1]
 refine⟨Zh (σ:=Int×Bool×(List UInt8)) (γ:=Unit) 0 j5 hfk21 (fun xs i s=>CJ N a0 a1 a2 k18 xs s.1 s.2.1 s.2.2) (fun i s g=>[.int .i64 s.1,.int .i64 i]) (fun i s g=>(n8,[Fj n8 196 2 s.2.1,.buf 5 s.2.2 true])::m) [12,54,55,56,57,58,59,60,61,62,63,64,65,66,67,68,69,70,71,72,73] [11,53] (0,true,[]) () h tD tD ?_ ?_⟩<;>clear h
 rintro s53 ⟨s11,bn8_addr,bn8_buf⟩ _ nL0_1 hnL0_1 _ h
 change _∧CJ N a0 a1 a2 k18 0 s11 bn8_addr bn8_buf=_ at h
 rw[CJ]at h
 refine BI (.q (.r []) (.q (.c .z .z) (.q (.q (.r []) (.q (.r []) (.q (.r []) (.r [])))) (.r [])))) ?_
 exact tJ (hk18 (s11,bn8_addr,bn8_buf) ())
 rintro xsk21 s53 ⟨s11,bn8_addr,bn8_buf⟩ _ nL0_1 hnL0_1 _ h Jk21 hk21
 change _∧CJ N a0 a1 a2 k18 (xsk21+1) s11 bn8_addr bn8_buf=_ at h
 rw[CJ]at h
 refine BI (.q (.r []) (.q (.c .z .z) (.q (.q (.r []) (.q (.r []) (.q (.r []) (.r [])))) (.r [])))) ?_
 obtain⟨x22,h⟩:=Ad h
 obtain⟨y23,h⟩:=Ad h
 simp(disch:=omega) only[vm,seval,h.1]
 refine⟨Ki h.1.1 tD fun n24 hn24=>?_⟩
 obtain⟨x25,h⟩:=Ad h
 obtain⟨y26,h⟩:=Ad h
 simp(disch:=omega) only[vm,seval,h.1]
 refine⟨BM h.1.1 tD (i0:=n8) (by simp(disch:=omega) only[vm,seval,h.1]) fun n27 hn27=>?_⟩
 obtain⟨y28,h⟩:=Ad h
 simp(disch:=omega) only[vm,seval,h.1]
 refine⟨BM h.1.1 tD (i0:=n8) (by simp(disch:=omega) only[vm,seval,h.1]) fun n29 hn29=>?_⟩
 exact tJ (hk21 ((wr .i64 ((wr .i64 (s11+y23))+(a1.length:Int))),y28.2.2.addr,y28.2.2.buf) ())
 obtain⟨y30,h⟩:=Ad h
 simp(disch:=omega) only[vm,seval,h.1]
 refine⟨BM h.1.1 tD (i0:=n8) (by simp(disch:=omega) only[vm,seval,h.1]) fun n31 hn31=>?_⟩
 obtain⟨hfk32,h⟩:=GJ h
 simp(disch:=omega) only[vm,seval,h.1]
 refine⟨Zh (σ:=Int×StringsBuilder) (γ:=Unit) 0 (wr .i64 (j5-1)) hfk32 (fun xs i s=>EC N a0 a2 k18 xs s.1 s.2) (fun i s g=>[.int .i64 s.1,.int .i64 i]) (fun i s g=>(n8,[Fj n8 196 2 s.2.addr,.buf 5 s.2.buf true])::m) [13,14,15,79,80,81,82,83,84,85,86,87,88,89,90,91,92,93,94,95,96,97,98] [11,78] (0,y30.2.2) () h tD tD ?_ ?_⟩<;>clear h
 rintro s78 ⟨s11,bn8⟩ _ nL1_1 hnL1_1 _ h
 change _∧EC N a0 a2 k18 0 s11 bn8=_ at h
 rw[EC]at h
 refine BI (.q (.r []) (.q (.c .z .z) (.q (.q (.r []) (.q (.r []) (.q (.r []) (.q (.r []) (.r []))))) (.r [])))) ?_
 exact tJ (hk18 (s11,bn8.addr,bn8.buf) ())
 rintro xsk32 s78 ⟨s11,bn8⟩ _ nL1_1 hnL1_1 _ h Jk32 hk32
 change _∧EC N a0 a2 k18 (xsk32+1) s11 bn8=_ at h
 rw[EC]at h
 refine BI (.q (.r []) (.q (.c .z .z) (.q (.q (.r []) (.q (.r []) (.q (.r []) (.q (.r []) (.r []))))) (.r [])))) ?_
 obtain⟨x33,h⟩:=Ad h
 obtain⟨y34,h⟩:=Ad h
 simp(disch:=omega) only[vm,seval,h.1]
 refine⟨JU h.1.1 tD fun n35 hn35=>?_⟩
 obtain⟨x36,h⟩:=Ad h
 obtain⟨y37,h⟩:=Ad h
 simp(disch:=omega) only[vm,seval,h.1]
 refine⟨BM h.1.1 tD (i0:=n8) (by simp(disch:=omega) only[vm,seval,h.1]) fun n38 hn38=>?_⟩
 obtain⟨y39,h⟩:=Ad h
 simp(disch:=omega) only[vm,seval,h.1]
 refine⟨BM h.1.1 tD (i0:=n8) (by simp(disch:=omega) only[vm,seval,h.1]) fun n40 hn40=>?_⟩
 exact tJ (hk32 ((wr .i64 (s11+y34.2)),y39.2.2) ())
 intro k6 Jk6 hk6 h
 obtain⟨y9,h⟩:=Ad h
 simp(disch:=omega) only[vm,seval,h.1]
 refine⟨Kn h.1.1 tD fun n10 hn10=>?_⟩
 rcases D9 h with h|h
 exact tR
 simp(disch:=omega) only[vm,seval,h.1]
 refine⟨Gn (γ:=Unit) h [30,31,32,33,34,35] [36] (fun j11 g=>[.bool j11]) (fun j11 g=>m) (.r []) ?_ ?_⟩<;>clear h
 rintro j11 _ n14 hnn14 _ _ h
 refine BI (.c (.r []) .z) ?_
 rcases D9 h with h|h
 exact tJ (hk6 y9 ())
 exact tJ (hk6 a3 ())
 intro k12 Jk12 hk12 h
 rcases D9 h with h|h
 exact tJ (hk12 true ())
 exact tJ (hk12 (decide (y9<a3)) ())
 intro k2 Jk2 hk2 h
 rcases D9 h with h|h
 exact tJ (hk2 true ())
 exact tJ (hk2 (a3==0) ())
instance AKb {a0 a1 a2 a3}:CF vE (strings_Replace N a0 a1 a2 a3) 232 [.str a0,.str a1,.str a2,.int .i64 a3] (fun r=>.str r):=⟨fun h hQ=>Qf h rfl hQ⟩
instance AXa {a0}:CF vE (IK N a0) 105 [.str a0] (fun r=>.tuple [Eo r.1,.int .i64 r.2]):=mkF (IK.eq_1 ..) Tryz.func105 rfl Tryz.ntmps105 Tryz.results105 [(7,[],.stop),(10,[],.take 0 (.take 1 (.take 2 (.take 3 (.take 4 (.take 5 (.take 6 (.take 7 (.alt 8 [6,5,4,3] (.take 9 (.alt 10 [6,5,4,3] (.alt 11 [] (.done) (.stop)) (.stop))) (.stop)))))))))),(17,[],.take 0 (.take 1 (.take 2 (.take 3 (.take 4 (.take 5 (.take 6 (.alt 7 [5,4,3] (.alt 8 [] (.done) (.stop)) (.stop)))))))))] false fun r n m R hR h hD=>tW
instance AOw {a0 a1}:CF vE (Gt N a0 a1) 210 [.str a0,.int .u64 a1] (fun r=>.tuple [.int .u64 r.1,.int .i64 r.2]):=mkF (Gt.eq_1 ..) Tryz.func210 rfl Tryz.ntmps210 Tryz.results210 [(1,[],.stop)] false fun r n m R hR h hD=>tW
theorem Pt {a0 a1 a2 a3 r} (h:strings_genSplit N a0 a1 a2 a3=some r) (ha:args=[.str a0,.str a1,.int .i64 a2,.int .i64 a3]) (hQ: ∀n',n≤n'→Gl (Q (.slice 1 (List.map AVal.str r) false) ⟨m,n'⟩)):ACall vE 251 args ⟨m,n⟩ Q:=by
 rw[strings_genSplit]at h
 subst ha
 refine ACall.give (AX3 Tryz.func251 rfl Tryz.ntmps251 Tryz.results251 (.q (.r []) (.q (.q (.r []) (.c (.q (.r []) .z) .z)) (.q (.q (.r []) (.c (.q (.r []) .z) .z)) .z))) (fun R hR=>?_))
 replace h:=And.intro trivial h
 rcases D9 h with h|h
 cases h.2
 rcases D9 h with h|h
 obtain⟨y1,h⟩:=Ad h
 simp(disch:=omega) only[vm,seval,h.1]
 refine⟨QT h.1.1 tD fun n2 hn2=>?_⟩
 cases h.2
 simp(disch:=omega) only[vm,seval,h.1]
 refine⟨Gn (γ:=Unit) h [19,20,21,22,23,24] [3] (fun j3 g=>[.int .i64 j3]) (fun j3 g=>m) (.q (.r []) (.c (.r []) .z)) ?_ ?_⟩<;>clear h
 rintro j3 _ n6 hnn6 _ _ h
 refine BI (.q (.r []) (.q (.r []) (.q (.r []) (.q (.r []) .z)))) ?_
 obtain⟨c,h⟩:=GJ h
 try simp only[liE,seval]at c
 replace h:=G6 c h
 simp(disch:=omega) only[vm,seval,h.1]
 refine⟨Gn (γ:=Unit) h [11,34,35,36,37,38,39,40,41,42,43,44,45,46,47,48,49,50,51,52,53,54,55,56,57] [0,10] (fun j9 g=>[.str j9.1,.int .i64 j9.2.1]) (fun j9 g=>(n6,List.map AVal.str j9.2.2)::m) .z ?_ ?_⟩<;>clear h
 rintro j9 _ n12 hnn12 _ _ h
 refine BI (.q (.r []) (.q (.r []) .z)) ?_
 obtain⟨c,h⟩:=GJ h
 try simp only[liE,seval]at c
 replace h:=G6 c h
 obtain⟨c,h⟩:=GJ h
 try simp only[liE,seval]at c
 replace h:=G6 c h
 obtain⟨c,h⟩:=GJ h
 try simp only[liE,seval]at c
 replace h:=G6 c h
 obtain⟨cg,h⟩:=GJ h
 obtain⟨H,h⟩:=h
 cases h
 simp(disch:=omega) only[vm,seval,H]
 refine⟨(hR _ _ _ _ _ _ (by simp(disch:=omega) only[vm,seval,H];rfl) slr (by omega) ⟨[_],_,_,rfl,AOS (l:=(j9.2.2.set j9.2.1.toNat j9.1)) (by simpa only[List.length_set]using cg),rfl,(hQ _ (by first|omega|(dsimp only;omega))).go⟩).1⟩
 intro k10 Jk10 hk10 h
 obtain⟨hfk13,h⟩:=GJ h
 simp(disch:=omega) only[vm,seval,h.1]
 refine⟨Zh (σ:=(List UInt8)×(List (List UInt8))) (γ:=Unit) 0 (wr .i64 ((if(wr .i64 ((a0.length:Int)+1))<j3 then(wr .i64 ((a0.length:Int)+1))else j3)-1)) hfk13 (fun xs i s=>Bj N a0 a1 a2 j3 k10 xs i s.1 s.2) (fun i s g=>[.str s.1,.int .i64 i]) (fun i s g=>(n6,List.map AVal.str s.2)::m) [11,34,35,36,37,38,39,40,41,42,43,44,45,46,47,48,49,50,51,52,53,54,55,56,57] [0,10] (a0,(List.replicate (if(wr .i64 ((a0.length:Int)+1))<j3 then(wr .i64 ((a0.length:Int)+1))else j3).toNat ([]:List UInt8))) () h tD tD ?_ ?_⟩<;>clear h
 rintro s10 ⟨s0,bn6⟩ _ nL0_1 hnL0_1 _ h
 change _∧Bj N a0 a1 a2 j3 k10 0 s10 s0 bn6=_ at h
 rw[Bj]at h
 refine BI (.q (.q (.r []) (.c .z .z)) (.q (.r []) (.q (.q (.r []) (.c .z .z)) (.q (.r []) (.q (.r []) (.r [])))))) ?_
 exact tJ (hk10 (s0,s10,bn6) ())
 rintro xsk13 s10 ⟨s0,bn6⟩ _ nL0_1 hnL0_1 _ h Jk13 hk13
 change _∧Bj N a0 a1 a2 j3 k10 (xsk13+1) s10 s0 bn6=_ at h
 rw[Bj]at h
 refine BI (.q (.q (.r []) (.c .z .z)) (.q (.r []) (.q (.q (.r []) (.c .z .z)) (.q (.r []) (.q (.r []) (.r [])))))) ?_
 obtain⟨y14,h⟩:=Ad h
 simp(disch:=omega) only[vm,seval,h.1]
 refine⟨Ki h.1.1 tD fun n15 hn15=>?_⟩
 rcases D9 h with h|h
 exact tJ (hk10 (s0,s10,bn6) ())
 obtain⟨x16,h⟩:=Ad h
 obtain⟨c,h⟩:=GJ h
 try simp only[liE,seval]at c
 replace h:=G6 c h
 obtain⟨c,h⟩:=GJ h
 try simp only[liE,seval]at c
 replace h:=G6 c h
 obtain⟨x17,h⟩:=Ad h
 exact tJ (hk13 (x17,(bn6.set s10.toNat x16)) ())
 intro k4 Jk4 hk4 h
 rcases D9 h with h|h
 obtain⟨y7,h⟩:=Ad h
 simp(disch:=omega) only[vm,seval,h.1]
 refine⟨Kn h.1.1 tD fun n8 hn8=>?_⟩
 exact tJ (hk4 (wr .i64 (y7+1)) ())
 exact tJ (hk4 a3 ())
instance AHi {a0 a1 a2 a3}:CF vE (strings_genSplit N a0 a1 a2 a3) 251 [.str a0,.str a1,.int .i64 a2,.int .i64 a3] (fun r=>.slice 1 (List.map AVal.str r) false):=⟨fun h hQ=>Pt h rfl hQ⟩
@[instance_reducible, instance] def AS0 {k s0} := LF.mk (X := Fy N k s0) (G := fun k (s : (List UInt8)) => Fy N k s) (s := s0) (js := [(2, 19)]) (cs := [0]) (V := fun s => [.str s]) (Ms := fun s => []) rfl (fun s => Fy.eq_1 ..) (fun k s => Fy.eq_2 ..)
instance AXb {a0}:CF vE (Oe N a0) 209 [.str a0] (fun r=>.bool r):=mkF (Oe.eq_1 ..) Tryz.func209 rfl Tryz.ntmps209 Tryz.results209 [] false fun r n m R hR h hD=>tW
instance AUB {a0 a1}:CF vE (KT N a0 a1) 112 [Eo a0,Eo a1] (fun r=>Eo r):=mkF (KT.eq_1 ..) Tryz.func112 rfl Tryz.ntmps112 Tryz.results112 [(11,[],.take 0 (.take 1 (.take 2 (.take 3 (.take 4 (.alt 5 [3,2] (.take 6 (.alt 7 [] (.done) (.stop))) (.stop))))))),(12,[],.take 0 (.take 1 (.take 2 (.take 3 (.take 4 (.alt 5 [3,2] (.take 6 (.alt 7 [] (.done) (.stop))) (.stop))))))),(14,[],.take 0 (.take 1 (.take 2 (.take 3 (.take 4 (.alt 5 [3,2] (.take 6 (.alt 7 [] (.done) (.stop))) (.stop)))))))] false fun r n m R hR h hD=>tW
@[instance_reducible, instance] def AHC {k13 xs} := LQ.mk (X := DJ N k13 xs) (G := fun xs i (s : Unit) => DJ N k13 xs) (s := ()) (js := [(3, 1), (7, 3), (49, 12)]) (cs := [48]) (V := fun i s => [.int .i64 i]) (Ms := fun i s => []) (fun _ => rfl) (fun i s => DJ.eq_1 ..) (fun x xs i s => DJ.eq_2 ..)
@[instance_reducible, instance] def AG9 {k25 xs} := LQ.mk (X := DK N k25 xs) (G := fun xs i (s : Unit) => DK N k25 xs) (s := ()) (js := [(3, 1), (68, 18)]) (cs := [13]) (V := fun i s => [.int .i64 i]) (Ms := fun i s => []) (fun _ => rfl) (fun i s => DK.eq_1 ..) (fun x xs i s => DK.eq_2 ..)
@[instance_reducible, instance] def AG7 {k20 xs s63 s10} := LR.mk (X := Bz N k20 xs s63 s10) (G := fun xs i (s : (List UInt8)) => Bz N k20 xs i s) (i := s63) (s := s10) (js := [(3, 1), (11, 5), (64, 36)]) (cs := [10, 63]) (V := fun i s => [.str s, .int .i64 i]) (Ms := fun i s => []) rfl (fun i s => Bz.eq_1 ..) (fun x xs i s => Bz.eq_2 ..)
instance Rc {a0}:CF vE (FZ N a0) 114 [.str a0] (fun r=>.tuple [GM r.1,.int .i64 r.2]):=mkF (FZ.eq_1 ..) Tryz.func114 rfl Tryz.ntmps114 Tryz.results114 [(26,[],.stop)] false fun r n m R hR h hD=>tW
theorem RV {a0 r} (h:FZ N a0=some r) (ha:args=[.str a0]) (hQ: ∀n',n≤n'→Gl (Q (.tuple [GM r.1,.int .i64 r.2]) ⟨m,n'⟩)):ACall vE 114 args ⟨m,n⟩ Q:=
 ha▸Rc.go h hQ
@[instance_reducible, instance] def AKX {k2 xs s3} := LQ.mk (X := D6 N k2 xs s3) (G := fun xs i (s : (List ApiField)) => D6 N k2 xs s) (s := s3) (js := [(5, 4), (13, 28)]) (cs := [3, 12]) (V := fun i s => [.slice 2 (List.map DU s) true, .int .i64 i]) (Ms := fun i s => []) (fun _ => rfl) (fun i s => D6.eq_1 ..) (fun x xs i s => D6.eq_2 ..)
instance ARb {a0}:CF vE (Jz N a0) 19 [.str a0] (fun r=>.slice 2 (List.map DU r) false):=mkF (Jz.eq_1 ..) Tryz.func19 rfl Tryz.ntmps19 Tryz.results19 [(7,[],.stop),(8,[32],.done)] false fun r n m R hR h hD=>tW
@[instance_reducible, instance] def AKZ {k4 xs} := LQ.mk (X := D7 N k4 xs) (G := fun xs i (s : Unit) => D7 N k4 xs) (s := ()) (js := [(2, 1), (5, 3), (13, 11)]) (cs := [12]) (V := fun i s => [.int .i64 i]) (Ms := fun i s => []) (fun _ => rfl) (fun i s => D7.eq_1 ..) (fun x xs i s => D7.eq_2 ..)
instance ASh {a0}:CF vE (Jn N a0) 129 [.str a0] (fun r=>.bool r):=mkF (Jn.eq_1 ..) Tryz.func129 rfl Tryz.ntmps129 Tryz.results129 [] false fun r n m R hR h hD=>tW
instance AUT {a0}:CF vE (LX N a0) 218 [.str a0] (fun r=>.tuple [.int .i64 r.1,.int .i64 r.2]):=mkF (LX.eq_1 ..) Tryz.func218 rfl Tryz.ntmps218 Tryz.results218 [(2,[],.stop)] false fun r n m R hR h hD=>tW
end Go.Proofs.YtjgdhjpafjpjgaaGreatDoor
