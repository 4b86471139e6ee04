import Derived.Test.YtjgdhjpafjpjgaaGreatDoorVmFacts
import Derived.Test.YtjgdhjpafjpjgaaGreatDoorDefs
import Derived.Test.YtjgdhjpafjpjgaaGreatDoorVM2
import Derived.Test.YtjgdhjpafjpjgaaGreatDoorW0
import Derived.Test.YtjgdhjpafjpjgaaGreatDoorW2
import Derived.Test.YtjgdhjpafjpjgaaGreatDoorW4
import Derived.Test.YtjgdhjpafjpjgaaGreatDoorW6
import Derived.Test.YtjgdhjpafjpjgaaGreatDoorVM6
set_option linter.unusedVariables false
set_option linter.unusedSimpArgs false
set_option maxHeartbeats 4000000
set_option maxRecDepth 100000
set_option linter.defProp false
namespace Go.Proofs.YtjgdhjpafjpjgaaGreatDoor
open Go.VM
variable{N n:Nat}{m:MS}{Q:PQ}{args:List AVal}
section
open Go.RowKit Go.Shelf
attribute [local go_sem] Oper.semAt_some
theorem ACC{W:World}: ∀g cs,vE.T g=some cs→Rep (GJ W) (.cptr cs) (.pointer (some ⟨g,0,none⟩)):=fun g cs h=>by cases h
def Li (b:ByteArray):Prop:=b.data.toList.length≤Bw
theorem AF3 (s c:ByteArray) (hs:Li s) (hc:Li c) {y} (h:strings_Cut N s.data.toList c.data.toList=some y) (W:World):
    CallsIn Fence.wide n Tryz.prog 38 #[.string s,.string c] W fun e W'=> ∃a b,e=.returned (.tuple #[.string a,.string b,.bool y.2.2])∧a.data.toList=y.1∧b.data.toList=y.2.1∧Li a∧Li b∧Below W.heap.size W W':=by
  refine callsIn_wide.2 ?_
  have hw:ACall vE 38 [.str s.data.toList,.str c.data.toList] ⟨[],0⟩ (fun r _=>r=.tuple [.str y.1,.str y.2.1,.bool y.2.2]):=DV h rfl (fun _ _=>⟨rfl⟩)
  refine(ACall.shell (W:=W) (cargs:= #[.string s,.string c]) ACC (args':=[.str s.data.toList,.str c.data.toList]) (.cons (.str s hs) (.cons (.str c hc) .nil)) (by simp[stripL,AVal.strip]) hw).mono ?_
  rintro e W' ⟨v,rfl,hB,Γ',r,st',hr,rfl⟩
  cases hr with
  | @tuple cs arr h=>
    generalize ha:arr.toList=vs at h
    cases h with
    | cons h1 h=>
      cases h with
      | cons h2 h=>
        cases h with
        | cons h3 h=>
          cases h
          cases h3
          generalize e1:y.1=l1 at h1
          generalize e2:y.2.1=l2 at h2
          cases h1 with
          | str a ha'=>
            cases h2 with
            | str b hb'=>
              refine⟨a,b,?_,rfl,rfl,ha',hb',hB⟩
              congr 2
              exact Array.toList_inj.1 ha
theorem AKv (s:ByteArray) (hs:Li s) {y} (h:Di N s.data.toList=some y) (W:World):
    CallsIn Fence.wide n Tryz.prog 39 #[.string s] W fun e W'=> ∃a,e=.returned (.tuple #[.string a,.int .i64 y.2])∧a.data.toList=y.1∧Li a∧Below W.heap.size W W':=by
  refine callsIn_wide.2 ?_
  have hw:ACall vE 39 [.str s.data.toList] ⟨[],0⟩ (fun r _=>r=.tuple [.str y.1,.int .i64 y.2]):=I7 h rfl (fun _ _=>⟨rfl⟩)
  refine(ACall.shell (W:=W) (cargs:= #[.string s]) ACC (args':=[.str s.data.toList]) (.cons (.str s hs) .nil) (by simp[stripL,AVal.strip]) hw).mono ?_
  rintro e W' ⟨v,rfl,hB,Γ',r,st',hr,rfl⟩
  cases hr with
  | @tuple cs arr h=>
    generalize ha:arr.toList=vs at h
    cases h with
    | cons h1 h=>
      cases h with
      | cons h2 h=>
        cases h
        cases h2
        generalize e1:y.1=l1 at h1
        cases h1 with
        | str a ha'=>
          refine⟨a,?_,rfl,ha',hB⟩
          congr 2
          exact Array.toList_inj.1 ha
theorem ALT (b:ByteArray): ∀(k i:Nat) (acc:List UInt8),b.size-i=k→acc≠ []→ByteArray.toList.loop b i acc≠ []:=by
  intro k
  induction k with
  | zero=>
    intro i acc h ha
    unfold ByteArray.toList.loop
    rw[if_neg (by omega)]
    simpa using ha
  | succ k ih=>
    intro i acc h ha
    unfold ByteArray.toList.loop
    rw[if_pos (by omega)]
    exact ih _ _ (by omega) (by simp)
theorem AMp{b:ByteArray} (h:b.toList=[]):b.data.toList=[]:=by
  rcases Nat.eq_zero_or_pos b.size with h0|h0
  · have:b.data.toList.length=0:=h0
    exact List.eq_nil_of_length_eq_zero this
  · exfalso
    unfold ByteArray.toList at h
    unfold ByteArray.toList.loop at h
    rw[if_pos h0]at h
    exact ALT b _ _ _ rfl (by simp) h
theorem AMJ{b:ByteArray} (h:b.data.toList=[]):b.toList=[]:=by
  have h0:b.size=0:=by
    have:=congrArg List.length h
    exact this
  unfold ByteArray.toList ByteArray.toList.loop
  rw[if_neg (by omega)];rfl
structure RfJoint (qb:Nat) (J:List UInt8→List ApiField→World→Prop):Prop where
  cell: ∀s acc W,J s acc W→ ∃b,b.data.toList=s∧Li b∧W.cell? ⟨qb,0,none⟩=some (.string b)∧W.frozen? ⟨qb,0,none⟩=false
  set: ∀s acc W b,J s acc W→Li b→J b.data.toList acc (W.setCell ⟨qb,0,none⟩ (.string b))
  below: ∀s acc W W',J s acc W→Below W.heap.size W W'→J s acc W'
def AKa:ByteArray:=⟨#[38]⟩
set_option maxHeartbeats 1000000 in
theorem AKH{qb l:Nat}{r:List ApiField}{J:List UInt8→List ApiField→World→Prop} (hJ:RfJoint qb J)
    (hY: ∀s acc acc' (x:ByteArray) W,J s acc W→Li x→Du N x.data.toList acc=some acc'→YieldAt Fence.wide (n-1) Tryz.prog l #[.string x] W fun e W'=>e=.returned (.bool true)∧J s acc' W')
    {q:List UInt8}{W:World} (h0:J q [] W) (h:CR N N q []=some r) (hn:1≤n):
    CallsIn Fence.wide n Tryz.prog 87 #[.func (.yield l) #[] #[],.pointer (some ⟨qb,0,none⟩)] W fun e W'=>(∃v,e=.returned v)∧ ∃s,J s r W':=by
  refine callsIn_of_wp Tryz.func87 rfl trivial ?_ rfl
  simp only[Tryz.ntmps87,List.size_toArray,List.length_cons,List.length_nil,Nat.reduceAdd,Nat.reduceSub,Array.replicate_succ,Array.replicate_zero,List.push_toArray,List.append_toArray,List.nil_append,List.cons_append]
  gi_wp2
  gi_loopg [3] N (fun k p wr=> ∃s acc,(p=.bool true∧J s acc wr∧CR N k s acc=some r)∨(p=.bool false∧J s r wr))
  case atStart=>exact⟨q,[],.inl ⟨rfl,h0,h⟩⟩
  case round=>
    obtain⟨s,acc,⟨rfl,hj,he⟩|⟨rfl,hj⟩⟩:=hrel
    · cases gk with
      |zero=>cases he
      | succ k=>
        rw[CR]at he
        obtain⟨y,hy,he1⟩:=Option.bind_eq_some_iff.1 he
        obtain⟨o,ho,he2⟩:=Option.bind_eq_some_iff.1 he1
        clear he he1
        obtain⟨b,rfl,hbo,hc,hf⟩:=hJ.cell _ _ _ hj
        have fin: ∀W',J y.2.1 o W'→ ∃k',k'<k+1∧ ∃s acc,(Value.bool y.2.2=.bool true∧J s acc W'∧CR N k' s acc=some r)∨(Value.bool y.2.2=.bool false∧J s r W'):=by
          intro W' hw
          cases hm:y.2.2 with
          |true=>rw[hm,if_pos rfl]at he2;exact⟨k,by omega,y.2.1,o,.inl ⟨rfl,hw,he2⟩⟩
          | false=>
            rw[hm,if_neg (by decide)]at he2
            cases he2
            exact⟨0,by omega,y.2.1,r,.inr ⟨rfl,hw⟩⟩
        gi_wp2_with (refine⟨trivial,?_⟩;gi_at_call 38;refine(AF3 b AKa hbo (by unfold Li AKa;decide) hy wr).mono ?_;rintro e W1 ⟨a1,a2,rfl,ha1,ha2,ho1,ho2,hB⟩;have hj1:=hJ.below _ _ _ _ hj hB;obtain⟨b1,hb1,_,hc1,hf1⟩:=hJ.cell _ _ _ hj1)
        · have hx:a1.toList=[]:=by assumption
          have hj2:J y.2.1 acc (W1.setCell ⟨qb,0,none⟩ (.string a2)):=by rw[←ha2];exact hJ.set _ _ _ a2 hj1 ho2
          refine⟨fun _ h=>(by cases h),?_⟩
          rw[←ha1,AMp hx]at ho
          cases ho
          obtain⟨k',hk,s',acc',hr⟩:=fin _ hj2
          gi_wp2
          gi_roundg k'
          case measure=>omega
          case rel=>exact⟨s',acc',hr⟩
        · have hx: ¬a1.toList=[]:=by assumption
          have hj2:J y.2.1 acc (W1.setCell ⟨qb,0,none⟩ (.string a2)):=by rw[←ha2];exact hJ.set _ _ _ a2 hj1 ho2
          have hne:(y.1==[])=false:=by
            rw[←ha1]
            have:a1.data.toList≠ []:=fun h=>hx (AMJ h)
            simpa using this
          rw[hne,if_neg (by decide),←ha1]at ho
          obtain⟨fn,tmps,assign,body,hyy,hR⟩:=hY _ _ _ a1 _ hj2 ho1 ho
          have hx2:a1.toList.isEmpty=false:=by simpa using hx
          rw[hyy]
          gi_wp2
          refine hR.mono ?_
          rintro e W3 ⟨rfl,hj3⟩
          obtain⟨k',hk,s',acc',hr⟩:=fin _ hj3
          simp only[hx2,Bool.not_false]
          gi_wp2
          gi_roundg k'
          case measure=>omega
          case rel=>exact⟨s',acc',hr⟩
    · gi_wp2
      go_end0
      exact⟨⟨_,rfl⟩,s,hj⟩
def Ki (l:List UInt8):ByteArray:=⟨l.toArray⟩
def KX (acc:List ApiField):List Value:=acc.flatMap fun f=>[.string (Ki f.name),.string (Ki f.value)]
theorem AB2{b:ByteArray}{l:List UInt8} (h:b.data.toList=l):b=Ki l:=by
  subst h
  cases b;simp[Ki]
set_option maxHeartbeats 1000000 in
theorem AFv (q:ByteArray) (w:World):
    CallsIn Fence.wide n Tryz.prog 37 #[.string q] w fun e w'=>e=.returned (.func (.func 87) #[] #[.pointer (some ⟨w.heap.size,0,none⟩)])∧w'=w.alloc (.cells #[.string q] 9):=by
  refine callsIn_of_wp Tryz.func37 rfl trivial ?_ rfl
  simp only[Tryz.ntmps37,List.size_toArray,List.length_cons,List.length_nil,Nat.reduceAdd,Nat.reduceSub,Array.replicate_succ,Array.replicate_zero,List.push_toArray,List.append_toArray,List.nil_append,List.cons_append]
  gi_wp2
  go_ret
  exact⟨rfl,rfl⟩
theorem AFO{W W':World} (h:Below W.heap.size W W'):W.grownBy W' none:=⟨h.os,h.tape,h.output,h.size,fun k hk _=>h.block k hk⟩
structure RfInv (w:World) (s:List UInt8) (acc:List ApiField) (W:World):Prop where
  bel:Below w.heap.size w W
  q: ∃b,b.data.toList=s∧Li b∧Boxed W (w.heap.size+1) 9 (.string b)
  o:((∀f,f∈acc→f.name.length≤Bw∧f.value.length≤Bw)∧acc.length≤Bw)∧ ∃v,Boxed W w.heap.size 36 v∧W.ownsRow w.heap.size 70 2 v acc.length (KX acc)
theorem RfInv.mono{w W W':World} {s acc} (h:RfInv w s acc W) (hB:Below W.heap.size W W'):RfInv w s acc W':=by
  obtain⟨h1,⟨b,h2,h3,h4⟩,hs,v,h5,h6⟩:=h
  have hg:=AFO hB
  refine⟨h1.trans (hB.mono h1.size),⟨b,h2,h3,h4.kept hg (by simp)⟩,hs,v,h5.kept hg (by simp),h6.kept hg ?_⟩
  rcases h6.2 with⟨rfl,_⟩|⟨g,cap,cur,rfl,_⟩
  · exact .inl rfl
  · exact .inr (by simp[Value.ownBlock])
theorem RfInv.putObj{w W:World} {s acc} (h:RfInv w s acc W){l:Nat}{o:Obj} (o':Obj) (hl:W.heap[l]?=some o) (ho:o.isCells=false) (hw:w.heap.size≤l):RfInv w s acc (W.putObj l o'):=by
  obtain⟨h1,⟨b,h2,h3,h4⟩,hs,v,h5,h6⟩:=h
  have hne: ∀ {B:Nat}{t:TypeId}{u:Value},Boxed W B t u→some B≠some l:=fun hb e=>by
    cases e
    rw[show W.heap[_]?=_ from hb]at hl;cases hl;cases ho
  have hg:=grownBy_putObj' W l o'
  exact⟨h1.grown hg h1.size (fun k e=>by cases e;exact hw),⟨b,h2,h3,h4.kept hg (hne h4)⟩,hs,v,h5.kept hg (hne h5),ownsRow_putObj h6 o' hl ho⟩
theorem RfInv.setq{w W:World} {s acc} (h:RfInv w s acc W){b:ByteArray} (hb:Li b):RfInv w b.data.toList acc (W.setCell ⟨w.heap.size+1,0,none⟩ (.string b)):=by
  obtain⟨h1,⟨b0,h2,h3,h4⟩,hs,v,h5,h6⟩:=h
  have hg:=grownBy_setCell' W (w.heap.size+1) (.string b)
  exact⟨h1.setCell (p:=⟨w.heap.size+1,0,none⟩) (Nat.le_succ _) _,⟨b,rfl,hb,h4.set _⟩,hs,v,h5.kept hg (by simp),h6.kept hg (.inr (h4.not_row (by decide) h6).symm)⟩
theorem AL2 (W:World) (a b:Value) (e:TypeId): ∀(j:Nat) (u:Value),[a,b][j]?=some u→(W.alloc (.cells #[a,b] e)).cell? ((⟨W.heap.size,0,none⟩:Addr).add j)=some u:=by
  intro j u h
  have e1:(W.alloc (.cells #[a,b] e)).heap[W.heap.size]?=some (.cells #[a,b] e):=World.alloc_heap_new W _
  match j with
  |0=>cases h;show World.cell? _ ⟨W.heap.size,0+0,none⟩=_;unfold World.cell?;rw[e1];rfl
  |1=>cases h;show World.cell? _ ⟨W.heap.size,0+1,none⟩=_;unfold World.cell?;rw[e1];rfl
  |_+2=>cases h
theorem AJ0:(Tryz.prog.info? 70).map (fun i=>(i.zero,i.size,i.bytes))=some (some (.agg #[.string ⟨#[]⟩,.string ⟨#[]⟩]),2,32):=by kernel_rfl
def AMv:ByteArray:=⟨#[61]⟩
set_option maxHeartbeats 2000000 in
theorem ADq (q:ByteArray) (hq:Li q) {r} (h:CR N N q.data.toList []=some r) (w:World):CallsIn Fence.wide 10 Tryz.prog 18 #[.string q] w fun e W'=> ∃v,e=.returned v∧W'.ownsRow w.heap.size 70 2 v r.length (KX r)∧Below w.heap.size w W'∧(∀f,f∈r→f.name.length≤Bw∧f.value.length≤Bw)∧r.length≤Bw:=by
  obtain⟨i0,hi,hz0,hz1,hz2⟩:=info_parts AJ0
  refine callsIn_of_wp_marks Tryz.func18 rfl trivial ?_ rfl
  simp only[Tryz.ntmps18,List.size_toArray,List.length_cons,List.length_nil,Nat.reduceAdd,Nat.reduceSub,Array.replicate_succ,Array.replicate_zero,List.push_toArray,List.append_toArray,List.nil_append,List.cons_append]
  gi_wp2_with (refine⟨trivial,?_⟩;gi_at_call 37;refine(AFv _ _).mono ?_;rintro e w' ⟨rfl,rfl⟩)
  have bO:=Boxed.new w 36 (.slice none 0 0)
  have bN:=Boxed.new (w.alloc (.cells #[.slice none 0 0] 36)) 9 (.string q)
  rw[World.size_alloc]at bN
  have hB0:Below w.heap.size w ((w.alloc (.cells #[.slice none 0 0] 36)).alloc (.cells #[.string q] 9)):=((Below.refl _ w).alloc (Nat.le_refl _) _).alloc (by simp) _
  have hP0:RfInv w q.data.toList [] ((w.alloc (.cells #[.slice none 0 0] 36)).alloc (.cells #[.string q] 9)):=⟨hB0,⟨q,rfl,hq,bN⟩,⟨by simp,by simp⟩,_,bO.alloc _,World.ownsRow_nil _ _ _ _⟩
  have hsz:((w.alloc (.cells #[.slice none 0 0] 36)).alloc (.cells #[.string q] 9)).heap.size=w.heap.size+2:=by simp
  generalize (w.alloc (.cells #[.slice none 0 0] 36)).alloc (.cells #[.string q] 9)=W0 at *
  refine ACh (by decide) (gf:=87) (lb:= #[.pointer (some ⟨w.heap.size+1,0,none⟩)]) rfl (enters_of Tryz.func87 (by kernel_rfl) rfl) (fun W=> ∃s,RfInv w s r W) ?_ ?_
  · intro fn W1 rc hrc hW1
    have hP1:RfInv w q.data.toList [] W1:=by
      rw[hW1]
      exact hP0.mono (((Below.refl _ W0).alloc (Nat.le_refl _) _).alloc (by simp) _)
    have hL1:W1.heap[W0.heap.size+1]?=some (.loop (rc .ready)):=by
      rw[hW1];have:=World.alloc_heap_new (W0.alloc (.deferred (some []))) (.loop (rc .ready));rwa[World.size_alloc]at this
    have hK1:W1.heap[W0.heap.size]?=some (.deferred (some [])):=by
      rw[hW1];exact(Below.heap_alloc _ _ _ (by simp)).trans (World.alloc_heap_new W0 _)
    clear hW1
    have key:=AKH (N:=N) (n:=9) (qb:=w.heap.size+1) (l:=W0.heap.size+1) (r:=r) (q:=q.data.toList) (W:=W1)
      (J:=fun s acc W=>RfInv w s acc W∧W.heap[W0.heap.size+1]?=W1.heap[W0.heap.size+1]?∧W.heap[W0.heap.size]?=some (.deferred (some []))) ?_ ?_ ⟨hP1,rfl,hK1⟩ h (by decide)
    · refine key.mono ?_
      rintro e W' ⟨hv,s,hp,hl,hk⟩
      exact⟨hv,hl.trans hL1,hk,s,hp⟩
    · refine⟨?_,?_,?_⟩
      · rintro s acc W ⟨⟨_,⟨b,h2,h3,h4⟩,_⟩,_,_⟩
        exact⟨b,h2,h3,h4.cell,h4.frozen⟩
      · rintro s acc W b ⟨hp,hl,hk⟩ hb
        refine⟨hp.setq hb,?_,?_⟩
        · exact(Below.heap_setCell _ _ _ _ (by simp;omega)).trans hl
        · exact(Below.heap_setCell _ _ _ _ (by simp;omega)).trans hk
      · rintro s acc W W' ⟨hp,hl,hk⟩ hB
        refine⟨hp.mono hB,?_,?_⟩
        · have:=(Array.getElem?_eq_some_iff.1 (hl.trans hL1)).1
          exact(hB.block _ this).trans hl
        · have:=(Array.getElem?_eq_some_iff.1 hk).1
          exact(hB.block _ this).trans hk
    · rintro s acc acc' x W ⟨hp,hl,hk⟩ hx hb
      refine(AEv (R:=fun W3=>RfInv w s acc' W3∧W3.heap[W0.heap.size]?=some (.deferred (some []))) (hrc▸(hl.trans hL1)) rfl ?_).mono ?_
      · obtain⟨c,hc,hb1⟩:=Option.bind_eq_some_iff.1 hb
        obtain⟨d,hd,hb2⟩:=Option.bind_eq_some_iff.1 hb1
        clear hb hb1
        have hyes:(d.2==0)=true→Ck (acc.length+1) 32∧acc++[⟨c.1,d.1⟩]=acc':=fun h0=>by
          rw[if_pos h0]at hb2
          unfold grd at hb2
          split at hb2
          · rename_i hf;cases hb2;exact⟨hf,rfl⟩
          · cases hb2
        have hl2:=hl.trans hL1
        have hpB:=hp.putObj (.loop (rc .busy)) hl2 rfl (by omega)
        have hlB:(W.putObj (W0.heap.size+1) (.loop (rc .busy))).heap[W0.heap.size+1]?=some (.loop (rc .busy)):=World.putObj_heap_same (Array.getElem?_eq_some_iff.1 hl2).1
        have hkB:(W.putObj (W0.heap.size+1) (.loop (rc .busy))).heap[W0.heap.size]?=some (.deferred (some [])):=(World.putObj_heap_other (by omega)).trans hk
        rw[←hrc]
        have hD:w.heap.size≤W0.heap.size:=by omega
        clear hsz hrc
        gi_wp2
        refine⟨trivial,?_⟩
        generalize W.putObj (W0.heap.size+1) (.loop (rc .busy))=WB at *
        have keepB: ∀ {A B:World}{k:Nat}{o:Obj},Below A.heap.size A B→A.heap[k]?=some o→B.heap[k]?=some o:=fun hB h=>(hB.block _ (Array.getElem?_eq_some_iff.1 h).1).trans h
        gi_wp2_with (first
          |(refine⟨trivial,?_⟩;gi_at_call 38;refine(CallsIn.inRound _ (AF3 x AMv hx (by unfold Li AMv;decide) hc WB)).mono ?_;rintro e W4 ⟨a1,a2,rfl,ha1,ha2,ho1,ho2,hB4⟩;have hp4:=hpB.mono hB4;have hl4:=keepB hB4 hlB;have hk4:=keepB hB4 hkB)
          |(refine⟨trivial,?_⟩;gi_at_call 39;refine(CallsIn.inRound _ (AKv a2 ho2 (y:=d) (by rw[ha2];exact hd) W4)).mono ?_;rintro e W5 ⟨a3,rfl,ha3,ho3,hB5⟩;obtain⟨hbel,hqq,hst,v,hv,hrow⟩:=hp4.mono hB5;have hl5:=keepB hB5 hl4;have hk5:=keepB hB5 hk4;have hcv:=hv.cell;have hfv:=hv.frozen)
          |(gi_at_builtin;obtain⟨hft,hacc⟩:=hyes (by assumption);refine wpListIn_append_own _ rfl _ _ 36 rfl w.heap.size 70 i0 _ 2 32 Tryz.underlying36 hi hz0 hz1 hz2 rfl (by decide) _ _ _ rfl (hrow.alloc _) ⟨W5.heap.size,0,none⟩ 1 1 [.string a1,.string a3] rfl rfl (AL2 _ _ _ _) (by simp[Value.oneCell']) (by unfold Ck at hft;unfold maxLen;omega) hft.1 (by have:=hbel.size;simp;omega) ?_;intro v' w1 hown' hgrow _;obtain⟨g',cap',rfl⟩:=ownsRow_succ hown';obtain⟨hv1,hv2,hr2,hk2,hb3⟩:=hv.appended (by decide) hrow hbel.size (Nat.le_refl _) hown' hgrow;have hc1:=hv1.cell;have hf1:=hv1.frozen))
        · obtain⟨bq,hq1,hq2,hq3⟩:=hqq
          have hq4:=((hq3.alloc (.cells #[.string a1,.string a3] 70)).kept hgrow (hq3.not_row (by decide) hrow)).kept (grownBy_setCell' w1 w.heap.size (.slice (some ⟨g',0,none⟩) (acc.length+1) cap')) (by simp)
          refine⟨hk2.same _ _ hl5 rfl,⟨hbel.trans hb3,⟨bq,hq1,hq2,hq4⟩,?_,_,hv2,?_⟩,hk2.same _ _ hk5 rfl⟩
          · rw[←hacc]
            refine⟨fun f hf=>?_,by unfold Ck at hft;unfold Bw;simp;omega⟩
            rcases List.mem_append.1 hf with hf|hf
            · exact hst.1 f hf
            · rcases List.mem_singleton.1 hf with rfl
              exact⟨by dsimp only;rw[←ha1];exact ho1,by dsimp only;rw[←ha3];exact ho3⟩
          have e1:=AB2 ha1
          have e3:=AB2 ha3
          subst e1 e3
          rw[←hacc,show(acc++[(⟨c.1,d.1⟩:ApiField)]).length=acc.length+1 by simp,show KX (acc++[(⟨c.1,d.1⟩:ApiField)])=KX acc++[.string (Ki c.1),.string (Ki d.1)] by simp[KX]]
          exact hr2
        · have hne: ¬(d.2==0)=true:=by first|assumption|(intro hh;simp_all)
          rw[if_neg hne]at hb2
          cases hb2
          exact⟨hbel,hqq,hst,v,hv,hrow⟩
      · rintro e W' ⟨rfl,W3,⟨hp3,hk3⟩,hl3,rfl⟩
        refine⟨rfl,hp3.putObj _ hl3 rfl (by omega),?_,?_⟩
        · rw[←hrc];exact(World.putObj_heap_same (Array.getElem?_eq_some_iff.1 hl3).1).trans hL1.symm
        · exact(World.putObj_heap_other (by omega)).trans hk3
  · rintro W rr ⟨s,hp⟩ hl hk o
    have hp':=hp.putObj o hl rfl (by omega)
    obtain⟨hB,_,hst,v,hv,hrow⟩:=hp'
    have hc:=hv.cell
    have hk':(W.putObj (W0.heap.size+1) o).heap[W0.heap.size]?=some (.deferred (some [])):=(World.putObj_heap_other (by omega)).trans hk
    have hD:w.heap.size≤W0.heap.size:=by omega
    clear hsz
    generalize W.putObj (W0.heap.size+1) o=W5 at *
    gi_wp2
    refine⟨by simp,.inl ⟨_,_,rfl,run_takeDeferred hk',?_⟩⟩
    exact⟨_,results_tmp rfl _ _ _,v,rfl,ownsRow_putObj hrow _ hk' rfl,hB.trans (belowK_b (w:=w) (Nat.le_refl _) _ W0.heap.size _ _ hD hk' rfl rfl),hst⟩
theorem Ka (l:List UInt8):(Ki l).data.toList=l:=by simp[Ki]
theorem AFj{Γ:Ghost}: ∀(acc:List ApiField),(∀f,f∈acc→f.name.length≤Bw∧f.value.length≤Bw)→RepS Γ 2 (acc.map Bz) (KX acc)
  |[],_=>.nil _ _
  | f::acc,h=>by
    obtain⟨h1,h2⟩:=h f (by simp)
    have ih:=AFj (Γ:=Γ) acc fun g hg=>h g (by simp[hg])
    have hr:Rep Γ (Bz f) (.agg #[.string (Ki f.name),.string (Ki f.value)]):=by
      refine .agg (.cons ?_ (.cons ?_ .nil)) (by simp[Value.oneCell'])
      · have:=Rep.str (Γ:=Γ) (Ki f.name) (by rw[Ka];exact h1)
        rwa[Ka]at this
      · have:=Rep.str (Γ:=Γ) (Ki f.value) (by rw[Ka];exact h2)
        rwa[Ka]at this
    have hc:(Value.agg #[.string (Ki f.name),.string (Ki f.value)]).cells= #[.string (Ki f.name),.string (Ki f.value)]:=rfl
    have:=RepS.cons hr (by rw[hc];exact⟨rfl,by simp[Value.oneCell']⟩) ih
    rw[hc]at this
    exact this
theorem Hu {a0 r} (h:GK N a0=some r) (ha:args=[.str a0]) (hQ: ∀n',n≤n'→Gl (Q (.slice 2 (List.map Bz r) false) ⟨m,n'⟩)):ACall vE 18 args ⟨m,n⟩ Q:=by
  subst ha
  constructor
  intro F Γ w cargs hs
  have hrep:=hs.rep
  generalize hv:cargs.toList=vs at hrep
  cases hrep with
  | cons h1 h2=>
    cases h2
    cases h1 with
    | str b hb=>
      have hc:cargs= #[.string b]:=Array.toList_inj.1 (by rw[hv])
      subst hc
      refine(callsIn_wide.1 (ADq b hb h w)).mono ?_
      rintro e W' ⟨v,rfl,⟨hlen,hrow⟩,hB,hst⟩
      refine⟨v,rfl,?_⟩
      rcases hrow with⟨rfl,h0⟩|⟨g,cap,cur,rfl,hg,hh,hk,hcap,hcs,hx⟩
      · have hr0:r=[]:=List.eq_nil_of_length_eq_zero h0
        subst hr0
        obtain⟨e1,e2⟩:=hs.behind (Γ':=Γ) hB Γ.le_refl rfl rfl rfl (fun _ _=>⟨rfl,rfl⟩) (fun b cs hb hc=>by have:=hs.com_lt hc;omega) (fun b e hb hc=>by obtain⟨cs,hcs⟩:=hs.tyd.2 _ _ hc;exact⟨cs,hcs⟩) (r:=.slice 2 [] false) (v:=.slice none 0 0) (.snil 2 false none) (by simp[VM.own]) (fun b=>rfl)
        exact⟨Γ,_,⟨m,n⟩,e1,Nat.le_refl _,e2,(hQ n (Nat.le_refl _)).go⟩
      · have hn:=hs.com_none hg
        have hle:Γ.le (Γ.arr g cur.toList 70):=by
          refine⟨fun b cs h=>⟨[],?_⟩,fun i b h=>h,fun i x h=>h,fun b x h=>?_,fun _ _ h=>h⟩
          · have:=hs.com_lt h
            simp only[Ghost.arr]
            rw[if_neg (by omega)]
            simpa using h
          · obtain⟨cs,hc⟩:=hs.tyd.2 _ _ h
            have:=hs.com_lt hc
            simp only[Ghost.arr]
            rw[if_neg (by omega)]
            exact h
        have hcom:(Γ.arr g cur.toList 70).com g=some cur.toList:=by simp[Ghost.arr]
        have hS:RepS (Γ.arr g cur.toList 70) 2 (r.map Bz) cur.toList:=by
          have:=(AFj (Γ:=Γ.arr g cur.toList 70) r hst.1).more (cur.toList.drop (r.length * 2))
          rwa[←hx,List.take_append_drop]at this
        have hlm:r.length≤Bw:=hst.2
        obtain⟨e1,e2⟩:=hs.behind (Γ':=Γ.arr g cur.toList 70) hB hle rfl rfl rfl (fun b hb=>by simp only[Ghost.arr];rw[if_neg (by omega),if_neg (by omega)];exact⟨rfl,rfl⟩)
          (fun b cs hb hc=>by
            simp only[Ghost.arr]at hc
            split at hc
            · rename_i hbg;subst hbg;cases hc
              exact⟨cur,70,(0,0),hh,⟨[],by simp⟩,fun T hT=>by simp[Ghost.arr]at hT;exact hT⟩
            · have:=hs.com_lt hc;omega)
          (fun b e hb hc=>by
            simp only[Ghost.arr]at hc⊢
            split at hc
            · rename_i hbg;exact⟨_,by rw[if_pos hbg]⟩
            · rename_i hbg
              obtain⟨cs,hcs⟩:=hs.tyd.2 _ _ hc
              exact⟨cs,by rw[if_neg hbg];exact hcs⟩)
          (r:=.slice 2 (r.map Bz) false) (v:=.slice (some ⟨g,0,none⟩) r.length cap) (.slice false hcom (by simp) ⟨hk,hlm⟩ hS (fun h=>by cases h)) (by simp[VM.own]) (fun b=>rfl)
        exact⟨Γ.arr g cur.toList 70,_,⟨m,n⟩,e1,Nat.le_refl _,e2,(hQ n (Nat.le_refl _)).go⟩
end
theorem Lr {a0 a1 r} (h:JD N a0 a1=some r) (ha:args=[.str a0,.int .i64 a1]) (hQ: ∀n',n≤n'→Gl (Q (.tuple [.int .i64 r.1,.bool r.2]) ⟨m,n'⟩)):ACall vE 229 args ⟨m,n⟩ Q:=by
 rw[JD]at h
 subst ha
 refine ent hQ Tryz.func229 rfl Tryz.ntmps229 Tryz.results229 (.q (.r []) (.q .z (.q (.r []) (.q (.r []) .z)))) fun R hR=>?_
 replace h:=And.intro trivial h
 simp(disch:=omega) only[vm,seval,h.1]
 refine⟨AP (γ:=Unit) h [8,9,10,11,12,13,14,15,16,17,18,19,20,21,22,23,24] [25] (fun j1 g=>[.bool j1]) (fun j1 g=>m) (.r []) ?_ ?_⟩<;>clear h
 rintro j1 _ n4 hnn4 _ _ h
 refine AB (.c (.q (.r []) .z) .z) ?_
 rcases AC h with h|h
 exact tR
 obtain⟨x7,h⟩:=AA h
 obtain⟨y8,h⟩:=AA h
 simp(disch:=omega) only[vm,seval,h.1]
 refine⟨Yo h.1.1 tD fun n9 hn9=>?_⟩
 exact tR
 intro k2 Jk2 hk2 h
 rcases AC h with h|h
 exact tJ (hk2 true ())
 obtain⟨x5,h⟩:=AA h
 rcases AC h with h|h
 exact tJ (hk2 true ())
 obtain⟨x6,h⟩:=AA h
 exact tJ (hk2 ((AV x6) !=117) ())
theorem Bt {a0 a1 r} (h:Bf N a0 a1=some r) (ha:args=[.str a0,.str a1]) (hQ: ∀n',n≤n'→Gl (Q (.tuple [.str r.1,.int .i64 r.2]) ⟨m,n'⟩)):ACall vE 109 args ⟨m,n⟩ Q:=by
 rw[Bf]at h
 subst ha
 refine ent hQ Tryz.func109 rfl Tryz.ntmps109 Tryz.results109 (.q (.r []) (.q (.q (.r []) (.c (.q (.r []) .z) .z)) (.q (.r []) .z))) fun R hR=>?_
 replace h:=And.intro trivial h
 rcases AC h with h|h
 exact tR
 simp(disch:=omega) only[vm,seval,h.1]
 refine⟨AP (γ:=Unit) h [4,5,7,8,9,10,14,15,16,17,18,19,20,21,22,23,24,25,26,27,28,29,30,31,32,33,34,35,36,37,38,39,40,41,42,43,44,45,46,47,48,49,50,51,52,53,54,55,56] [] (fun j1 g=>[]) (fun j1 g=>(n,[.slice 1 (List.map (AVal.int .u8) j1) true])::m) (.q (.r []) .z) ?_ ?_⟩<;>clear h
 rintro j1 _ n4 hnn4 _ _ h
 refine AB (.q (.r []) .z) ?_
 exact tR
 intro k2 Jk2 hk2 h
 simp(disch:=omega) only[vm,seval,h.1]
 refine⟨E8 (σ:=Int×(List Int)) (γ:=Unit) (fun k s=>Cy N a0 a1 k2 k s.1 s.2) (fun s g=>[.int .i64 s.1]) (fun s g=>(n,[.slice 1 (List.map (AVal.int .u8) s.2) true])::m) [4,5,8,9,10,14,15,16,17,18,19,20,21,22,23,24,25,26,27,28,29,30,31,32,33,34,35,36,37,38,39,40,41,42,43,44,45,46,47,48,49,50,51,52,53,54,55,56] [7] (0,[]) () h (fun _=>rfl) tD tD ?_⟩
 clear h
 rintro k5 ⟨s7,bn⟩ _ nL0_1 hnL0_1 _ h Jk5 hk5
 change _∧Cy N a0 a1 k2 (k5+1) s7 bn=_ at h
 rw[Cy]at h
 refine AB (.q (.q (.r []) (.c .z .z)) .z) ?_
 rcases AC h with h|h
 simp(disch:=omega) only[vm,seval,h.1]
 refine⟨AP (γ:=Unit) h [4,5,8,9,10,20,21,22,23,24,25,26,27,28,29,30,31,32,33,34,35,36,37,38,39,40,41,42,43,44,45,46,47,48,49,50,51,52,53,54,55,56] [7] (fun j6 g=>[.int .i64 j6.1]) (fun j6 g=>(n,[.slice 1 (List.map (AVal.int .u8) j6.2) true])::m) (.q (.r []) (.q (.r []) (.c (.q (.r []) (.q (.q (.r []) (.c (.q (.r []) .z) .z)) (.q (.r []) (.q (.r []) (.c (.r [38]) (.r [])))))) .z))) ?_ ?_⟩<;>clear h
 rintro j6 _ n9 hnn9 _ _ h
 refine AB (.r []) ?_
 exact tJ (hk5 ((wr .i64 (j6.1+1)),j6.2) ())
 intro k7 Jk7 hk7 h
 obtain⟨x10,h⟩:=AA h
 rcases AC h with h|h
 obtain⟨y11,h⟩:=AA h
 simp(disch:=omega) only[vm,seval,h.1]
 refine⟨IQ h.1.1 tD fun n12 hn12=>?_⟩
 rcases AC h with h|h
 obtain⟨y13,h⟩:=AA h
 simp(disch:=omega) only[vm,seval,h.1]
 refine⟨Gp h.1.1 tD fun n14 hn14=>?_⟩
 rcases AC h with h|h
 obtain⟨c,h⟩:=AU h
 try simp only[liE,seval]at c
 replace h:=AQ c h
 exact tJ (hk7 ((wr .i64 (s7+2)),(bn++[y11.1])) ())
 obtain⟨y15,h⟩:=AA h
 simp(disch:=omega) only[vm,seval,h.1]
 refine⟨Jp h.1.1 tD (i0:=n) (by simp(disch:=omega) only[vm,seval,h.1]) fun n16 hn16=>?_⟩
 exact tJ (hk7 ((wr .i64 (s7+2)),y15) ())
 exact tR
 simp(disch:=omega) only[vm,seval,h.1]
 refine⟨AP (γ:=Unit) h [45,46,47,48,49,50,51,52] [44] (fun j17 g=>[.bool j17]) (fun j17 g=>(n,[.slice 1 (List.map (AVal.int .u8) bn) true])::m) (.r []) ?_ ?_⟩<;>clear h
 rintro j17 _ n20 hnn20 _ _ h
 refine AB (.c (.r [53]) (.q (.r []) .z)) ?_
 rcases AC h with h|h
 obtain⟨c,h⟩:=AU h
 try simp only[liE,seval]at c
 replace h:=AQ c h
 exact tJ (hk7 (s7,(bn++[(AV x10)])) ())
 exact tR
 intro k18 Jk18 hk18 h
 obtain⟨y21,h⟩:=AA h
 simp(disch:=omega) only[vm,seval,h.1]
 refine⟨Gp h.1.1 tD fun n22 hn22=>?_⟩
 rcases AC h with h|h
 exact tJ (hk18 true ())
 obtain⟨y23,h⟩:=AA h
 simp(disch:=omega) only[vm,seval,h.1]
 refine⟨BR h.1.1 tD fun n24 hn24=>?_⟩
 exact tJ (hk18 (decide (y23≥0)) ())
 exact tJ (hk2 bn ())
theorem Lf {a0 a1 a2 a3 r} (h:strings_Replace N a0 a1 a2 a3=some r) (ha:args=[.str a0,.str a1,.str a2,.int .i64 a3]) (hQ: ∀n',n≤n'→Gl (Q (.str r) ⟨m,n'⟩)):ACall vE 232 args ⟨m,n⟩ Q:=by
 rw[strings_Replace]at h
 subst ha
 refine ent hQ Tryz.func232 rfl Tryz.ntmps232 Tryz.results232 (.q (.r []) (.q .z .z)) fun R hR=>?_
 replace h:=And.intro trivial h
 simp(disch:=omega) only[vm,seval,h.1]
 refine⟨AP (γ:=Unit) h [16,17,18,19,20,21] [22] (fun j1 g=>[.bool j1]) (fun j1 g=>m) (.r []) ?_ ?_⟩<;>clear h
 rintro j1 _ n4 hnn4 _ _ h
 refine AB (.c (.q (.r []) .z) .z) ?_
 rcases AC h with h|h
 exact tR
 simp(disch:=omega) only[vm,seval,h.1]
 refine⟨AP (γ:=Unit) h [8,9,24,25,26,27,28,29,30,31,32,33,34,35,36,37] [3] (fun j5 g=>[.int .i64 j5]) (fun j5 g=>m) (.q (.r []) (.q (.r []) (.c (.q (.r []) .z) .z))) ?_ ?_⟩<;>clear h
 rintro j5 _ n8 hnn8 _ _ h
 refine AB (.q (.r [10]) (.q (.r []) (.q (.r []) .z))) ?_
 obtain⟨y15,h⟩:=AA h
 simp(disch:=omega) only[vm,seval,h.1]
 refine⟨JP h.1.1 tD (i0:=n8) (by simp(disch:=omega) only[vm,seval,h.1]) fun n16 hn16=>?_⟩
 try dsimp only at hn16
 simp(disch:=omega) only[vm,seval,h.1]
 refine⟨AP (γ:=Unit) h [12,13,14,15,49,50,51,52,53,54,55,56,57,58,59,60,61,62,63,64,65,66,67,68,69,70,71,72,73,74,75,76,77,78,79,80,81,82,83,84,85,86,87,88,89,90,91,92,93,94,95,96,97,98] [11] (fun j17 g=>[.int .i64 j17.1]) (fun j17 g=>(n8,[FJ n8 196 2 j17.2.1,.buf 5 j17.2.2 true])::m) (.q (.r []) (.c (.q (.r []) .z) (.q (.r []) (.q (.r []) .z)))) ?_ ?_⟩<;>clear h
 rintro j17 _ n20 hnn20 _ _ h
 refine AB (.q (.r []) (.q (.r []) .z)) ?_
 obtain⟨x41,h⟩:=AA h
 obtain⟨y42,h⟩:=AA h
 simp(disch:=omega) only[vm,seval,h.1]
 refine⟨Aw h.1.1 tD (i0:=n8) (by simp(disch:=omega) only[vm,seval,h.1]) fun n43 hn43=>?_⟩
 obtain⟨y44,h⟩:=AA h
 simp(disch:=omega) only[vm,seval,h.1]
 refine⟨FW h.1.1 tD (i0:=n8) (by simp(disch:=omega) only[vm,seval,h.1]) fun n45 hn45=>?_⟩
 exact tR
 intro k18 Jk18 hk18 h
 rcases AC h with h|h
 obtain⟨hfk21,h⟩:=AU h
 simp(disch:=omega) only[vm,seval,h.1]
 refine⟨ML (σ:=Int×Bool×(List UInt8)) (γ:=Unit) 0 j5 hfk21 (fun xs i s=>CU N a0 a1 a2 k18 xs s.1 s.2.1 s.2.2) (fun i s g=>[.int .i64 s.1,.int .i64 i]) (fun i s g=>(n8,[FJ n8 196 2 s.2.1,.buf 5 s.2.2 true])::m) [12,54,55,56,57,58,59,60,61,62,63,64,65,66,67,68,69,70,71,72,73] [11,53] (0,true,[]) () h tD tD ?_ ?_⟩<;>clear h
 rintro s53 ⟨s11,bn8_addr,bn8_buf⟩ _ nL0_1 hnL0_1 _ h
 change _∧CU N a0 a1 a2 k18 0 s11 bn8_addr bn8_buf=_ at h
 rw[CU]at h
 refine AB (.q (.r []) (.q (.c .z .z) (.q (.q (.r []) (.q (.r []) (.q (.r []) (.r [])))) (.r [])))) ?_
 exact tJ (hk18 (s11,bn8_addr,bn8_buf) ())
 rintro xsk21 s53 ⟨s11,bn8_addr,bn8_buf⟩ _ nL0_1 hnL0_1 _ h Jk21 hk21
 change _∧CU N a0 a1 a2 k18 (xsk21+1) s11 bn8_addr bn8_buf=_ at h
 rw[CU]at h
 refine AB (.q (.r []) (.q (.c .z .z) (.q (.q (.r []) (.q (.r []) (.q (.r []) (.r [])))) (.r [])))) ?_
 obtain⟨x22,h⟩:=AA h
 obtain⟨y23,h⟩:=AA h
 simp(disch:=omega) only[vm,seval,h.1]
 refine⟨FZ h.1.1 tD fun n24 hn24=>?_⟩
 obtain⟨x25,h⟩:=AA h
 obtain⟨y26,h⟩:=AA h
 simp(disch:=omega) only[vm,seval,h.1]
 refine⟨Aw h.1.1 tD (i0:=n8) (by simp(disch:=omega) only[vm,seval,h.1]) fun n27 hn27=>?_⟩
 obtain⟨y28,h⟩:=AA h
 simp(disch:=omega) only[vm,seval,h.1]
 refine⟨Aw h.1.1 tD (i0:=n8) (by simp(disch:=omega) only[vm,seval,h.1]) fun n29 hn29=>?_⟩
 exact tJ (hk21 ((wr .i64 ((wr .i64 (s11+y23))+(a1.length:Int))),y28.2.2.addr,y28.2.2.buf) ())
 obtain⟨y30,h⟩:=AA h
 simp(disch:=omega) only[vm,seval,h.1]
 refine⟨Aw h.1.1 tD (i0:=n8) (by simp(disch:=omega) only[vm,seval,h.1]) fun n31 hn31=>?_⟩
 obtain⟨hfk32,h⟩:=AU h
 simp(disch:=omega) only[vm,seval,h.1]
 refine⟨ML (σ:=Int×StringsBuilder) (γ:=Unit) 0 (wr .i64 (j5-1)) hfk32 (fun xs i s=>CX N a0 a2 k18 xs s.1 s.2) (fun i s g=>[.int .i64 s.1,.int .i64 i]) (fun i s g=>(n8,[FJ n8 196 2 s.2.addr,.buf 5 s.2.buf true])::m) [13,14,15,79,80,81,82,83,84,85,86,87,88,89,90,91,92,93,94,95,96,97,98] [11,78] (0,y30.2.2) () h tD tD ?_ ?_⟩<;>clear h
 rintro s78 ⟨s11,bn8⟩ _ nL1_1 hnL1_1 _ h
 change _∧CX N a0 a2 k18 0 s11 bn8=_ at h
 rw[CX]at h
 refine AB (.q (.r []) (.q (.c .z .z) (.q (.q (.r []) (.q (.r []) (.q (.r []) (.q (.r []) (.r []))))) (.r [])))) ?_
 exact tJ (hk18 (s11,bn8.addr,bn8.buf) ())
 rintro xsk32 s78 ⟨s11,bn8⟩ _ nL1_1 hnL1_1 _ h Jk32 hk32
 change _∧CX N a0 a2 k18 (xsk32+1) s11 bn8=_ at h
 rw[CX]at h
 refine AB (.q (.r []) (.q (.c .z .z) (.q (.q (.r []) (.q (.r []) (.q (.r []) (.q (.r []) (.r []))))) (.r [])))) ?_
 obtain⟨x33,h⟩:=AA h
 obtain⟨y34,h⟩:=AA h
 simp(disch:=omega) only[vm,seval,h.1]
 refine⟨Dn h.1.1 tD fun n35 hn35=>?_⟩
 obtain⟨x36,h⟩:=AA h
 obtain⟨y37,h⟩:=AA h
 simp(disch:=omega) only[vm,seval,h.1]
 refine⟨Aw h.1.1 tD (i0:=n8) (by simp(disch:=omega) only[vm,seval,h.1]) fun n38 hn38=>?_⟩
 obtain⟨y39,h⟩:=AA h
 simp(disch:=omega) only[vm,seval,h.1]
 refine⟨Aw h.1.1 tD (i0:=n8) (by simp(disch:=omega) only[vm,seval,h.1]) fun n40 hn40=>?_⟩
 exact tJ (hk32 ((wr .i64 (s11+y34.2)),y39.2.2) ())
 intro k6 Jk6 hk6 h
 obtain⟨y9,h⟩:=AA h
 simp(disch:=omega) only[vm,seval,h.1]
 refine⟨Jf h.1.1 tD fun n10 hn10=>?_⟩
 rcases AC h with h|h
 exact tR
 simp(disch:=omega) only[vm,seval,h.1]
 refine⟨AP (γ:=Unit) h [30,31,32,33,34,35] [36] (fun j11 g=>[.bool j11]) (fun j11 g=>m) (.r []) ?_ ?_⟩<;>clear h
 rintro j11 _ n14 hnn14 _ _ h
 refine AB (.c (.r []) .z) ?_
 rcases AC h with h|h
 exact tJ (hk6 y9 ())
 exact tJ (hk6 a3 ())
 intro k12 Jk12 hk12 h
 rcases AC h with h|h
 exact tJ (hk12 true ())
 exact tJ (hk12 (decide (y9<a3)) ())
 intro k2 Jk2 hk2 h
 rcases AC h with h|h
 exact tJ (hk2 true ())
 exact tJ (hk2 (a3==0) ())
theorem KN {a0 r} (h:I1 N a0=some r) (ha:args=[.str a0]) (hQ: ∀n',n≤n'→Gl (Q (.tuple [Fv r.1,.int .i64 r.2]) ⟨m,n'⟩)):ACall vE 105 args ⟨m,n⟩ Q:=by
 rw[I1]at h
 subst ha
 refine ent hQ Tryz.func105 rfl Tryz.ntmps105 Tryz.results105 (.q (.r []) (.q (.q (.r []) (.c (.q (.r []) .z) .z)) (.q (.r []) (.q (.r []) (.q (.r []) .z))))) fun R hR=>?_
 replace h:=And.intro trivial h
 rcases AC h with h|h
 exact tR
 obtain⟨y1,h⟩:=AA h
 simp(disch:=omega) only[vm,seval,h.1]
 refine⟨DV h.1.1 tD fun n2 hn2=>?_⟩
 obtain⟨y3,h⟩:=AA h
 simp(disch:=omega) only[vm,seval,h.1]
 refine⟨DV h.1.1 tD fun n4 hn4=>?_⟩
 simp(disch:=omega) only[vm,seval,h.1]
 refine⟨AP (γ:=Unit) h [3,5,29,30,31,32,33,34,35,36,37,38,39,40,41,42,43,44,45,46,47,48,49,50,51,52,53] [0] (fun j5 g=>[.str j5.1]) (fun j5 g=>((n+1),[.str j5.2.1,.str [],.str [],.str y3.2.1,.str y1.2.1,.bool j5.2.2,.bool false,.bool y3.2.2,.bool y1.2.2])::(n,[.str [],.str [],.str [],.str [],.str [],.bool false,.bool false,.bool false,.bool false])::m) (.q (.r []) .z) ?_ ?_⟩<;>clear h
 rintro j5 _ n8 hnn8 _ _ h
 refine AB .z ?_
 simp(disch:=omega) only[vm,seval,h.1]
 refine⟨AP (γ:=Unit) h [6,7,8,54,55,56,57,58,59,60,61,62,63,64,65,66,67,68,69,70,71,72,73] [0] (fun j20 g=>[.str j20.1]) (fun j20 g=>((n+1),[.str j5.2.1,.str j20.2.1,.str [],.str y3.2.1,.str y1.2.1,.bool j5.2.2,.bool j20.2.2,.bool y3.2.2,.bool y1.2.2])::(n,[.str [],.str [],.str [],.str [],.str [],.bool false,.bool false,.bool false,.bool false])::m) (.q (.r []) (.q (.r []) (.c (.q (.r []) (.q (.r []) .z)) .z))) ?_ ?_⟩<;>clear h
 rintro j20 _ n23 hnn23 _ _ h
 refine AB (.q (.r []) (.q (.r []) .z)) ?_
 exact tR
 intro k21 Jk21 hk21 h
 obtain⟨y24,h⟩:=AA h
 simp(disch:=omega) only[vm,seval,h.1]
 refine⟨G6 h.1.1 tD fun n25 hn25=>?_⟩
 rcases AC h with h|h
 obtain⟨y26,h⟩:=AA h
 simp(disch:=omega) only[vm,seval,h.1]
 refine⟨BR h.1.1 tD fun n27 hn27=>?_⟩
 simp(disch:=omega) only[vm,seval,h.1]
 refine⟨AP (γ:=Unit) h [63,64,65,66] [8] (fun j28 g=>[.int .i64 j28]) (fun j28 g=>((n+1),[.str j5.2.1,.str [],.str [],.str y3.2.1,.str y1.2.1,.bool j5.2.2,.bool true,.bool y3.2.2,.bool y1.2.2])::(n,[.str [],.str [],.str [],.str [],.str [],.bool false,.bool false,.bool false,.bool false])::m) (.q (.r []) (.c (.r []) .z)) ?_ ?_⟩<;>clear h
 rintro j28 _ n31 hnn31 _ _ h
 refine AB .z ?_
 obtain⟨x32,h⟩:=AA h
 obtain⟨x33,h⟩:=AA h
 simp(disch:=omega) only[vm,seval,h.1]
 refine⟨BL [] (.take 0 (.take 1 (.take 2 (.take 3 (.take 4 (.take 5 (.take 6 (.alt 7 [5,4,3] (.alt 8 [] (.done) (.stop)) (.stop))))))))) Ar (by kernel_rfl) ?_⟩
 exact tJ (hk21 (x33,x32,true) ())
 intro k29 Jk29 hk29 h
 rcases AC h with h|h
 exact tJ (hk29 (y24.1.length:Int) ())
 exact tJ (hk29 y26 ())
 exact tJ (hk21 (j5.1,[],false) ())
 intro k6 Jk6 hk6 h
 obtain⟨y9,h⟩:=AA h
 simp(disch:=omega) only[vm,seval,h.1]
 refine⟨LH h.1.1 tD fun n10 hn10=>?_⟩
 simp(disch:=omega) only[vm,seval,h.1]
 refine⟨AP (γ:=Unit) h [31,32,33,34,35,36,37] [38] (fun j11 g=>[.bool j11]) (fun j11 g=>((n+1),[.str [],.str [],.str [],.str y3.2.1,.str y1.2.1,.bool false,.bool false,.bool y3.2.2,.bool y1.2.2])::(n,[.str [],.str [],.str [],.str [],.str [],.bool false,.bool false,.bool false,.bool false])::m) (.r []) ?_ ?_⟩<;>clear h
 rintro j11 _ n14 hnn14 _ _ h
 refine AB (.c (.q (.q (.r []) (.c (.q (.r []) .z) .z)) .z) .z) ?_
 rcases AC h with h|h
 obtain⟨x16,h⟩:=AA h
 obtain⟨y17,h⟩:=AA h
 simp(disch:=omega) only[vm,seval,h.1]
 refine⟨SN h.1.1 tD fun n18 hn18=>?_⟩
 rcases AC h with h|h
 obtain⟨x19,h⟩:=AA h
 simp(disch:=omega) only[vm,seval,h.1]
 refine⟨BL [] (.take 0 (.take 1 (.take 2 (.take 3 (.take 4 (.take 5 (.take 6 (.take 7 (.alt 8 [6,5,4,3] (.take 9 (.alt 10 [6,5,4,3] (.alt 11 [] (.done) (.stop)) (.stop))) (.stop)))))))))) Ar (by kernel_rfl) ?_⟩
 exact tJ (hk6 (x19,x16,true) ())
 exact tR
 exact tJ (hk6 (y3.1,[],false) ())
 intro k12 Jk12 hk12 h
 rcases AC h with h|h
 obtain⟨x15,h⟩:=AA h
 exact tJ (hk12 ((AV x15)==58) ())
 exact tJ (hk12 false ())
theorem Jl {a0 a1 r} (h:Gm N a0 a1=some r) (ha:args=[.str a0,.int .u64 a1]) (hQ: ∀n',n≤n'→Gl (Q (.tuple [.int .u64 r.1,.int .i64 r.2]) ⟨m,n'⟩)):ACall vE 210 args ⟨m,n⟩ Q:=by
 rw[Gm]at h
 subst ha
 refine ent hQ Tryz.func210 rfl Tryz.ntmps210 Tryz.results210 (.q (.r []) (.q .z (.q (.r []) .z))) fun R hR=>?_
 replace h:=And.intro trivial h
 simp(disch:=omega) only[vm,seval,h.1]
 refine⟨AP (γ:=Unit) h [6,7,8,9,10,11,12,13,14,15,16] [17] (fun j1 g=>[.bool j1]) (fun j1 g=>m) (.r []) ?_ ?_⟩<;>clear h
 rintro j1 _ n4 hnn4 _ _ h
 refine AB (.c (.q (.r []) .z) .z) ?_
 rcases AC h with h|h
 exact tR
 obtain⟨y8,h⟩:=AA h
 simp(disch:=omega) only[vm,seval,h.1]
 refine⟨OU h.1.1 tD fun n9 hn9=>?_⟩
 exact tR
 intro k2 Jk2 hk2 h
 obtain⟨y5,h⟩:=AA h
 simp(disch:=omega) only[vm,seval,h.1]
 refine⟨J7 h.1.1 tD fun n6 hn6=>?_⟩
 rcases AC h with h|h
 rcases AC h with h|h
 obtain⟨x7,h⟩:=AA h
 exact tJ (hk2 ((AV x7)==48) ())
 exact tJ (hk2 false ())
 exact tJ (hk2 false ())
end Go.Proofs.YtjgdhjpafjpjgaaGreatDoor
