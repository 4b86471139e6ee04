import Derived.Test.YtfbofngnmfcomaaGreatDoorVM3
import Derived.RangeFuncNested
import Derived.RangeFuncBound
import Derived.RangeFuncCalls
import Derived.RangeFuncLeaves
import Derived.RangeFuncBox
import Derived.Shelf.Abstract
import Derived.Shelf.RegionOpen
import Derived.WalkKit
import Derived.OwnWalkIn
import Derived.TacticsInMore
import Derived.LoopNIn
import Derived.LoopIn
import Derived.Sort.LoopGhostIn
import Derived.Maps.AppendAt
set_option linter.defProp false
set_option linter.unusedSimpArgs false
set_option linter.unusedVariables false
namespace Go.VM
open Go.RowKit
variable{P:Program}{n:Nat}
def YT (fn:FuncId) (tmps:Array Value) (ps:Array Tmp) (assign body:Code) (D:Nat) (s:LoopState):Loop:= {state:=s,pending:=none,fn,tmps,params:=ps,assign,body,defers:=D}
def AdV{g:Operand}{ps:Array Tmp}{assign body:Code}{Q:Exit->Act->World->Prop}{a:Act}{w:World}{gf:Nat}{lb:Array Value} (h1:1<=n) (hg:a.eval g=.func (.func gf) #[] lb) (eg: ∀args w,(callFunc gf args).run P w=.ok (.enter gf args) w) (Jd:World->Prop) (hcall: ∀(fn:FuncId) (W1:World) (rc:LoopState->Loop),rc=YT fn a.tmps ps assign body w.heap.size->W1=(w.alloc (.deferred (some []))).alloc (.loop (rc .ready))->CallsIn Fence.wide (n-1) P gf (#[.func (.yield (w.heap.size+1)) #[] #[]]++lb) W1 λe W'=>(∃v,e=.returned v)/\W'.heap[w.heap.size+1]?=some (.loop (rc .ready))/\W'.heap[w.heap.size]?=some (.deferred (some []))/\Jd W') (hdone: ∀(W:World) (r:Loop),Jd W->W.heap[w.heap.size+1]?=some (.loop r)->W.heap[w.heap.size]?=some (.deferred (some []))->∀o,Q .normal {a with defers:={target:=.collected w.heap.size,args:=#[]}::a.defers} (W.putObj (w.heap.size+1) o)):(Code.rangeFunc g ps assign body).wpIn Fence.wide n P Q a w:=by
 refine wpIn_rangeFunc ?_;intro fn hfn;rw[show Fence.wide.round=none from rfl];obtain⟨W1,hW1⟩: ∃W1,W1=(w.alloc (.deferred (some []))).alloc (.loop (YT fn a.tmps ps assign body w.heap.size .ready)):=⟨_,rfl⟩;have he:(Instr.enterLoop fn a.tmps ps assign body none).run P w=.ok (w.heap.size+1,[{target:=.collected w.heap.size,args:=#[]}]) W1:=by rw[hW1];exact run_enterLoop_outer _ _ _ _ _
 have hc:=hcall fn W1 _ rfl hW1;refine⟨w.heap.size+1,[{target:=.collected w.heap.size,args:=#[]}],W1,{target:=.fn (.func gf) lb,args:=#[.func (.yield (w.heap.size+1)) #[] #[]]},W1,gf,#[.func (.yield (w.heap.size+1)) #[] #[]]++lb,W1,?_,?_,?_,?_,?_,?_⟩;·omega
 ·simp only[resolve,hg];simp[go_sem]
 ·intro f' _;exact trivial
 ·grind[invoke]
 ·omega
 ·refine hc.mono ?_;rintro e W' ⟨⟨v,rfl⟩,hl,hk,hj⟩;exact⟨none,_,run_endLoop hl (by simp[YT]),hdone W' _ hj hl hk _⟩
def Abc{l D:Nat}{fn:FuncId}{tmps:Array Value}{ps:Array Tmp}{assign body:Code}{W:World}{args:Array Value}{R:World->Prop} (hl:W.heap[l]?=some (.loop (YT fn tmps ps assign body D .ready))) (hs:args.size=ps.size) (h:assign.wpIn (Fence.wide.inRound l) n P (Exit.then (λa₁ W₁=>W₁=W/\body.wpIn (Fence.wide.inRound l) n P (λe _ W₃=>e=.normal/\W₃.heap[l]?=some (.loop (YT fn tmps ps assign body D .busy))/\R W₃) a₁ (W.putObj l (.loop (YT fn tmps ps assign body D .busy)))) (λ_ _ _=>False)) {tmps:=(ps.zip args).foldl (λt (p,v)=>t.setIfInBounds p v) tmps,defers:=[]} W):YieldAt Fence.wide n P l args W λe W'=>e=.returned (.bool true)/\∃W₃,R W₃/\W₃.heap[l]?=some (.loop (YT fn tmps ps assign body D .busy))/\W'=W₃.putObj l (.loop (YT fn tmps ps assign body D .ready)):=by refine⟨fn,_,assign,body,run_yield hl hs,roundIn_of_wpIn trivial (wpIn_mono h ?_)⟩;intro e a₁ W₁ hq;cases e with|normal=>obtain⟨rfl,hb⟩:=hq;refine⟨_,run_beginRound hl rfl,wpIn_mono hb ?_⟩;rintro e a₃ W₃ ⟨rfl,h3,hr⟩;exact⟨_,_,run_endRound none h3,rfl,W₃,hr,h3,rfl⟩|_=>exact hq.elim
def Sim.behind{E:Env}{F:Nat->Nat}{Γ Γ':Ghost}{st:St}{w w':World}{af:List AVal}{tm:List Value} (hs:Sim E F Γ st w af tm) (hB:Below w.heap.size w w') (hle:Γ.le Γ') (hbx:Γ'.bx=Γ.bx) (hbt:Γ'.bt=Γ.bt) (hsx:Γ'.sx=Γ.sx) (hold: ∀b,b<w.heap.size->Γ'.com b=Γ.com b/\Γ'.ct b=Γ.ct b) (hnew: ∀b cs,w.heap.size<=b->Γ'.com b=some cs->∃arr e fz,w'.heap[b]?=some (.cells arr e fz)/\(∃ds,arr.toList=cs++ds)/\∀T,Γ'.ct b=some T->e=T) (hct: ∀b e,w.heap.size<=b->Γ'.ct b=some e->∃cs,Γ'.com b=some cs){r:AVal}{v:Value} (hr:Rep Γ' r v) (ho:VM.own Γ' w' r v) (hc: ∀b,cnt b r v=0):Ext F Γ w Γ' w'/\Sim E F Γ' st w' [r] [v]:=by
 have keep: ∀b,b<w.heap.size->w'.heap[b]?=w.heap[b]?/\Γ'.com b=Γ.com b:=λb hb=>⟨hB.block b hb,(hold b hb).1⟩;have old: ∀p,p∈st.m->Γ'.bx p.1=Γ.bx p.1/\∀k,Γ.bx p.1=some k->w'.heap[k]?=w.heap[k]?:=λp hp=>⟨by grind,λk hk=>hB.block k (hs.bx_lt _ _ hk)⟩;have hlt: ∀b arr e fz,w.heap[b]?=some (.cells arr e fz)->b<w.heap.size:=λb arr e fz h=>(aH.1 h).1;have htok: ∀b,F b+Ah Γ' w' b st.m<=1:=by
  intro b;have hk:Ah Γ' w' b st.m=Ah Γ w b st.m:=by grind[EZ]
  have:=hs.tok b;omega
 refine⟨⟨hle,λb hb=>keep b (hs.F_of hb),hB.size,hB.os,hB.output,hB.tape⟩,?_⟩;refine {com_ok:=?_,box_ok:=?_,sx_next:=λi u h=>?_,keys:=hs.keys,inj:=by rw[hbx];exact hs.inj,bx_lt:=?_,bx_next:=by rw[hbx];exact hs.bx_next,tyd:=?_,bx_F:=by rw[hbx];exact hs.bx_F,F_lt:=?_,glob:=λg cs h=>(hs.glob g cs h).mono hle,rep:=.cons hr .nil,own:=by grind[ownL],tok:=?_}
 ·intro b cs h;rcases aS b w.heap.size with hb|hb;·obtain⟨h1,h2⟩:=hold b hb;rw[h1]at h;obtain⟨arr,e,fz,q1,q2,q3⟩:=hs.com_ok b cs h;grind
  grind
 ·intro p hp;rcases hs.box_ok p hp with⟨b,arr,e',hb⟩|⟨u,hv⟩;rotate_left;·refine .inr ⟨u,hv.keep hle ?_ λb hb=>keep b (Bl _ _ hv.own hb).1⟩;rw[hbx];exact hv.bx
  obtain⟨lo,hi,h3,h4⟩:=hb.heap;have hlt:=hs.bx_lt _ _ hb.bx;refine .inl ⟨b,arr,e',by rw[hbx];exact hb.bx,⟨lo,hi,by grind,h4⟩,hb.rep.mono hle,?_,by rw[(keep b hlt).2];exact hb.com,hb.one,by rw[hbt];exact hb.ty⟩;exact Be hle _ _ hb.own λb hb'=>keep b (Bl _ _ hb.own hb').1
 ·rw[hsx]at h;rw[hbx];exact hs.sx_next i u h
 ·rw[hbx];intro i b h;have:=hs.bx_lt i b h;grind
 ·refine⟨by rw[hbt,hbx];exact hs.tyd.1,λb e h=>?_⟩;rcases aS b w.heap.size with hb|hb;·obtain⟨h1,h2⟩:=hold b hb;rw[h2]at h;rw[h1];exact hs.tyd.2 b e h
  grind
 ·intro b hb;have:=hB.size;exact hs.F_lt b fx
 grind[AO]
end Go.VM
