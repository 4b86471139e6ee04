import Derived.Test.YtfbofngnmfcomaaGreatDoorW16
import Derived.Test.YtfbofngnmfcomaaGreatDoorW17
import Derived.Test.YtfbofngnmfcomaaGreatDoorVM6
set_option linter.unusedVariables false
set_option linter.unusedSimpArgs false
set_option maxHeartbeats 4000000
set_option maxRecDepth 100000
set_option linter.defProp false
namespace Go.Proofs.YtfbofngnmfcomaaGreatDoor
open Go.VM
attribute [local irreducible] AA grd letL
variable{N n:Nat}{m:MS}{Q:PQ}{args:List AVal}
@[reducible,instance] def Ae9 {a0 k6 k s1}:=lf (λk (s:Int)=>MH N a0 k6 k s) k s1 [(23,12)] [1] (λs=>[.int .i64 s]) (λs=>MH.eq_1 ..) (λk s=>MH.eq_2 ..)
@[reducible,instance] def Aec {a0 j5 k34 k s12}:=lf (λk (s:Int)=>L9 N a0 j5 k34 k s) k s12 [(100,16)] [12] (λs=>[.int .i64 s]) (λs=>L9.eq_1 ..) (λk s=>L9.eq_2 ..)
instance AoX {a0 a1}:CF vE (Vn N a0 a1) 89 [.str a0,.int .i64 a1] (λr=>.tuple [Dc r.1,.int .i64 r.2.1,.int .i64 r.2.2]):=AQ (Vn.eq_1 ..) Tryz.func89 rfl Tryz.ntmps89 Tryz.results89 [(1,[],.stop),(3,[],.stop),(15,[],.stop),(21,[],.stop),(24,[],.stop)]
@[reducible,instance] def AFy {a0 a1 k2 k s7 bn}:=lf (λk (s:Int×(List Int))=>CJ N a0 a1 k2 k s.1 s.2) k (s7,bn) [(4,2),(8,3),(14,43)] [7] (λs=>[.int .i64 s.1]) (λs=>CJ.eq_1 ..) (λk s=>CJ.eq_2 ..) (Ms:=λs=>[.s ([.slice 1 (List.map (AVal.int .u8) s.2) true])]) (X:=CJ N a0 a1 k2 k s7 bn)
instance ATc {a0 a1}:CF vE (Bq N a0 a1) 77 [.str a0,.str a1] (λr=>.tuple [.str r.1,.int .i64 r.2]):=AQ (Bq.eq_1 ..) Tryz.func77 rfl Tryz.ntmps77 Tryz.results77 [(15,[38],.done),(17,[],.stop),(18,[53],.done)]
instance AQn {a0 a1 a2}:CF vE (strings_ReplaceAll N a0 a1 a2) 258 [.str a0,.str a1,.str a2] (λr=>.str r):=AQ (strings_ReplaceAll.eq_1 ..) Tryz.func258 rfl Tryz.ntmps258 Tryz.results258
section
open Go.RowKit Go.Shelf
attribute [local go_sem] Oper.semAt_some
def Aft:AVal->Bool|.bool _=>true|.int _ _=>true|.num _=>true|_=>false
def AAr{Γ Γ':Ghost}: ∀ {xs:List AVal}{vs:List Value},xs.all Aft=true->RepL Γ xs vs->RepL Γ' xs vs|_,_,_,.nil=>.nil|x::xs,_,hx,.cons h t=>by rw[bl,av]at hx;refine .cons ?_ (AAr hx.2 t);cases x with|bool b=>cases h;exact .bool b|int k n=>cases h;exact .int k n|num k=>cases h;exact .num k _|_=>cases hx.1
def Afe{g:Nat}{cs:List AVal} (h:vE.T g=some cs):cs.all Aft=true:=by
 change vT g=some cs at h;unfold vT at h;repeat (split at h;·cases h;rfl)
 cases h
def RfG (W:World):Prop:= ∀g cs,vE.T g=some cs-> ∃arr e fz vs ds,W.heap[(g:Nat)]?=some (.cells arr e fz)/\arr.toList=vs++ds/\(∀Γ,RepL Γ cs vs)/\ ∀v,v∈vs->v.oneCell'=true
def AXg{W:World} (hG:RfG W): ∀g cs,vE.T g=some cs->Rep (FY W) (.cptr cs) (.pointer (some ⟨g,0,none⟩)):=by intro g cs h;obtain⟨arr,e,fz,vs,ds,h1,h2,h3,h4⟩:=hG g cs h;exact .cptr (cells:=arr.toList) (vs:=vs) (rest:=ds) (by simp[FY,h1]) (by rw[aL,h2]) (h3 _) h4
def RfG.of{Γ:Ghost}{F:Nat->Nat}{w:World}{st:St}{af:List AVal}{tm:List Value} (hs:Sim vE F Γ st w af tm):RfG w:=by intro g cs hg;have h:=hs.glob g cs hg;cases h with|cptr hb hd h ho=>obtain⟨arr,e,fz,hw,⟨ds,ha⟩,_⟩:=hs.com_ok _ _ hb;rw[aL]at hd;rw[hd,aM]at ha;exact⟨arr,e,fz,_,_,hw,ha,λ_=>AAr (Afe hg) h,ho⟩
def RfG.below{W W':World} (h:RfG W){n:Nat} (hn:n=W.heap.size) (hB:Below n W W'):RfG W':=by subst hn;intro g cs hg;obtain⟨arr,e,fz,vs,ds,h1,h2⟩:=h g cs hg;exact⟨arr,e,fz,vs,ds,(hB.block _ (aH.1 h1).1).trans h1,h2⟩
def Vy (b:ByteArray):Prop:=b.data.toList.length<=Bg
def Akx (s c:ByteArray) (hs:Vy s) (hc:Vy c) {y} (h:strings_Cut N s.data.toList c.data.toList=some y) (W:World) (hG:RfG W):CallsIn Fence.wide n Tryz.prog 35 #[.string s,.string c] W λe W'=>∃a b,e=.returned (.tuple #[.string a,.string b,.bool y.2.2])/\a.data.toList=y.1/\b.data.toList=y.2.1/\Vy a/\Vy b/\Below W.heap.size W W':=by refine callsIn_wide.2 ?_;have hw:ACall vE 35 [.str s.data.toList,.str c.data.toList] ⟨[],0⟩ (λr _=>r=.tuple [.str y.1,.str y.2.1,.bool y.2.2]):=ABd h rfl (λ_ _=>⟨rfl⟩);refine(ACall.shell (W:=W) (cargs:=#[.string s,.string c]) (AXg hG) (args':=[.str s.data.toList,.str c.data.toList]) (.cons (.str s hs) (.cons (.str c hc) .nil)) (by simp[stripL,AVal.strip]) hw).mono ?_;rintro e W' ⟨v,rfl,hB,Γ',r,st',hr,rfl⟩;cases hr with| @tuple cs arr h=>generalize ha:arr.toList=vs at h;cases h with|cons h1 h=>cases h with|cons h2 h=>cases h with|cons h3 h=>cases h;cases h3;generalize e1:y.1=l1 at h1;generalize e2:y.2.1=l2 at h2;cases h1 with|str a ha'=>cases h2 with|str b hb'=>refine⟨a,b,?_,rfl,rfl,ha',hb',hB⟩;congr 2;exact eY.1 ha
def AsR (s:ByteArray) (hs:Vy s) {y} (h:Ew N s.data.toList=some y) (W:World) (hG:RfG W):CallsIn Fence.wide n Tryz.prog 36 #[.string s] W λe W'=>∃a,e=.returned (.tuple #[.string a,.int .i64 y.2])/\a.data.toList=y.1/\Vy a/\Below W.heap.size W W':=by refine callsIn_wide.2 ?_;have hw:ACall vE 36 [.str s.data.toList] ⟨[],0⟩ (λr _=>r=.tuple [.str y.1,.int .i64 y.2]):=X7 h rfl (λ_ _=>⟨rfl⟩);refine(ACall.shell (W:=W) (cargs:=#[.string s]) (AXg hG) (args':=[.str s.data.toList]) (.cons (.str s hs) .nil) (by simp[stripL,AVal.strip]) hw).mono ?_;rintro e W' ⟨v,rfl,hB,Γ',r,st',hr,rfl⟩;cases hr with| @tuple cs arr h=>generalize ha:arr.toList=vs at h;cases h with|cons h1 h=>cases h with|cons h2 h=>cases h;cases h2;generalize e1:y.1=l1 at h1;cases h1 with|str a ha'=>refine⟨a,?_,rfl,ha',hB⟩;congr 2;exact eY.1 ha
def AsY (b:ByteArray): ∀(k i:Nat) (acc:B8),b.size-i=k->acc≠ []->ByteArray.toList.loop b i acc≠ []:=by intro k;induction k with|zero=>intro i acc h ha;unfold ByteArray.toList.loop;rw[an fx];simpa using ha|succ k ih=>intro i acc h ha;unfold ByteArray.toList.loop;rw[aq fx];exact ih _ _ fx fy
def AwL{b:ByteArray} (h:b.toList=[]):b.data.toList=[]:=by
 rcases dI b.size with h0|h0;·have:b.data.toList.length=0:=h0;exact bh this
 ·exfalso;unfold ByteArray.toList at h;unfold ByteArray.toList.loop at h;rw[aq h0]at h;exact AsY b _ _ _ rfl fy h
def At0{b:ByteArray} (h:b.data.toList=[]):b.toList=[]:=by
 have h0:b.size=0:=by have:=bu List.length h;exact this
 unfold ByteArray.toList ByteArray.toList.loop;rw[an fx];rfl
structure RfJoint (qb:Nat) (J:B8->List ApiField->World->Prop):Prop where
  cell: ∀s acc W,J s acc W-> ∃b,b.data.toList=s/\Vy b/\W.cell? ⟨qb,0,none⟩=some (.string b)/\W.frozen? ⟨qb,0,none⟩=false
  set: ∀s acc W b,J s acc W->Vy b->J b.data.toList acc (W.setCell ⟨qb,0,none⟩ (.string b))
  below: ∀s acc W W',J s acc W->Below W.heap.size W W'->J s acc W'
  glob: ∀s acc W,J s acc W->RfG W
def Aq5:ByteArray:=⟨#[38]⟩
set_option maxHeartbeats 1000000 in theorem AnY{qb l:Nat}{r:List ApiField}{J:B8->List ApiField->World->Prop} (hJ:RfJoint qb J) (hY: ∀s acc acc' (x:ByteArray) W,J s acc W->Vy x->Qy N x.data.toList acc=some acc'->YieldAt Fence.wide (n-1) Tryz.prog l #[.string x] W λe W'=>e=.returned (.bool true)/\J s acc' W') {q:B8}{W:World} (h0:J q [] W) (h:Gg N N q []=some r) (hn:1<=n):CallsIn Fence.wide n Tryz.prog 108 #[.func (.yield l) #[] #[],.pointer (some ⟨qb,0,none⟩)] W λe W'=>(∃v,e=.returned v)/\∃s,J s r W':=by
 refine callsIn_of_wp Tryz.func108 rfl trivial ?_ rfl;simp only[Tryz.ntmps108,ci,ag,ap,Nat.reduceAdd,Nat.reduceSub,dZ,d6,eQ,ed,bk,bm];gi_wp2;gi_loopg [3] N (λk p wr=>∃s acc,(p=.bool true/\J s acc wr/\Gg N k s acc=some r)\/(p=.bool false/\J s r wr));case atStart=>exact⟨q,[],.inl ⟨rfl,h0,h⟩⟩
 case round=>
  obtain⟨s,acc,⟨rfl,hj,he⟩|⟨rfl,hj⟩⟩:=hrel
  ·cases gk with
   |zero=>cases he
   | succ k=>
    rw[Gg]at he;obtain⟨y,hy,he1⟩:=bS.1 he;obtain⟨o,ho,he2⟩:=bS.1 he1;clear he he1;obtain⟨b,rfl,hbo,hc,hf⟩:=hJ.cell _ _ _ hj;have fin: ∀W',J y.2.1 o W'->∃k',k'<k+1/\∃s acc,(Value.bool y.2.2=.bool true/\J s acc W'/\Gg N k' s acc=some r)\/(Value.bool y.2.2=.bool false/\J s r W'):=by intro W' hw;cases hm:y.2.2 with|true=>rw[hm,aq rfl]at he2;exact⟨k,fx,y.2.1,o,.inl ⟨rfl,hw,he2⟩⟩|false=>rw[hm,an fA]at he2;cases he2;exact⟨0,fx,y.2.1,r,.inr ⟨rfl,hw⟩⟩
    gi_wp2_with (refine⟨trivial,?_⟩;gi_at_call 35;refine(Akx b Aq5 hbo (by unfold Vy Aq5;decide) hy wr (hJ.glob _ _ _ hj)).mono ?_;rintro e W1 ⟨a1,a2,rfl,ha1,ha2,ho1,ho2,hB⟩;have hj1:=hJ.below _ _ _ _ hj hB;obtain⟨b1,hb1,_,hc1,hf1⟩:=hJ.cell _ _ _ hj1)
    ·have hx:a1.toList=[]:=by assumption
     have hj2:J y.2.1 acc (W1.setCell ⟨qb,0,none⟩ (.string a2)):=by rw[<-ha2];exact hJ.set _ _ _ a2 hj1 ho2
     refine⟨λ_ h=>(by cases h),?_⟩;rw[<-ha1,AwL hx]at ho;cases ho;obtain⟨k',hk,s',acc',hr⟩:=fin _ hj2;gi_wp2;gi_roundg k';case measure=>omega
     case rel=>exact⟨s',acc',hr⟩
    ·have hx: ¬a1.toList=[]:=by assumption
     have hj2:J y.2.1 acc (W1.setCell ⟨qb,0,none⟩ (.string a2)):=by rw[<-ha2];exact hJ.set _ _ _ a2 hj1 ho2
     have hne:(y.1==[])=false:=by rw[<-ha1];have:a1.data.toList≠ []:=λh=>hx (At0 h);simpa using this
     rw[hne,an fA,<-ha1]at ho;obtain⟨fn,tmps,assign,body,hyy,hR⟩:=hY _ _ _ a1 _ hj2 ho1 ho;have hx2:a1.toList.isEmpty=false:=by simpa using hx
     rw[hyy];gi_wp2;refine hR.mono ?_;rintro e W3 ⟨rfl,hj3⟩;obtain⟨k',hk,s',acc',hr⟩:=fin _ hj3;simp only[hx2,bE];gi_wp2;gi_roundg k';case measure=>omega
     case rel=>exact⟨s',acc',hr⟩
  ·gi_wp2;go_end0;exact⟨⟨_,rfl⟩,s,hj⟩
def Ur (l:B8):ByteArray:=⟨l.toArray⟩
def UF (acc:List ApiField):List Value:=acc.flatMap λf=>[.string (Ur f.name),.string (Ur f.value)]
def AX5{b:ByteArray}{l:B8} (h:b.data.toList=l):b=Ur l:=by subst h;cases b;simp[Ur]
set_option maxHeartbeats 1000000 in theorem AgO (q:ByteArray) (w:World):CallsIn Fence.wide n Tryz.prog 34 #[.string q] w λe w'=>e=.returned (.func (.func 108) #[] #[.pointer (some ⟨w.heap.size,0,none⟩)])/\w'=w.alloc (.cells #[.string q] 9):=by refine callsIn_of_wp Tryz.func34 rfl trivial ?_ rfl;simp only[Tryz.ntmps34,ci,ag,ap,Nat.reduceAdd,Nat.reduceSub,dZ,d6,eQ,ed,bk,bm];gi_wp2;go_ret;exact⟨rfl,rfl⟩
def AgM{W W':World} (h:Below W.heap.size W W'):W.grownBy W' none:=⟨h.os,h.tape,h.output,h.size,λk hk _=>h.block k hk⟩
structure RfInv (w:World) (s:B8) (acc:List ApiField) (W:World):Prop where
  bel:Below w.heap.size w W
  q: ∃b,b.data.toList=s/\Vy b/\Boxed W (w.heap.size+1) 9 (.string b)
  o:((∀f,f∈acc->f.name.length<=Bg/\f.value.length<=Bg)/\acc.length<=Bg)/\ ∃v,Boxed W w.heap.size 33 v/\W.ownsRow w.heap.size 108 2 v acc.length (UF acc)
def RfInv.mono{w W W':World} {s acc} (h:RfInv w s acc W) (hB:Below W.heap.size W W'):RfInv w s acc W':=by
 obtain⟨h1,⟨b,h2,h3,h4⟩,hs,v,h5,h6⟩:=h;have hg:=AgM hB;refine⟨h1.trans (hB.mono h1.size),⟨b,h2,h3,h4.kept hg fy⟩,hs,v,h5.kept hg fy,h6.kept hg ?_⟩;rcases h6.2 with⟨rfl,_⟩|⟨g,cap,cur,rfl,_⟩;·exact .inl rfl
 ·exact .inr (by simp[Value.ownBlock])
def RfInv.putObj{w W:World} {s acc} (h:RfInv w s acc W){l:Nat}{o:Obj} (o':Obj) (hl:W.heap[l]?=some o) (ho:o.isCells=false) (hw:w.heap.size<=l):RfInv w s acc (W.putObj l o'):=by
 obtain⟨h1,⟨b,h2,h3,h4⟩,hs,v,h5,h6⟩:=h;have hne: ∀ {B:Nat}{t:TypeId}{u:Value},Boxed W B t u->some B≠some l:=λhb e=>by cases e;rw[show W.heap[_]?=_ from hb]at hl;cases hl;cases ho
 have hg:=grownBy_putObj' W l o';exact⟨h1.grown hg h1.size (λk e=>by cases e;exact hw),⟨b,h2,h3,h4.kept hg (hne h4)⟩,hs,v,h5.kept hg (hne h5),ownsRow_putObj h6 o' hl ho⟩
def RfInv.setq{w W:World} {s acc} (h:RfInv w s acc W){b:ByteArray} (hb:Vy b):RfInv w b.data.toList acc (W.setCell ⟨w.heap.size+1,0,none⟩ (.string b)):=by obtain⟨h1,⟨b0,h2,h3,h4⟩,hs,v,h5,h6⟩:=h;have hg:=grownBy_setCell' W (w.heap.size+1) (.string b);exact⟨h1.setCell (p:=⟨w.heap.size+1,0,none⟩) (fp _) _,⟨b,rfl,hb,h4.set _⟩,hs,v,h5.kept hg fy,h6.kept hg (.inr (h4.not_row fA h6).symm)⟩
def AuH (W:World) (a b:Value) (e:TypeId): ∀(j:Nat) (u:Value),[a,b][j]?=some u->(W.alloc (.cells #[a,b] e)).cell? ((⟨W.heap.size,0,none⟩:Addr).add j)=some u:=by intro j u h;have e1:(W.alloc (.cells #[a,b] e)).heap[W.heap.size]?=some (.cells #[a,b] e):=World.alloc_heap_new W _;match j with|0=>cases h;show World.cell? _ ⟨W.heap.size,0+0,none⟩=_;unfold World.cell?;rw[e1];rfl|1=>cases h;show World.cell? _ ⟨W.heap.size,0+1,none⟩=_;unfold World.cell?;rw[e1];rfl|_+2=>cases h
def Aov:(Tryz.prog.info? 108).map (λi=>(i.zero,i.size,i.bytes))=some (some (.agg #[.string ⟨#[]⟩,.string ⟨#[]⟩]),2,32):=by kernel_rfl
def Av6:ByteArray:=⟨#[61]⟩
set_option maxHeartbeats 2000000 in theorem AcI (q:ByteArray) (hq:Vy q) {r} (h:Gg N N q.data.toList []=some r) (w:World) (hG:RfG w):CallsIn Fence.wide 10 Tryz.prog 12 #[.string q] w λe W'=>∃v,e=.returned v/\W'.ownsRow w.heap.size 108 2 v r.length (UF r)/\Below w.heap.size w W'/\(∀f,f∈r->f.name.length<=Bg/\f.value.length<=Bg)/\r.length<=Bg:=by
 obtain⟨i0,hi,hz0,hz1,hz2⟩:=info_parts Aov;refine callsIn_of_wp_marks Tryz.func12 rfl trivial ?_ rfl;simp only[Tryz.ntmps12,ci,ag,ap,Nat.reduceAdd,Nat.reduceSub,dZ,d6,eQ,ed,bk,bm];gi_wp2_with (refine⟨trivial,?_⟩;gi_at_call 34;refine(AgO _ _).mono ?_;rintro e w' ⟨rfl,rfl⟩);have bO:=Boxed.new w 33 (.slice none 0 0);have bN:=Boxed.new (w.alloc (.cells #[.slice none 0 0] 33)) 9 (.string q);rw[dv]at bN;have hB0:Below w.heap.size w ((w.alloc (.cells #[.slice none 0 0] 33)).alloc (.cells #[.string q] 9)):=((Below.refl _ w).alloc (au _) _).alloc fy _;have hP0:RfInv w q.data.toList [] ((w.alloc (.cells #[.slice none 0 0] 33)).alloc (.cells #[.string q] 9)):=⟨hB0,⟨q,rfl,hq,bN⟩,⟨fy,fy⟩,_,bO.alloc _,World.ownsRow_nil _ _ _ _⟩;have hsz:((w.alloc (.cells #[.slice none 0 0] 33)).alloc (.cells #[.string q] 9)).heap.size=w.heap.size+2:=fy;generalize (w.alloc (.cells #[.slice none 0 0] 33)).alloc (.cells #[.string q] 9)=W0 at *;refine AdV fA (gf:=108) (lb:=#[.pointer (some ⟨w.heap.size+1,0,none⟩)]) rfl (enters_of Tryz.func108 (by kernel_rfl) rfl) (λW=>∃s,RfInv w s r W) ?_ ?_
 ·intro fn W1 rc hrc hW1;have hP1:RfInv w q.data.toList [] W1:=by rw[hW1];exact hP0.mono (((Below.refl _ W0).alloc (au _) _).alloc fy _)
  have hL1:W1.heap[W0.heap.size+1]?=some (.loop (rc .ready)):=by rw[hW1];have:=World.alloc_heap_new (W0.alloc (.deferred (some []))) (.loop (rc .ready));rwa[dv]at this
  have hK1:W1.heap[W0.heap.size]?=some (.deferred (some [])):=by rw[hW1];exact(Below.heap_alloc _ _ _ fy).trans (World.alloc_heap_new W0 _)
  clear hW1;have key:=AnY (N:=N) (n:=9) (qb:=w.heap.size+1) (l:=W0.heap.size+1) (r:=r) (q:=q.data.toList) (W:=W1) (J:=λs acc W=>RfInv w s acc W/\W.heap[W0.heap.size+1]?=W1.heap[W0.heap.size+1]?/\W.heap[W0.heap.size]?=some (.deferred (some []))) ?_ ?_ ⟨hP1,rfl,hK1⟩ h fA;·refine key.mono ?_;rintro e W' ⟨hv,s,hp,hl,hk⟩;exact⟨hv,hl.trans hL1,hk,s,hp⟩
  ·refine⟨?_,?_,?_,λs acc W h=>hG.below rfl h.1.bel⟩;·rintro s acc W ⟨⟨_,⟨b,h2,h3,h4⟩,_⟩,_,_⟩;exact⟨b,h2,h3,h4.cell,h4.frozen⟩
   ·rintro s acc W b ⟨hp,hl,hk⟩ hb;refine⟨hp.setq hb,?_,?_⟩;·exact(Below.heap_setCell _ _ _ _ fB).trans hl
    ·exact(Below.heap_setCell _ _ _ _ fB).trans hk
   ·rintro s acc W W' ⟨hp,hl,hk⟩ hB;refine⟨hp.mono hB,?_,?_⟩;·have:=(aH.1 (hl.trans hL1)).1;exact(hB.block _ this).trans hl
    ·have:=(aH.1 hk).1;exact(hB.block _ this).trans hk
  ·rintro s acc acc' x W ⟨hp,hl,hk⟩ hx hb;refine(Abc (R:=λW3=>RfInv w s acc' W3/\W3.heap[W0.heap.size]?=some (.deferred (some []))) (hrc▸(hl.trans hL1)) rfl ?_).mono ?_
   ·obtain⟨c,hc,hb1⟩:=bS.1 hb;obtain⟨d,hd,hb2⟩:=bS.1 hb1;clear hb hb1;have hyes:(d.2==0)=true->Ac (acc.length+1) 32/\acc++[⟨c.1,d.1⟩]=acc':=λh0=>by
     rw[aq h0]at hb2;unfold grd at hb2;split at hb2;·rename_i hf;cases hb2;exact⟨hf,rfl⟩
     ·cases hb2
    have hl2:=hl.trans hL1;have hpB:=hp.putObj (.loop (rc .busy)) hl2 rfl fx;have hlB:(W.putObj (W0.heap.size+1) (.loop (rc .busy))).heap[W0.heap.size+1]?=some (.loop (rc .busy)):=World.putObj_heap_same (aH.1 hl2).1;have hkB:(W.putObj (W0.heap.size+1) (.loop (rc .busy))).heap[W0.heap.size]?=some (.deferred (some [])):=(World.putObj_heap_other fx).trans hk;rw[<-hrc];have hD:w.heap.size<=W0.heap.size:=fx;clear hsz hrc;gi_wp2;refine⟨trivial,?_⟩;generalize W.putObj (W0.heap.size+1) (.loop (rc .busy))=WB at *;have keepB: ∀ {A B:World}{k:Nat}{o:Obj},Below A.heap.size A B->A.heap[k]?=some o->B.heap[k]?=some o:=λhB h=>(hB.block _ (aH.1 h).1).trans h;gi_wp2_with (first|(refine⟨trivial,?_⟩;gi_at_call 35;refine(CallsIn.inRound _ (Akx x Av6 hx (by unfold Vy Av6;decide) hc WB (hG.below rfl hpB.bel))).mono ?_;rintro e W4 ⟨a1,a2,rfl,ha1,ha2,ho1,ho2,hB4⟩;have hp4:=hpB.mono hB4;have hl4:=keepB hB4 hlB;have hk4:=keepB hB4 hkB)|(refine⟨trivial,?_⟩;gi_at_call 36;refine(CallsIn.inRound _ (AsR a2 ho2 (y:=d) (by rw[ha2];exact hd) W4 (hG.below rfl hp4.bel))).mono ?_;rintro e W5 ⟨a3,rfl,ha3,ho3,hB5⟩;obtain⟨hbel,hqq,hst,v,hv,hrow⟩:=hp4.mono hB5;have hl5:=keepB hB5 hl4;have hk5:=keepB hB5 hk4;have hcv:=hv.cell;have hfv:=hv.frozen)|(gi_at_builtin;obtain⟨hft,hacc⟩:=hyes (by assumption);refine wpListIn_append_own _ rfl _ _ 33 rfl w.heap.size 108 i0 _ 2 32 Tryz.underlying33 hi hz0 hz1 hz2 rfl fA _ _ _ rfl (hrow.alloc _) ⟨W5.heap.size,0,none⟩ 1 1 [.string a1,.string a3] rfl rfl (AuH _ _ _ _) (by simp[Value.oneCell']) (by unfold Ac at hft;unfold maxLen;omega) hft.1 (by have:=hbel.size;simp;omega) ?_;intro v' w1 hown' hgrow _;obtain⟨g',cap',rfl⟩:=ownsRow_succ hown';obtain⟨hv1,hv2,hr2,hk2,hb3⟩:=hv.appended fA hrow hbel.size (au _) hown' hgrow;have hc1:=hv1.cell;have hf1:=hv1.frozen))
    ·obtain⟨bq,hq1,hq2,hq3⟩:=hqq;have hq4:=((hq3.alloc (.cells #[.string a1,.string a3] 108)).kept hgrow (hq3.not_row fA hrow)).kept (grownBy_setCell' w1 w.heap.size (.slice (some ⟨g',0,none⟩) (acc.length+1) cap')) fy;refine⟨hk2.same _ _ hl5 rfl,⟨hbel.trans hb3,⟨bq,hq1,hq2,hq4⟩,?_,_,hv2,?_⟩,hk2.same _ _ hk5 rfl⟩
     ·rw[<-hacc];refine⟨λf hf=>?_,by unfold Ac at hft;unfold Bg;simp;omega⟩;rcases aX.1 hf with hf|hf;·exact hst.1 f hf
      ·rcases aV.1 hf with rfl;exact⟨by dsimp only;rw[<-ha1];exact ho1,by dsimp only;rw[<-ha3];exact ho3⟩
     have e1:=AX5 ha1;have e3:=AX5 ha3;subst e1 e3;rw[<-hacc,show(acc++[(⟨c.1,d.1⟩:ApiField)]).length=acc.length+1 by simp,show UF (acc++[(⟨c.1,d.1⟩:ApiField)])=UF acc++[.string (Ur c.1),.string (Ur d.1)] by simp[UF]];exact hr2
    ·have hne: ¬(d.2==0)=true:=by first|assumption|(intro hh;simp_all)
     rw[an hne]at hb2;cases hb2;exact⟨hbel,hqq,hst,v,hv,hrow⟩
   ·rintro e W' ⟨rfl,W3,⟨hp3,hk3⟩,hl3,rfl⟩;refine⟨rfl,hp3.putObj _ hl3 rfl fx,?_,?_⟩;·rw[<-hrc];exact(World.putObj_heap_same (aH.1 hl3).1).trans hL1.symm
    ·exact(World.putObj_heap_other fx).trans hk3
 ·rintro W rr ⟨s,hp⟩ hl hk o;have hp':=hp.putObj o hl rfl fx;obtain⟨hB,_,hst,v,hv,hrow⟩:=hp';have hc:=hv.cell;have hk':(W.putObj (W0.heap.size+1) o).heap[W0.heap.size]?=some (.deferred (some [])):=(World.putObj_heap_other fx).trans hk;have hD:w.heap.size<=W0.heap.size:=fx;clear hsz;generalize W.putObj (W0.heap.size+1) o=W5 at *;gi_wp2;refine⟨fy,.inl ⟨_,_,rfl,run_takeDeferred hk',?_⟩⟩;exact⟨_,results_tmp rfl _ _ _,v,rfl,ownsRow_putObj hrow _ hk' rfl,hB.trans (belowK_b (w:=w) (au _) _ W0.heap.size _ _ hD hk' rfl rfl),hst⟩
def UE (l:B8):(Ur l).data.toList=l:=by simp[Ur]
theorem Ak0{Γ:Ghost}: ∀(acc:List ApiField),(∀f,f∈acc->f.name.length<=Bg/\f.value.length<=Bg)->RepS Γ 2 (acc.map Ad) (UF acc)
 |[],_=>.nil _ _
 | f::acc,h=>by
  obtain⟨h1,h2⟩:=h f fy;have ih:=Ak0 (Γ:=Γ) acc λg hg=>h g (by simp[hg]);have hr:Rep Γ (Ad f) (.agg #[.string (Ur f.name),.string (Ur f.value)]):=by
   refine .agg (.cons ?_ (.cons ?_ .nil)) (by simp[Value.oneCell']);·have:=Rep.str (Γ:=Γ) (Ur f.name) (by rw[UE];exact h1);rwa[UE]at this
   ·have:=Rep.str (Γ:=Γ) (Ur f.value) (by rw[UE];exact h2);rwa[UE]at this
  have hc:(Value.agg #[.string (Ur f.name),.string (Ur f.value)]).cells= #[.string (Ur f.name),.string (Ur f.value)]:=rfl;have:=RepS.cons hr (by rw[hc];exact⟨rfl,by simp[Value.oneCell']⟩) ih;rw[hc]at this;exact this
def AAi {a0 r} (h:PZ N a0=some r) (ha:args=[.str a0]) (hQ: ∀n',n<=n'->Gl (Q (.slice 2 (List.map Ad r) false) ⟨m,n'⟩)):ACall vE 12 args ⟨m,n⟩ Q:=by
 subst ha;constructor;intro F Γ w cargs hs;have hrep:=hs.rep;generalize hv:cargs.toList=vs at hrep;cases hrep with
 | cons h1 h2=>
  cases h2;cases h1 with
  | str b hb=>
   have hc:cargs= #[.string b]:=eY.1 (by rw[hv]);subst hc;refine(callsIn_wide.1 (AcI b hb h w (RfG.of hs))).mono ?_;rintro e W' ⟨v,rfl,⟨hlen,hrow⟩,hB,hst⟩;refine⟨v,rfl,?_⟩;rcases hrow with⟨rfl,h0⟩|⟨g,cap,cur,rfl,hg,hh,hk,hcap,hcs,hx⟩;·have hr0:r=[]:=bh h0;subst hr0;obtain⟨e1,e2⟩:=hs.behind (Γ':=Γ) hB Γ.le_refl rfl rfl rfl (λ_ _=>⟨rfl,rfl⟩) (λb cs hb hc=>by have:=hs.com_lt hc;omega) (λb e hb hc=>by obtain⟨cs,hcs⟩:=hs.tyd.2 _ _ hc;exact⟨cs,hcs⟩) (r:=.slice 2 [] false) (v:=.slice none 0 0) (.snil 2 false none) (by simp[VM.own]) (λb=>rfl);exact⟨Γ,_,⟨m,n⟩,e1,au _,e2,(hQ n (au _)).go⟩
   ·have hn:=hs.com_none hg;have hle:Γ.le (Γ.arr g cur.toList 108):=by
     refine⟨λb cs h=>⟨[],?_⟩,λi b h=>h,λi x h=>h,λb x h=>?_,λ_ _ h=>h⟩;·have:=hs.com_lt h;simp only[Ghost.arr];rw[an fx];simpa using h
     ·obtain⟨cs,hc⟩:=hs.tyd.2 _ _ h;have:=hs.com_lt hc;simp only[Ghost.arr];rw[an fx];exact h
    have hcom:(Γ.arr g cur.toList 108).com g=some cur.toList:=by simp[Ghost.arr]
    have hS:RepS (Γ.arr g cur.toList 108) 2 (r.map Ad) cur.toList:=by have:=(Ak0 (Γ:=Γ.arr g cur.toList 108) r hst.1).more (cur.toList.drop (r.length * 2));rwa[<-hx,bH]at this
    have hlm:r.length<=Bg:=hst.2;obtain⟨e1,e2⟩:=hs.behind (Γ':=Γ.arr g cur.toList 108) hB hle rfl rfl rfl (λb hb=>by simp only[Ghost.arr];rw[an fx,an fx];exact⟨rfl,rfl⟩) (λb cs hb hc=>by
     simp only[Ghost.arr]at hc;split at hc;·rename_i hbg;subst hbg;cases hc;exact⟨cur,108,(0,0),hh,⟨[],fy⟩,λT hT=>by simp[Ghost.arr]at hT;exact hT⟩
     ·have:=hs.com_lt hc;omega) (λb e hb hc=>by
     simp only[Ghost.arr]at hc⊢;split at hc;·rename_i hbg;exact⟨_,by rw[aq hbg]⟩
     ·rename_i hbg;obtain⟨cs,hcs⟩:=hs.tyd.2 _ _ hc;exact⟨cs,by rw[an hbg];exact hcs⟩) (r:=.slice 2 (r.map Ad) false) (v:=.slice (some ⟨g,0,none⟩) r.length cap) (.slice false hcom fy ⟨hk,hlm⟩ hS (λh=>by cases h)) (by simp[VM.own]) (λb=>rfl);exact⟨Γ.arr g cur.toList 108,_,⟨m,n⟩,e1,au _,e2,(hQ n (au _)).go⟩
end
instance Ak2 {a0}:CF vE (PZ N a0) 12 [.str a0] (λr=>.slice 2 (List.map Ad r) false):=⟨λh hQ=>AAi h rfl hQ⟩
instance ArZ {a0}:CF vE (Lg N a0) 97 [.str a0] (λr=>.tuple [Fq r.1,.int .i64 r.2]):=AQ (Lg.eq_1 ..) Tryz.func97 rfl Tryz.ntmps97 Tryz.results97 [(7,[],.stop),(10,[],.tk 0 8 (.al 8 [(6,4)] (.take 9 (.al 10 [(6,4)] (.al 11 [] .done))))),(17,[],.tk 0 7 (.al 7 [(5,3)] (.al 8 [] .done)))]
instance Aew {a0 a1}:CF vE (strings_Split N a0 a1) 178 [.str a0,.str a1] (λr=>.slice 1 (List.map AVal.str r) false):=AQ (strings_Split.eq_1 ..) Tryz.func178 rfl Tryz.ntmps178 Tryz.results178
instance AeZ {a0 a1}:CF vE (G5 N a0 a1) 290 [.str a0,.int .u64 a1] (λr=>.tuple [.int .u64 r.1,.int .i64 r.2]):=AQ (G5.eq_1 ..) Tryz.func290 rfl Tryz.ntmps290 Tryz.results290 [(1,[],.stop)]
instance Am0 {a0 a1}:CF vE (Oi N a0 a1) 103 [Fq a0,Fq a1] (λr=>Fq r):=AQ (Oi.eq_1 ..) Tryz.func103 rfl Tryz.ntmps103 Tryz.results103 [(11,[],.tk 0 5 (.al 5 [(3,2)] (.take 6 (.al 7 [] .done)))),(12,[],.tk 0 5 (.al 5 [(3,2)] (.take 6 (.al 7 [] .done)))),(14,[],.tk 0 5 (.al 5 [(3,2)] (.take 6 (.al 7 [] .done))))]
@[reducible,instance] def AXa {k4 xs}:=lq (λxs i (s:Unit)=>FB N k4 xs) xs () [(2,1),(5,3),(13,11)] [12] (λi s=>FB.eq_1 ..) (λx xs i s=>FB.eq_2 ..)
instance Aif {a0}:CF vE (NM N a0) 117 [.str a0] (λr=>.bool r):=AQ (NM.eq_1 ..) Tryz.func117 rfl Tryz.ntmps117 Tryz.results117
instance Ap9 {a0}:CF vE (QG N a0) 240 [.str a0] (λr=>.tuple [.int .i64 r.1,.int .i64 r.2]):=AQ (QG.eq_1 ..) Tryz.func240 rfl Tryz.ntmps240 Tryz.results240 [(2,[],.stop)]
@[reducible,instance] def ATO {k13 xs}:=lq (λxs i (s:Unit)=>Ie N k13 xs) xs () [(3,1),(7,3),(49,12)] [48] (λi s=>Ie.eq_1 ..) (λx xs i s=>Ie.eq_2 ..)
@[reducible,instance] def ATR {k25 xs}:=lq (λxs i (s:Unit)=>IQ N k25 xs) xs () [(3,1),(68,18)] [13] (λi s=>IQ.eq_1 ..) (λx xs i s=>IQ.eq_2 ..)
@[reducible,instance] def ATX {k20 xs s63 s10}:=lr (λxs i (s:B8)=>IY N k20 xs i s) xs s63 s10 [(3,1),(11,5),(64,36)] [10,63] (λi s=>IY.eq_1 ..) (λx xs i s=>IY.eq_2 ..) (V:=λi s=>[.str s,.int .i64 i])
instance AdJ {a0}:CF vE (Er N a0) 49 [.str a0] (λr=>.tuple [Cv r.1,.int .i64 r.2]):=AQ (Er.eq_1 ..) Tryz.func49 rfl Tryz.ntmps49 Tryz.results49 [(26,[],.stop)]
instance Amc {a0}:CF vE (Om N a0) 303 [.str a0] (λr=>.bool r):=AQ (Om.eq_1 ..) Tryz.func303 rfl Tryz.ntmps303 Tryz.results303
instance AkK {a0 a1}:CB vE (Nw N a0 a1) 50 (λi0=>[.ptr i0 0,Aa a1]) (λi0=>[.slice 1 (List.map (AVal.int .u8) a0.l) false]) (λr=>Aw r.1) (λi0 r=>[.slice 1 (List.map (AVal.int .u8) r.2.l) false]):=E8 (Nw.eq_1 ..) Tryz.func50 rfl Tryz.ntmps50 Tryz.results50 [(1,[],.tk 0 3 (.ar 3 [(1,2)] (.tk 4 2 (.ar 6 [(4,1),(2,3)] (.ar 7 [(5,2),(2,2)] (.al 8 [(5,2),(2,3)] (.al 9 [] .done)) (.al 8 [(5,2),(2,3)] (.al 7 [(5,2),(2,2)] (.al 9 [] .done)))) (.al 8 [(5,2),(2,3)] (.al 6 [(4,1),(2,3)] (.al 7 [(5,2),(2,2)] (.al 9 [] .done)))))) (.al 8 [(2,3)] (.al 3 [(1,2)] (.tk 4 2 (.al 6 [(4,1),(2,3)] (.al 7 [(5,2),(2,2)] (.al 9 [] .done))))))))]
@[reducible,instance] def ATQ {k2 k s8 s7 bn_host bn_port bn_path bn_query bn_fragment bn_hasQuery bn_hasFrag bi0}:=lc (λk i (s:(List ApiAnswer)×B8×Int×B8×B8×B8×Bool×Bool×MadeDice)=>Cs N k2 k i s.1 s.2.1 s.2.2.1 s.2.2.2.1 s.2.2.2.2.1 s.2.2.2.2.2.1 s.2.2.2.2.2.2.1 s.2.2.2.2.2.2.2.1 s.2.2.2.2.2.2.2.2) k s8 (s7,bn_host,bn_port,bn_path,bn_query,bn_fragment,bn_hasQuery,bn_hasFrag,bi0) [(9,52)] [7,8] (λi s=>Cs.eq_1 ..) (λk i s=>Cs.eq_2 ..) (V:=λi s=>[.vec 7 (List.map Aw s.1),.int .i64 i]) (Ms:=λi s=>[.s ([.str s.2.1,.int .i64 s.2.2.1,.str s.2.2.2.1,.str s.2.2.2.2.1,.str s.2.2.2.2.2.1,.bool s.2.2.2.2.2.2.1,.bool s.2.2.2.2.2.2.2.1]),.s ([.slice 1 (List.map (AVal.int .u8) s.2.2.2.2.2.2.2.2.l) false])]) (X:=Cs N k2 k s8 s7 bn_host bn_port bn_path bn_query bn_fragment bn_hasQuery bn_hasFrag bi0)
instance AeR {a0 a1 a2}:CB vE (ATw (JH N a0 a1 a2)) 131 (λi0=>[.ptr i0 0,Aa a1,.int .i64 a2]) (λi0=>[.slice 1 (List.map (AVal.int .u8) a0.l) false]) (λr=>.vec 7 (List.map Aw r.1)) (λi0 r=>[.slice 1 (List.map (AVal.int .u8) r.2.l) false]):=E8 (AE2.trans (JH.eq_1 ..)) Tryz.func131 rfl Tryz.ntmps131 Tryz.results131 [(0,[6],.done),(1,[7],.done),(12,[],.stop),(14,[7,47],.tk 1 2 (.take 6 (.ar 0 [(6,1),(2,2)] (.ar 3 [(6,1),(1,1)] (.tk 4 2 (.al 7 [(5,2),(2,2)] (.take 8 (.al 9 [(4,1),(6,1),(2,2)] (.al 10 [(8,1),(5,2),(6,1),(2,1)] (.take 11 (.al 12 [(8,1),(5,2),(6,1),(2,2)] (.al 13 [] .done)))))))) (.al 7 [(2,2)] (.take 8 (.al 3 [(8,1),(6,1),(1,1)] (.tk 4 2 (.al 9 [(4,1),(6,1),(2,2)] (.al 10 [(5,2),(8,1),(6,1),(2,1)] (.take 11 (.al 12 [(5,2),(8,1),(6,1),(2,2)] (.al 13 [] .done)))))))))) (.ar 3 [(6,1),(1,1)] (.tk 4 2 (.ar 0 [(5,2),(6,1),(2,2)] (.al 7 [(5,2),(2,2)] (.take 8 (.al 9 [(4,1),(6,1),(2,2)] (.al 10 [(8,1),(5,2),(6,1),(2,1)] (.take 11 (.al 12 [(8,1),(5,2),(6,1),(2,2)] (.al 13 [] .done))))))) (.al 7 [(5,2),(2,2)] (.take 8 (.ar 0 [(8,1),(5,2),(6,1),(2,2)] (.al 9 [(4,1),(6,1),(2,2)] (.al 10 [(8,1),(5,2),(6,1),(2,1)] (.take 11 (.al 12 [(8,1),(5,2),(6,1),(2,2)] (.al 13 [] .done))))) (.al 9 [(4,1),(6,1),(2,2)] (.ar 0 [(8,1),(5,2),(6,1),(2,2)] (.al 10 [(8,1),(5,2),(6,1),(2,1)] (.take 11 (.al 12 [(8,1),(5,2),(6,1),(2,2)] (.al 13 [] .done)))) (.al 10 [(8,1),(5,2),(6,1),(2,1)] (.take 11 (.al 0 [(11,1),(8,1),(5,2),(6,1),(2,2)] (.al 12 [(8,1),(5,2),(6,1),(2,2)] (.al 13 [] .done)))))))))))) (.al 7 [(2,2)] (.take 8 (.ar 0 [(8,1),(6,1),(2,2)] (.al 3 [(8,1),(6,1),(1,1)] (.tk 4 2 (.al 9 [(4,1),(6,1),(2,2)] (.al 10 [(5,2),(8,1),(6,1),(2,1)] (.take 11 (.al 12 [(5,2),(8,1),(6,1),(2,2)] (.al 13 [] .done))))))) (.al 3 [(8,1),(6,1),(1,1)] (.tk 4 2 (.ar 0 [(5,2),(8,1),(6,1),(2,2)] (.al 9 [(4,1),(6,1),(2,2)] (.al 10 [(5,2),(8,1),(6,1),(2,1)] (.take 11 (.al 12 [(5,2),(8,1),(6,1),(2,2)] (.al 13 [] .done))))) (.al 9 [(4,1),(6,1),(2,2)] (.ar 0 [(5,2),(8,1),(6,1),(2,2)] (.al 10 [(5,2),(8,1),(6,1),(2,1)] (.take 11 (.al 12 [(5,2),(8,1),(6,1),(2,2)] (.al 13 [] .done)))) (.al 10 [(5,2),(8,1),(6,1),(2,1)] (.take 11 (.al 0 [(11,1),(5,2),(8,1),(6,1),(2,2)] (.al 12 [(5,2),(8,1),(6,1),(2,2)] (.al 13 [] .done))))))))))))))))),(16,[6,61],.done)]
end Go.Proofs.YtfbofngnmfcomaaGreatDoor
