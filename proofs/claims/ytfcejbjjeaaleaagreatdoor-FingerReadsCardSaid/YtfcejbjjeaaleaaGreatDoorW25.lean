import Derived.Test.YtfcejbjjeaaleaaGreatDoorW22
set_option linter.unusedVariables false
set_option linter.unusedSimpArgs false
set_option maxHeartbeats 4000000
set_option maxRecDepth 100000
set_option linter.defProp false
namespace Go.Proofs.YtfcejbjjeaaleaaGreatDoor
open Go.VM
attribute [local irreducible] AB grd letL
variable{N n:Nat}{m:MS}{Q:PQ}{args:List AVal}
def M0{t:TypeId}{w i l:Nat} (h:Cz vE.P t=true):Tf vE t (.gsl w i l)=some (.int .i64 l):=by simp[Tf,h]
theorem O3{w i l:Nat}:(AVal.gsl w i l).strip=.gsl w i l:=rfl
theorem RX{w i l:Nat}:Ai (.gsl w i l)=[.gsl w i l]:=rfl
theorem VT{w i l:Nat}:Ei (.gsl w i l)=true:=rfl
theorem Vh{w i l:Nat}:Mo (.gsl w i l)=false:=rfl
def AYM{i l:Nat} (h:0<l/\l<=Dp):D7 vE 150 (.gsl 5 i l) (.int .i64 (wr .i64 ((l:Int)-1)))=some (.ptr i ((l-1) * 5)):=by
 have e:wr .i64 ((l:Int)-1)=((l-1:Nat):Int):=by have h2:=h.2;have h1:((l:Int)-1)=((l-1:Nat):Int):=fG;rw[h1];exact ARs fG
 rw[e];have h3:l-1<l:=fG;simp[D7,XM,h3]
def AOv{i j len:Nat}{pc:List AVal} (hl:0<len/\len<=Dp) (ha:args=[.ptr i 0]) (hQ: ∀n',n<=n'->Gl (Q (.ptr j ((len-1)*5)) ⟨(i,.gsl 5 j len::pc)::m,n'⟩)):ACall vE 207 args ⟨(i,.gsl 5 j len::pc)::m,n⟩ Q:=by have h:True/\True:=⟨trivial,trivial⟩;subst ha;refine ent hQ Tryz.func207 rfl Tryz.ntmps207 Tryz.results207 (.q (.r []) (.q .z .z)) λR hR=>?_;simp(disch:= omega) only[vm,seval,h.1];refine⟨QD [] (.take 0 (.take 1 (.take 2 (.take 3 (.take 4 (.take 5 (.take 6 (.take 7 (.take 8 (.take 9 (.take 10 (.alt 11 [] (.done) (.stop))))))))))))) M9 (by kernel_rfl) ?_⟩;simp(disch:= omega) only[vm,seval,h.1,M0 Ez,O3,AYM hl];refine⟨(hR _ _ _ _ _ _ (by simp(disch:= omega) only[vm,seval,h.1];rfl) slr ?_ fG ?_).1⟩<;>first| (simp(disch:= omega) only[vm,seval,h.1];done)| rfl
def Yo{i j len:Nat}{pc:List AVal} (hm:A9 m i=some (.gsl 5 j len::pc)) (hl:0<len/\len<=Dp) (ha:args=[.ptr i 0]) (hQ: ∀n',n<=n'->Gl (Q (.ptr j ((len-1)*5)) ⟨m,n'⟩)):ACall vE 207 args ⟨m,n⟩ Q:=by have h:True/\True:=⟨trivial,trivial⟩;subst ha;refine ent hQ Tryz.func207 rfl Tryz.ntmps207 Tryz.results207 (.q (.r []) (.q .z .z)) λR hR=>?_;simp(disch:= omega) only[vm,seval,h.1,hm];refine⟨QD [] (.take 0 (.take 1 (.take 2 (.take 3 (.take 4 (.take 5 (.take 6 (.take 7 (.take 8 (.take 9 (.take 10 (.alt 11 [] (.done) (.stop))))))))))))) M9 (by kernel_rfl) ?_⟩;simp(disch:= omega) only[vm,seval,h.1,M0 Ez,O3,AYM hl,hm];refine⟨(hR _ _ _ _ _ _ (by simp(disch:= omega) only[vm,seval,h.1,hm];rfl) slr ?_ fG ?_).1⟩<;>first| (simp(disch:= omega) only[vm,seval,h.1,hm];done)| rfl
def AT9:(Tg vE.P 245).map (FQ vE.P)=some (some (.bool false)):=by kernel_rfl
def Um: ∃e,Tg vE.P 245=some e/\FQ vE.P e=some (.bool false):=by have h:=AT9;cases he:Tg vE.P 245 with |none=>rw[he]at h;cases h|some e=>rw[he]at h;simp only[aR,al]at h;exact⟨e,rfl,h⟩
def APR{s:B8}: ∀ {keys:List B8},s∈keys->Lx keys (keys.map λ_=>AVal.bool true) s=some (.bool true)
 | k::ks,h=>by
  simp only[aE,Lx];split;·rfl
  ·rename_i hn;rcases aI.1 h with h|h;·exact absurd h hn
   ·exact APR h
def AGE{s:B8}: ∀ {keys:List B8},s∉keys->Lx keys (keys.map λ_=>AVal.bool true) s=none |[],_=>rfl| k::ks,h=>by simp only[aI,fF]at h;simp only[aE,Lx];rw[ae h.1];exact AGE h.2
def AP5{s:B8}{x:AVal}: ∀ {keys:List B8}{vs:List AVal},s∉keys->vs.length=keys.length->IW keys s=keys++[s]/\Kc keys vs s x=vs++[x] |[],[],_,_=>⟨rfl,rfl⟩|[],_::_,_,h=>by simp at h|k::ks,[],_,h=>by simp at h| k::ks,v::vs,h,hl=>by simp only[aI,fF]at h;obtain⟨h1,h2⟩:=AP5 (x:=x) h.2 (by simpa using hl:vs.length=ks.length);simp only[IW,Kc,ae h.1,h1,h2,bf,eo]
def AlR{k:Nat}{s:B8}{keys:List B8}{st:St} (hm:A9 st.m k=some [.map keys (keys.map λ_=>.bool true)]) (hin:s∈keys):Qw vE 245 (.sh k) (.str s) false st=some (.bool true):=by obtain⟨e,h1,h2⟩:=Um;simp[Qw,h1,h2,WC,hm,APR hin,AVal.strip]
def AhH{k:Nat}{s:B8}{keys:List B8}{st:St} (hm:A9 st.m k=some [.map keys (keys.map λ_=>.bool true)]) (hin:s∉keys):Qw vE 245 (.sh k) (.str s) false st=some (.bool false):=by obtain⟨e,h1,h2⟩:=Um;simp[Qw,h1,h2,WC,hm,AGE hin,AVal.strip]
def Al3{k:Nat}{s:B8}{keys:List B8}{st:St} (hm:A9 st.m k=some [.map keys (keys.map λ_=>.bool true)]) (hin:s∉keys):Vp vE 245 (.sh k) (.str s) (.bool true) st=some {st with m:=CU st.m k [.map (keys++[s]) ((keys++[s]).map λ_=>.bool true)]}:=by obtain⟨e,h1,h2⟩:=Um;obtain⟨h3,h4⟩:=AP5 (x:=AVal.bool true) (vs:=keys.map λ_=>AVal.bool true) hin fH;simp[Vp,h1,WC,hm,h3,h4]
def drop_at{q c:Nat}{pre l junk:List AVal} (h:pre.length=q):List.drop (q+c) (pre++l++junk)=List.drop c (l++junk):=by subst h;rw[aF,cr];simp
def get_at{q c:Nat}{pre l junk:List AVal} (h:pre.length=q):(pre++l++junk)[q+c]?=(l++junk)[c]?:=by subst h;rw[aF,dC fG];congr 1;omega
def Ae0{q c:Nat}{x:AVal}{pre l junk:List AVal} (h:pre.length=q) (hc:decide (c<l.length)=true):(pre++l++junk).set (q+c) x=pre++l.set c x++junk:=by
 subst h;have hc:c<l.length:=by simpa using hc
 rw[aF,d7 _ _ fG,List.set_append_left _ _ fG,aF];congr 2;congr 1;omega
def Arw{q:Nat}{a b c d e x:AVal}{pre junk:List AVal} (h:pre.length=q):(pre++[a,b,c,d,e]++junk).set (q+2) x=pre++[a,b,x,d,e]++junk:=Ae0 h rfl
def Aoz{q:Nat}{a b c d e x:AVal}{pre junk:List AVal} (h:pre.length=q):(pre++[a,b,c,d,e]++junk).set (q+3) x=pre++[a,b,c,x,e]++junk:=Ae0 h rfl
def AZ5{i j k len:Nat}{pre junk:List AVal}{keys:List B8}{kd wt nd text it o1 o2 o3 o4:AVal}{s:B8} (hd:j≠i/\k≠i/\k≠j) (hp:pre.length=(len-1) * 5) (hl:0<len/\len<=Dp) (ha:args=[.ptr i 0,.str s]) (hin:s∈keys) (hQ: ∀n',n<=n'->Gl (Q (.int .i64 143) ⟨(i,[.gsl 5 j len,wt,nd,o1,o2,o3,o4])::(j,pre++[kd,text,.slice 1 (keys.map AVal.str) true,it,.sh k]++junk)::(k,[.map keys (keys.map λ_=>.bool true)])::m,n'⟩)):ACall vE 168 args ⟨(i,[.gsl 5 j len,wt,nd,o1,o2,o3,o4])::(j,pre++[kd,text,.slice 1 (keys.map AVal.str) true,it,.sh k]++junk)::(k,[.map keys (keys.map λ_=>.bool true)])::m,n⟩ Q:=by
 have h:True/\True:=⟨trivial,trivial⟩;obtain⟨hd1,hd2,hd3⟩:=hd;subst ha;refine ent hQ Tryz.func168 rfl Tryz.ntmps168 Tryz.results168 (.q (.r []) (.q (.r []) (.q (.q (.r []) (.c (.q (.r []) .z) .z)) .z))) λR hR=>?_;simp(disch:= omega) only[vm,seval,h.1];refine⟨AOv hl tD λn2 hn2=>?_⟩;have hg:A9 ((i,[.gsl 5 j len,wt,nd,o1,o2,o3,o4])::(j,pre++[kd,text,.slice 1 (keys.map AVal.str) true,it,.sh k]++junk)::(k,[.map keys (keys.map λ_=>.bool true)])::m) k=some [.map keys (keys.map λ_=>.bool true)]:=by simp[A9,hd2,hd3]
 have hlk:=AlR (st:=⟨_,n2⟩) hg hin;simp(disch:= omega) only[vm,seval,h.1,drop_at hp,Zl,AUE,hlk];refine⟨(hR _ _ _ _ _ _ (by simp(disch:= omega) only[vm,seval,h.1];rfl) slr rfl fG ?_).1⟩<;>first| (simp(disch:= omega) only[vm,seval,h.1];done)| rfl
def AVF{i j k len:Nat}{pre junk:List AVal}{keys:List B8}{kd wt nd text it o1 o2 o3 o4:AVal}{s:B8} (hd:j≠i/\k≠i/\k≠j) (hp:pre.length=(len-1) * 5) (hl:0<len/\len<=Dp) (ha:args=[.ptr i 0,.str s]) (hin:s∉keys) (hb:keys.length<=1099511627776) (hQ: ∀n',n<=n'->Gl (Q (.int .i64 0) ⟨(i,[.gsl 5 j len,.int .i64 4,nd,o1,o2,o3,o4])::(j,pre++[kd,text,.slice 1 ((keys++[s]).map AVal.str) true,it,.sh k]++junk)::(k,[.map (keys++[s]) ((keys++[s]).map λ_=>.bool true)])::m,n'⟩)):ACall vE 168 args ⟨(i,[.gsl 5 j len,wt,nd,o1,o2,o3,o4])::(j,pre++[kd,text,.slice 1 (keys.map AVal.str) true,it,.sh k]++junk)::(k,[.map keys (keys.map λ_=>.bool true)])::m,n⟩ Q:=by
 have h:True/\True:=⟨trivial,trivial⟩;obtain⟨hd1,hd2,hd3⟩:=hd;subst ha;refine ent hQ Tryz.func168 rfl Tryz.ntmps168 Tryz.results168 (.q (.r []) (.q (.r []) (.q (.q (.r []) (.c (.q (.r []) .z) .z)) (.q (.r []) (.q (.r [24]) (.q (.r []) (.q (.r []) .z))))))) λR hR=>?_;simp(disch:= omega) only[vm,seval,h.1];refine⟨AOv hl tD λn2 hn2=>?_⟩;have hg:A9 ((i,[.gsl 5 j len,wt,nd,o1,o2,o3,o4])::(j,pre++[kd,text,.slice 1 (keys.map AVal.str) true,it,.sh k]++junk)::(k,[.map keys (keys.map λ_=>.bool true)])::m) k=some [.map keys (keys.map λ_=>.bool true)]:=by simp[A9,hd2,hd3]
 have hlk:=AhH (st:=⟨_,n2⟩) hg hin;have hup:=Al3 (st:=⟨_,n2⟩) hg hin;have hft:BR (keys.length+1) 16:=by unfold BR;omega
 have hr2:(len-1) * 5+3<=pre.length+(5+junk.length):=fG;simp(disch:= omega) only[vm,seval,h.1,drop_at hp,Zl,XX,AUE,hlk,hup,get_at hp,Arw hp,hft,hr2,av];refine⟨(hR _ _ _ _ _ _ (by simp(disch:= omega) only[vm,seval,h.1];rfl) slr ?_ fG ?_).1⟩<;>first| (simp(disch:= omega) only[vm,seval,h.1];done)| rfl
def AAW{E:Env}{c:Code}{f:FuncId}{fn:Func}{nt:Nat}{rs:List ResultVar}{args:List AVal}{m:MS}{n:Nat}{Q:PQ} (hf:E.P.funcs[f]?=some fn) (hb:fn.body=some c) (hn:fn.ntmps=nt) (hr:fn.results=rs.toArray) (a:An) (h: ∀R:APost,(∀af st xs m0 m1 n',RA E rs af st=some (xs,⟨m1,n'⟩)->m0.Sublist m1->n<=n'->Q (TZ xs) ⟨m0,n'⟩->R .ret af st/\R .normal af st)->Gl (wpc E c a R (args++List.replicate (nt-args.length) .any) ⟨m,n⟩)):ACall E f args ⟨m,n⟩ Q:=by
 refine Mq hf hb ?_;have hw:=QJ a (h (Ko E fn Q) ?_).go;·subst hn;exact hw
 ·intro af st xs m0 m1 n' h1 h2 h3 h4;have e:fn.results.toList=rs:=by rw[hr]
  exact⟨LM (by rw[e];exact h1) h2 h4,LH (by rw[e];exact h1) h2 h4⟩
def AAD:FQ vE.P 247=some (.agg [.int .i64 0,.str [],.slice 1 [] true,.slice 4 [] true,.nmap]):=by kernel_rfl
def AVL{i j len:Nat}{lc:List AVal}{kd want nodes:Int}{wt o1 o2 o3 o4:AVal} (hd:j≠i) (hlc:len * 5<=lc.length) (hl:len<64) (hn:0<=nodes/\nodes+1<=20000) (ha:args=[.ptr i 0,.int .i64 kd,.int .i64 want]) (hQ: ∀n' j' k',n<=n'->(j'=j\/n<=j')->n<=k'->k'≠j'->Gl (Q (.int .i64 0) ⟨(j',lc.take (len * 5)++[.int .i64 kd,.str [],.slice 1 [] true,.slice 4 [] true,.sh k'])::(k',[.map [] []])::(i,[.gsl 5 j' (len+1),.int .i64 want,.int .i64 (nodes+1),o1,o2,o3,o4])::m,n'⟩)):ACall vE 209 args ⟨(i,[.gsl 5 j len,wt,.int .i64 nodes,o1,o2,o3,o4])::(j,lc)::m,n⟩ Q:=by
 refine ACall.known λ_ hkn=>?_;have h:True/\True:=⟨trivial,trivial⟩;have hi:i<n:=by
  rcases aV i n with h|h;·exact h
  ·have:=hkn i h;simp[A9]at this
 have hj:j<n:=by
  rcases aV j n with h|h;·exact h
  ·have:=hkn j h;simp[A9,hd]at this
 subst ha;refine AAW Tryz.func209 rfl Tryz.ntmps209 Tryz.results209 (.q (.r []) (.q (.q (.r []) (.c (.q (.r []) .z) .z)) (.q (.q (.r []) (.q (.r []) (.c (.q (.r []) .z) .z))) (.q (.r [29,34]) (.q (.r []) (.q (.r []) .z)))))) λR hR=>?_;have hc1:decide ((64:Int)<=len)=false:=by simp;omega
 have hc2:decide ((20000:Int)<nodes+1)=false:=by simp;omega
 have hw:wr .i64 (nodes+1)=nodes+1:=by obtain⟨q,rfl⟩: ∃q:Nat,nodes=q:=⟨nodes.toNat,fG⟩;exact AFN (by simp[Dp];omega)
 simp(disch:= omega) only[vm,seval,h.1,M0 Ez,O3,RX,hc1,hc2,hw,AAD,ADX,Jb];have happ:AQO vE 150 150 (AVal.gsl 5 j len) (AVal.gsl 5 (n+1) 1) {m:=(n+1,List.flatMap (λp=>Ai p.snd) [((0:Nat),AVal.agg [AVal.int IntKind.i64 kd,AVal.str [],AVal.slice 1 [] true,AVal.slice 4 [] true,AVal.sh n])])::(n,[AVal.map [] []])::(i,[AVal.gsl 5 j len,wt,AVal.int IntKind.i64 (nodes+1),o1,o2,o3,o4])::(j,lc)::m,next:=n+2} =some (5,len+1,lc.take (len * 5)++[.int .i64 kd,.str [],.slice 1 [] true,.slice 4 [] true,.sh n],(n,[AVal.map [] []])::(i,[AVal.gsl 5 j len,wt,AVal.int IntKind.i64 (nodes+1),o1,o2,o3,o4])::m,some j):=by
  have e1: ¬j=n:=fG;have e2: ¬j=n+1:=fG;have e3:(len+1) * 80<=140737488355328/\len+1<=Dp:=by simp[Dp];omega
  simp[AQO,A9,Ed,ADk,AC0,Wu,Ai,hd,e1,e2,e3,hlc]
 rw[happ];constructor;intro j' hj';have hj1:j'≠i/\j'≠n/\(j'=j\/n<=j'):=by
  rcases hj' with hj'|hj';·simp only at hj';omega
  ·cases hj';omega
 obtain⟨hj1,hj2,hj3⟩:=hj1;have hin:i≠n:=fG;refine Gl.go ?_;simp(disch:= omega) only[vm,seval,h.1,O3,RX,VT,Vh];refine⟨(hR _ _ _ _ _ _ (by simp(disch:= omega) only[vm,seval,h.1];rfl) slr fG ?_).1⟩;exact(hQ _ j' n fG fG fG fG).go
def AD6{i j:Nat}{v:ApiValue}{wt nd o1 o2 o3 o4:AVal} (ha:args=[.ptr i 0,AV v]) (hQ: ∀n',n<=n'->Gl (Q (.tuple []) ⟨(i,[.gsl 5 j 0,.int .i64 6,nd,.int .i64 v.kind,.str v.text,.slice 1 (v.keys.map AVal.str) false,.slice 4 (v.items.map AV) false])::m,n'⟩)):ACall vE 210 args ⟨(i,[.gsl 5 j 0,wt,nd,o1,o2,o3,o4])::m,n⟩ Q:=by
 refine ACall.known λ_ hkn=>?_;have h:True/\True:=⟨trivial,trivial⟩;have hi:i<n:=by
  rcases aV i n with h|h;·exact h
  ·have:=hkn i h;simp[A9]at this
 subst ha;refine AAW Tryz.func210 rfl Tryz.ntmps210 Tryz.results210 (.q (.r []) (.q (.q (.r []) (.c (.q (.r []) .z) .z)) .z)) λR hR=>?_;simp(disch:= omega) only[vm,seval,h.1,M0 Ez,O3,RX,VT,Vh];refine⟨(hR _ _ _ _ _ _ (by simp(disch:= omega) only[vm,seval,h.1];rfl) (.cons _ slr) fG ?_).1⟩;exact(hQ _ fG).go
def ASU{i:Nat}{v:ApiValue}{wt nd o1 o2 o3 o4:AVal} (ha:args=[.ptr i 0,AV v]) (hQ: ∀n',n<=n'->Gl (Q (.tuple []) ⟨(i,[.slice 5 [] true,.int .i64 6,nd,.int .i64 v.kind,.str v.text,.slice 1 (v.keys.map AVal.str) false,.slice 4 (v.items.map AV) false])::m,n'⟩)):ACall vE 210 args ⟨(i,[.slice 5 [] true,wt,nd,o1,o2,o3,o4])::m,n⟩ Q:=by
 refine ACall.known λ_ hkn=>?_;have h:True/\True:=⟨trivial,trivial⟩;have hi:i<n:=by
  rcases aV i n with h|h;·exact h
  ·have:=hkn i h;simp[A9]at this
 subst ha;refine AAW Tryz.func210 rfl Tryz.ntmps210 Tryz.results210 (.q (.r []) (.q (.q (.r []) (.c (.q (.r []) .z) .z)) .z)) λR hR=>?_;simp(disch:= omega) only[vm,seval,h.1,M0 Ez,O3,RX,VT,Vh];refine⟨(hR _ _ _ _ _ _ (by simp(disch:= omega) only[vm,seval,h.1];rfl) (.cons _ slr) fG ?_).1⟩;exact(hQ _ fG).go
def ArO{E:Env}{t:TypeId}{q:Nat}{x:AVal}:D7 E t (.sh q) x=none:=by cases x<;>rfl
def AqN{q k:Nat}{items:List ApiValue}:Kl vE 107 (.sh q) (.int .i64 (items.length:Int)) ⟨(q,[.slop 4 (List.map AV items)])::m,k⟩=some (.sptr q 4 items.length):=by simp[Kl,Zo,A9,ADd]
def ASW{E:Env}{t:TypeId}{j off q w k:Nat}{xs:List AVal}{o:Bool}:WT E t (.ptr j off) (.sh q) ⟨(q,[.slice w xs o])::m,k⟩=Pm E t (.ptr j off) (.slice w xs o) ⟨(q,[.slice w xs false])::m,k⟩:=by simp[WT,A9,CU,Mo,Pm]
def AQC{E:Env}{t:TypeId}{j off q w k:Nat}{xs:List AVal}:WT E t (.ptr j off) (.sh q) ⟨(q,[.slop w xs])::m,k⟩=ZM E t (.ptr j off) (.sh q) ⟨(q,[.slop w xs])::m,k⟩:=by simp[WT,A9,Rx]
def Apc{E:Env}{id:Nat}{os:Array Oper}{b:Bool}{K:APost}{af:List AVal}{st:St}:wpc E (.region id os b) .z K af st=AWp E (.region id os b) K af st:=by rw[wpc]<;>simp
def AS0{i j len:Nat}{v:ApiValue}{items:List ApiValue}{pre junk:List AVal}{wt nd o1 o2 o3 o4 kd tx ks sk:AVal} (hd:j≠i) (hp:pre.length=(len-1) * 5) (hl:0<len/\len<=Dp) (hb:items.length<=1099511627776) (ha:args=[.ptr i 0,AV v]) (hQ: ∀n',n<=n'->Gl (Q (.tuple []) ⟨(i,[.gsl 5 j len,.int .i64 5,nd,o1,o2,o3,o4])::(j,pre++[kd,tx,ks,.slice 4 ((items++[v]).map AV) true,sk]++junk)::m,n'⟩)):ACall vE 210 args ⟨(i,[.gsl 5 j len,wt,nd,o1,o2,o3,o4])::(j,pre++[kd,tx,ks,.slice 4 (items.map AV) true,sk]++junk)::m,n⟩ Q:=by
 refine ACall.known λ_ hkn=>?_;have h:True/\True:=⟨trivial,trivial⟩;have hi:i<n:=by
  rcases aV i n with h|h;·exact h
  ·have:=hkn i h;simp[A9]at this
 have hj:j<n:=by
  rcases aV j n with h|h;·exact h
  ·have:=hkn j h;simp[A9,hd]at this
 subst ha;refine AAW Tryz.func210 rfl Tryz.ntmps210 Tryz.results210 (.q (.r []) (.q (.q (.r []) (.c (.q (.r []) .z) .z)) (.q (.r []) (.q .z .z)))) λR hR=>?_;have hc:((len:Int)==0)=false:=by simp;omega
 simp(disch:= omega) only[vm,seval,h.1,M0 Ez,O3,RX,VT,Vh,hc];have hin:i≠n:=fG;refine⟨Yo (pc:=[wt,nd,o1,o2,o3,o4]) (j:=j) (len:=len) ?_ hl tD λn2 hn2=>?_⟩;·simp[A9,hin]
 simp(disch:= omega) only[vm,seval,h.1];refine⟨QD [24,28] (.take 0 (.take 1 (.take 2 (.take 3 (.take 5 (.take 7 (.alt 4 [7,5,2,1,0] (.take 6 (.alt 8 [] (.take 11 (.take 12 (.take 13 (.alt 9 [13,12,11] (.alt 10 [13,12,11] (.alt 14 [12,11] (.done) (.stop)) (.alt 14 [12,11] (.alt 10 [13,12,11] (.done) (.stop)) (.stop))) (.alt 14 [12,11] (.alt 9 [13,12,11] (.alt 10 [13,12,11] (.done) (.stop)) (.stop)) (.stop)))))) (.stop))) (.stop)))))))) M9 (by kernel_rfl) ?_⟩;have hft:(items.length+1) * 72<=140737488355328/\items.length<=4611686018427387903:=fG;have hjn:j≠n:=fG;have hr2:(len-1) * 5+4<=pre.length+(5+junk.length):=fG;simp(disch:= omega) only[hft,hr2,vm,seval,h.1,drop_at hp,get_at hp,Aoz hp,QH,ArO,AqN,AWv,ACq,Zo,Mo,Ao5,Aob,ASW,AQC,Apc,Ahk,AfV,Kk,QP,Value.oneCell',cY,ef,av];have hjn2:j≠n2:=fG;have hin2:i≠n2:=fG;have fin: ∀(af:List AVal) (c:Code) (m':MS) (n':Nat),n<=n'->([]:List (Nat×List AVal)).Sublist m'->True:=λ_ _ _ _ _ _=>trivial;refine AWU (AWU ⟨?_⟩ ⟨?_⟩) ⟨?_⟩;·refine EZ (.r []) ?_;simp(disch:= omega) only[vm,seval,h.1];refine⟨(hR _ _ _ _ _ _ (by simp(disch:= omega) only[vm,seval,h.1];rfl) (.cons _ (.cons _ slr)) fG ?_).2⟩;have:=(hQ (n2+1) fG).go;show Q (.tuple []) _;simpa only[cf,aE,bU,JN]using this
 all_goals refine AJq (i:=n2) (j:=j) (p:=(len-1) * 5+3) hjn2 (by simp(disch:= omega) only[vm];rfl) fJ (by simp(disch:= omega) only[vm,get_at hp]) (by simp only[vm];rfl) ?_;refine EZ (.r []) ?_;simp(disch:= omega) only[vm,seval,h.1,Aoz hp];refine⟨(hR _ _ _ _ _ _ (by simp(disch:= omega) only[vm,seval,h.1];rfl) (.cons _ (.cons _ slr)) fG ?_).2⟩;have:=(hQ (n2+1) fG).go;show Q (.tuple []) _;simpa only[cf,aE,bU,JN]using this
theorem ACall.nodup{E:Env}{f:FuncId}{args:List AVal}{st:St}{Q:PQ} (h:(st.m.map (·.1)).Nodup->ACall E f args st Q):ACall E f args st Q:=⟨λF Γ w cargs hs=>(h hs.keys).go F Γ w cargs hs⟩
def IM: ∀ {m:MS}{i:Nat}{c:List AVal},(m.map (·.1)).Nodup->(i,c)∈m->A9 m i=some c
 | (j,d)::m,i,c,hn,h=>by
  simp only[aE,ch]at hn;rcases aI.1 h with h|h;·cases h;simp[A9]
  ·have hne:i≠j:=λe=>hn.1 (by rw[<-e];exact eG (f:=(·.1)) h);simp only[A9,ae hne];exact IM hn.2 h
def Ww{m m':MS} (h:m.Perm m') (hn:(m.map (·.1)).Nodup):(m'.map (·.1)).Nodup:=(h.map _).nodup_iff.1 hn
def XH{m r:MS}{i:Nat}{c x:List AVal} (hn:(m.map (·.1)).Nodup) (h:m.Perm ((i,c)::r)):(CU m i x).Perm ((i,x)::r):=by have hg:A9 m i=some c:=IM hn (h.mem_iff.2 fH);have h1:=LK hg;have h2:r.Perm (Ed m i):=(h.symm.trans h1).cons_inv;exact(Sc hg).symm.trans (h2.symm.cons _)
def lvl (v:ApiValue) (k:Nat):List AVal:=[.int .i64 v.kind,.str v.text,.slice 1 (v.keys.map AVal.str) true,.slice 4 (v.items.map AV) true,.sh k]
def AQR (v:ApiValue) (k:Nat):Nat×List AVal:=(k,[.map v.keys (v.keys.map λ_=>.bool true)])
def Yq:List ApiValue->List Nat->List AVal |v::vs,k::ks=>lvl v k++Yq vs ks|_,_=>[]
def maps:List ApiValue->List Nat->MS |v::vs,k::ks=>AQR v k::maps vs ks|_,_=>[]
def pc (sv:AVal) (p:JPsr):List AVal:=[sv,.int .i64 p.want,.int .i64 p.nodes,.int .i64 p.out.kind,.str p.out.text,.slice 1 (p.out.keys.map AVal.str) false,.slice 4 (p.out.items.map AV) false]
def VG: ∀ {st:List ApiValue}{ks:List Nat}{v:ApiValue}{k:Nat},ks.length=st.length->Yq (st++[v]) (ks++[k])=Yq st ks++lvl v k |[],[],v,k,_=>by simp[Yq]| x::st,y::ks,v,k,h=>by simp only[bf,Yq,aF];rw[VG (by simpa using h)]
def VH: ∀ {st:List ApiValue}{ks:List Nat}{v:ApiValue}{k:Nat},ks.length=st.length->maps (st++[v]) (ks++[k])=maps st ks++[AQR v k] |[],[],v,k,_=>by simp[maps]| x::st,y::ks,v,k,h=>by simp only[bf,maps];rw[VH (by simpa using h)]
def Yl: ∀ {st:List ApiValue}{ks:List Nat},ks.length=st.length->(Yq st ks).length=st.length * 5 |[],[],_=>rfl| x::st,y::ks,h=>by simp only[Yq,an,Yl (st:=st) (ks:=ks) (by simpa using h),ag,lvl,ap];omega
inductive PS (p:JPsr) (i:Nat) (m0 m:MS):Prop |nil (X:MS) (hs:p.stack=[]) (h:m.Perm ((i,pc (.slice 5 [] true) p)::(X++m0))) |box (j:Nat) (ks:List Nat) (junk:List AVal) (X:MS) (hk:ks.length=p.stack.length) (h:m.Perm ((i,pc (.gsl 5 j p.stack.length) p)::(j,Yq p.stack ks++junk)::(maps p.stack ks++(X++m0))))
def PS.more{p:JPsr}{i:Nat}{m0 m:MS} (h:PS p i m0 m) (e:Nat×List AVal):PS p i (e::m0) (e::m):=by
 have key: ∀(a b X:MS),m.Perm (a++(b++(X++m0)))->(e::m).Perm (a++(b++(X++e::m0))):=λa b X h=>by
  have h1:(a++(b++(X++e::m0))).Perm (e::(a++(b++(X++m0)))):=by have:=dG (a:=e) (l₁:=a++b++X) (l₂:=m0);simpa only[aF]using this
  exact(h.cons e).trans h1.symm
 cases h with |nil X hs h=>exact .nil X hs (by simpa using key [_] [] X (by simpa using h))|box j ks junk X hk h=>exact .box j ks junk X hk (by simpa using key [_,_] _ X (by simpa using h))
def PS.less{p:JPsr}{i:Nat}{m0 m:MS}{e:Nat×List AVal} (h:PS p i (e::m0) m):PS p i m0 m:=by cases h with |nil X hs h=>exact .nil (X++[e]) hs (by simpa using h)|box j ks junk X hk h=>exact .box j ks junk (X++[e]) hk (by simpa using h)
def PS.perm{p:JPsr}{i:Nat}{m0 m m':MS} (h:PS p i m0 m) (hp:m'.Perm m):PS p i m0 m':=by cases h with |nil X hs h=>exact .nil X hs (hp.trans h)|box j ks junk X hk h=>exact .box j ks junk X hk (hp.trans h)
def PS.put{p:JPsr}{i:Nat}{m0 m:MS} (h:PS p i m0 m) (hn:(m.map (·.1)).Nodup): ∃sv,A9 m i=some (pc sv p)/\(sv=.slice 5 [] true/\p.stack=[]\/∃j,sv=.gsl 5 j p.stack.length)/\∀p':JPsr,p'.stack=p.stack->PS p' i m0 (CU m i (pc sv p')):=by cases h with |nil X hs h=>exact⟨_,IM hn (h.mem_iff.2 fH),.inl ⟨rfl,hs⟩,λp' e=>.nil X (e.trans hs) (XH hn h)⟩|box j ks junk X hk h=>exact⟨_,IM hn (h.mem_iff.2 fH),.inr ⟨j,rfl⟩,λp' e=>.box j ks junk X (by rw[e];exact hk) (by rw[e];exact XH hn h)⟩
def PS.get{p:JPsr}{i x:Nat}{c:List AVal}{m0 m:MS} (h:PS p i m0 m) (hn:(m.map (·.1)).Nodup) (hx:(x,c)∈m0):A9 m x=some c:=by cases h with |nil X hs h=>exact IM hn (h.mem_iff.2 (by simp[hx]))|box j ks junk X hk h=>exact IM hn (h.mem_iff.2 (by simp[hx]))
def PS.top{p:JPsr}{i:Nat}{m0 m:MS}{st:List ApiValue}{v:ApiValue} (h:PS p i m0 m) (hs:p.stack=st++[v]): ∃j k pre junk rest,pre.length=st.length * 5/\m.Perm ((i,pc (.gsl 5 j (st.length+1)) p)::(j,pre++lvl v k++junk)::AQR v k::rest)/\(∀(p':JPsr) v' m',p'.stack=st++[v']->m'.Perm ((i,pc (.gsl 5 j (st.length+1)) p')::(j,pre++lvl v' k++junk)::AQR v' k::rest)->PS p' i m0 m')/\∀(p':JPsr) junk' m',p'.stack=st->m'.Perm ((i,pc (.gsl 5 j st.length) p')::(j,pre++junk')::AQR v k::rest)->PS p' i m0 m':=by
 cases h with
 |nil X hn h=>rw[hn]at hs;simp at hs
 | box j ks junk X hk h=>
  rw[hs]at hk h;obtain⟨ks',k,rfl⟩: ∃ks' k,ks=ks'++[k]:=by
   rcases cK ks with rfl|⟨a,b,rfl⟩;·simp at hk
   ·exact⟨a,b,fH⟩
  have hk':ks'.length=st.length:=by simpa using hk
  rw[VG hk',VH hk',an,ag,ap]at h;have mid: ∀(a b:Nat×List AVal) (e:Nat×List AVal) (l:MS),(a::b::(maps st ks'++[e]++l)).Perm (a::b::e::(maps st ks'++l)):=λa b e l=>by refine cJ _ (cJ _ ?_);simp
  refine⟨j,k,Yq st ks',junk,maps st ks'++(X++m0),Yl hk',h.trans (mid _ _ _ _),λp' v' m' e hp=>?_,λp' junk' m' e hp=>?_⟩;·refine .box j (ks'++[k]) junk X (by simp[e,hk']) ?_;rw[e,VG hk',VH hk',an,ag,ap];exact hp.trans (mid _ _ _ _).symm
  ·refine .box j ks' junk' (AQR v k::X) (by rw[e];exact hk') ?_;rw[e];refine hp.trans (cJ _ (cJ _ ?_));simpa using(dG (a:=AQR v k) (l₁:=maps st ks') (l₂:=X++m0)).symm
def Ni{l:List ApiValue}:l=[]\/∃st v,l=st++[v]:=by
 rcases cK l with h|⟨a,b,h⟩;·exact .inl h
 ·exact .inr ⟨a,b,by simpa using h⟩
def nd3{a b c:Nat×List AVal}{r m:MS} (hn:(m.map (·.1)).Nodup) (h:m.Perm (a::b::c::r)):b.1≠a.1/\c.1≠a.1/\c.1≠b.1:=by have h2:=Ww h hn;simp only[aE,ch,aI,fF]at h2;exact⟨eH h2.1.1,eH h2.1.2.1,eH h2.2.1.1⟩
def AQt{p:JPsr}{i:Nat}{m0:MS}{s:B8}{q:JPsr×Int} (hp:PS p i m0 m) (h:XE p s=some q) (hlen:p.stack.length<=Dp) (hb: ∀v,v∈p.stack->v.keys.length<=1099511627776) (ha:args=[.ptr i 0,.str s]) (hQ: ∀n' m',n<=n'->PS q.1 i m0 m'->Gl (Q (.int .i64 q.2) ⟨m',n'⟩)):ACall vE 168 args ⟨m,n⟩ Q:=by
 refine ACall.nodup λhn=>?_;rcases Ni (l:=p.stack)with hs|⟨st,v,hs⟩;·simp[XE,hs]at h
 ·obtain⟨j,k,pre,junk,rest,h1,h2,h3,h4⟩:=hp.top hs;have hd:=nd3 hn h2;have hl:0<st.length+1/\st.length+1<=Dp:=⟨fG,by rw[hs]at hlen;simpa using hlen⟩;have hvb:=hb v (by rw[hs];simp);refine ACall.perm h2 ?_;simp only[XE,hs,bS,bO,cA,cv]at h;by_cases hin:s∈v.keys;·rw[ah hin]at h;cases h;refine AZ5 (hd:=hd) (hp:=by simpa using h1) hl ha hin λn' hn'=>hQ _ _ hn' ?_;exact h3 p v _ hs (di _)
  ·rw[ae hin]at h;cases h;refine AVF (hd:=hd) (hp:=by simpa using h1) hl ha hin hvb λn' hn'=>hQ _ _ hn' ?_;exact h3 _ {v with keys:=v.keys++[s]} _ fH (di _)
def AF0{p:JPsr}{i:Nat}{m0:MS}{v:ApiValue} (hp:PS p i m0 m) (hlen:p.stack.length<=Dp) (hb: ∀v,v∈p.stack->v.items.length<=1099511627776) (ha:args=[.ptr i 0,AV v]) (hQ: ∀n' m',n<=n'->PS (IX p v) i m0 m'->Gl (Q (.tuple []) ⟨m',n'⟩)):ACall vE 210 args ⟨m,n⟩ Q:=by
 refine ACall.nodup λhn=>?_;rcases Ni (l:=p.stack)with hs|⟨st,v',hs⟩
 ·have e:IX p v= {p with out:=v,want:=6}:=by simp[IX,hs]
  rw[e]at hQ;cases hp with | nil X hz h=>refine ACall.perm h ?_;refine ASU ha λn' hn'=>hQ _ _ hn' (.nil X hs (di _))| box j ks junk X hk h=>refine ACall.perm h ?_;rw[hs];refine AD6 ha λn' hn'=>hQ _ _ hn' ?_;refine .box j ks junk X hk ?_;rw[hs];exact di _
 ·obtain⟨j,k,pre,junk,rest,h1,h2,h3,h4⟩:=hp.top hs;have hd:=nd3 hn h2;have hl:0<st.length+1/\st.length+1<=Dp:=⟨fG,by rw[hs]at hlen;simpa using hlen⟩;have hvb:=hb v' (by rw[hs];simp);have e:IX p v= {p with stack:=p.stack.dropLast++[{v' with items:=v'.items++[v]}],want:=5}:=by simp[IX,hs]
  rw[e]at hQ;refine ACall.perm h2 ?_;refine AS0 hd.1 (by simpa using h1) hl hvb ha λn' hn'=>hQ _ _ hn' ?_;exact h3 _ {v' with items:=v'.items++[v]} _ (by simp[hs]) (di _)
def AB1{sv:AVal}{st:List ApiValue} (h:sv=.slice 5 [] true/\st=[]\/∃j,sv=.gsl 5 j st.length):Tf vE 150 sv=some (.int .i64 (st.length:Int))/\sv.strip=(match sv with|.slice w l _=>.slice w l false|x=>x)/\Tf vE 150 sv.strip=some (.int .i64 (st.length:Int))/\Ai sv=[sv]/\Ei sv=true/\Mo sv=false:=by
 rcases h with⟨rfl,rfl⟩|⟨j,rfl⟩;·exact⟨by simp[Tf,Ez],rfl,by simp[Tf,Ez,AVal.strip],rfl,rfl,rfl⟩
 ·exact⟨M0 Ez,rfl,M0 Ez,rfl,rfl,rfl⟩
def AKt{p:JPsr}{i:Nat}{m0:MS}{kd want:Int}{sv:AVal} (hm:A9 m i=some (pc sv p)) (hsv:Tf vE 150 sv.strip=some (.int .i64 (p.stack.length:Int))/\Ai sv=[sv]) (hl:64<=p.stack.length) (ha:args=[.ptr i 0,.int .i64 kd,.int .i64 want]) (hQ: ∀n',n<=n'->Gl (Q (.int .i64 141) ⟨m,n'⟩)):ACall vE 209 args ⟨m,n⟩ Q:=by
 have h:True/\True:=⟨trivial,trivial⟩;subst ha;refine ent hQ Tryz.func209 rfl Tryz.ntmps209 Tryz.results209 (.q (.r []) (.q (.q (.r []) (.c (.q (.r []) .z) .z)) (.q (.q (.r []) (.q (.r []) (.c (.q (.r []) .z) .z))) (.q (.r [29]) (.q (.r []) (.q (.r []) .z)))))) λR hR=>?_;have hc1:decide ((64:Int)<=p.stack.length)=true:=by simp;omega
 simp(disch:= omega) only[vm,seval,h.1,hm,pc,hsv,hc1];refine⟨(hR _ _ _ _ _ _ (by simp(disch:= omega) only[vm,seval,h.1];rfl) slr ?_ fG ?_).1⟩<;>first| (simp(disch:= omega) only[vm,seval,h.1];done)| rfl
def ANZ{nodes:Int} (hn:0<=nodes/\nodes<=30000):wr .i64 (nodes+1)=nodes+1:=by obtain⟨q,rfl⟩: ∃q:Nat,nodes=q:=⟨nodes.toNat,fG⟩;exact AFN (by simp[Dp];omega)
def AK3{p:JPsr}{i:Nat}{m0:MS}{kd want:Int}{sv:AVal} (hm:A9 m i=some (pc sv p)) (hsv:Tf vE 150 sv.strip=some (.int .i64 (p.stack.length:Int))/\Ai sv=[sv]) (hl:p.stack.length<64) (hn:0<=p.nodes/\p.nodes<=20000/\20000<p.nodes+1) (ha:args=[.ptr i 0,.int .i64 kd,.int .i64 want]) (hQ: ∀n',n<=n'->Gl (Q (.int .i64 142) ⟨CU m i (pc sv {p with nodes:=p.nodes+1}),n'⟩)):ACall vE 209 args ⟨m,n⟩ Q:=by
 have h:True/\True:=⟨trivial,trivial⟩;subst ha;refine ent hQ Tryz.func209 rfl Tryz.ntmps209 Tryz.results209 (.q (.r []) (.q (.q (.r []) (.c (.q (.r []) .z) .z)) (.q (.q (.r []) (.q (.r []) (.c (.q (.r []) .z) .z))) (.q (.r [29]) (.q (.r []) (.q (.r []) .z)))))) λR hR=>?_;have hc1:decide ((64:Int)<=p.stack.length)=false:=by simp;omega
 have hc2:decide ((20000:Int)<p.nodes+1)=true:=by simp;omega
 have hw:wr .i64 (p.nodes+1)=p.nodes+1:=ANZ ⟨hn.1,fG⟩;have hms: ∀x,A9 (CU m i x) i=some x:=λx=>KO hm;simp(disch:= omega) only[vm,seval,h.1,hm,pc,hsv,hc1,hc2,hw,hms];refine⟨(hR _ _ _ _ _ _ (by simp(disch:= omega) only[vm,seval,h.1];rfl) slr ?_ fG ?_).1⟩<;>first| (simp(disch:= omega) only[vm,seval,h.1];done)| rfl
def AQr{i:Nat}{kd want nodes:Int}{wt o1 o2 o3 o4:AVal} (hn:0<=nodes/\nodes+1<=20000) (ha:args=[.ptr i 0,.int .i64 kd,.int .i64 want]) (hQ: ∀n' j' k',n<=n'->n<=j'->n<=k'->k'≠j'->Gl (Q (.int .i64 0) ⟨(j',[.int .i64 kd,.str [],.slice 1 [] true,.slice 4 [] true,.sh k'])::(k',[.map [] []])::(i,[.gsl 5 j' 1,.int .i64 want,.int .i64 (nodes+1),o1,o2,o3,o4])::m,n'⟩)):ACall vE 209 args ⟨(i,[.slice 5 [] true,wt,.int .i64 nodes,o1,o2,o3,o4])::m,n⟩ Q:=by
 refine ACall.known λ_ hkn=>?_;have h:True/\True:=⟨trivial,trivial⟩;have hi:i<n:=by
  rcases aV i n with h|h;·exact h
  ·have:=hkn i h;simp[A9]at this
 subst ha;refine AAW Tryz.func209 rfl Tryz.ntmps209 Tryz.results209 (.q (.r []) (.q (.q (.r []) (.c (.q (.r []) .z) .z)) (.q (.q (.r []) (.q (.r []) (.c (.q (.r []) .z) .z))) (.q (.r [29,34]) (.q (.r []) (.q (.r []) .z)))))) λR hR=>?_;have hc1:decide ((64:Int)<=(0:Nat))=false:=fH;have hc2:decide ((20000:Int)<nodes+1)=false:=by simp;omega
 have hw:wr .i64 (nodes+1)=nodes+1:=ANZ ⟨hn.1,fG⟩;simp(disch:= omega) only[vm,seval,h.1,M0 Ez,O3,RX,hc1,hc2,hw,AAD,ADX,Jb];have happ:AQO vE 150 150 (AVal.slice 5 [] true) (AVal.gsl 5 (n+1) 1) {m:=(n+1,List.flatMap (λp=>Ai p.snd) [((0:Nat),AVal.agg [AVal.int IntKind.i64 kd,AVal.str [],AVal.slice 1 [] true,AVal.slice 4 [] true,AVal.sh n])])::(n,[AVal.map [] []])::(i,[AVal.slice 5 [] false,wt,AVal.int IntKind.i64 (nodes+1),o1,o2,o3,o4])::m,next:=n+2} =some (5,1,[.int .i64 kd,.str [],.slice 1 [] true,.slice 4 [] true,.sh n],(n,[AVal.map [] []])::(i,[AVal.slice 5 [] false,wt,AVal.int IntKind.i64 (nodes+1),o1,o2,o3,o4])::m,none):=by simp[AQO,A9,Ed,ADk,AC0,Wu,Ai,Dp]
 rw[happ];constructor;intro j' hj';have hj1:j'=n+2:=by
  rcases hj' with hj'|hj';·exact hj'
  ·cases hj'
 subst hj1;have hin:i≠n:=fG;refine Gl.go ?_;simp(disch:= omega) only[vm,seval,h.1,O3,RX,VT,Vh];refine⟨(hR _ _ _ _ _ _ (by simp(disch:= omega) only[vm,seval,h.1];rfl) slr fG ?_).1⟩;exact(hQ _ (n+2) n fG fG fG fG).go
def AFj{p:JPsr}{i:Nat}{m0:MS}{kd want:Int} (hp:PS p i m0 m) (hn:0<=p.nodes/\p.nodes<=20000) (ha:args=[.ptr i 0,.int .i64 kd,.int .i64 want]) (hQ: ∀n' m',n<=n'->PS (G8 p kd want).1 i m0 m'->Gl (Q (.int .i64 (G8 p kd want).2) ⟨m',n'⟩)):ACall vE 209 args ⟨m,n⟩ Q:=by
 refine ACall.nodup λhnd=>?_;obtain⟨sv,hg,hsv,hput⟩:=hp.put hnd;have hl:=AB1 hsv;by_cases h1:p.stack.length>=64
 ·have e:G8 p kd want=(p,141):=by simp[G8,h1]
  rw[e]at hQ;exact AKt (m0:=m0) hg ⟨hl.2.2.1,hl.2.2.2.1⟩ h1 ha λn' hn'=>hQ _ _ hn' hp
 ·by_cases h2:p.nodes+1>20000
  ·have e:G8 p kd want=({p with nodes:=p.nodes+1},142):=by simp[G8,h1,h2]
   rw[e]at hQ;exact AK3 (m0:=m0) hg ⟨hl.2.2.1,hl.2.2.2.1⟩ fG ⟨hn.1,hn.2,h2⟩ ha λn' hn'=>hQ _ _ hn' (hput _ rfl)
  ·have e:G8 p kd want=({p with stack:=p.stack++[⟨kd,[],[],[]⟩],nodes:=p.nodes+1,want:=want},0):=by simp[G8,h1,h2]
   rw[e]at hQ;cases hp with
   | nil X hs h=>refine ACall.perm h ?_;refine AQr ⟨hn.1,fG⟩ ha λn' j' k' h3 h4 h5 h6=>hQ _ _ h3 ?_;refine .box j' [k'] [] X (by simp[hs]) ?_;simp only[hs,aT,Yq,maps,lvl,AQR,bU,bQ,ag,ap,pc,bf];exact((cB _ _ _).cons _).trans (cB _ _ _)|>.trans (cJ _ (di _))
   | box j ks junk X hk h=>
    have hd:j≠i:=by have h2:=Ww h hnd;simp only[aE,ch,aI,fF]at h2;exact eH h2.1.1
    refine ACall.perm h ?_;refine AVL hd (by rw[an,Yl hk];omega) fG ⟨hn.1,fG⟩ ha λn' j' k' h3 h4 h5 h6=>hQ _ _ h3 ?_;refine .box j' (ks++[k']) [] X (by simp[hk]) ?_;have e1:(Yq p.stack ks++junk).take (p.stack.length * 5)=Yq p.stack ks:=by rw[<-Yl hk,List.take_left]
    rw[e1,VG hk,VH hk,bQ,an];have mid: ∀(e:Nat×List AVal) (l:MS),(e::(maps p.stack ks++l)).Perm (maps p.stack ks++[e]++l):=λe l=>by simpa using(dG (a:=e) (l₁:=maps p.stack ks) (l₂:=l)).symm
    refine((cB _ _ _).cons _).trans ((cB _ _ _).trans (cJ _ (cJ _ ?_)));exact mid (k',[.map [] []]) _
def Ae9 (p:JPsr) (t:ApiToken) (cl:B8):Bool:=if p.want==0 then HY t else if p.want==1 then HY t||(t.kind==2&&t.text==cl)else if p.want==2 then t.kind==3 else if p.want==3 then t.kind==3||(t.kind==2&&t.text==cl) else if p.want==4 then t.kind==2&&t.text==[58]else if p.want==5 then t.kind==2&&t.text==[44]||(t.kind==2&&t.text==cl)else t.kind==1
def AjG{q:Nat}{a:AVal}{pre l junk:List AVal} (h:pre.length=q):(pre++a::l++junk)[q]?=some a:=by subst h;simp
def AgU (t:ApiToken):Mr N t=some (HY t):=by unfold Mr HY;simp only[AB];cases t.kind==3<;>cases t.kind==4<;>cases t.kind==5<;>cases t.kind==2<;>cases t.text==[91]<;>simp
def Aa3{p:JPsr}{i:Nat}{m0:MS}{t:ApiToken} (hp:PS p i m0 m) (hlen:p.stack.length<=Dp) (ha:args=[.ptr i 0,El t]) (hQ: ∀n',n<=n'->Gl (Q (.bool (Dj p t)) ⟨m,n'⟩)):ACall vE 166 args ⟨m,n⟩ Q:=by
 refine ACall.nodup λhnd=>ACall.known λ_ hkn=>?_;obtain⟨sv,hg,hsv,hput⟩:=hp.put hnd;have hl:=(AB1 hsv).2.2;have hi:i<n:=by
  rcases aV i n with h|h;·exact h
  ·have:=hkn i h;rw[hg]at this;cases this
 have h:True/\AB (λcl=>some (Ae9 p t cl)) (λk=>k (J5 p))=some (Dj p t):=⟨trivial,by simp only[AB];first| done| rfl⟩;subst ha;refine ent hQ Tryz.func166 rfl Tryz.ntmps166 Tryz.results166 (.q (.r []) (.q (.r []) .z)) λR hR=>?_;have hin:i≠n:=fG;simp(disch:= omega) only[vm,seval,h.1];refine⟨Ra (γ:=Unit) h [7,8,9,10,11,12,13,14,15,16,17,18,19] [5] (λcl g=>[.str cl]) (λcl g=>(n,[.int .i64 t.kind,.str t.text,.int .i64 t.at_])::m) (.q (.r []) (.c (.q (.r []) (.q (.r []) (.c (.r []) .z))) .z)) ?_ ?_⟩<;>clear h
 ·rintro cl _ n4 hnn4 _ _ h;have h2:Ae9 p t cl=Dj p t:=by simpa using h
  clear h;have hin4:i≠n:=fG;refine EZ (.q (.r []) (.q (.q (.r []) (.q (.r []) (.c (.q (.r []) .z) (.q (.r []) (.c (.q (.r []) .z) (.q (.r []) (.c (.q (.r []) .z) (.q (.r []) (.c (.q (.r []) .z) (.q (.r []) (.c (.q (.r []) .z) (.q (.r []) (.c (.q (.r []) .z) .z))))))))))))) (.q (.r []) .z))) ?_;unfold Ae9 at h2;have ow: ∀ {n5:Nat}{m5:MS}{Q5:PQ}{args5:List AVal},args5=[El t]->(∀n',n5<=n'->Gl (Q5 (.bool (HY t)) ⟨m5,n'⟩))->ACall vE 208 args5 ⟨m5,n5⟩ Q5:=λha hq=>AA8 (N:=0) (AgU t) ha hq;generalize Dj p t=r at h2 hR;cases hk2:t.kind==2<;>cases hw0:p.want==0<;>cases hw1:p.want==1<;>cases hw2:p.want==2<;>cases hw3:p.want==3<;>cases hw4:p.want==4<;>cases hw5:p.want==5;all_goals try (exfalso;simp only[bE,cj]at hw0 hw1 hw2 hw3 hw4 hw5;omega)
  all_goals simp(disch:= omega) only[hw0,hw1,hw2,hw3,hw4,hw5,hk2,av,aq,aj,bJ,eL,cx]at h2;simp(disch:= omega) only[vm,seval,hk2,hg,pc,hl,hw0,hw1,hw2,hw3,hw4,hw5]
  all_goals first | ((refine⟨(hR _ _ _ _ _ _ (by simp(disch:= omega) only[vm,seval,hk2];rfl) (.cons _ slr) rfl fG ?_).1⟩<;>first| rfl| (simp(disch:= omega) only[vm,seval,hk2];done)| (subst h2;rfl));done) | (cases hk3:t.kind==3<;>simp(disch:= omega) only[hk3,cV,be]at h2<;>simp(disch:= omega) only[vm,seval,hk2,hk3]<;>(refine⟨(hR _ _ _ _ _ _ (by simp(disch:= omega) only[vm,seval,hk2];rfl) (.cons _ slr) rfl fG ?_).1⟩<;>first| rfl| (simp(disch:= omega) only[vm,seval,hk2];done)| (subst h2;rfl));done) | (cases hk3:t.text==[44]<;>simp(disch:= omega) only[hk3,cV,be]at h2<;>simp(disch:= omega) only[vm,seval,hk2,hk3]<;>(refine⟨(hR _ _ _ _ _ _ (by simp(disch:= omega) only[vm,seval,hk2];rfl) (.cons _ slr) rfl fG ?_).1⟩<;>first| rfl| (simp(disch:= omega) only[vm,seval,hk2];done)| (subst h2;rfl));done) | (refine⟨ow (by first| (simp(disch:= omega) only[vm,seval,hk2];done)| rfl) λn5 hn5=>?_⟩;simp(disch:= omega) only[vm,seval,hk2];(refine⟨(hR _ _ _ _ _ _ (by simp(disch:= omega) only[vm,seval,hk2];rfl) (.cons _ slr) rfl fG ?_).1⟩<;>first| rfl| (simp(disch:= omega) only[vm,seval,hk2];done)| (subst h2;rfl));done) | (refine⟨ow (by first| (simp(disch:= omega) only[vm,seval,hk2];done)| rfl) λn5 hn5=>?_⟩;cases hk3:HY t<;>simp(disch:= omega) only[hk3,cV,be]at h2<;>simp(disch:= omega) only[vm,seval,hk2,hk3]<;>(refine⟨(hR _ _ _ _ _ _ (by simp(disch:= omega) only[vm,seval,hk2];rfl) (.cons _ slr) rfl fG ?_).1⟩<;>first| rfl| (simp(disch:= omega) only[vm,seval,hk2];done)| (subst h2;rfl));done)
 ·intro k Jk hk h;rcases Ni (l:=p.stack)with hs|⟨st,v,hs⟩
  ·have hc:decide ((p.stack.length:Int)>0)=false:=by simp[hs]
   have e:J5 p=[]:=by simp[J5,hs]
   simp(disch:= omega) only[vm,seval,h.1,hg,pc,hl,hc];refine⟨hk (J5 p) () _ _ _ _ h.2 slr ?_ ?_ ?_ fG⟩<;>first| (simp(disch:= omega) only[vm,seval,h.1,e];done)| rfl
  ·obtain⟨j,ky,pre,junk,rest,h1,h2,h3,h4⟩:=hp.top hs;have hc:decide ((p.stack.length:Int)>0)=true:=by simp[hs]
   have hg2:A9 m i=some (pc (.gsl 5 j (st.length+1)) p):=IM hnd (h2.mem_iff.2 fH);have hg3:A9 m j=some (pre++lvl v ky++junk):=IM hnd (h2.mem_iff.2 fH);have hj:j<n:=by
    rcases aV j n with h|h;·exact h
    ·have:=hkn j h;rw[hg3]at this;cases this
   have hjn:j≠n:=fG;have hl2:0<st.length+1/\st.length+1<=Dp:=⟨fG,by rw[hs]at hlen;simpa using hlen⟩;have hpr:pre.length=(st.length+1-1) * 5:=by simpa using h1
   simp(disch:= omega) only[vm,seval,h.1,hg,pc,hl,hc];refine⟨Yo (i:=i) (j:=j) (len:=st.length+1) (pc:=_) (by rw[YI fG];exact hg2) hl2 tD λn2 hn2=>?_⟩;simp(disch:= omega) only[vm,seval,h.1,hg3,lvl,drop_at hpr];have e:J5 p=if(v.kind==7)=true then [125]else [93]:=by simp[J5,hs]
   have hp5:pre.length=st.length * 5:=h1;cases hk7:v.kind==7;all_goals rw[hk7]at e;simp(disch:= omega) only[vm,seval,h.1,AjG hp5,hk7];refine⟨hk (J5 p) () _ _ _ _ h.2 slr ?_ ?_ ?_ fG⟩<;>first| (simp(disch:= omega) only[vm,seval,h.1,e];done)| rfl
def ATZ:(Tg vE.P 252).map (FQ vE.P)=some (some (.int .i64 0)):=by kernel_rfl
def AAP: ∃e,Tg vE.P 252=some e/\FQ vE.P e=some (.int .i64 0):=by have h:=ATZ;cases he:Tg vE.P 252 with |none=>rw[he]at h;cases h|some e=>rw[he]at h;simp only[aR,al]at h;exact⟨e,rfl,h⟩
def AY4:(Tg vE.P 252).isSome=true:=by obtain⟨e,h1,h2⟩:=AAP;rw[h1];rfl
theorem AWh{k q:Nat}{s:B8}:Qw vE 252 (.sh k) (.str s) false ⟨(k,[.map (IW (IW (IW [] [110,117,108,108]) [102,97,108,115,101]) [116,114,117,101]) (Kc (IW (IW [] [110,117,108,108]) [102,97,108,115,101]) (Kc (IW [] [110,117,108,108]) (Kc [] [] [110,117,108,108] (.int .i64 1)) [102,97,108,115,101] (.int .i64 2)) [116,114,117,101] (.int .i64 3))])::m,q⟩=some (.int .i64 (TN s)):=by
 obtain⟨e,h1,h2⟩:=AAP;have e1:(IW (IW (IW [] [110,117,108,108]) [102,97,108,115,101]) [116,114,117,101])=([[110,117,108,108],[102,97,108,115,101],[116,114,117,101]]:List B8):=fI;have e2:(Kc (IW (IW [] [110,117,108,108]) [102,97,108,115,101]) (Kc (IW [] [110,117,108,108]) (Kc [] [] [110,117,108,108] (.int .i64 1)) [102,97,108,115,101] (.int .i64 2)) [116,114,117,101] (.int .i64 3))=([.int .i64 1,.int .i64 2,.int .i64 3]:List AVal):=by rfl
 rw[e1,e2];simp only[Qw,h1,h2,WC,A9,av,Lx,AVal.strip,TN,aj,aq];by_cases a:s=[110,117,108,108];·subst a;rfl
 ·by_cases b:s=[102,97,108,115,101];·subst b;rfl
  ·by_cases c:s=[116,114,117,101];·subst c;rfl
   ·simp[a,b,c]
def Agu{s:B8}:lkR ((Tg vE.P 252).bind (FQ vE.P)) (some [.map (IW (IW (IW [] [110,117,108,108]) [102,97,108,115,101]) [116,114,117,101]) (Kc (IW (IW [] [110,117,108,108]) [102,97,108,115,101]) (Kc (IW [] [110,117,108,108]) (Kc [] [] [110,117,108,108] (.int .i64 1)) [102,97,108,115,101] (.int .i64 2)) [116,114,117,101] (.int .i64 3))]) s=some (.int .i64 (TN s)):=(Aon (E:=vE) (t:=252) (i:=0) (st:=⟨[(0,_)],0⟩)).symm.trans (AWh (m:=[]) (k:=0) (q:=0))
def AUN{p:JPsr}{i:Nat}{m0:MS}{t:ApiToken}{q:JPsr×Int} (tokNum: ∀ {n:Nat}{m:MS}{Q:PQ}{args:List AVal} {a0 r},EE N a0=some r->args=[.str a0]->(∀n',n<=n'->Gl (Q (.tuple [.str r.1,.int .i64 r.2]) ⟨m,n'⟩))->ACall vE 211 args ⟨m,n⟩ Q) (hp:PS p i m0 m) (hq:SS N p t=some q) (hnd:0<=p.nodes/\p.nodes<=20000) (hlen:p.stack.length<=Dp) (hb: ∀v,v∈p.stack->v.items.length<=1099511627776) (ha:args=[.ptr i 0,El t]) (hQ: ∀n' m',n<=n'->PS q.1 i m0 m'->Gl (Q (.int .i64 q.2) ⟨m',n'⟩)):ACall vE 169 args ⟨m,n⟩ Q:=by
 refine ACall.nodup λhnn=>ACall.known λ_ hkn=>?_;obtain⟨sv,hg,hsv,hput⟩:=hp.put hnn;have hl:=(AB1 hsv).2.2;have hi:i<n:=by
  rcases aV i n with h|h;·exact h
  ·have:=hkn i h;rw[hg]at this;cases this
 have h:True/\AB (λv=>some (NN p v)) (λk=>if(t.kind==4)=true then (EE N t.text).bind λy=>if(y.2 !=0)=true then some (p,144)else k ⟨4,y.1,[],[]⟩else if(t.kind==5)=true then k ⟨TN t.text,[],[],[]⟩else k ⟨5,t.text,[],[]⟩)=some q:=by refine⟨trivial,hq.symm▸?_⟩;unfold SS AB;rfl
 subst ha;refine AAW Tryz.func169 rfl Tryz.ntmps169 Tryz.results169 (.q (.r []) (.q (.r []) .z)) λR hR=>?_;have hin:i≠n:=fG;simp(disch:= omega) only[vm,seval,h.1];refine⟨Ra (γ:=Bool×Bool) h [6,7,11,12,13,14,15,16,17,18,19,20,21,22,23,24,25,26,27,28,29,30,31,32,33,34] [] (λv g=>[]) (λv g=>(n+1,[.int .i64 v.kind,.str v.text,.slice 1 (v.keys.map AVal.str) g.1,.slice 4 (v.items.map AV) g.2])::(n,[.int .i64 t.kind,.str t.text,.int .i64 t.at_])::m) (.q (.r []) (.c (.q (.r []) (.q (.q (.r []) (.c (.q (.r []) .z) .z)) (.r []))) (.q (.r []) (.c (.r []) .z)))) ?_ ?_⟩<;>clear h
 ·rintro v g n4 hnn4 _ _ h;have h2:NN p v=q:=by simpa using h.2
  have hms: ∀x,A9 (CU m i x) i=some x:=λx=>KO hg;have hin4:i≠n+1:=fG;have hw:wr .i64 (p.nodes+1)=p.nodes+1:=ANZ ⟨hnd.1,fG⟩;refine EZ (.q (.q (.r []) (.q (.r []) (.c (.q (.r []) .z) .z))) (.q (.r []) (.q (.r []) .z))) ?_;unfold NN at h2;by_cases hc:p.nodes+1>20000
  ·rw[ah hc]at h2;subst h2;have hc2:decide ((20000:Int)<p.nodes+1)=true:=by simpa using hc
   simp(disch:= omega) only[vm,seval,hg,pc,hl,hms,hw,hc2];refine⟨(hR _ _ _ _ _ _ (by simp(disch:= omega) only[vm,seval];rfl) (.cons _ (.cons _ slr)) fG ?_).1⟩;exact(hQ _ _ fG (hput {p with nodes:=p.nodes+1} rfl)).go
  ·rw[ae hc]at h2;subst h2;have hc2:decide ((20000:Int)<p.nodes+1)=false:=by simpa using hc
   simp(disch:= omega) only[vm,seval,hg,pc,hl,hms,hw,hc2];have hps:PS {p with nodes:=p.nodes+1} i ((n+1,[.int .i64 v.kind,.str v.text,.slice 1 (v.keys.map AVal.str) g.1,.slice 4 (v.items.map AV) g.2])::(n,[.int .i64 t.kind,.str t.text,.int .i64 t.at_])::m0) _:=((hput {p with nodes:=p.nodes+1} rfl).more _).more _;refine⟨AF0 (v:=v) hps hlen hb (by first| (simp(disch:= omega) only[vm,seval];done)| rfl) λn5 m5 hn5 h5=>?_⟩;simp(disch:= omega) only[vm,seval];refine⟨(hR _ _ _ _ _ _ (by simp(disch:= omega) only[vm,seval];rfl) slr fG ?_).1⟩;exact(hQ _ _ fG h5.less.less).go
 ·intro k Jk hk h;cases h4:t.kind==4
  ·cases h5:t.kind==5;·simp only[h4,h5,aj,aq]at h;simp(disch:= omega) only[vm,seval,h4,h5];refine⟨hk _ (true,true) _ _ _ _ h.2 slr ?_ ?_ ?_ fG⟩<;>first| (simp(disch:= omega) only[vm,seval];done)| rfl
   ·simp only[h4,h5,aj,aq,av]at h;simp(disch:= omega) only[vm,seval,h4,h5,AY4,Agu];refine⟨hk _ (true,true) _ _ _ _ h.2 (.cons _ slr) ?_ ?_ ?_ fG⟩<;>first| (simp(disch:= omega) only[vm,seval];done)| rfl
  ·simp only[h4,av]at h;obtain⟨y,h6,h7⟩:=bind_some h.2;simp(disch:= omega) only[vm,seval,h4];refine⟨tokNum h6 (by first| (simp(disch:= omega) only[vm,seval];done)| rfl) λn5 hn5=>?_⟩;cases h8:y.2 !=0;·simp only[h8,aj,aq]at h7;simp(disch:= omega) only[vm,seval,h8];refine⟨hk _ (true,true) _ _ _ _ h7 slr ?_ ?_ ?_ fG⟩<;>first| (simp(disch:= omega) only[vm,seval];done)| rfl
   ·simp only[h8,av,al]at h7;subst h7;simp(disch:= omega) only[vm,seval,h8];refine⟨(hR _ _ _ _ _ _ (by simp(disch:= omega) only[vm,seval];rfl) (.cons _ (.cons _ slr)) fG ?_).1⟩;exact(hQ _ _ fG hp).go
def Aql{q:Nat}{pre l junk:List AVal} (h:pre.length=q):List.drop q (pre++l++junk)=l++junk:=by subst h;simp
def CL{w i l h:Nat} (hi:EB vE.P 150=some w) (hl:h<=l):G7 vE 150 (.gsl w i l) none (some (h:Int)) none=some (.gsl w i h):=by have:(h:Int)<=l:=fG;simp[G7,hi,this]
def AVe {p:JPsr}{i:Nat}{m0:MS}{c:B8}{q:JPsr×Int} (hp:PS p i m0 m) (hq:QQ p c=some q) (hnd:0<=p.nodes/\p.nodes<=20000) (hlen:p.stack.length<=Dp) (hb: ∀v,v∈p.stack->v.items.length<=1099511627776) (ha:args=[.ptr i 0,.str c]) (hQ: ∀n' m',n<=n'->PS q.1 i m0 m'->Gl (Q (.int .i64 q.2) ⟨m',n'⟩)):ACall vE 167 args ⟨m,n⟩ Q:=by
 refine ACall.nodup λhnn=>ACall.known λ_ hkn=>?_;obtain⟨sv,hg,hsv,hput⟩:=hp.put hnn;have hl:=(AB1 hsv).2.2;have hi:i<n:=by
  rcases aV i n with h|h;·exact h
  ·have:=hkn i h;rw[hg]at this;cases this
 have hms: ∀x,A9 (CU m i x) i=some x:=λx=>KO hg;unfold QQ at hq;subst ha;refine AAW Tryz.func167 rfl Tryz.ntmps167 Tryz.results167 (.q (.r []) (.q (.q (.r []) (.q (.r []) (.c (.q (.r []) .z) (.q (.r []) (.c (.q (.r []) .z) (.q (.r []) (.c (.r []) (.q (.r []) (.c (.q (.r []) (.q (.r []) (.c (.r []) .z))) (.q (.r []) (.q .z (.r [])))))))))))) (.q (.r []) .z))) λR hR=>?_;cases h1:c==[91]
 ·cases h2:c==[123]
  ·cases h3:c==[58]
   ·simp only[h1,h2,h3,aj,aq]at hq;rcases Ni (l:=p.stack)with hs|⟨st,v,hs⟩;·simp[hs]at hq
    ·simp only[hs,bS,bO,cA,cv]at hq;obtain⟨j,ky,pre,junk,rest,g1,g2,g3,g4⟩:=hp.top hs;have hg2:A9 m i=some (pc (.gsl 5 j (st.length+1)) p):=IM hnn (g2.mem_iff.2 fH);have hg3:A9 m j=some (pre++lvl v ky++junk):=IM hnn (g2.mem_iff.2 fH);have hd:=nd3 hnn g2;have hij:j≠i:=hd.1;have hj:j<n:=by
      rcases aV j n with h|h;·exact h
      ·have:=hkn j h;rw[hg3]at this;cases this
     have hl2:0<st.length+1/\st.length+1<=Dp:=⟨fG,by rw[hs]at hlen;simpa using hlen⟩;have hpr:pre.length=(st.length+1-1) * 5:=by simpa using g1
     have hp5:pre.length=st.length * 5:=g1;cases h4:c==[44]
     ·simp only[h4,aj,aq,al]at hq;simp(disch:= omega) only[vm,seval,h1,h2,h3,h4];refine⟨Yo (i:=i) (j:=j) (len:=st.length+1) (pc:=_) (by exact hg2) hl2 (by first| (simp(disch:= omega) only[vm,seval];done)| rfl) λn2 hn2=>?_⟩;have hw2:wr .i64 (((st.length+1:Nat):Int)-1)=((st.length:Nat):Int):=by have:(((st.length+1:Nat):Int)-1)=((st.length:Nat):Int):=fG;rw[this];exact ARs (by have:=hl2.2;simp[Dp]at this;omega)
      have hin2:i≠n2:=fG;simp(disch:= omega) only[vm,seval,hg3,lvl,drop_at hpr,AjG hp5,Aql hp5];refine⟨QD [] (.take 0 (.take 1 (.take 2 (.take 3 (.take 4 (.take 5 (.take 6 (.take 7 (.take 8 (.take 9 (.take 10 (.take 11 (.take 12 (.take 13 (.alt 14 [12] (.done) (.stop)))))))))))))))) M9 (by kernel_rfl) ?_⟩;simp(disch:= omega) only[vm,seval,hg2,pc,M0 Ez,O3,RX,VT,Vh,hw2,CL XM (Nat.le_succ st.length)];have hps0:PS ⟨st,p.want,p.nodes,p.out⟩ i m0 (CU m i (pc (.gsl 5 j st.length) ⟨st,p.want,p.nodes,p.out⟩)):=by refine g4 _ (lvl v ky++junk) _ rfl ?_;have:=XH (x:=pc (.gsl 5 j st.length) ⟨st,p.want,p.nodes,p.out⟩) hnn g2;rw[aF]at this;exact this
      have hps:=hps0.more (n2,[.int .i64 v.kind,.str v.text,.slice 1 (v.keys.map AVal.str) false,.slice 4 (v.items.map AV) false]);refine⟨AF0 (v:=v) hps (by simp only[];omega) (λx hx=>hb x (by rw[hs];simp[hx])) (by first| (simp(disch:= omega) only[vm,seval];done)| rfl) λn5 m5 hn5 h5=>?_⟩;simp(disch:= omega) only[vm,seval];refine⟨(hR _ _ _ _ _ _ (by simp(disch:= omega) only[vm,seval];rfl) slr fG ?_).1⟩;have e:IX {p with stack:=(st++[v]).dropLast} v=IX ⟨st,p.want,p.nodes,p.out⟩ v:=by rw[cd]
      rw[e]at hq;subst hq;exact(hQ _ _ fG h5.less).go
     ·simp only[h4,av,al]at hq;have hms2: ∀x,A9 (CU m i x) j=some (pre++lvl v ky++junk):=λx=>by rw[P5 hij];exact hg3
      subst hq;simp(disch:= omega) only[vm,seval,h1,h2,h3,h4,hg,pc];refine⟨Yo (i:=i) (j:=j) (len:=st.length+1) (pc:=[.int .i64 0,.int .i64 p.nodes,.int .i64 p.out.kind,.str p.out.text,.slice 1 (p.out.keys.map AVal.str) false,.slice 4 (p.out.items.map AV) false]) (by have e:=hg2.symm.trans hg;simp only[pc,al,ce]at e;rw[hms,<-e.1]) hl2 (by first| (simp(disch:= omega) only[vm,seval];done)| rfl) λn2 hn2=>?_⟩;simp(disch:= omega) only[vm,seval,hms2,lvl,drop_at hpr,AjG hp5];cases h7:v.kind==7;·simp(disch:= omega) only[vm,seval,h7];refine⟨(hR _ _ _ _ _ _ (by simp(disch:= omega) only[vm,seval];rfl) slr fG ?_).1⟩;exact(hQ _ _ fG (by simp only[h7,aj,aq];exact hput ⟨st++[v],0,p.nodes,p.out⟩ hs.symm)).go
      ·simp(disch:= omega) only[vm,seval,h7,hms];refine⟨(hR _ _ _ _ _ _ (by simp(disch:= omega) only[vm,seval];rfl) slr fG ?_).1⟩;exact(hQ _ _ fG (by simp only[h7,av];exact hput ⟨st++[v],2,p.nodes,p.out⟩ hs.symm)).go
   ·simp only[h1,h2,h3,aj,aq,av,al]at hq;subst hq;simp(disch:= omega) only[vm,seval,h1,h2,h3,hg,pc,hl];refine⟨(hR _ _ _ _ _ _ (by simp(disch:= omega) only[vm,seval];rfl) slr fG ?_).1⟩;exact(hQ _ _ fG (hput {p with want:=0} rfl)).go
  ·simp only[h1,h2,aj,aq,av,al]at hq;subst hq;simp(disch:= omega) only[vm,seval,h1,h2];refine⟨AFj hp hnd (by first| (simp(disch:= omega) only[vm,seval];done)| rfl) λn5 m5 hn5 h5=>?_⟩;simp(disch:= omega) only[vm,seval];refine⟨(hR _ _ _ _ _ _ (by simp(disch:= omega) only[vm,seval];rfl) slr fG ?_).1⟩;exact(hQ _ _ fG h5).go
 ·simp only[h1,av,al]at hq;subst hq;simp(disch:= omega) only[vm,seval,h1];refine⟨AFj hp hnd (by first| (simp(disch:= omega) only[vm,seval];done)| rfl) λn5 m5 hn5 h5=>?_⟩;simp(disch:= omega) only[vm,seval];refine⟨(hR _ _ _ _ _ _ (by simp(disch:= omega) only[vm,seval];rfl) slr fG ?_).1⟩;exact(hQ _ _ fG h5).go
def Aap{p:JPsr}{i:Nat}{m0:MS}{t:ApiToken}{q:JPsr×Int} (tokNum: ∀ {n:Nat}{m:MS}{Q:PQ}{args:List AVal} {a0 r},EE N a0=some r->args=[.str a0]->(∀n',n<=n'->Gl (Q (.tuple [.str r.1,.int .i64 r.2]) ⟨m,n'⟩))->ACall vE 211 args ⟨m,n⟩ Q) (hp:PS p i m0 m) (hq:E9 N p t=some q) (hnd:0<=p.nodes/\p.nodes<=20000) (hlen:p.stack.length<=Dp) (hb: ∀v,v∈p.stack->v.keys.length<=1099511627776/\v.items.length<=1099511627776) (ha:args=[.ptr i 0,El t]) (hQ: ∀n' m',n<=n'->PS q.1 i m0 m'->Gl (Q (.int .i64 q.2) ⟨m',n'⟩)):ACall vE 106 args ⟨m,n⟩ Q:=by
 refine ACall.nodup λhnn=>ACall.known λ_ hkn=>?_;obtain⟨sv,hg,hsv,hput⟩:=hp.put hnn;have hl:=(AB1 hsv).2.2;have hi:i<n:=by
  rcases aV i n with h|h;·exact h
  ·have:=hkn i h;rw[hg]at this;cases this
 have hin:i≠n:=fG;unfold E9 at hq;subst ha;refine AAW Tryz.func106 rfl Tryz.ntmps106 Tryz.results106 (.q (.r []) (.q (.q (.r []) (.c (.q (.r []) .z) (.q (.r []) (.c (.q (.r []) .z) (.q (.r []) (.c (.q (.r []) .z) (.q (.r []) (.c (.q (.r []) .z) .z)))))))) (.q (.r []) .z))) λR hR=>?_;simp(disch:= omega) only[vm,seval];refine⟨Aa3 (m0:=(n,[.int .i64 t.kind,.str t.text,.int .i64 t.at_])::m0) (p:=p) (i:=i) (t:=t) (hp.more _) hlen (by first| (simp(disch:= omega) only[vm,seval];done)| rfl) λn2 hn2=>?_⟩;cases h0:Dj p t;·simp only[h0,av,al]at hq;subst hq;simp(disch:= omega) only[vm,seval];refine⟨(hR _ _ _ _ _ _ (by simp(disch:= omega) only[vm,seval];rfl) (.cons _ slr) fG ?_).1⟩;exact(hQ _ _ fG hp).go
 ·simp only[h0,dR,aq]at hq;have hps:=hp.more (n,[.int .i64 t.kind,.str t.text,.int .i64 t.at_]);cases h1:t.kind==2
  ·simp only[h1,aj,aq]at hq;cases h2:p.want==2||p.want==3
   ·simp only[h2,aj,aq]at hq;obtain⟨h3,h4⟩:=dD.1 h2;cases h5:t.kind==1;·simp only[h5,aj,aq]at hq;simp(disch:= omega) only[vm,seval,h1,h3,h4,h5,hg,pc,hl];refine⟨AUN (i:=i) (t:=t) tokNum hps hq hnd hlen (λv hv=>(hb v hv).2) (by first| (simp(disch:= omega) only[vm,seval];done)| rfl) λn5 m5 hn5 h6=>?_⟩;simp(disch:= omega) only[vm,seval];refine⟨(hR _ _ _ _ _ _ (by simp(disch:= omega) only[vm,seval];rfl) slr fG ?_).1⟩;exact(hQ _ _ fG h6.less).go
    ·simp only[h5,av,al]at hq;subst hq;simp(disch:= omega) only[vm,seval,h1,h3,h4,h5,hg,pc,hl];refine⟨(hR _ _ _ _ _ _ (by simp(disch:= omega) only[vm,seval];rfl) (.cons _ slr) fG ?_).1⟩;exact(hQ _ _ fG hp).go
   ·simp only[h2,av]at hq;cases h3:p.want==2
    ·have h4:(p.want==3)=true:=by simpa[h3]using h2
     simp(disch:= omega) only[vm,seval,h1,h3,h4,hg,pc,hl];refine⟨AQt (i:=i) hps hq hlen (λv hv=>(hb v hv).1) (by first| (simp(disch:= omega) only[vm,seval];done)| rfl) λn5 m5 hn5 h6=>?_⟩;simp(disch:= omega) only[vm,seval];refine⟨(hR _ _ _ _ _ _ (by simp(disch:= omega) only[vm,seval];rfl) slr fG ?_).1⟩;exact(hQ _ _ fG h6.less).go
    ·simp(disch:= omega) only[vm,seval,h1,h3,hg,pc,hl];refine⟨AQt (i:=i) hps hq hlen (λv hv=>(hb v hv).1) (by first| (simp(disch:= omega) only[vm,seval];done)| rfl) λn5 m5 hn5 h6=>?_⟩;simp(disch:= omega) only[vm,seval];refine⟨(hR _ _ _ _ _ _ (by simp(disch:= omega) only[vm,seval];rfl) slr fG ?_).1⟩;exact(hQ _ _ fG h6.less).go
  ·simp only[h1,av]at hq;simp(disch:= omega) only[vm,seval,h1];refine⟨AVe (i:=i) hps hq hnd hlen (λv hv=>(hb v hv).2) (by first| (simp(disch:= omega) only[vm,seval];done)| rfl) λn5 m5 hn5 h6=>?_⟩;simp(disch:= omega) only[vm,seval];refine⟨(hR _ _ _ _ _ _ (by simp(disch:= omega) only[vm,seval];rfl) slr fG ?_).1⟩;exact(hQ _ _ fG h6.less).go
section cells
variable{E:Env}{F:Nat->Nat}{Γ:Ghost}{w:World}{a:Act}{af:List AVal}{st:St}
def QR (b:Nat): ∀(xs:List AVal) (vs:List Value) (i:Nat),AP b (xs.set i (xs.getD i .any).strip) vs<=AP b xs vs |[],_,_=>by simp[AP]|x::xs,[],i=>by cases i<;>simp[AP]| x::xs,v::vs,0=>by have:=KH b x v;simp only[dK,cq,AP];omega| x::xs,v::vs,i+1=>by have:=QR b xs vs i;simp only[c9,cH,AP];omega
def Sim.stripCell{i:Nat}{cs:List AVal} (p:Nat) (hs:Sim E F Γ st w af a.tmps.toList) (hg:A9 st.m i=some cs):Sim E F Γ {st with m:=CU st.m i (cs.set p (cs.getD p .any).strip)} w af a.tmps.toList:=by
 rcases hs.box_ok _ (M4 hg)with⟨b,arr,e,hb⟩|⟨v,hv⟩;rotate_left;·exact hs.setSh hg hv (hv.rep.setStrip p) (hv.own.setStrip p) λn=>by have:=QR n cs [v] p;have h2:=hs.tok n;omega
 obtain⟨lo,hi,hh,hf⟩:=hb.heap;exact(hs.setBox (w':=w) (cs':=cs.set p (cs.getD p .any).strip) (arr':=arr) (lo:=lo) (hi:=hi) hg hb hh hf (λ_ _=>rfl) rfl rfl rfl rfl (by rw[cp];exact hb.rep.setStrip p) (hb.own.setStrip p) (by rw[cp];exact hb.one) (λn=>by have:=QR n cs arr.toList p;have h2:=hs.tok n;omega)).1
def WA{c:Code}{Q:APost}{i:Nat}{cs:List AVal} (p:Nat) (hg:A9 st.m i=some cs) (h:AWp E c Q af {st with m:=CU st.m i (cs.set p (cs.getD p .any).strip)}):AWp E c Q af st:=⟨λF Γ w a hd hs=>h.go F Γ w a hd (Sim.stripCell p hs hg)⟩
end cells
def BD (p:JPsr) (k:Nat):Prop:=k<=1099511627776/\0<=p.nodes/\p.nodes<=20000/\p.stack.length<=64/\ ∀v,v∈p.stack->v.keys.length+k<=1099511627776/\v.items.length+k<=1099511627776
instance (p:JPsr) (k:Nat):Decidable (BD p k):=by unfold BD;exact inferInstance
def PS.all{p:JPsr}{i x:Nat}{c:List AVal}{m0 m:MS} (h:PS p i ((x,c)::m0) m): ∃Y:MS,m.Perm ((x,c)::(Y++m0)):=by cases h with |nil X hs h=>exact⟨(i,pc (.slice 5 [] true) p)::X,h.trans (by simpa using dG (a:=(x,c)) (l₁:=(i,pc (.slice 5 [] true) p)::X) (l₂:=m0))⟩|box j ks junk X hk h=>exact⟨(i,pc (.gsl 5 j p.stack.length) p)::(j,Yq p.stack ks++junk)::(maps p.stack ks++X),h.trans (by simpa using dG (a:=(x,c)) (l₁:=(i,pc (.gsl 5 j p.stack.length) p)::(j,Yq p.stack ks++junk)::(maps p.stack ks++X)) (l₂:=m0))⟩
def BD.put{p:JPsr}{v:ApiValue}{k:Nat} (h:BD p (k+1)) (h2:(NN p v).2=0):BD (NN p v).1 k:=by
 obtain⟨hk,h3,h4,h5,h6⟩:=h;unfold NN at h2⊢;by_cases hc:p.nodes+1>20000;·rw[ah hc]at h2;cases h2
 ·rw[ae hc];unfold IX;rcases Ni (l:=p.stack)with hs|⟨st,w,hs⟩;·simp only[hs,eU];exact⟨fG,by simp only[];omega,by simp only[];omega,fH,fH⟩
  ·simp only[hs,bS,bO,cA,cv,cd];rw[hs]at h5 h6;refine⟨fG,by simp only[];omega,by simp only[];omega,by simpa using h5,λx hx=>?_⟩;simp only[aY,bm]at hx;rcases hx with hx|rfl;·have:=h6 x (by simp[hx]);omega
   ·have:=h6 w fH;simp only[an,ag,ap];omega
def BD.take{p:JPsr}{t:ApiToken}{q:JPsr×Int}{k:Nat} (h:BD p (k+1)) (hq:E9 N p t=some q) (h2:q.2=0):BD q.1 k:=by
 have less:BD p k:=⟨by have:=h.1;omega,h.2.1,h.2.2.1,h.2.2.2.1,λv hv=>by have:=h.2.2.2.2 v hv;omega⟩;obtain⟨hk,h3,h4,h5,h6⟩:=h;have opn: ∀kd w,(G8 p kd w).2=0->BD (G8 p kd w).1 k:=by
  intro kd w h;unfold G8 at h⊢;by_cases a:p.stack.length>=64;·rw[ah a]at h;cases h
  ·rw[ae a]at h⊢;by_cases b:p.nodes+1>20000;·rw[ah b]at h;cases h
   ·rw[ae b];refine⟨fG,by simp only[];omega,by simp only[];omega,by simp only[an,ag,ap];omega,λx hx=>?_⟩;simp only[aY,bm]at hx;rcases hx with hx|rfl;·have:=h6 x hx;omega
    ·simp only[ap];omega
 unfold E9 at hq;split at hq;·cases hq;cases h2
 ·split at hq
  ·unfold QQ at hq;split at hq;·cases hq;exact opn _ _ h2
   ·split at hq;·cases hq;exact opn _ _ h2
    ·split at hq;·cases hq;exact less
     ·rcases Ni (l:=p.stack)with hs|⟨st,w,hs⟩;·simp[hs]at hq
      ·simp only[hs,bS,bO,cA,cv,cd]at hq;split at hq;·cases hq;exact⟨less.1,less.2.1,less.2.2.1,by rw[<-hs];exact less.2.2.2.1,λv hv=>less.2.2.2.2 v (by rw[hs];exact hv)⟩
       ·cases hq;rw[hs]at h5 h6;unfold IX;rcases Ni (l:=st)with hs2|⟨st2,w2,hs2⟩;·simp only[hs2,eU];exact⟨less.1,less.2.1,less.2.2.1,fH,fH⟩
        ·simp only[hs2,bS,bO,cA,cv,cd];rw[hs2]at h5 h6;refine⟨less.1,less.2.1,less.2.2.1,by simp at h5⊢;omega,λx hx=>?_⟩;simp only[aY,bm]at hx;rcases hx with hx|rfl;·have:=h6 x (by simp[hx]);omega
         ·have:=h6 w2 fH;simp only[an,ag,ap];omega
  ·split at hq
   ·unfold XE at hq;rcases Ni (l:=p.stack)with hs|⟨st,w,hs⟩;·simp[hs]at hq
    ·simp only[hs,bS,bO,cA,cv,cd]at hq;split at hq;·cases hq;cases h2
     ·cases hq;rw[hs]at h5 h6;refine⟨less.1,less.2.1,less.2.2.1,by simpa using h5,λx hx=>?_⟩;simp only[aY,bm]at hx;rcases hx with hx|rfl;·have:=h6 x (by simp[hx]);omega
      ·have:=h6 w fH;simp only[an,ag,ap];omega
   ·split at hq;·cases hq;exact less
    ·unfold SS at hq;split at hq
     ·obtain⟨y,h7,h8⟩:=bind_some hq;split at h8;·cases h8;cases h2
      ·cases h8;exact BD.put ⟨hk,h3,h4,h5,h6⟩ h2
     ·split at hq;·cases hq;exact BD.put ⟨hk,h3,h4,h5,h6⟩ h2
      ·cases hq;exact BD.put ⟨hk,h3,h4,h5,h6⟩ h2
def JS (i:Nat) (m0:MS):Type:= {x:Int×JPsr×MS // PS x.2.1 i m0 x.2.2}
def JG (N:Nat) (a0:B8){i:Nat}{m0:MS} (k:Nat) (x:JS i m0):Option (ApiValue×Int×Int):=grd (BD x.1.2.1 k) (Ob N a0 k x.1.1 x.1.2.1)
def JG0{a0:B8}{i:Nat}{m0:MS}{x:JS i m0}:JG N a0 0 x=none:=by unfold JG grd;split<;>rfl
def ATr{a0:B8}{r:ApiValue×Int×Int} (tokNum: ∀ {n:Nat}{m:MS}{Q:PQ}{args:List AVal} {a0 r},EE N a0=some r->args=[.str a0]->(∀n',n<=n'->Gl (Q (.tuple [.str r.1,.int .i64 r.2]) ⟨m,n'⟩))->ACall vE 211 args ⟨m,n⟩ Q) (tokNext: ∀ {n:Nat}{m:MS}{Q:PQ}{args:List AVal} {a0 a1 r},NK N a0 a1=some r->args=[.str a0,.int .i64 a1]->(∀n',n<=n'->Gl (Q (.tuple [El r.1,.int .i64 r.2.1,.int .i64 r.2.2]) ⟨m,n'⟩))->ACall vE 105 args ⟨m,n⟩ Q) (h:J4 N a0=some r) (ha:args=[.str a0]) (hQ: ∀n',n<=n'->Gl (Q (.tuple [AV r.1,.int .i64 r.2.1,.int .i64 r.2.2]) ⟨m,n'⟩)):ACall vE 53 args ⟨m,n⟩ Q:=by
 unfold J4 at h;by_cases hN:N>1099511627776;·rw[ah hN]at h;cases h
 rw[ae hN]at h;subst ha;refine AtM hQ Tryz.func53 rfl Tryz.ntmps53 Tryz.results53 (.q (.r []) (.q (.q (.r []) (.c (.q (.r []) .z) .z)) (.q (.r []) (.q (.r []) .z)))) λR hR=>?_;by_cases hl:a0.length>1048576
 ·rw[ah hl]at h;cases h;have hc:decide ((1048576:Int)<(a0.length:Int))=true:=by simp;omega
  simp(disch:= omega) only[vm,seval,hc];refine⟨(hR _ _ _ _ _ _ (by simp(disch:= omega) only[vm,seval];rfl) (.cons _ slr) rfl fG ?_).1⟩;simp(disch:= omega) only[vm,seval,GA,JN]
 ·rw [ae hl]at h;have hc:decide ((1048576:Int)<(a0.length:Int))=false:=by simp;omega
  simp(disch:= omega) only[vm,seval,hc];have hnn:n+1≠n:=fG;refine⟨WA (i:=n+1) 5 AMa (WA (i:=n+1) 6 (by simp only[vm];rfl) ?_)⟩;simp(disch:= omega) only[vm,seval];generalize hcell:([.int .i64 0,.str [],.slice 1 [] true,.slice 4 [] true]:List AVal)=cell;have hcl:cell.length=4:=by subst hcell;rfl
  have s0:PS ⟨[],0,0,GA⟩ (n+1) ((n,cell)::m) ((n+1,pc (.slice 5 [] true) ⟨[],0,0,GA⟩)::(n,cell)::m):=.nil [] rfl (di _);have hG:True/\JG N a0 N (⟨(0,⟨[],0,0,GA⟩,(n+1,pc (.slice 5 [] true) ⟨[],0,0,GA⟩)::(n,cell)::m),s0⟩:JS (n+1) ((n,cell)::m))=some r:=by refine⟨trivial,?_⟩;have:BD ⟨[],0,0,GA⟩ N:=⟨Nat.not_lt.1 hN,fH,fH,fH,fH⟩;simp only[JG,grd,ah this];exact h
  refine ARo (σ:=JS (n+1) ((n,cell)::m)) (γ:=Unit) (JG N a0) (λx _=>[.int .i64 x.1.1]) (λx _=>x.1.2.2) [7,8,9,10,15,16,17,18,19,20,21,22,23,24,25,26,27,28,29,30,31,32,33,34,35,36,37,38,39,40,41,42] [6] ⟨(0,⟨[],0,0,GA⟩,(n+1,pc (.slice 5 [] true) ⟨[],0,0,GA⟩)::(n,cell)::m),s0⟩ () hG (λx=>JG0) ?_ ?_ ?_;·simp only[pc,GA,bU]
  ·simp(disch:= omega) only[vm,seval]
  rintro k ⟨⟨at_,p,m1⟩,hps⟩ _ n1 hn1 hk1 h1 Jk hJ;simp only at hps hk1 h1 hJ;refine AWp.nodup λhnd=>?_;refine EZ (.q (.r []) (.q (.q (.r []) (.c .z .z)) (.q (.q (.r []) (.q (.r []) (.c .z .z))) .z))) ?_;obtain⟨hbd,h2⟩:=ABs (show grd (BD p (k+1)) (Ob N a0 (k+1) at_ p)=some r from h1.2);rw[Ob]at h2;obtain⟨y,h3,h4⟩:=bind_some h2;simp(disch:= omega) only[vm,seval];refine⟨tokNext h3 (by first| (simp(disch:= omega) only[vm,seval];done)| rfl) λn2 hn2=>?_⟩;have hn12:n<n1:=fG;have hfin: ∀(x:ApiValue) (a b:Int),True:=λ_ _ _=>trivial;subst hcell;have hnp:n+1<n1:=by
   rcases aV (n+1) n1 with h|h;·exact h
   ·obtain⟨sv,hg,_⟩:=hps.put hnd;have:=hk1 (n+1) h;rw[hg]at this;cases this
  have hn_2:n≠n2:=fG;have hp_2:n+1≠n2:=fG;cases h5:y.2.2 !=0
  ·simp only[h5,aj,aq]at h4;obtain⟨q,h6,h7⟩:=bind_some h4;simp(disch:= omega) only[vm,seval,h5];have hps2:=hps.more (n2,[.int .i64 y.1.kind,.str y.1.text,.int .i64 y.1.at_]);refine⟨Aap (i:=n+1) tokNum hps2 h6 ⟨hbd.2.1,hbd.2.2.1⟩ (by have:=hbd.2.2.2.1;simp[Dp];omega) (λv hv=>by have:=hbd.2.2.2.2 v hv;omega) (by first| (simp(disch:= omega) only[vm,seval];done)| rfl) λn5 m5 hn5 h8=>?_⟩;have hln: ∀x c,(x,c)∈(n2,[.int .i64 y.1.kind,.str y.1.text,.int .i64 y.1.at_])::(n,[.int .i64 0,.str [],.slice 1 [] true,.slice 4 [] true])::m->(m5.map (·.1)).Nodup->A9 m5 x=some c:=λx c hx hd=>h8.get hd hx;have hpm: ∃Y:MS,m5.Perm ((n,[.int .i64 0,.str [],.slice 1 [] true,.slice 4 [] true])::(n2,[.int .i64 y.1.kind,.str y.1.text,.int .i64 y.1.at_])::(Y++m)):=by obtain⟨Y,hY⟩:=h8.all;refine⟨Y,hY.trans ?_⟩;refine(cJ _ ?_).trans (cB _ _ _);simp
   cases h9:q.2 !=0
   ·simp only[h9,aj,aq]at h7;simp(disch:= omega) only[vm,seval,h9];refine⟨AWp.nodup λhd5=>?_⟩;have ht5:=hln n2 _ List.mem_cons_self hd5;obtain⟨sv,hg5,hsv5,_⟩:=h8.put hd5;refine EZ (.q (.q (.r []) (.c .z .z)) (.r [])) ?_;cases h10:y.1.kind==1
    ·simp only[h10,aj,aq]at h7;simp(disch:= omega) only[vm,seval,ht5,h10];have hps5:PS q.1 (n+1) ((n,[.int .i64 0,.str [],.slice 1 [] true,.slice 4 [] true])::m) m5:=h8.less;have hb5:BD q.1 k:=BD.take hbd h6 (by simpa using h9);have hg:JG N a0 k (⟨(y.2.1,q.1,m5),hps5⟩:JS (n+1) ((n,[.int .i64 0,.str [],.slice 1 [] true,.slice 4 [] true])::m))=some r:=by simp only[JG,grd,ah hb5];exact h7
     refine⟨hJ _ () _ _ _ _ hg slr rfl ?_ ?_ fG⟩<;>first| (simp(disch:= omega) only[vm,seval];done)| rfl
    ·simp only[h10,av,al]at h7;subst h7;simp(disch:= omega) only[vm,seval,ht5,h10];obtain⟨Y,hY⟩:=hpm;have hgp:A9 ((n,[.int .i64 0,.str [],.slice 1 [] true,.slice 4 [] true])::(n2,[.int .i64 y.1.kind,.str y.1.text,.int .i64 y.1.at_])::(Y++m)) (n+1)=some (pc sv q.1):=by refine IM (Ww hY hd5) (hY.mem_iff.1 ?_);exact M4 hg5
     have hgp2:A9 (Y++m) (n+1)=some (pc sv q.1):=by rw[YI fG,YI fG]at hgp;exact hgp
     refine⟨ADm hY ?_⟩;refine EZ (.q (.r []) .z) ?_;simp(disch:= omega) only[vm,seval,hgp2,pc];refine⟨(hR _ _ _ _ _ _ (by simp(disch:= omega) only[vm,seval];rfl) (.cons _ (.cons _ (cP Y m))) rfl fG ?_).1⟩;simp(disch:= omega) only[vm,seval,JN]
   ·simp only[h9,av,al]at h7;subst h7;simp(disch:= omega) only[vm,seval,h9];obtain⟨Y,hY⟩:=hpm;refine⟨ADm hY ?_⟩;refine EZ (.q .z .z) ?_;simp(disch:= omega) only[vm,seval];refine⟨QD [] (.take 1 (.take 2 (.take 3 (.alt 0 [3,2,1] (.alt 4 [3,2,1] (.alt 5 [3] (.alt 6 [] (.done) (.stop)) (.stop)) (.stop)) (.stop))))) M9 (by kernel_rfl) ?_⟩;simp(disch:= omega) only[vm,seval];refine⟨(hR _ _ _ _ _ _ (by simp(disch:= omega) only[vm,seval];rfl) (.cons _ (.cons _ (cP Y m))) rfl fG ?_).1⟩;simp(disch:= omega) only[vm,seval,GA,JN]
  ·simp only[h5,av,al]at h4;subst h4;simp(disch:= omega) only[vm,seval,h5];obtain⟨Y,hY⟩:=hps.all;refine⟨ADm ((hY.cons _).trans (cB _ _ _)) ?_⟩;refine EZ (.q (.r []) .z) ?_;simp(disch:= omega) only[vm,seval];refine⟨(hR _ _ _ _ _ _ (by simp(disch:= omega) only[vm,seval];rfl) (.cons _ (.cons _ (cP Y m))) rfl fG ?_).1⟩;simp(disch:= omega) only[vm,seval,GA,JN]
def AA3 {a0 r} (h:J4 N a0=some r) (ha:args=[.str a0]) (hQ: ∀n',n<=n'->Gl (Q (.tuple [AV r.1,.int .i64 r.2.1,.int .i64 r.2.2]) ⟨m,n'⟩)):ACall vE 53 args ⟨m,n⟩ Q:=ATr (λh ha hq=>ADl h ha hq) (λh ha hq=>AI5 h ha hq) h ha hQ
instance AdQ {a0}:CF vE (J4 N a0) 53 [.str a0] (λr=>.tuple [AV r.1,.int .i64 r.2.1,.int .i64 r.2.2]):=⟨λh hQ=>AA3 h rfl hQ⟩
end Go.Proofs.YtfcejbjjeaaleaaGreatDoor
