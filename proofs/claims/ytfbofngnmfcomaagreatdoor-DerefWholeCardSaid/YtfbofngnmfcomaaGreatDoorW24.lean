import Derived.Test.YtfbofngnmfcomaaGreatDoorW22
set_option linter.unusedVariables false
set_option linter.unusedSimpArgs false
set_option maxHeartbeats 4000000
set_option maxRecDepth 100000
set_option linter.defProp false
namespace Go.Proofs.YtfbofngnmfcomaaGreatDoor
open Go.VM
attribute [local irreducible] AA grd letL
variable{N n:Nat}{m:MS}{Q:PQ}{args:List AVal}
def MQ{t:TypeId}{w i l:Nat} (h:BP vE.P t=true):RZ vE t (.gsl w i l)=some (.int .i64 l):=by simp[RZ,h]
theorem OZ{w i l:Nat}:(AVal.gsl w i l).strip=.gsl w i l:=rfl
theorem Qw{w i l:Nat}:AX (.gsl w i l)=[.gsl w i l]:=rfl
theorem UW{w i l:Nat}:CW (.gsl w i l)=true:=rfl
theorem UO{w i l:Nat}:LZ (.gsl w i l)=false:=rfl
def AX3{i l:Nat} (h:0<l/\l<=Bg):Cx vE 308 (.gsl 5 i l) (.int .i64 (wr .i64 ((l:Int)-1)))=some (.ptr i ((l-1) * 5)):=by
 have e:wr .i64 ((l:Int)-1)=((l-1:Nat):Int):=by have h2:=h.2;have h1:((l:Int)-1)=((l-1:Nat):Int):=fx;rw[h1];exact AOW fx
 rw[e];have h3:l-1<l:=fx;simp[Cx,Vk,h3]
def ASy{i j len:Nat}{pc:List AVal} (hl:0<len/\len<=Bg) (ha:args=[.ptr i 0]) (hQ: ∀n',n<=n'->Gl (Q (.ptr j ((len-1)*5)) ⟨(i,.gsl 5 j len::pc)::m,n'⟩)):ACall vE 371 args ⟨(i,.gsl 5 j len::pc)::m,n⟩ Q:=by have h:True/\True:=⟨trivial,trivial⟩;subst ha;refine ent hQ Tryz.func371 rfl Tryz.ntmps371 Tryz.results371 (.q (.r []) (.q .z .z)) λR hR=>?_;simp(disch:=omega) only[vm,seval,h.1];refine⟨Pk [] (.take 0 (.take 1 (.take 2 (.take 3 (.take 4 (.take 5 (.take 6 (.take 7 (.take 8 (.take 9 (.take 10 (.alt 11 [] (.done) (.stop))))))))))))) MR (by kernel_rfl) ?_⟩;simp(disch:=omega) only[vm,seval,h.1,MQ Dx,OZ,AX3 hl];refine⟨(hR _ _ _ _ _ _ (by simp(disch:=omega) only[vm,seval,h.1];rfl) slr ?_ fx ?_).1⟩<;>first|(simp(disch:=omega) only[vm,seval,h.1];done)|rfl
def Wh{i j len:Nat}{pc:List AVal} (hm:Af m i=some (.gsl 5 j len::pc)) (hl:0<len/\len<=Bg) (ha:args=[.ptr i 0]) (hQ: ∀n',n<=n'->Gl (Q (.ptr j ((len-1)*5)) ⟨m,n'⟩)):ACall vE 371 args ⟨m,n⟩ Q:=by have h:True/\True:=⟨trivial,trivial⟩;subst ha;refine ent hQ Tryz.func371 rfl Tryz.ntmps371 Tryz.results371 (.q (.r []) (.q .z .z)) λR hR=>?_;simp(disch:=omega) only[vm,seval,h.1,hm];refine⟨Pk [] (.take 0 (.take 1 (.take 2 (.take 3 (.take 4 (.take 5 (.take 6 (.take 7 (.take 8 (.take 9 (.take 10 (.alt 11 [] (.done) (.stop))))))))))))) MR (by kernel_rfl) ?_⟩;simp(disch:=omega) only[vm,seval,h.1,MQ Dx,OZ,AX3 hl,hm];refine⟨(hR _ _ _ _ _ _ (by simp(disch:=omega) only[vm,seval,h.1,hm];rfl) slr ?_ fx ?_).1⟩<;>first|(simp(disch:=omega) only[vm,seval,h.1,hm];done)|rfl
def ATn:(Sy vE.P 369).map (Cf vE.P)=some (some (.bool false)):=by kernel_rfl
def Tt: ∃e,Sy vE.P 369=some e/\Cf vE.P e=some (.bool false):=by have h:=ATn;cases he:Sy vE.P 369 with|none=>rw[he]at h;cases h|some e=>rw[he]at h;simp only[aK,ae]at h;exact⟨e,rfl,h⟩
def ARr{s:B8}: ∀ {keys:List B8},s∈keys->K4 keys (keys.map λ_=>AVal.bool true) s=some (.bool true)
 | k::ks,h=>by
  simp only[aF,K4];split;·rfl
  ·rename_i hn;rcases aP.1 h with h|h;·exact absurd h hn
   ·exact ARr h
def ACz{s:B8}: ∀ {keys:List B8},s∉keys->K4 keys (keys.map λ_=>AVal.bool true) s=none|[],_=>rfl|k::ks,h=>by simp only[aP,not_or]at h;simp only[aF,K4];rw[an h.1];exact ACz h.2
def APm{s:B8}{x:AVal}: ∀ {keys:List B8}{vs:List AVal},s∉keys->vs.length=keys.length->Gq keys s=keys++[s]/\Ka keys vs s x=vs++[x]|[],[],_,_=>⟨rfl,rfl⟩|[],_::_,_,h=>by simp at h|k::ks,[],_,h=>by simp at h|k::ks,v::vs,h,hl=>by simp only[aP,not_or]at h;obtain⟨h1,h2⟩:=APm (x:=x) h.2 (by simpa using hl:vs.length=ks.length);simp only[Gq,Ka,an h.1,h1,h2,bm,and_self]
def Ao4{k:Nat}{s:B8}{keys:List B8}{st:St} (hm:Af st.m k=some [.map keys (keys.map λ_=>.bool true)]) (hin:s∈keys):QB vE 369 (.sh k) (.str s) false st=some (.bool true):=by obtain⟨e,h1,h2⟩:=Tt;simp[QB,h1,h2,U7,hm,ARr hin,AVal.strip]
def AgW{k:Nat}{s:B8}{keys:List B8}{st:St} (hm:Af st.m k=some [.map keys (keys.map λ_=>.bool true)]) (hin:s∉keys):QB vE 369 (.sh k) (.str s) false st=some (.bool false):=by obtain⟨e,h1,h2⟩:=Tt;simp[QB,h1,h2,U7,hm,ACz hin,AVal.strip]
def AoN{k:Nat}{s:B8}{keys:List B8}{st:St} (hm:Af st.m k=some [.map keys (keys.map λ_=>.bool true)]) (hin:s∉keys):Z9 vE 369 (.sh k) (.str s) (.bool true) st=some {st with m:=Ar st.m k [.map (keys++[s]) ((keys++[s]).map λ_=>.bool true)]}:=by obtain⟨e,h1,h2⟩:=Tt;obtain⟨h3,h4⟩:=APm (x:=AVal.bool true) (vs:=keys.map λ_=>AVal.bool true) hin fy;simp[Z9,h1,U7,hm,h3,h4]
def drop_at{q c:Nat}{pre l junk:List AVal} (h:pre.length=q):List.drop (q+c) (pre++l++junk)=List.drop c (l++junk):=by subst h;rw[aM,co];simp
def get_at{q c:Nat}{pre l junk:List AVal} (h:pre.length=q):(pre++l++junk)[q+c]?=(l++junk)[c]?:=by subst h;rw[aM,eC fx];congr 1;omega
def AiY{q c:Nat}{x:AVal}{pre l junk:List AVal} (h:pre.length=q) (hc:decide (c<l.length)=true):(pre++l++junk).set (q+c) x=pre++l.set c x++junk:=by
 subst h;have hc:c<l.length:=by simpa using hc
 rw[aM,de _ _ fx,List.set_append_left _ _ fx,aM];congr 2;congr 1;omega
def AwA{q:Nat}{a b c d e x:AVal}{pre junk:List AVal} (h:pre.length=q):(pre++[a,b,c,d,e]++junk).set (q+2) x=pre++[a,b,x,d,e]++junk:=AiY h rfl
def Aqx{q:Nat}{a b c d e x:AVal}{pre junk:List AVal} (h:pre.length=q):(pre++[a,b,c,d,e]++junk).set (q+3) x=pre++[a,b,c,x,e]++junk:=AiY h rfl
def Abi{i j k len:Nat}{pre junk:List AVal}{keys:List B8}{kd wt nd text it o1 o2 o3 o4:AVal}{s:B8} (hd:j≠i/\k≠i/\k≠j) (hp:pre.length=(len-1) * 5) (hl:0<len/\len<=Bg) (ha:args=[.ptr i 0,.str s]) (hin:s∈keys) (hQ: ∀n',n<=n'->Gl (Q (.int .i64 143) ⟨(i,[.gsl 5 j len,wt,nd,o1,o2,o3,o4])::(j,pre++[kd,text,.slice 1 (keys.map AVal.str) true,it,.sh k]++junk)::(k,[.map keys (keys.map λ_=>.bool true)])::m,n'⟩)):ACall vE 339 args ⟨(i,[.gsl 5 j len,wt,nd,o1,o2,o3,o4])::(j,pre++[kd,text,.slice 1 (keys.map AVal.str) true,it,.sh k]++junk)::(k,[.map keys (keys.map λ_=>.bool true)])::m,n⟩ Q:=by
 have h:True/\True:=⟨trivial,trivial⟩;obtain⟨hd1,hd2,hd3⟩:=hd;subst ha;refine ent hQ Tryz.func339 rfl Tryz.ntmps339 Tryz.results339 (.q (.r []) (.q (.r []) (.q (.q (.r []) (.c (.q (.r []) .z) .z)) .z))) λR hR=>?_;simp(disch:=omega) only[vm,seval,h.1];refine⟨ASy hl tD λn2 hn2=>?_⟩;have hg:Af ((i,[.gsl 5 j len,wt,nd,o1,o2,o3,o4])::(j,pre++[kd,text,.slice 1 (keys.map AVal.str) true,it,.sh k]++junk)::(k,[.map keys (keys.map λ_=>.bool true)])::m) k=some [.map keys (keys.map λ_=>.bool true)]:=by simp[Af,hd2,hd3]
 have hlk:=Ao4 (st:=⟨_,n2⟩) hg hin;simp(disch:=omega) only[vm,seval,h.1,drop_at hp,Xj,AXV,hlk];refine⟨(hR _ _ _ _ _ _ (by simp(disch:=omega) only[vm,seval,h.1];rfl) slr rfl fx ?_).1⟩<;>first|(simp(disch:=omega) only[vm,seval,h.1];done)|rfl
def AWr{i j k len:Nat}{pre junk:List AVal}{keys:List B8}{kd wt nd text it o1 o2 o3 o4:AVal}{s:B8} (hd:j≠i/\k≠i/\k≠j) (hp:pre.length=(len-1) * 5) (hl:0<len/\len<=Bg) (ha:args=[.ptr i 0,.str s]) (hin:s∉keys) (hb:keys.length<=1099511627776) (hQ: ∀n',n<=n'->Gl (Q (.int .i64 0) ⟨(i,[.gsl 5 j len,.int .i64 4,nd,o1,o2,o3,o4])::(j,pre++[kd,text,.slice 1 ((keys++[s]).map AVal.str) true,it,.sh k]++junk)::(k,[.map (keys++[s]) ((keys++[s]).map λ_=>.bool true)])::m,n'⟩)):ACall vE 339 args ⟨(i,[.gsl 5 j len,wt,nd,o1,o2,o3,o4])::(j,pre++[kd,text,.slice 1 (keys.map AVal.str) true,it,.sh k]++junk)::(k,[.map keys (keys.map λ_=>.bool true)])::m,n⟩ Q:=by
 have h:True/\True:=⟨trivial,trivial⟩;obtain⟨hd1,hd2,hd3⟩:=hd;subst ha;refine ent hQ Tryz.func339 rfl Tryz.ntmps339 Tryz.results339 (.q (.r []) (.q (.r []) (.q (.q (.r []) (.c (.q (.r []) .z) .z)) (.q (.r []) (.q (.r [24]) (.q (.r []) (.q (.r []) .z))))))) λR hR=>?_;simp(disch:=omega) only[vm,seval,h.1];refine⟨ASy hl tD λn2 hn2=>?_⟩;have hg:Af ((i,[.gsl 5 j len,wt,nd,o1,o2,o3,o4])::(j,pre++[kd,text,.slice 1 (keys.map AVal.str) true,it,.sh k]++junk)::(k,[.map keys (keys.map λ_=>.bool true)])::m) k=some [.map keys (keys.map λ_=>.bool true)]:=by simp[Af,hd2,hd3]
 have hlk:=AgW (st:=⟨_,n2⟩) hg hin;have hup:=AoN (st:=⟨_,n2⟩) hg hin;have hft:Ac (keys.length+1) 16:=by unfold Ac;omega
 have hr2:(len-1) * 5+3<=pre.length+(5+junk.length):=fx;simp(disch:=omega) only[vm,seval,h.1,drop_at hp,Xj,WT,AXV,hlk,hup,get_at hp,AwA hp,hft,hr2,aD];refine⟨(hR _ _ _ _ _ _ (by simp(disch:=omega) only[vm,seval,h.1];rfl) slr ?_ fx ?_).1⟩<;>first|(simp(disch:=omega) only[vm,seval,h.1];done)|rfl
def Yl{E:Env}{c:Code}{f:FuncId}{fn:Func}{nt:Nat}{rs:List ResultVar}{args:List AVal}{m:MS}{n:Nat}{Q:PQ} (hf:E.P.funcs[f]?=some fn) (hb:fn.body=some c) (hn:fn.ntmps=nt) (hr:fn.results=rs.toArray) (a:An) (h: ∀R:APost,(∀af st xs m0 m1 n',Qe E rs af st=some (xs,⟨m1,n'⟩)->m0.Sublist m1->n<=n'->Q (Sv xs) ⟨m0,n'⟩->R .ret af st/\R .normal af st)->Gl (wpc E c a R (args++List.replicate (nt-args.length) .any) ⟨m,n⟩)):ACall E f args ⟨m,n⟩ Q:=by
 refine MJ hf hb ?_;have hw:=Pv a (h (Jh E fn Q) ?_).go;·subst hn;exact hw
 ·intro af st xs m0 m1 n' h1 h2 h3 h4;have e:fn.results.toList=rs:=by rw[hr]
  exact⟨KA (by rw[e];exact h1) h2 h4,KH (by rw[e];exact h1) h2 h4⟩
def Yz:Cf vE.P 371=some (.agg [.int .i64 0,.str [],.slice 1 [] true,.slice 4 [] true,.nmap]):=by kernel_rfl
def AWv{i j len:Nat}{lc:List AVal}{kd want nodes:Int}{wt o1 o2 o3 o4:AVal} (hd:j≠i) (hlc:len * 5<=lc.length) (hl:len<64) (hn:0<=nodes/\nodes+1<=20000) (ha:args=[.ptr i 0,.int .i64 kd,.int .i64 want]) (hQ: ∀n' j' k',n<=n'->(j'=j\/n<=j')->n<=k'->k'≠j'->Gl (Q (.int .i64 0) ⟨(j',lc.take (len * 5)++[.int .i64 kd,.str [],.slice 1 [] true,.slice 4 [] true,.sh k'])::(k',[.map [] []])::(i,[.gsl 5 j' (len+1),.int .i64 want,.int .i64 (nodes+1),o1,o2,o3,o4])::m,n'⟩)):ACall vE 373 args ⟨(i,[.gsl 5 j len,wt,.int .i64 nodes,o1,o2,o3,o4])::(j,lc)::m,n⟩ Q:=by
 refine ACall.known λ_ hkn=>?_;have h:True/\True:=⟨trivial,trivial⟩;have hi:i<n:=by
  rcases aS i n with h|h;·exact h
  ·have:=hkn i h;simp[Af]at this
 have hj:j<n:=by
  rcases aS j n with h|h;·exact h
  ·have:=hkn j h;simp[Af,hd]at this
 subst ha;refine Yl Tryz.func373 rfl Tryz.ntmps373 Tryz.results373 (.q (.r []) (.q (.q (.r []) (.c (.q (.r []) .z) .z)) (.q (.q (.r []) (.q (.r []) (.c (.q (.r []) .z) .z))) (.q (.r [29,34]) (.q (.r []) (.q (.r []) .z)))))) λR hR=>?_;have hc1:decide ((64:Int)<=len)=false:=by simp;omega
 have hc2:decide ((20000:Int)<nodes+1)=false:=by simp;omega
 have hw:wr .i64 (nodes+1)=nodes+1:=by obtain⟨q,rfl⟩: ∃q:Nat,nodes=q:=⟨nodes.toNat,fx⟩;exact ADI (by simp[Bg];omega)
 simp(disch:=omega) only[vm,seval,h.1,MQ Dx,OZ,Qw,hc1,hc2,hw,Yz,AAh,Ia];have happ:AOa vE 308 308 (AVal.gsl 5 j len) (AVal.gsl 5 (n+1) 1) {m:=(n+1,List.flatMap (λp=>AX p.snd) [((0:Nat),AVal.agg [AVal.int IntKind.i64 kd,AVal.str [],AVal.slice 1 [] true,AVal.slice 4 [] true,AVal.sh n])])::(n,[AVal.map [] []])::(i,[AVal.gsl 5 j len,wt,AVal.int IntKind.i64 (nodes+1),o1,o2,o3,o4])::(j,lc)::m,next:=n+2}=some (5,len+1,lc.take (len * 5)++[.int .i64 kd,.str [],.slice 1 [] true,.slice 4 [] true,.sh n],(n,[AVal.map [] []])::(i,[AVal.gsl 5 j len,wt,AVal.int IntKind.i64 (nodes+1),o1,o2,o3,o4])::m,some j):=by
  have e1: ¬j=n:=fx;have e2: ¬j=n+1:=fx;have e3:(len+1) * 80<=140737488355328/\len+1<=Bg:=by simp[Bg];omega
  simp[AOa,Af,DR,AAZ,AAw,VC,AX,hd,e1,e2,e3,hlc]
 rw[happ];constructor;intro j' hj';have hj1:j'≠i/\j'≠n/\(j'=j\/n<=j'):=by
  rcases hj' with hj'|hj';·simp only at hj';omega
  ·cases hj';omega
 obtain⟨hj1,hj2,hj3⟩:=hj1;have hin:i≠n:=fx;refine Gl.go ?_;simp(disch:=omega) only[vm,seval,h.1,OZ,Qw,UW,UO];refine⟨(hR _ _ _ _ _ _ (by simp(disch:=omega) only[vm,seval,h.1];rfl) slr fx ?_).1⟩;exact(hQ _ j' n fx fx fx fx).go
def ACk{i j:Nat}{v:ApiValue}{wt nd o1 o2 o3 o4:AVal} (ha:args=[.ptr i 0,AB v]) (hQ: ∀n',n<=n'->Gl (Q (.tuple []) ⟨(i,[.gsl 5 j 0,.int .i64 6,nd,.int .i64 v.kind,.str v.text,.slice 1 (v.keys.map AVal.str) false,.slice 4 (v.items.map AB) false])::m,n'⟩)):ACall vE 374 args ⟨(i,[.gsl 5 j 0,wt,nd,o1,o2,o3,o4])::m,n⟩ Q:=by
 refine ACall.known λ_ hkn=>?_;have h:True/\True:=⟨trivial,trivial⟩;have hi:i<n:=by
  rcases aS i n with h|h;·exact h
  ·have:=hkn i h;simp[Af]at this
 subst ha;refine Yl Tryz.func374 rfl Tryz.ntmps374 Tryz.results374 (.q (.r []) (.q (.q (.r []) (.c (.q (.r []) .z) .z)) .z)) λR hR=>?_;simp(disch:=omega) only[vm,seval,h.1,MQ Dx,OZ,Qw,UW,UO];refine⟨(hR _ _ _ _ _ _ (by simp(disch:=omega) only[vm,seval,h.1];rfl) (.cons _ slr) fx ?_).1⟩;exact(hQ _ fx).go
def API{i:Nat}{v:ApiValue}{wt nd o1 o2 o3 o4:AVal} (ha:args=[.ptr i 0,AB v]) (hQ: ∀n',n<=n'->Gl (Q (.tuple []) ⟨(i,[.slice 5 [] true,.int .i64 6,nd,.int .i64 v.kind,.str v.text,.slice 1 (v.keys.map AVal.str) false,.slice 4 (v.items.map AB) false])::m,n'⟩)):ACall vE 374 args ⟨(i,[.slice 5 [] true,wt,nd,o1,o2,o3,o4])::m,n⟩ Q:=by
 refine ACall.known λ_ hkn=>?_;have h:True/\True:=⟨trivial,trivial⟩;have hi:i<n:=by
  rcases aS i n with h|h;·exact h
  ·have:=hkn i h;simp[Af]at this
 subst ha;refine Yl Tryz.func374 rfl Tryz.ntmps374 Tryz.results374 (.q (.r []) (.q (.q (.r []) (.c (.q (.r []) .z) .z)) .z)) λR hR=>?_;simp(disch:=omega) only[vm,seval,h.1,MQ Dx,OZ,Qw,UW,UO];refine⟨(hR _ _ _ _ _ _ (by simp(disch:=omega) only[vm,seval,h.1];rfl) (.cons _ slr) fx ?_).1⟩;exact(hQ _ fx).go
def AtF{E:Env}{t:TypeId}{q:Nat}{x:AVal}:Cx E t (.sh q) x=none:=by cases x<;>rfl
def AuA{q k:Nat}{items:List ApiValue}:Gi vE 28 (.sh q) (.int .i64 (items.length:Int)) ⟨(q,[.slop 4 (List.map AB items)])::m,k⟩=some (.sptr q 4 items.length):=by simp[Gi,VJ,Af,ACw]
def AQs{E:Env}{t:TypeId}{j off q w k:Nat}{xs:List AVal}{o:Bool}:TF E t (.ptr j off) (.sh q) ⟨(q,[.slice w xs o])::m,k⟩=OP E t (.ptr j off) (.slice w xs o) ⟨(q,[.slice w xs false])::m,k⟩:=by simp[TF,Af,Ar,LZ,OP]
def APk{E:Env}{t:TypeId}{j off q w k:Nat}{xs:List AVal}:TF E t (.ptr j off) (.sh q) ⟨(q,[.slop w xs])::m,k⟩=X5 E t (.ptr j off) (.sh q) ⟨(q,[.slop w xs])::m,k⟩:=by simp[TF,Af,Q9]
def AtY{E:Env}{id:Nat}{os:Array Oper}{b:Bool}{K:APost}{af:List AVal}{st:St}:wpc E (.region id os b) .z K af st=AWp E (.region id os b) K af st:=by rw[wpc]<;>simp
def AOB{i j len:Nat}{v:ApiValue}{items:List ApiValue}{pre junk:List AVal}{wt nd o1 o2 o3 o4 kd tx ks sk:AVal} (hd:j≠i) (hp:pre.length=(len-1) * 5) (hl:0<len/\len<=Bg) (hb:items.length<=1099511627776) (ha:args=[.ptr i 0,AB v]) (hQ: ∀n',n<=n'->Gl (Q (.tuple []) ⟨(i,[.gsl 5 j len,.int .i64 5,nd,o1,o2,o3,o4])::(j,pre++[kd,tx,ks,.slice 4 ((items++[v]).map AB) true,sk]++junk)::m,n'⟩)):ACall vE 374 args ⟨(i,[.gsl 5 j len,wt,nd,o1,o2,o3,o4])::(j,pre++[kd,tx,ks,.slice 4 (items.map AB) true,sk]++junk)::m,n⟩ Q:=by
 refine ACall.known λ_ hkn=>?_;have h:True/\True:=⟨trivial,trivial⟩;have hi:i<n:=by
  rcases aS i n with h|h;·exact h
  ·have:=hkn i h;simp[Af]at this
 have hj:j<n:=by
  rcases aS j n with h|h;·exact h
  ·have:=hkn j h;simp[Af,hd]at this
 subst ha;refine Yl Tryz.func374 rfl Tryz.ntmps374 Tryz.results374 (.q (.r []) (.q (.q (.r []) (.c (.q (.r []) .z) .z)) (.q (.r []) (.q .z .z)))) λR hR=>?_;have hc:((len:Int)==0)=false:=by simp;omega
 simp(disch:=omega) only[vm,seval,h.1,MQ Dx,OZ,Qw,UW,UO,hc];have hin:i≠n:=fx;refine⟨Wh (pc:=[wt,nd,o1,o2,o3,o4]) (j:=j) (len:=len) ?_ hl tD λn2 hn2=>?_⟩;·simp[Af,hin]
 simp(disch:=omega) only[vm,seval,h.1];refine⟨Pk [24,28] (.take 0 (.take 1 (.take 2 (.take 3 (.take 5 (.take 7 (.alt 4 [7,5,2,1,0] (.take 6 (.alt 8 [] (.take 11 (.take 12 (.take 13 (.alt 9 [13,12,11] (.alt 10 [13,12,11] (.alt 14 [12,11] (.done) (.stop)) (.alt 14 [12,11] (.alt 10 [13,12,11] (.done) (.stop)) (.stop))) (.alt 14 [12,11] (.alt 9 [13,12,11] (.alt 10 [13,12,11] (.done) (.stop)) (.stop)) (.stop)))))) (.stop))) (.stop)))))))) MR (by kernel_rfl) ?_⟩;have hft:(items.length+1) * 72<=140737488355328/\items.length<=4611686018427387903:=fx;have hjn:j≠n:=fx;have hr2:(len-1) * 5+4<=pre.length+(5+junk.length):=fx;simp(disch:=omega) only[hft,hr2,vm,seval,h.1,drop_at hp,get_at hp,Aqx hp,Pj,ioR,ck,and_self,AtF,AuA,AY2,AAf,VJ,LZ,ArB,ArP,AQs,APk,AtY,Agm,Ah9,Jl,QH,Value.oneCell',dc,dU,aD];have hjn2:j≠n2:=fx;have hin2:i≠n2:=fx;have fin: ∀(af:List AVal) (c:Code) (m':MS) (n':Nat),n<=n'->([]:List (Nat×List AVal)).Sublist m'->True:=λ_ _ _ _ _ _=>trivial;refine AVg (AVg ⟨?_⟩ ⟨?_⟩) ⟨?_⟩;·refine Cm (.r []) ?_;simp(disch:=omega) only[vm,seval,h.1];refine⟨(hR _ _ _ _ _ _ (by simp(disch:=omega) only[vm,seval,h.1];rfl) (.cons _ (.cons _ slr)) fx ?_).2⟩;have:=(hQ (n2+1) fx).go;show Q (.tuple []) _;simpa only[cB,aF,cp,Hq]using this
 all_goals refine AHW (i:=n2) (j:=j) (p:=(len-1) * 5+3) hjn2 (by simp(disch:=omega) only[vm];rfl) fB (by simp(disch:=omega) only[vm,get_at hp]) (by simp only[vm];rfl) ?_;refine Cm (.r []) ?_;simp(disch:=omega) only[vm,seval,h.1,Aqx hp];refine⟨(hR _ _ _ _ _ _ (by simp(disch:=omega) only[vm,seval,h.1];rfl) (.cons _ (.cons _ slr)) fx ?_).2⟩;have:=(hQ (n2+1) fx).go;show Q (.tuple []) _;simpa only[cB,aF,cp,Hq]using this
theorem ACall.nodup{E:Env}{f:FuncId}{args:List AVal}{st:St}{Q:PQ} (h:(st.m.map (·.1)).Nodup->ACall E f args st Q):ACall E f args st Q:=⟨λF Γ w cargs hs=>(h hs.keys).go F Γ w cargs hs⟩
def Ga: ∀ {m:MS}{i:Nat}{c:List AVal},(m.map (·.1)).Nodup->(i,c)∈m->Af m i=some c
 |(j,d)::m,i,c,hn,h=>by
  simp only[aF,bW]at hn;rcases aP.1 h with h|h;·cases h;simp[Af]
  ·have hne:i≠j:=λe=>hn.1 (by rw[<-e];exact eb (f:=(·.1)) h);simp only[Af,an hne];exact Ga hn.2 h
def VE{m m':MS} (h:m.Perm m') (hn:(m.map (·.1)).Nodup):(m'.map (·.1)).Nodup:=(h.map _).nodup_iff.1 hn
def Va{m r:MS}{i:Nat}{c x:List AVal} (hn:(m.map (·.1)).Nodup) (h:m.Perm ((i,c)::r)):(Ar m i x).Perm ((i,x)::r):=by have hg:Af m i=some c:=Ga hn (h.mem_iff.2 fy);have h1:=J5 hg;have h2:r.Perm (DR m i):=(h.symm.trans h1).cons_inv;exact(Rk hg).symm.trans (h2.symm.cons _)
def lvl (v:ApiValue) (k:Nat):List AVal:=[.int .i64 v.kind,.str v.text,.slice 1 (v.keys.map AVal.str) true,.slice 4 (v.items.map AB) true,.sh k]
def AQP (v:ApiValue) (k:Nat):Nat×List AVal:=(k,[.map v.keys (v.keys.map λ_=>.bool true)])
def V7:List ApiValue->List Nat->List AVal|v::vs,k::ks=>lvl v k++V7 vs ks|_,_=>[]
def maps:List ApiValue->List Nat->MS|v::vs,k::ks=>AQP v k::maps vs ks|_,_=>[]
def pc (sv:AVal) (p:JPsr):List AVal:=[sv,.int .i64 p.want,.int .i64 p.nodes,.int .i64 p.out.kind,.str p.out.text,.slice 1 (p.out.keys.map AVal.str) false,.slice 4 (p.out.items.map AB) false]
def UL: ∀ {st:List ApiValue}{ks:List Nat}{v:ApiValue}{k:Nat},ks.length=st.length->V7 (st++[v]) (ks++[k])=V7 st ks++lvl v k|[],[],v,k,_=>by simp[V7]|x::st,y::ks,v,k,h=>by simp only[bm,V7,aM];rw[UL (by simpa using h)]
def Ui: ∀ {st:List ApiValue}{ks:List Nat}{v:ApiValue}{k:Nat},ks.length=st.length->maps (st++[v]) (ks++[k])=maps st ks++[AQP v k]|[],[],v,k,_=>by simp[maps]|x::st,y::ks,v,k,h=>by simp only[bm,maps];rw[Ui (by simpa using h)]
def WC: ∀ {st:List ApiValue}{ks:List Nat},ks.length=st.length->(V7 st ks).length=st.length * 5|[],[],_=>rfl|x::st,y::ks,h=>by simp only[V7,ah,WC (st:=st) (ks:=ks) (by simpa using h),ag,lvl,ap];omega
inductive PS (p:JPsr) (i:Nat) (m0 m:MS):Prop|nil (X:MS) (hs:p.stack=[]) (h:m.Perm ((i,pc (.slice 5 [] true) p)::(X++m0)))|box (j:Nat) (ks:List Nat) (junk:List AVal) (X:MS) (hk:ks.length=p.stack.length) (h:m.Perm ((i,pc (.gsl 5 j p.stack.length) p)::(j,V7 p.stack ks++junk)::(maps p.stack ks++(X++m0))))
def PS.more{p:JPsr}{i:Nat}{m0 m:MS} (h:PS p i m0 m) (e:Nat×List AVal):PS p i (e::m0) (e::m):=by
 have key: ∀(a b X:MS),m.Perm (a++(b++(X++m0)))->(e::m).Perm (a++(b++(X++e::m0))):=λa b X h=>by
  have h1:(a++(b++(X++e::m0))).Perm (e::(a++(b++(X++m0)))):=by have:=dw (a:=e) (l₁:=a++b++X) (l₂:=m0);simpa only[aM]using this
  exact(h.cons e).trans h1.symm
 cases h with|nil X hs h=>exact .nil X hs (by simpa using key [_] [] X (by simpa using h))|box j ks junk X hk h=>exact .box j ks junk X hk (by simpa using key [_,_] _ X (by simpa using h))
def PS.less{p:JPsr}{i:Nat}{m0 m:MS}{e:Nat×List AVal} (h:PS p i (e::m0) m):PS p i m0 m:=by cases h with|nil X hs h=>exact .nil (X++[e]) hs (by simpa using h)|box j ks junk X hk h=>exact .box j ks junk (X++[e]) hk (by simpa using h)
def PS.perm{p:JPsr}{i:Nat}{m0 m m':MS} (h:PS p i m0 m) (hp:m'.Perm m):PS p i m0 m':=by cases h with|nil X hs h=>exact .nil X hs (hp.trans h)|box j ks junk X hk h=>exact .box j ks junk X hk (hp.trans h)
def PS.put{p:JPsr}{i:Nat}{m0 m:MS} (h:PS p i m0 m) (hn:(m.map (·.1)).Nodup): ∃sv,Af m i=some (pc sv p)/\(sv=.slice 5 [] true/\p.stack=[]\/∃j,sv=.gsl 5 j p.stack.length)/\∀p':JPsr,p'.stack=p.stack->PS p' i m0 (Ar m i (pc sv p')):=by cases h with|nil X hs h=>exact⟨_,Ga hn (h.mem_iff.2 fy),.inl ⟨rfl,hs⟩,λp' e=>.nil X (e.trans hs) (Va hn h)⟩|box j ks junk X hk h=>exact⟨_,Ga hn (h.mem_iff.2 fy),.inr ⟨j,rfl⟩,λp' e=>.box j ks junk X (by rw[e];exact hk) (by rw[e];exact Va hn h)⟩
def PS.get{p:JPsr}{i x:Nat}{c:List AVal}{m0 m:MS} (h:PS p i m0 m) (hn:(m.map (·.1)).Nodup) (hx:(x,c)∈m0):Af m x=some c:=by cases h with|nil X hs h=>exact Ga hn (h.mem_iff.2 (by simp[hx]))|box j ks junk X hk h=>exact Ga hn (h.mem_iff.2 (by simp[hx]))
def PS.top{p:JPsr}{i:Nat}{m0 m:MS}{st:List ApiValue}{v:ApiValue} (h:PS p i m0 m) (hs:p.stack=st++[v]): ∃j k pre junk rest,pre.length=st.length * 5/\m.Perm ((i,pc (.gsl 5 j (st.length+1)) p)::(j,pre++lvl v k++junk)::AQP v k::rest)/\(∀(p':JPsr) v' m',p'.stack=st++[v']->m'.Perm ((i,pc (.gsl 5 j (st.length+1)) p')::(j,pre++lvl v' k++junk)::AQP v' k::rest)->PS p' i m0 m')/\∀(p':JPsr) junk' m',p'.stack=st->m'.Perm ((i,pc (.gsl 5 j st.length) p')::(j,pre++junk')::AQP v k::rest)->PS p' i m0 m':=by
 cases h with
 |nil X hn h=>rw[hn]at hs;simp at hs
 | box j ks junk X hk h=>
  rw[hs]at hk h;obtain⟨ks',k,rfl⟩: ∃ks' k,ks=ks'++[k]:=by
   rcases fi ks with rfl|⟨a,b,rfl⟩;·simp at hk
   ·exact⟨a,b,fy⟩
  have hk':ks'.length=st.length:=by simpa using hk
  rw[UL hk',Ui hk',ah,ag,ap]at h;have mid: ∀(a b:Nat×List AVal) (e:Nat×List AVal) (l:MS),(a::b::(maps st ks'++[e]++l)).Perm (a::b::e::(maps st ks'++l)):=λa b e l=>by refine cG _ (cG _ ?_);simp
  refine⟨j,k,V7 st ks',junk,maps st ks'++(X++m0),WC hk',h.trans (mid _ _ _ _),λp' v' m' e hp=>?_,λp' junk' m' e hp=>?_⟩;·refine .box j (ks'++[k]) junk X (by simp[e,hk']) ?_;rw[e,UL hk',Ui hk',ah,ag,ap];exact hp.trans (mid _ _ _ _).symm
  ·refine .box j ks' junk' (AQP v k::X) (by rw[e];exact hk') ?_;rw[e];refine hp.trans (cG _ (cG _ ?_));simpa using(dw (a:=AQP v k) (l₁:=maps st ks') (l₂:=X++m0)).symm
def NF{l:List ApiValue}:l=[]\/∃st v,l=st++[v]:=by
 rcases fi l with h|⟨a,b,h⟩;·exact .inl h
 ·exact .inr ⟨a,b,by simpa using h⟩
def nd3{a b c:Nat×List AVal}{r m:MS} (hn:(m.map (·.1)).Nodup) (h:m.Perm (a::b::c::r)):b.1≠a.1/\c.1≠a.1/\c.1≠b.1:=by have h2:=VE h hn;simp only[aF,bW,aP,not_or]at h2;exact⟨dD h2.1.1,dD h2.1.2.1,dD h2.2.1.1⟩
def ARJ{p:JPsr}{i:Nat}{m0:MS}{s:B8}{q:JPsr×Int} (hp:PS p i m0 m) (h:Zv p s=some q) (hlen:p.stack.length<=Bg) (hb: ∀v,v∈p.stack->v.keys.length<=1099511627776) (ha:args=[.ptr i 0,.str s]) (hQ: ∀n' m',n<=n'->PS q.1 i m0 m'->Gl (Q (.int .i64 q.2) ⟨m',n'⟩)):ACall vE 339 args ⟨m,n⟩ Q:=by
 refine ACall.nodup λhn=>?_;rcases NF (l:=p.stack)with hs|⟨st,v,hs⟩;·simp[Zv,hs]at h
 ·obtain⟨j,k,pre,junk,rest,h1,h2,h3,h4⟩:=hp.top hs;have hd:=nd3 hn h2;have hl:0<st.length+1/\st.length+1<=Bg:=⟨fx,by rw[hs]at hlen;simpa using hlen⟩;have hvb:=hb v (by rw[hs];simp);refine ACall.perm h2 ?_;simp only[Zv,hs,cw,cd,dm,dn]at h;by_cases hin:s∈v.keys;·rw[aq hin]at h;cases h;refine Abi (hd:=hd) (hp:=by simpa using h1) hl ha hin λn' hn'=>hQ _ _ hn' ?_;exact h3 p v _ hs (cX _)
  ·rw[an hin]at h;cases h;refine AWr (hd:=hd) (hp:=by simpa using h1) hl ha hin hvb λn' hn'=>hQ _ _ hn' ?_;exact h3 _ {v with keys:=v.keys++[s]} _ fy (cX _)
def AD5{p:JPsr}{i:Nat}{m0:MS}{v:ApiValue} (hp:PS p i m0 m) (hlen:p.stack.length<=Bg) (hb: ∀v,v∈p.stack->v.items.length<=1099511627776) (ha:args=[.ptr i 0,AB v]) (hQ: ∀n' m',n<=n'->PS (NU p v) i m0 m'->Gl (Q (.tuple []) ⟨m',n'⟩)):ACall vE 374 args ⟨m,n⟩ Q:=by
 refine ACall.nodup λhn=>?_;rcases NF (l:=p.stack)with hs|⟨st,v',hs⟩
 ·have e:NU p v= {p with out:=v,want:=6}:=by simp[NU,hs]
  rw[e]at hQ;cases hp with|nil X hz h=>refine ACall.perm h ?_;refine API ha λn' hn'=>hQ _ _ hn' (.nil X hs (cX _))|box j ks junk X hk h=>refine ACall.perm h ?_;rw[hs];refine ACk ha λn' hn'=>hQ _ _ hn' ?_;refine .box j ks junk X hk ?_;rw[hs];exact cX _
 ·obtain⟨j,k,pre,junk,rest,h1,h2,h3,h4⟩:=hp.top hs;have hd:=nd3 hn h2;have hl:0<st.length+1/\st.length+1<=Bg:=⟨fx,by rw[hs]at hlen;simpa using hlen⟩;have hvb:=hb v' (by rw[hs];simp);have e:NU p v= {p with stack:=p.stack.dropLast++[{v' with items:=v'.items++[v]}],want:=5}:=by simp[NU,hs]
  rw[e]at hQ;refine ACall.perm h2 ?_;refine AOB hd.1 (by simpa using h1) hl hvb ha λn' hn'=>hQ _ _ hn' ?_;exact h3 _ {v' with items:=v'.items++[v]} _ (by simp[hs]) (cX _)
def AAj{sv:AVal}{st:List ApiValue} (h:sv=.slice 5 [] true/\st=[]\/∃j,sv=.gsl 5 j st.length):RZ vE 308 sv=some (.int .i64 (st.length:Int))/\sv.strip=(match sv with|.slice w l _=>.slice w l false|x=>x)/\RZ vE 308 sv.strip=some (.int .i64 (st.length:Int))/\AX sv=[sv]/\CW sv=true/\LZ sv=false:=by
 rcases h with⟨rfl,rfl⟩|⟨j,rfl⟩;·exact⟨by simp[RZ,Dx],rfl,by simp[RZ,Dx,AVal.strip],rfl,rfl,rfl⟩
 ·exact⟨MQ Dx,rfl,MQ Dx,rfl,rfl,rfl⟩
def AKY{p:JPsr}{i:Nat}{m0:MS}{kd want:Int}{sv:AVal} (hm:Af m i=some (pc sv p)) (hsv:RZ vE 308 sv.strip=some (.int .i64 (p.stack.length:Int))/\AX sv=[sv]) (hl:64<=p.stack.length) (ha:args=[.ptr i 0,.int .i64 kd,.int .i64 want]) (hQ: ∀n',n<=n'->Gl (Q (.int .i64 141) ⟨m,n'⟩)):ACall vE 373 args ⟨m,n⟩ Q:=by
 have h:True/\True:=⟨trivial,trivial⟩;subst ha;refine ent hQ Tryz.func373 rfl Tryz.ntmps373 Tryz.results373 (.q (.r []) (.q (.q (.r []) (.c (.q (.r []) .z) .z)) (.q (.q (.r []) (.q (.r []) (.c (.q (.r []) .z) .z))) (.q (.r [29]) (.q (.r []) (.q (.r []) .z)))))) λR hR=>?_;have hc1:decide ((64:Int)<=p.stack.length)=true:=by simp;omega
 simp(disch:=omega) only[vm,seval,h.1,hm,pc,hsv,hc1];refine⟨(hR _ _ _ _ _ _ (by simp(disch:=omega) only[vm,seval,h.1];rfl) slr ?_ fx ?_).1⟩<;>first|(simp(disch:=omega) only[vm,seval,h.1];done)|rfl
def ANm{nodes:Int} (hn:0<=nodes/\nodes<=30000):wr .i64 (nodes+1)=nodes+1:=by obtain⟨q,rfl⟩: ∃q:Nat,nodes=q:=⟨nodes.toNat,fx⟩;exact ADI (by simp[Bg];omega)
def ALq{p:JPsr}{i:Nat}{m0:MS}{kd want:Int}{sv:AVal} (hm:Af m i=some (pc sv p)) (hsv:RZ vE 308 sv.strip=some (.int .i64 (p.stack.length:Int))/\AX sv=[sv]) (hl:p.stack.length<64) (hn:0<=p.nodes/\p.nodes<=20000/\20000<p.nodes+1) (ha:args=[.ptr i 0,.int .i64 kd,.int .i64 want]) (hQ: ∀n',n<=n'->Gl (Q (.int .i64 142) ⟨Ar m i (pc sv {p with nodes:=p.nodes+1}),n'⟩)):ACall vE 373 args ⟨m,n⟩ Q:=by
 have h:True/\True:=⟨trivial,trivial⟩;subst ha;refine ent hQ Tryz.func373 rfl Tryz.ntmps373 Tryz.results373 (.q (.r []) (.q (.q (.r []) (.c (.q (.r []) .z) .z)) (.q (.q (.r []) (.q (.r []) (.c (.q (.r []) .z) .z))) (.q (.r [29]) (.q (.r []) (.q (.r []) .z)))))) λR hR=>?_;have hc1:decide ((64:Int)<=p.stack.length)=false:=by simp;omega
 have hc2:decide ((20000:Int)<p.nodes+1)=true:=by simp;omega
 have hw:wr .i64 (p.nodes+1)=p.nodes+1:=ANm ⟨hn.1,fx⟩;have hms: ∀x,Af (Ar m i x) i=some x:=λx=>H8 hm;simp(disch:=omega) only[vm,seval,h.1,hm,pc,hsv,hc1,hc2,hw,hms];refine⟨(hR _ _ _ _ _ _ (by simp(disch:=omega) only[vm,seval,h.1];rfl) slr ?_ fx ?_).1⟩<;>first|(simp(disch:=omega) only[vm,seval,h.1];done)|rfl
def AS7{i:Nat}{kd want nodes:Int}{wt o1 o2 o3 o4:AVal} (hn:0<=nodes/\nodes+1<=20000) (ha:args=[.ptr i 0,.int .i64 kd,.int .i64 want]) (hQ: ∀n' j' k',n<=n'->n<=j'->n<=k'->k'≠j'->Gl (Q (.int .i64 0) ⟨(j',[.int .i64 kd,.str [],.slice 1 [] true,.slice 4 [] true,.sh k'])::(k',[.map [] []])::(i,[.gsl 5 j' 1,.int .i64 want,.int .i64 (nodes+1),o1,o2,o3,o4])::m,n'⟩)):ACall vE 373 args ⟨(i,[.slice 5 [] true,wt,.int .i64 nodes,o1,o2,o3,o4])::m,n⟩ Q:=by
 refine ACall.known λ_ hkn=>?_;have h:True/\True:=⟨trivial,trivial⟩;have hi:i<n:=by
  rcases aS i n with h|h;·exact h
  ·have:=hkn i h;simp[Af]at this
 subst ha;refine Yl Tryz.func373 rfl Tryz.ntmps373 Tryz.results373 (.q (.r []) (.q (.q (.r []) (.c (.q (.r []) .z) .z)) (.q (.q (.r []) (.q (.r []) (.c (.q (.r []) .z) .z))) (.q (.r [29,34]) (.q (.r []) (.q (.r []) .z)))))) λR hR=>?_;have hc1:decide ((64:Int)<=(0:Nat))=false:=fy;have hc2:decide ((20000:Int)<nodes+1)=false:=by simp;omega
 have hw:wr .i64 (nodes+1)=nodes+1:=ANm ⟨hn.1,fx⟩;simp(disch:=omega) only[vm,seval,h.1,MQ Dx,OZ,Qw,hc1,hc2,hw,Yz,AAh,Ia];have happ:AOa vE 308 308 (AVal.slice 5 [] true) (AVal.gsl 5 (n+1) 1) {m:=(n+1,List.flatMap (λp=>AX p.snd) [((0:Nat),AVal.agg [AVal.int IntKind.i64 kd,AVal.str [],AVal.slice 1 [] true,AVal.slice 4 [] true,AVal.sh n])])::(n,[AVal.map [] []])::(i,[AVal.slice 5 [] false,wt,AVal.int IntKind.i64 (nodes+1),o1,o2,o3,o4])::m,next:=n+2}=some (5,1,[.int .i64 kd,.str [],.slice 1 [] true,.slice 4 [] true,.sh n],(n,[AVal.map [] []])::(i,[AVal.slice 5 [] false,wt,AVal.int IntKind.i64 (nodes+1),o1,o2,o3,o4])::m,none):=by simp[AOa,Af,DR,AAZ,AAw,VC,AX,Bg]
 rw[happ];constructor;intro j' hj';have hj1:j'=n+2:=by
  rcases hj' with hj'|hj';·exact hj'
  ·cases hj'
 subst hj1;have hin:i≠n:=fx;refine Gl.go ?_;simp(disch:=omega) only[vm,seval,h.1,OZ,Qw,UW,UO];refine⟨(hR _ _ _ _ _ _ (by simp(disch:=omega) only[vm,seval,h.1];rfl) slr fx ?_).1⟩;exact(hQ _ (n+2) n fx fx fx fx).go
def ACv{p:JPsr}{i:Nat}{m0:MS}{kd want:Int} (hp:PS p i m0 m) (hn:0<=p.nodes/\p.nodes<=20000) (ha:args=[.ptr i 0,.int .i64 kd,.int .i64 want]) (hQ: ∀n' m',n<=n'->PS (Le p kd want).1 i m0 m'->Gl (Q (.int .i64 (Le p kd want).2) ⟨m',n'⟩)):ACall vE 373 args ⟨m,n⟩ Q:=by
 refine ACall.nodup λhnd=>?_;obtain⟨sv,hg,hsv,hput⟩:=hp.put hnd;have hl:=AAj hsv;by_cases h1:p.stack.length>=64
 ·have e:Le p kd want=(p,141):=by simp[Le,h1]
  rw[e]at hQ;exact AKY (m0:=m0) hg ⟨hl.2.2.1,hl.2.2.2.1⟩ h1 ha λn' hn'=>hQ _ _ hn' hp
 ·by_cases h2:p.nodes+1>20000
  ·have e:Le p kd want=({p with nodes:=p.nodes+1},142):=by simp[Le,h1,h2]
   rw[e]at hQ;exact ALq (m0:=m0) hg ⟨hl.2.2.1,hl.2.2.2.1⟩ fx ⟨hn.1,hn.2,h2⟩ ha λn' hn'=>hQ _ _ hn' (hput _ rfl)
  ·have e:Le p kd want=({p with stack:=p.stack++[⟨kd,[],[],[]⟩],nodes:=p.nodes+1,want:=want},0):=by simp[Le,h1,h2]
   rw[e]at hQ;cases hp with
   |nil X hs h=>refine ACall.perm h ?_;refine AS7 ⟨hn.1,fx⟩ ha λn' j' k' h3 h4 h5 h6=>hQ _ _ h3 ?_;refine .box j' [k'] [] X (by simp[hs]) ?_;simp only[hs,bk,V7,maps,lvl,AQP,cp,bz,ag,ap,pc,bm];exact((cv _ _ _).cons _).trans (cv _ _ _)|>.trans (cG _ (cX _))
   |box j ks junk X hk h=>
    have hd:j≠i:=by have h2:=VE h hnd;simp only[aF,bW,aP,not_or]at h2;exact dD h2.1.1
    refine ACall.perm h ?_;refine AWv hd (by rw[ah,WC hk];omega) fx ⟨hn.1,fx⟩ ha λn' j' k' h3 h4 h5 h6=>hQ _ _ h3 ?_;refine .box j' (ks++[k']) [] X (by simp[hk]) ?_;have e1:(V7 p.stack ks++junk).take (p.stack.length * 5)=V7 p.stack ks:=by rw[<-WC hk,eA]
    rw[e1,UL hk,Ui hk,bz,ah];have mid: ∀(e:Nat×List AVal) (l:MS),(e::(maps p.stack ks++l)).Perm (maps p.stack ks++[e]++l):=λe l=>by simpa using(dw (a:=e) (l₁:=maps p.stack ks) (l₂:=l)).symm
    refine((cv _ _ _).cons _).trans ((cv _ _ _).trans (cG _ (cG _ ?_)));exact mid (k',[.map [] []]) _
def Akl (p:JPsr) (t:ApiToken) (cl:B8):Bool:=if p.want==0 then O8 t else if p.want==1 then O8 t||(t.kind==2&&t.text==cl)else if p.want==2 then t.kind==3 else if p.want==3 then t.kind==3||(t.kind==2&&t.text==cl)else if p.want==4 then t.kind==2&&t.text==[58]else if p.want==5 then t.kind==2&&t.text==[44]||(t.kind==2&&t.text==cl)else t.kind==1
def Ah5{q:Nat}{a:AVal}{pre l junk:List AVal} (h:pre.length=q):(pre++a::l++junk)[q]?=some a:=by subst h;simp
def Afg (t:ApiToken):L8 N t=some (O8 t):=by unfold L8 O8;simp only[AA];cases t.kind==3<;>cases t.kind==4<;>cases t.kind==5<;>cases t.kind==2<;>cases t.text==[91]<;>simp
def AaD{p:JPsr}{i:Nat}{m0:MS}{t:ApiToken} (hp:PS p i m0 m) (hlen:p.stack.length<=Bg) (ha:args=[.ptr i 0,Dc t]) (hQ: ∀n',n<=n'->Gl (Q (.bool (UK p t)) ⟨m,n'⟩)):ACall vE 337 args ⟨m,n⟩ Q:=by
 refine ACall.nodup λhnd=>ACall.known λ_ hkn=>?_;obtain⟨sv,hg,hsv,hput⟩:=hp.put hnd;have hl:=(AAj hsv).2.2;have hi:i<n:=by
  rcases aS i n with h|h;·exact h
  ·have:=hkn i h;rw[hg]at this;cases this
 have h:True/\AA (λcl=>some (Akl p t cl)) (λk=>k (Kn p))=some (UK p t):=⟨trivial,by simp only[AA];first|done|rfl⟩;subst ha;refine ent hQ Tryz.func337 rfl Tryz.ntmps337 Tryz.results337 (.q (.r []) (.q (.r []) .z)) λR hR=>?_;have hin:i≠n:=fx;simp(disch:=omega) only[vm,seval,h.1];refine⟨TJ (γ:=Unit) h [7,8,9,10,11,12,13,14,15,16,17,18,19] [5] (λcl g=>[.str cl]) (λcl g=>(n,[.int .i64 t.kind,.str t.text,.int .i64 t.at_])::m) (.q (.r []) (.c (.q (.r []) (.q (.r []) (.c (.r []) .z))) .z)) ?_ ?_⟩<;>clear h
 ·rintro cl _ n4 hnn4 _ _ h;have h2:Akl p t cl=UK p t:=by simpa using h
  clear h;have hin4:i≠n:=fx;refine Cm (.q (.r []) (.q (.q (.r []) (.q (.r []) (.c (.q (.r []) .z) (.q (.r []) (.c (.q (.r []) .z) (.q (.r []) (.c (.q (.r []) .z) (.q (.r []) (.c (.q (.r []) .z) (.q (.r []) (.c (.q (.r []) .z) (.q (.r []) (.c (.q (.r []) .z) .z))))))))))))) (.q (.r []) .z))) ?_;unfold Akl at h2;have ow: ∀ {n5:Nat}{m5:MS}{Q5:PQ}{args5:List AVal},args5=[Dc t]->(∀n',n5<=n'->Gl (Q5 (.bool (O8 t)) ⟨m5,n'⟩))->ACall vE 372 args5 ⟨m5,n5⟩ Q5:=λha hq=>ZL (N:=0) (Afg t) ha hq;generalize UK p t=r at h2 hR;cases hk2:t.kind==2<;>cases hw0:p.want==0<;>cases hw1:p.want==1<;>cases hw2:p.want==2<;>cases hw3:p.want==3<;>cases hw4:p.want==4<;>cases hw5:p.want==5;all_goals try (exfalso;simp only[bc,bw]at hw0 hw1 hw2 hw3 hw4 hw5;omega)
  all_goals simp(disch:=omega) only[hw0,hw1,hw2,hw3,hw4,hw5,hk2,aD,aA,aj,cD,Bool.false_and,dV]at h2;simp(disch:=omega) only[vm,seval,hk2,hg,pc,hl,hw0,hw1,hw2,hw3,hw4,hw5]
  all_goals first|((refine⟨(hR _ _ _ _ _ _ (by simp(disch:=omega) only[vm,seval,hk2];rfl) (.cons _ slr) rfl fx ?_).1⟩<;>first|rfl|(simp(disch:=omega) only[vm,seval,hk2];done)|(subst h2;rfl));done)|(cases hk3:t.kind==3<;>simp(disch:=omega) only[hk3,c7,bg]at h2<;>simp(disch:=omega) only[vm,seval,hk2,hk3]<;>(refine⟨(hR _ _ _ _ _ _ (by simp(disch:=omega) only[vm,seval,hk2];rfl) (.cons _ slr) rfl fx ?_).1⟩<;>first|rfl|(simp(disch:=omega) only[vm,seval,hk2];done)|(subst h2;rfl));done)|(cases hk3:t.text==[44]<;>simp(disch:=omega) only[hk3,c7,bg]at h2<;>simp(disch:=omega) only[vm,seval,hk2,hk3]<;>(refine⟨(hR _ _ _ _ _ _ (by simp(disch:=omega) only[vm,seval,hk2];rfl) (.cons _ slr) rfl fx ?_).1⟩<;>first|rfl|(simp(disch:=omega) only[vm,seval,hk2];done)|(subst h2;rfl));done)|(refine⟨ow (by first|(simp(disch:=omega) only[vm,seval,hk2];done)|rfl) λn5 hn5=>?_⟩;simp(disch:=omega) only[vm,seval,hk2];(refine⟨(hR _ _ _ _ _ _ (by simp(disch:=omega) only[vm,seval,hk2];rfl) (.cons _ slr) rfl fx ?_).1⟩<;>first|rfl|(simp(disch:=omega) only[vm,seval,hk2];done)|(subst h2;rfl));done)|(refine⟨ow (by first|(simp(disch:=omega) only[vm,seval,hk2];done)|rfl) λn5 hn5=>?_⟩;cases hk3:O8 t<;>simp(disch:=omega) only[hk3,c7,bg]at h2<;>simp(disch:=omega) only[vm,seval,hk2,hk3]<;>(refine⟨(hR _ _ _ _ _ _ (by simp(disch:=omega) only[vm,seval,hk2];rfl) (.cons _ slr) rfl fx ?_).1⟩<;>first|rfl|(simp(disch:=omega) only[vm,seval,hk2];done)|(subst h2;rfl));done)
 ·intro k Jk hk h;rcases NF (l:=p.stack)with hs|⟨st,v,hs⟩
  ·have hc:decide ((p.stack.length:Int)>0)=false:=by simp[hs]
   have e:Kn p=[]:=by simp[Kn,hs]
   simp(disch:=omega) only[vm,seval,h.1,hg,pc,hl,hc];refine⟨hk (Kn p) () _ _ _ _ h.2 slr ?_ ?_ ?_ fx⟩<;>first|(simp(disch:=omega) only[vm,seval,h.1,e];done)|rfl
  ·obtain⟨j,ky,pre,junk,rest,h1,h2,h3,h4⟩:=hp.top hs;have hc:decide ((p.stack.length:Int)>0)=true:=by simp[hs]
   have hg2:Af m i=some (pc (.gsl 5 j (st.length+1)) p):=Ga hnd (h2.mem_iff.2 fy);have hg3:Af m j=some (pre++lvl v ky++junk):=Ga hnd (h2.mem_iff.2 fy);have hj:j<n:=by
    rcases aS j n with h|h;·exact h
    ·have:=hkn j h;rw[hg3]at this;cases this
   have hjn:j≠n:=fx;have hl2:0<st.length+1/\st.length+1<=Bg:=⟨fx,by rw[hs]at hlen;simpa using hlen⟩;have hpr:pre.length=(st.length+1-1) * 5:=by simpa using h1
   simp(disch:=omega) only[vm,seval,h.1,hg,pc,hl,hc];refine⟨Wh (i:=i) (j:=j) (len:=st.length+1) (pc:=_) (by rw[Wd fx];exact hg2) hl2 tD λn2 hn2=>?_⟩;simp(disch:=omega) only[vm,seval,h.1,hg3,lvl,drop_at hpr];have e:Kn p=if(v.kind==7)=true then [125]else [93]:=by simp[Kn,hs]
   have hp5:pre.length=st.length * 5:=h1;cases hk7:v.kind==7;all_goals rw[hk7]at e;simp(disch:=omega) only[vm,seval,h.1,Ah5 hp5,hk7];refine⟨hk (Kn p) () _ _ _ _ h.2 slr ?_ ?_ ?_ fx⟩<;>first|(simp(disch:=omega) only[vm,seval,h.1,e];done)|rfl
def AWl:(Sy vE.P 376).map (Cf vE.P)=some (some (.int .i64 0)):=by kernel_rfl
def YN: ∃e,Sy vE.P 376=some e/\Cf vE.P e=some (.int .i64 0):=by have h:=AWl;cases he:Sy vE.P 376 with|none=>rw[he]at h;cases h|some e=>rw[he]at h;simp only[aK,ae]at h;exact⟨e,rfl,h⟩
def AaQ:(Sy vE.P 376).isSome=true:=by obtain⟨e,h1,h2⟩:=YN;rw[h1];rfl
theorem AXL{k q:Nat}{s:B8}:QB vE 376 (.sh k) (.str s) false ⟨(k,[.map (Gq (Gq (Gq [] [110,117,108,108]) [102,97,108,115,101]) [116,114,117,101]) (Ka (Gq (Gq [] [110,117,108,108]) [102,97,108,115,101]) (Ka (Gq [] [110,117,108,108]) (Ka [] [] [110,117,108,108] (.int .i64 1)) [102,97,108,115,101] (.int .i64 2)) [116,114,117,101] (.int .i64 3))])::m,q⟩=some (.int .i64 (XP s)):=by
 obtain⟨e,h1,h2⟩:=YN;have e1:(Gq (Gq (Gq [] [110,117,108,108]) [102,97,108,115,101]) [116,114,117,101])=([[110,117,108,108],[102,97,108,115,101],[116,114,117,101]]:List B8):=fA;have e2:(Ka (Gq (Gq [] [110,117,108,108]) [102,97,108,115,101]) (Ka (Gq [] [110,117,108,108]) (Ka [] [] [110,117,108,108] (.int .i64 1)) [102,97,108,115,101] (.int .i64 2)) [116,114,117,101] (.int .i64 3))=([.int .i64 1,.int .i64 2,.int .i64 3]:List AVal):=by rfl
 rw[e1,e2];simp only[QB,h1,h2,U7,Af,aD,K4,AVal.strip,XP,aj,aA];by_cases a:s=[110,117,108,108];·subst a;rfl
 ·by_cases b:s=[102,97,108,115,101];·subst b;rfl
  ·by_cases c:s=[116,114,117,101];·subst c;rfl
   ·simp[a,b,c]
def Ai4{s:B8}:lkR ((Sy vE.P 376).bind (Cf vE.P)) (some [.map (Gq (Gq (Gq [] [110,117,108,108]) [102,97,108,115,101]) [116,114,117,101]) (Ka (Gq (Gq [] [110,117,108,108]) [102,97,108,115,101]) (Ka (Gq [] [110,117,108,108]) (Ka [] [] [110,117,108,108] (.int .i64 1)) [102,97,108,115,101] (.int .i64 2)) [116,114,117,101] (.int .i64 3))]) s=some (.int .i64 (XP s)):=(ArF (E:=vE) (t:=376) (i:=0) (st:=⟨[(0,_)],0⟩)).symm.trans (AXL (m:=[]) (k:=0) (q:=0))
def AUa{p:JPsr}{i:Nat}{m0:MS}{t:ApiToken}{q:JPsr×Int} (tokNum: ∀ {n:Nat}{m:MS}{Q:PQ}{args:List AVal} {a0 r},IV N a0=some r->args=[.str a0]->(∀n',n<=n'->Gl (Q (.tuple [.str r.1,.int .i64 r.2]) ⟨m,n'⟩))->ACall vE 375 args ⟨m,n⟩ Q) (hp:PS p i m0 m) (hq:Ww N p t=some q) (hnd:0<=p.nodes/\p.nodes<=20000) (hlen:p.stack.length<=Bg) (hb: ∀v,v∈p.stack->v.items.length<=1099511627776) (ha:args=[.ptr i 0,Dc t]) (hQ: ∀n' m',n<=n'->PS q.1 i m0 m'->Gl (Q (.int .i64 q.2) ⟨m',n'⟩)):ACall vE 340 args ⟨m,n⟩ Q:=by
 refine ACall.nodup λhnn=>ACall.known λ_ hkn=>?_;obtain⟨sv,hg,hsv,hput⟩:=hp.put hnn;have hl:=(AAj hsv).2.2;have hi:i<n:=by
  rcases aS i n with h|h;·exact h
  ·have:=hkn i h;rw[hg]at this;cases this
 have h:True/\AA (λv=>some (Sg p v)) (λk=>if(t.kind==4)=true then(IV N t.text).bind λy=>if(y.2 !=0)=true then some (p,144)else k ⟨4,y.1,[],[]⟩else if(t.kind==5)=true then k ⟨XP t.text,[],[],[]⟩else k ⟨5,t.text,[],[]⟩)=some q:=by refine⟨trivial,hq.symm▸?_⟩;unfold Ww AA;rfl
 subst ha;refine Yl Tryz.func340 rfl Tryz.ntmps340 Tryz.results340 (.q (.r []) (.q (.r []) .z)) λR hR=>?_;have hin:i≠n:=fx;simp(disch:=omega) only[vm,seval,h.1];refine⟨TJ (γ:=Bool×Bool) h [6,7,11,12,13,14,15,16,17,18,19,20,21,22,23,24,25,26,27,28,29,30,31,32,33,34] [] (λv g=>[]) (λv g=>(n+1,[.int .i64 v.kind,.str v.text,.slice 1 (v.keys.map AVal.str) g.1,.slice 4 (v.items.map AB) g.2])::(n,[.int .i64 t.kind,.str t.text,.int .i64 t.at_])::m) (.q (.r []) (.c (.q (.r []) (.q (.q (.r []) (.c (.q (.r []) .z) .z)) (.r []))) (.q (.r []) (.c (.r []) .z)))) ?_ ?_⟩<;>clear h
 ·rintro v g n4 hnn4 _ _ h;have h2:Sg p v=q:=by simpa using h.2
  have hms: ∀x,Af (Ar m i x) i=some x:=λx=>H8 hg;have hin4:i≠n+1:=fx;have hw:wr .i64 (p.nodes+1)=p.nodes+1:=ANm ⟨hnd.1,fx⟩;refine Cm (.q (.q (.r []) (.q (.r []) (.c (.q (.r []) .z) .z))) (.q (.r []) (.q (.r []) .z))) ?_;unfold Sg at h2;by_cases hc:p.nodes+1>20000
  ·rw[aq hc]at h2;subst h2;have hc2:decide ((20000:Int)<p.nodes+1)=true:=by simpa using hc
   simp(disch:=omega) only[vm,seval,hg,pc,hl,hms,hw,hc2];refine⟨(hR _ _ _ _ _ _ (by simp(disch:=omega) only[vm,seval];rfl) (.cons _ (.cons _ slr)) fx ?_).1⟩;exact(hQ _ _ fx (hput {p with nodes:=p.nodes+1} rfl)).go
  ·rw[an hc]at h2;subst h2;have hc2:decide ((20000:Int)<p.nodes+1)=false:=by simpa using hc
   simp(disch:=omega) only[vm,seval,hg,pc,hl,hms,hw,hc2];have hps:PS {p with nodes:=p.nodes+1} i ((n+1,[.int .i64 v.kind,.str v.text,.slice 1 (v.keys.map AVal.str) g.1,.slice 4 (v.items.map AB) g.2])::(n,[.int .i64 t.kind,.str t.text,.int .i64 t.at_])::m0) _:=((hput {p with nodes:=p.nodes+1} rfl).more _).more _;refine⟨AD5 (v:=v) hps hlen hb (by first|(simp(disch:=omega) only[vm,seval];done)|rfl) λn5 m5 hn5 h5=>?_⟩;simp(disch:=omega) only[vm,seval];refine⟨(hR _ _ _ _ _ _ (by simp(disch:=omega) only[vm,seval];rfl) slr fx ?_).1⟩;exact(hQ _ _ fx h5.less.less).go
 ·intro k Jk hk h;cases h4:t.kind==4
  ·cases h5:t.kind==5;·simp only[h4,h5,aj,aA]at h;simp(disch:=omega) only[vm,seval,h4,h5];refine⟨hk _ (true,true) _ _ _ _ h.2 slr ?_ ?_ ?_ fx⟩<;>first|(simp(disch:=omega) only[vm,seval];done)|rfl
   ·simp only[h4,h5,aj,aA,aD]at h;simp(disch:=omega) only[vm,seval,h4,h5,AaQ,Ai4];refine⟨hk _ (true,true) _ _ _ _ h.2 (.cons _ slr) ?_ ?_ ?_ fx⟩<;>first|(simp(disch:=omega) only[vm,seval];done)|rfl
  ·simp only[h4,aD]at h;obtain⟨y,h6,h7⟩:=bind_some h.2;simp(disch:=omega) only[vm,seval,h4];refine⟨tokNum h6 (by first|(simp(disch:=omega) only[vm,seval];done)|rfl) λn5 hn5=>?_⟩;cases h8:y.2 !=0;·simp only[h8,aj,aA]at h7;simp(disch:=omega) only[vm,seval,h8];refine⟨hk _ (true,true) _ _ _ _ h7 slr ?_ ?_ ?_ fx⟩<;>first|(simp(disch:=omega) only[vm,seval];done)|rfl
   ·simp only[h8,aD,ae]at h7;subst h7;simp(disch:=omega) only[vm,seval,h8];refine⟨(hR _ _ _ _ _ _ (by simp(disch:=omega) only[vm,seval];rfl) (.cons _ (.cons _ slr)) fx ?_).1⟩;exact(hQ _ _ fx hp).go
def Asp{q:Nat}{pre l junk:List AVal} (h:pre.length=q):List.drop q (pre++l++junk)=l++junk:=by subst h;simp
def Bo{w i l h:Nat} (hi:Bj vE.P 308=some w) (hl:h<=l):FW vE 308 (.gsl w i l) none (some (h:Int)) none=some (.gsl w i h):=by have:(h:Int)<=l:=fx;simp[FW,hi,this]
def ATm {p:JPsr}{i:Nat}{m0:MS}{c:B8}{q:JPsr×Int} (hp:PS p i m0 m) (hq:V6 p c=some q) (hnd:0<=p.nodes/\p.nodes<=20000) (hlen:p.stack.length<=Bg) (hb: ∀v,v∈p.stack->v.items.length<=1099511627776) (ha:args=[.ptr i 0,.str c]) (hQ: ∀n' m',n<=n'->PS q.1 i m0 m'->Gl (Q (.int .i64 q.2) ⟨m',n'⟩)):ACall vE 338 args ⟨m,n⟩ Q:=by
 refine ACall.nodup λhnn=>ACall.known λ_ hkn=>?_;obtain⟨sv,hg,hsv,hput⟩:=hp.put hnn;have hl:=(AAj hsv).2.2;have hi:i<n:=by
  rcases aS i n with h|h;·exact h
  ·have:=hkn i h;rw[hg]at this;cases this
 have hms: ∀x,Af (Ar m i x) i=some x:=λx=>H8 hg;unfold V6 at hq;subst ha;refine Yl Tryz.func338 rfl Tryz.ntmps338 Tryz.results338 (.q (.r []) (.q (.q (.r []) (.q (.r []) (.c (.q (.r []) .z) (.q (.r []) (.c (.q (.r []) .z) (.q (.r []) (.c (.r []) (.q (.r []) (.c (.q (.r []) (.q (.r []) (.c (.r []) .z))) (.q (.r []) (.q .z (.r [])))))))))))) (.q (.r []) .z))) λR hR=>?_;cases h1:c==[91]
 ·cases h2:c==[123]
  ·cases h3:c==[58]
   ·simp only[h1,h2,h3,aj,aA]at hq;rcases NF (l:=p.stack)with hs|⟨st,v,hs⟩;·simp[hs]at hq
    ·simp only[hs,cw,cd,dm,dn]at hq;obtain⟨j,ky,pre,junk,rest,g1,g2,g3,g4⟩:=hp.top hs;have hg2:Af m i=some (pc (.gsl 5 j (st.length+1)) p):=Ga hnn (g2.mem_iff.2 fy);have hg3:Af m j=some (pre++lvl v ky++junk):=Ga hnn (g2.mem_iff.2 fy);have hd:=nd3 hnn g2;have hij:j≠i:=hd.1;have hj:j<n:=by
      rcases aS j n with h|h;·exact h
      ·have:=hkn j h;rw[hg3]at this;cases this
     have hl2:0<st.length+1/\st.length+1<=Bg:=⟨fx,by rw[hs]at hlen;simpa using hlen⟩;have hpr:pre.length=(st.length+1-1) * 5:=by simpa using g1
     have hp5:pre.length=st.length * 5:=g1;cases h4:c==[44]
     ·simp only[h4,aj,aA,ae]at hq;simp(disch:=omega) only[vm,seval,h1,h2,h3,h4];refine⟨Wh (i:=i) (j:=j) (len:=st.length+1) (pc:=_) (by exact hg2) hl2 (by first|(simp(disch:=omega) only[vm,seval];done)|rfl) λn2 hn2=>?_⟩;have hw2:wr .i64 (((st.length+1:Nat):Int)-1)=((st.length:Nat):Int):=by have:(((st.length+1:Nat):Int)-1)=((st.length:Nat):Int):=fx;rw[this];exact AOW (by have:=hl2.2;simp[Bg]at this;omega)
      have hin2:i≠n2:=fx;simp(disch:=omega) only[vm,seval,hg3,lvl,drop_at hpr,Ah5 hp5,Asp hp5];refine⟨Pk [] (.take 0 (.take 1 (.take 2 (.take 3 (.take 4 (.take 5 (.take 6 (.take 7 (.take 8 (.take 9 (.take 10 (.take 11 (.take 12 (.take 13 (.alt 14 [12] (.done) (.stop)))))))))))))))) MR (by kernel_rfl) ?_⟩;simp(disch:=omega) only[vm,seval,hg2,pc,MQ Dx,OZ,Qw,UW,UO,hw2,Bo Vk (fp st.length)];have hps0:PS ⟨st,p.want,p.nodes,p.out⟩ i m0 (Ar m i (pc (.gsl 5 j st.length) ⟨st,p.want,p.nodes,p.out⟩)):=by refine g4 _ (lvl v ky++junk) _ rfl ?_;have:=Va (x:=pc (.gsl 5 j st.length) ⟨st,p.want,p.nodes,p.out⟩) hnn g2;rw[aM]at this;exact this
      have hps:=hps0.more (n2,[.int .i64 v.kind,.str v.text,.slice 1 (v.keys.map AVal.str) false,.slice 4 (v.items.map AB) false]);refine⟨AD5 (v:=v) hps (by simp only[];omega) (λx hx=>hb x (by rw[hs];simp[hx])) (by first|(simp(disch:=omega) only[vm,seval];done)|rfl) λn5 m5 hn5 h5=>?_⟩;simp(disch:=omega) only[vm,seval];refine⟨(hR _ _ _ _ _ _ (by simp(disch:=omega) only[vm,seval];rfl) slr fx ?_).1⟩;have e:NU {p with stack:=(st++[v]).dropLast} v=NU ⟨st,p.want,p.nodes,p.out⟩ v:=by rw[cO]
      rw[e]at hq;subst hq;exact(hQ _ _ fx h5.less).go
     ·simp only[h4,aD,ae]at hq;have hms2: ∀x,Af (Ar m i x) j=some (pre++lvl v ky++junk):=λx=>by rw[Ph hij];exact hg3
      subst hq;simp(disch:=omega) only[vm,seval,h1,h2,h3,h4,hg,pc];refine⟨Wh (i:=i) (j:=j) (len:=st.length+1) (pc:=[.int .i64 0,.int .i64 p.nodes,.int .i64 p.out.kind,.str p.out.text,.slice 1 (p.out.keys.map AVal.str) false,.slice 4 (p.out.items.map AB) false]) (by have e:=hg2.symm.trans hg;simp only[pc,ae,db]at e;rw[hms,<-e.1]) hl2 (by first|(simp(disch:=omega) only[vm,seval];done)|rfl) λn2 hn2=>?_⟩;simp(disch:=omega) only[vm,seval,hms2,lvl,drop_at hpr,Ah5 hp5];cases h7:v.kind==7;·simp(disch:=omega) only[vm,seval,h7];refine⟨(hR _ _ _ _ _ _ (by simp(disch:=omega) only[vm,seval];rfl) slr fx ?_).1⟩;exact(hQ _ _ fx (by simp only[h7,aj,aA];exact hput ⟨st++[v],0,p.nodes,p.out⟩ hs.symm)).go
      ·simp(disch:=omega) only[vm,seval,h7,hms];refine⟨(hR _ _ _ _ _ _ (by simp(disch:=omega) only[vm,seval];rfl) slr fx ?_).1⟩;exact(hQ _ _ fx (by simp only[h7,aD];exact hput ⟨st++[v],2,p.nodes,p.out⟩ hs.symm)).go
   ·simp only[h1,h2,h3,aj,aA,aD,ae]at hq;subst hq;simp(disch:=omega) only[vm,seval,h1,h2,h3,hg,pc,hl];refine⟨(hR _ _ _ _ _ _ (by simp(disch:=omega) only[vm,seval];rfl) slr fx ?_).1⟩;exact(hQ _ _ fx (hput {p with want:=0} rfl)).go
  ·simp only[h1,h2,aj,aA,aD,ae]at hq;subst hq;simp(disch:=omega) only[vm,seval,h1,h2];refine⟨ACv hp hnd (by first|(simp(disch:=omega) only[vm,seval];done)|rfl) λn5 m5 hn5 h5=>?_⟩;simp(disch:=omega) only[vm,seval];refine⟨(hR _ _ _ _ _ _ (by simp(disch:=omega) only[vm,seval];rfl) slr fx ?_).1⟩;exact(hQ _ _ fx h5).go
 ·simp only[h1,aD,ae]at hq;subst hq;simp(disch:=omega) only[vm,seval,h1];refine⟨ACv hp hnd (by first|(simp(disch:=omega) only[vm,seval];done)|rfl) λn5 m5 hn5 h5=>?_⟩;simp(disch:=omega) only[vm,seval];refine⟨(hR _ _ _ _ _ _ (by simp(disch:=omega) only[vm,seval];rfl) slr fx ?_).1⟩;exact(hQ _ _ fx h5).go
def Ab2{p:JPsr}{i:Nat}{m0:MS}{t:ApiToken}{q:JPsr×Int} (tokNum: ∀ {n:Nat}{m:MS}{Q:PQ}{args:List AVal} {a0 r},IV N a0=some r->args=[.str a0]->(∀n',n<=n'->Gl (Q (.tuple [.str r.1,.int .i64 r.2]) ⟨m,n'⟩))->ACall vE 375 args ⟨m,n⟩ Q) (hp:PS p i m0 m) (hq:WI N p t=some q) (hnd:0<=p.nodes/\p.nodes<=20000) (hlen:p.stack.length<=Bg) (hb: ∀v,v∈p.stack->v.keys.length<=1099511627776/\v.items.length<=1099511627776) (ha:args=[.ptr i 0,Dc t]) (hQ: ∀n' m',n<=n'->PS q.1 i m0 m'->Gl (Q (.int .i64 q.2) ⟨m',n'⟩)):ACall vE 278 args ⟨m,n⟩ Q:=by
 refine ACall.nodup λhnn=>ACall.known λ_ hkn=>?_;obtain⟨sv,hg,hsv,hput⟩:=hp.put hnn;have hl:=(AAj hsv).2.2;have hi:i<n:=by
  rcases aS i n with h|h;·exact h
  ·have:=hkn i h;rw[hg]at this;cases this
 have hin:i≠n:=fx;unfold WI at hq;subst ha;refine Yl Tryz.func278 rfl Tryz.ntmps278 Tryz.results278 (.q (.r []) (.q (.q (.r []) (.c (.q (.r []) .z) (.q (.r []) (.c (.q (.r []) .z) (.q (.r []) (.c (.q (.r []) .z) (.q (.r []) (.c (.q (.r []) .z) .z)))))))) (.q (.r []) .z))) λR hR=>?_;simp(disch:=omega) only[vm,seval];refine⟨AaD (m0:=(n,[.int .i64 t.kind,.str t.text,.int .i64 t.at_])::m0) (p:=p) (i:=i) (t:=t) (hp.more _) hlen (by first|(simp(disch:=omega) only[vm,seval];done)|rfl) λn2 hn2=>?_⟩;cases h0:UK p t;·simp only[h0,aD,ae]at hq;subst hq;simp(disch:=omega) only[vm,seval];refine⟨(hR _ _ _ _ _ _ (by simp(disch:=omega) only[vm,seval];rfl) (.cons _ slr) fx ?_).1⟩;exact(hQ _ _ fx hp).go
 ·simp only[h0,eH,aA]at hq;have hps:=hp.more (n,[.int .i64 t.kind,.str t.text,.int .i64 t.at_]);cases h1:t.kind==2
  ·simp only[h1,aj,aA]at hq;cases h2:p.want==2||p.want==3
   ·simp only[h2,aj,aA]at hq;obtain⟨h3,h4⟩:=Bool.or_eq_false_iff.1 h2;cases h5:t.kind==1;·simp only[h5,aj,aA]at hq;simp(disch:=omega) only[vm,seval,h1,h3,h4,h5,hg,pc,hl];refine⟨AUa (i:=i) (t:=t) tokNum hps hq hnd hlen (λv hv=>(hb v hv).2) (by first|(simp(disch:=omega) only[vm,seval];done)|rfl) λn5 m5 hn5 h6=>?_⟩;simp(disch:=omega) only[vm,seval];refine⟨(hR _ _ _ _ _ _ (by simp(disch:=omega) only[vm,seval];rfl) slr fx ?_).1⟩;exact(hQ _ _ fx h6.less).go
    ·simp only[h5,aD,ae]at hq;subst hq;simp(disch:=omega) only[vm,seval,h1,h3,h4,h5,hg,pc,hl];refine⟨(hR _ _ _ _ _ _ (by simp(disch:=omega) only[vm,seval];rfl) (.cons _ slr) fx ?_).1⟩;exact(hQ _ _ fx hp).go
   ·simp only[h2,aD]at hq;cases h3:p.want==2
    ·have h4:(p.want==3)=true:=by simpa[h3]using h2
     simp(disch:=omega) only[vm,seval,h1,h3,h4,hg,pc,hl];refine⟨ARJ (i:=i) hps hq hlen (λv hv=>(hb v hv).1) (by first|(simp(disch:=omega) only[vm,seval];done)|rfl) λn5 m5 hn5 h6=>?_⟩;simp(disch:=omega) only[vm,seval];refine⟨(hR _ _ _ _ _ _ (by simp(disch:=omega) only[vm,seval];rfl) slr fx ?_).1⟩;exact(hQ _ _ fx h6.less).go
    ·simp(disch:=omega) only[vm,seval,h1,h3,hg,pc,hl];refine⟨ARJ (i:=i) hps hq hlen (λv hv=>(hb v hv).1) (by first|(simp(disch:=omega) only[vm,seval];done)|rfl) λn5 m5 hn5 h6=>?_⟩;simp(disch:=omega) only[vm,seval];refine⟨(hR _ _ _ _ _ _ (by simp(disch:=omega) only[vm,seval];rfl) slr fx ?_).1⟩;exact(hQ _ _ fx h6.less).go
  ·simp only[h1,aD]at hq;simp(disch:=omega) only[vm,seval,h1];refine⟨ATm (i:=i) hps hq hnd hlen (λv hv=>(hb v hv).2) (by first|(simp(disch:=omega) only[vm,seval];done)|rfl) λn5 m5 hn5 h6=>?_⟩;simp(disch:=omega) only[vm,seval];refine⟨(hR _ _ _ _ _ _ (by simp(disch:=omega) only[vm,seval];rfl) slr fx ?_).1⟩;exact(hQ _ _ fx h6.less).go
section cells
variable{E:Env}{F:Nat->Nat}{Γ:Ghost}{w:World}{a:Act}{af:List AVal}{st:St}
def QR (b:Nat): ∀(xs:List AVal) (vs:List Value) (i:Nat),AO b (xs.set i (xs.getD i .any).strip) vs<=AO b xs vs|[],_,_=>by simp[AO]|x::xs,[],i=>by cases i<;>simp[AO]|x::xs,v::vs,0=>by have:=IE b x v;simp only[dA,ca,AO];omega|x::xs,v::vs,i+1=>by have:=QR b xs vs i;simp only[cS,cF,AO];omega
def Sim.stripCell{i:Nat}{cs:List AVal} (p:Nat) (hs:Sim E F Γ st w af a.tmps.toList) (hg:Af st.m i=some cs):Sim E F Γ {st with m:=Ar st.m i (cs.set p (cs.getD p .any).strip)} w af a.tmps.toList:=by
 rcases hs.box_ok _ (Kv hg)with⟨b,arr,e,hb⟩|⟨v,hv⟩;rotate_left;·exact hs.setSh hg hv (hv.rep.setStrip p) (hv.own.setStrip p) λn=>by have:=QR n cs [v] p;have h2:=hs.tok n;omega
 obtain⟨lo,hi,hh,hf⟩:=hb.heap;exact(hs.setBox (w':=w) (cs':=cs.set p (cs.getD p .any).strip) (arr':=arr) (lo:=lo) (hi:=hi) hg hb hh hf (λ_ _=>rfl) rfl rfl rfl rfl (by rw[bX];exact hb.rep.setStrip p) (hb.own.setStrip p) (by rw[bX];exact hb.one) (λn=>by have:=QR n cs arr.toList p;have h2:=hs.tok n;omega)).1
def U6{c:Code}{Q:APost}{i:Nat}{cs:List AVal} (p:Nat) (hg:Af st.m i=some cs) (h:AWp E c Q af {st with m:=Ar st.m i (cs.set p (cs.getD p .any).strip)}):AWp E c Q af st:=⟨λF Γ w a hd hs=>h.go F Γ w a hd (Sim.stripCell p hs hg)⟩
end cells
def BD (p:JPsr) (k:Nat):Prop:=k<=1099511627776/\0<=p.nodes/\p.nodes<=20000/\p.stack.length<=64/\ ∀v,v∈p.stack->v.keys.length+k<=1099511627776/\v.items.length+k<=1099511627776
instance (p:JPsr) (k:Nat):Decidable (BD p k):=by unfold BD;exact inferInstance
def PS.all{p:JPsr}{i x:Nat}{c:List AVal}{m0 m:MS} (h:PS p i ((x,c)::m0) m): ∃Y:MS,m.Perm ((x,c)::(Y++m0)):=by cases h with|nil X hs h=>exact⟨(i,pc (.slice 5 [] true) p)::X,h.trans (by simpa using dw (a:=(x,c)) (l₁:=(i,pc (.slice 5 [] true) p)::X) (l₂:=m0))⟩|box j ks junk X hk h=>exact⟨(i,pc (.gsl 5 j p.stack.length) p)::(j,V7 p.stack ks++junk)::(maps p.stack ks++X),h.trans (by simpa using dw (a:=(x,c)) (l₁:=(i,pc (.gsl 5 j p.stack.length) p)::(j,V7 p.stack ks++junk)::(maps p.stack ks++X)) (l₂:=m0))⟩
def BD.put{p:JPsr}{v:ApiValue}{k:Nat} (h:BD p (k+1)) (h2:(Sg p v).2=0):BD (Sg p v).1 k:=by
 obtain⟨hk,h3,h4,h5,h6⟩:=h;unfold Sg at h2⊢;by_cases hc:p.nodes+1>20000;·rw[aq hc]at h2;cases h2
 ·rw[an hc];unfold NU;rcases NF (l:=p.stack)with hs|⟨st,w,hs⟩;·simp only[hs,List.getLast?_nil];exact⟨fx,by simp only[];omega,by simp only[];omega,fy,fy⟩
  ·simp only[hs,cw,cd,dm,dn,cO];rw[hs]at h5 h6;refine⟨fx,by simp only[];omega,by simp only[];omega,by simpa using h5,λx hx=>?_⟩;simp only[aX,aV]at hx;rcases hx with hx|rfl;·have:=h6 x (by simp[hx]);omega
   ·have:=h6 w fy;simp only[ah,ag,ap];omega
def BD.take{p:JPsr}{t:ApiToken}{q:JPsr×Int}{k:Nat} (h:BD p (k+1)) (hq:WI N p t=some q) (h2:q.2=0):BD q.1 k:=by
 have less:BD p k:=⟨by have:=h.1;omega,h.2.1,h.2.2.1,h.2.2.2.1,λv hv=>by have:=h.2.2.2.2 v hv;omega⟩;obtain⟨hk,h3,h4,h5,h6⟩:=h;have opn: ∀kd w,(Le p kd w).2=0->BD (Le p kd w).1 k:=by
  intro kd w h;unfold Le at h⊢;by_cases a:p.stack.length>=64;·rw[aq a]at h;cases h
  ·rw[an a]at h⊢;by_cases b:p.nodes+1>20000;·rw[aq b]at h;cases h
   ·rw[an b];refine⟨fx,by simp only[];omega,by simp only[];omega,by simp only[ah,ag,ap];omega,λx hx=>?_⟩;simp only[aX,aV]at hx;rcases hx with hx|rfl;·have:=h6 x hx;omega
    ·simp only[ap];omega
 unfold WI at hq;split at hq;·cases hq;cases h2
 ·split at hq
  ·unfold V6 at hq;split at hq;·cases hq;exact opn _ _ h2
   ·split at hq;·cases hq;exact opn _ _ h2
    ·split at hq;·cases hq;exact less
     ·rcases NF (l:=p.stack)with hs|⟨st,w,hs⟩;·simp[hs]at hq
      ·simp only[hs,cw,cd,dm,dn,cO]at hq;split at hq;·cases hq;exact⟨less.1,less.2.1,less.2.2.1,by rw[<-hs];exact less.2.2.2.1,λv hv=>less.2.2.2.2 v (by rw[hs];exact hv)⟩
       ·cases hq;rw[hs]at h5 h6;unfold NU;rcases NF (l:=st)with hs2|⟨st2,w2,hs2⟩;·simp only[hs2,List.getLast?_nil];exact⟨less.1,less.2.1,less.2.2.1,fy,fy⟩
        ·simp only[hs2,cw,cd,dm,dn,cO];rw[hs2]at h5 h6;refine⟨less.1,less.2.1,less.2.2.1,by simp at h5⊢;omega,λx hx=>?_⟩;simp only[aX,aV]at hx;rcases hx with hx|rfl;·have:=h6 x (by simp[hx]);omega
         ·have:=h6 w2 fy;simp only[ah,ag,ap];omega
  ·split at hq
   ·unfold Zv at hq;rcases NF (l:=p.stack)with hs|⟨st,w,hs⟩;·simp[hs]at hq
    ·simp only[hs,cw,cd,dm,dn,cO]at hq;split at hq;·cases hq;cases h2
     ·cases hq;rw[hs]at h5 h6;refine⟨less.1,less.2.1,less.2.2.1,by simpa using h5,λx hx=>?_⟩;simp only[aX,aV]at hx;rcases hx with hx|rfl;·have:=h6 x (by simp[hx]);omega
      ·have:=h6 w fy;simp only[ah,ag,ap];omega
   ·split at hq;·cases hq;exact less
    ·unfold Ww at hq;split at hq
     ·obtain⟨y,h7,h8⟩:=bind_some hq;split at h8;·cases h8;cases h2
      ·cases h8;exact BD.put ⟨hk,h3,h4,h5,h6⟩ h2
     ·split at hq;·cases hq;exact BD.put ⟨hk,h3,h4,h5,h6⟩ h2
      ·cases hq;exact BD.put ⟨hk,h3,h4,h5,h6⟩ h2
def JS (i:Nat) (m0:MS):Type:= {x:Int×JPsr×MS // PS x.2.1 i m0 x.2.2}
def JG (N:Nat) (a0:B8){i:Nat}{m0:MS} (k:Nat) (x:JS i m0):Option (ApiValue×Int×Int):=grd (BD x.1.2.1 k) (Wi N a0 k x.1.1 x.1.2.1)
def JG0{a0:B8}{i:Nat}{m0:MS}{x:JS i m0}:JG N a0 0 x=none:=by unfold JG grd;split<;>rfl
def AVp{a0:B8}{r:ApiValue×Int×Int} (tokNum: ∀ {n:Nat}{m:MS}{Q:PQ}{args:List AVal} {a0 r},IV N a0=some r->args=[.str a0]->(∀n',n<=n'->Gl (Q (.tuple [.str r.1,.int .i64 r.2]) ⟨m,n'⟩))->ACall vE 375 args ⟨m,n⟩ Q) (tokNext: ∀ {n:Nat}{m:MS}{Q:PQ}{args:List AVal} {a0 a1 r},QS N a0 a1=some r->args=[.str a0,.int .i64 a1]->(∀n',n<=n'->Gl (Q (.tuple [Dc r.1,.int .i64 r.2.1,.int .i64 r.2.2]) ⟨m,n'⟩))->ACall vE 277 args ⟨m,n⟩ Q) (h:J7 N a0=some r) (ha:args=[.str a0]) (hQ: ∀n',n<=n'->Gl (Q (.tuple [AB r.1,.int .i64 r.2.1,.int .i64 r.2.2]) ⟨m,n'⟩)):ACall vE 188 args ⟨m,n⟩ Q:=by
 unfold J7 at h;by_cases hN:N>1099511627776;·rw[aq hN]at h;cases h
 rw[an hN]at h;subst ha;refine Aun hQ Tryz.func188 rfl Tryz.ntmps188 Tryz.results188 (.q (.r []) (.q (.q (.r []) (.c (.q (.r []) .z) .z)) (.q (.r []) (.q (.r []) .z)))) λR hR=>?_;by_cases hl:a0.length>1048576
 ·rw[aq hl]at h;cases h;have hc:decide ((1048576:Int)<(a0.length:Int))=true:=by simp;omega
  simp(disch:=omega) only[vm,seval,hc];refine⟨(hR _ _ _ _ _ _ (by simp(disch:=omega) only[vm,seval];rfl) (.cons _ slr) rfl fx ?_).1⟩;simp(disch:=omega) only[vm,seval,Jn,Hq]
 ·rw[an hl]at h;have hc:decide ((1048576:Int)<(a0.length:Int))=false:=by simp;omega
  simp(disch:=omega) only[vm,seval,hc];have hnn:n+1≠n:=fx;refine⟨U6 (i:=n+1) 5 AJP (U6 (i:=n+1) 6 (by simp only[vm];rfl) ?_)⟩;simp(disch:=omega) only[vm,seval];generalize hcell:([.int .i64 0,.str [],.slice 1 [] true,.slice 4 [] true]:List AVal)=cell;have hcl:cell.length=4:=by subst hcell;rfl
  have s0:PS ⟨[],0,0,Jn⟩ (n+1) ((n,cell)::m) ((n+1,pc (.slice 5 [] true) ⟨[],0,0,Jn⟩)::(n,cell)::m):=.nil [] rfl (cX _);have hG:True/\JG N a0 N (⟨(0,⟨[],0,0,Jn⟩,(n+1,pc (.slice 5 [] true) ⟨[],0,0,Jn⟩)::(n,cell)::m),s0⟩:JS (n+1) ((n,cell)::m))=some r:=by refine⟨trivial,?_⟩;have:BD ⟨[],0,0,Jn⟩ N:=⟨Nat.not_lt.1 hN,fy,fy,fy,fy⟩;simp only[JG,grd,aq this];exact h
  refine AkY (σ:=JS (n+1) ((n,cell)::m)) (γ:=Unit) (JG N a0) (λx _=>[.int .i64 x.1.1]) (λx _=>x.1.2.2) [7,8,9,10,15,16,17,18,19,20,21,22,23,24,25,26,27,28,29,30,31,32,33,34,35,36,37,38,39,40,41,42] [6] ⟨(0,⟨[],0,0,Jn⟩,(n+1,pc (.slice 5 [] true) ⟨[],0,0,Jn⟩)::(n,cell)::m),s0⟩ () hG (λx=>JG0) ?_ ?_ ?_;·simp only[pc,Jn,cp]
  ·simp(disch:=omega) only[vm,seval]
  rintro k ⟨⟨at_,p,m1⟩,hps⟩ _ n1 hn1 hk1 h1 Jk hJ;simp only at hps hk1 h1 hJ;refine AWp.nodup λhnd=>?_;refine Cm (.q (.r []) (.q (.q (.r []) (.c .z .z)) (.q (.q (.r []) (.q (.r []) (.c .z .z))) .z))) ?_;obtain⟨hbd,h2⟩:=AAv (show grd (BD p (k+1)) (Wi N a0 (k+1) at_ p)=some r from h1.2);rw[Wi]at h2;obtain⟨y,h3,h4⟩:=bind_some h2;simp(disch:=omega) only[vm,seval];refine⟨tokNext h3 (by first|(simp(disch:=omega) only[vm,seval];done)|rfl) λn2 hn2=>?_⟩;have hn12:n<n1:=fx;have hfin: ∀(x:ApiValue) (a b:Int),True:=λ_ _ _=>trivial;subst hcell;have hnp:n+1<n1:=by
   rcases aS (n+1) n1 with h|h;·exact h
   ·obtain⟨sv,hg,_⟩:=hps.put hnd;have:=hk1 (n+1) h;rw[hg]at this;cases this
  have hn_2:n≠n2:=fx;have hp_2:n+1≠n2:=fx;cases h5:y.2.2 !=0
  ·simp only[h5,aj,aA]at h4;obtain⟨q,h6,h7⟩:=bind_some h4;simp(disch:=omega) only[vm,seval,h5];have hps2:=hps.more (n2,[.int .i64 y.1.kind,.str y.1.text,.int .i64 y.1.at_]);refine⟨Ab2 (i:=n+1) tokNum hps2 h6 ⟨hbd.2.1,hbd.2.2.1⟩ (by have:=hbd.2.2.2.1;simp[Bg];omega) (λv hv=>by have:=hbd.2.2.2.2 v hv;omega) (by first|(simp(disch:=omega) only[vm,seval];done)|rfl) λn5 m5 hn5 h8=>?_⟩;have hln: ∀x c,(x,c)∈(n2,[.int .i64 y.1.kind,.str y.1.text,.int .i64 y.1.at_])::(n,[.int .i64 0,.str [],.slice 1 [] true,.slice 4 [] true])::m->(m5.map (·.1)).Nodup->Af m5 x=some c:=λx c hx hd=>h8.get hd hx;have hpm: ∃Y:MS,m5.Perm ((n,[.int .i64 0,.str [],.slice 1 [] true,.slice 4 [] true])::(n2,[.int .i64 y.1.kind,.str y.1.text,.int .i64 y.1.at_])::(Y++m)):=by obtain⟨Y,hY⟩:=h8.all;refine⟨Y,hY.trans ?_⟩;refine(cG _ ?_).trans (cv _ _ _);simp
   cases h9:q.2 !=0
   ·simp only[h9,aj,aA]at h7;simp(disch:=omega) only[vm,seval,h9];refine⟨AWp.nodup λhd5=>?_⟩;have ht5:=hln n2 _ dE hd5;obtain⟨sv,hg5,hsv5,_⟩:=h8.put hd5;refine Cm (.q (.q (.r []) (.c .z .z)) (.r [])) ?_;cases h10:y.1.kind==1
    ·simp only[h10,aj,aA]at h7;simp(disch:=omega) only[vm,seval,ht5,h10];have hps5:PS q.1 (n+1) ((n,[.int .i64 0,.str [],.slice 1 [] true,.slice 4 [] true])::m) m5:=h8.less;have hb5:BD q.1 k:=BD.take hbd h6 (by simpa using h9);have hg:JG N a0 k (⟨(y.2.1,q.1,m5),hps5⟩:JS (n+1) ((n,[.int .i64 0,.str [],.slice 1 [] true,.slice 4 [] true])::m))=some r:=by simp only[JG,grd,aq hb5];exact h7
     refine⟨hJ _ () _ _ _ _ hg slr rfl ?_ ?_ fx⟩<;>first|(simp(disch:=omega) only[vm,seval];done)|rfl
    ·simp only[h10,aD,ae]at h7;subst h7;simp(disch:=omega) only[vm,seval,ht5,h10];obtain⟨Y,hY⟩:=hpm;have hgp:Af ((n,[.int .i64 0,.str [],.slice 1 [] true,.slice 4 [] true])::(n2,[.int .i64 y.1.kind,.str y.1.text,.int .i64 y.1.at_])::(Y++m)) (n+1)=some (pc sv q.1):=by refine Ga (VE hY hd5) (hY.mem_iff.1 ?_);exact Kv hg5
     have hgp2:Af (Y++m) (n+1)=some (pc sv q.1):=by rw[Wd fx,Wd fx]at hgp;exact hgp
     refine⟨Z5 hY ?_⟩;refine Cm (.q (.r []) .z) ?_;simp(disch:=omega) only[vm,seval,hgp2,pc];refine⟨(hR _ _ _ _ _ _ (by simp(disch:=omega) only[vm,seval];rfl) (.cons _ (.cons _ (cJ Y m))) rfl fx ?_).1⟩;simp(disch:=omega) only[vm,seval,Hq]
   ·simp only[h9,aD,ae]at h7;subst h7;simp(disch:=omega) only[vm,seval,h9];obtain⟨Y,hY⟩:=hpm;refine⟨Z5 hY ?_⟩;refine Cm (.q .z .z) ?_;simp(disch:=omega) only[vm,seval];refine⟨Pk [] (.take 1 (.take 2 (.take 3 (.alt 0 [3,2,1] (.alt 4 [3,2,1] (.alt 5 [3] (.alt 6 [] (.done) (.stop)) (.stop)) (.stop)) (.stop))))) MR (by kernel_rfl) ?_⟩;simp(disch:=omega) only[vm,seval];refine⟨(hR _ _ _ _ _ _ (by simp(disch:=omega) only[vm,seval];rfl) (.cons _ (.cons _ (cJ Y m))) rfl fx ?_).1⟩;simp(disch:=omega) only[vm,seval,Jn,Hq]
  ·simp only[h5,aD,ae]at h4;subst h4;simp(disch:=omega) only[vm,seval,h5];obtain⟨Y,hY⟩:=hps.all;refine⟨Z5 ((hY.cons _).trans (cv _ _ _)) ?_⟩;refine Cm (.q (.r []) .z) ?_;simp(disch:=omega) only[vm,seval];refine⟨(hR _ _ _ _ _ _ (by simp(disch:=omega) only[vm,seval];rfl) (.cons _ (.cons _ (cJ Y m))) rfl fx ?_).1⟩;simp(disch:=omega) only[vm,seval,Jn,Hq]
def ZC {a0 r} (h:J7 N a0=some r) (ha:args=[.str a0]) (hQ: ∀n',n<=n'->Gl (Q (.tuple [AB r.1,.int .i64 r.2.1,.int .i64 r.2.2]) ⟨m,n'⟩)):ACall vE 188 args ⟨m,n⟩ Q:=AVp (λh ha hq=>AAR h ha hq) (λh ha hq=>AKn h ha hq) h ha hQ
instance Aet {a0}:CF vE (J7 N a0) 188 [.str a0] (λr=>.tuple [AB r.1,.int .i64 r.2.1,.int .i64 r.2.2]):=⟨λh hQ=>ZC h rfl hQ⟩
end Go.Proofs.YtfbofngnmfcomaaGreatDoor
