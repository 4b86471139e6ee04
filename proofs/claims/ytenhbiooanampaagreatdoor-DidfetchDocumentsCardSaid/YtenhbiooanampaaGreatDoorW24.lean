import Derived.Test.YtenhbiooanampaaGreatDoorW20
set_option linter.unusedVariables false
set_option linter.unusedSimpArgs false
set_option maxHeartbeats 4000000
set_option maxRecDepth 100000
set_option linter.defProp false
namespace Go.Proofs.YtenhbiooanampaaGreatDoor
open Go.VM Tryz
attribute [local irreducible] AA grd letL
variable{N n:Nat}{m:MS}{Q:PQ}{args:List AVal}
def Mi{t:TypeId}{w i l:Nat} (h:BZ vE.P t=true):Rx vE t (.gsl w i l)=some (.int .i64 l):=by simp[Rx,h]
theorem PU{w i l:Nat}:(AVal.gsl w i l).strip=.gsl w i l:=rfl
theorem Rj{w i l:Nat}:AZ (.gsl w i l)=[.gsl w i l]:=rfl
theorem VE{w i l:Nat}:Ce (.gsl w i l)=true:=rfl
theorem VL{w i l:Nat}:MJ (.gsl w i l)=false:=rfl
def AZQ{i l:Nat} (h:0<l/\l<=CX):DR vE 180 (.gsl 5 i l) (.int .i64 (wr .i64 ((l:Int)-1)))=some (.ptr i ((l-1) * 5)):=by
 have e:wr .i64 ((l:Int)-1)=((l-1:Nat):Int):=by have h2:=h.2;have h1:((l:Int)-1)=((l-1:Nat):Int):=fH;rw[h1];exact ARL fH
 rw[e];have h3:l-1<l:=fH;simp[DR,Wo,h3]
def ARp{i j len:Nat}{pc:List AVal} (hl:0<len/\len<=CX) (ha:args=[.ptr i 0]) (hQ: ∀n',n<=n'->Gl (Q (.ptr j ((len-1)*5)) ⟨(i,.gsl 5 j len::pc)::m,n'⟩)):ACall vE 281 args ⟨(i,.gsl 5 j len::pc)::m,n⟩ Q:=by have h:True/\True:=⟨trivial,trivial⟩;subst ha;refine ent hQ func281 rfl ntmps281 results281 (.q (.r []) (.q .z .z)) λR hR=>?_;simp(disch:=omega) only[vm,seval,h.1];refine⟨QQ [] (.take 0 (.take 1 (.take 2 (.take 3 (.take 4 (.take 5 (.take 6 (.take 7 (.take 8 (.take 9 (.take 10 (.alt 11 [] (.done) (.stop))))))))))))) M0 (by kernel_rfl) ?_⟩;simp(disch:=omega) only[vm,seval,h.1,Mi EM,PU,AZQ hl];refine⟨(hR _ _ _ _ _ _ (by simp(disch:=omega) only[vm,seval,h.1];rfl) slr ?_ fH ?_).1⟩<;>first|(simp(disch:=omega) only[vm,seval,h.1];done)|rfl
def XT{i j len:Nat}{pc:List AVal} (hm:Ag m i=some (.gsl 5 j len::pc)) (hl:0<len/\len<=CX) (ha:args=[.ptr i 0]) (hQ: ∀n',n<=n'->Gl (Q (.ptr j ((len-1)*5)) ⟨m,n'⟩)):ACall vE 281 args ⟨m,n⟩ Q:=by have h:True/\True:=⟨trivial,trivial⟩;subst ha;refine ent hQ func281 rfl ntmps281 results281 (.q (.r []) (.q .z .z)) λR hR=>?_;simp(disch:=omega) only[vm,seval,h.1,hm];refine⟨QQ [] (.take 0 (.take 1 (.take 2 (.take 3 (.take 4 (.take 5 (.take 6 (.take 7 (.take 8 (.take 9 (.take 10 (.alt 11 [] (.done) (.stop))))))))))))) M0 (by kernel_rfl) ?_⟩;simp(disch:=omega) only[vm,seval,h.1,Mi EM,PU,AZQ hl,hm];refine⟨(hR _ _ _ _ _ _ (by simp(disch:=omega) only[vm,seval,h.1,hm];rfl) slr ?_ fH ?_).1⟩<;>first|(simp(disch:=omega) only[vm,seval,h.1,hm];done)|rfl
def AYL:(Tx vE.P 321).map (Ct vE.P)=some (some (.bool false)):=by kernel_rfl
def U1: ∃e,Tx vE.P 321=some e/\Ct vE.P e=some (.bool false):=by have h:=AYL;cases he:Tx vE.P 321 with|none=>rw[he]at h;cases h|some e=>rw[he]at h;simp only[aN,ag]at h;exact⟨e,rfl,h⟩
def ATp{s:B8}: ∀ {keys:List B8},s∈keys->LA keys (keys.map λ_=>AVal.bool true) s=some (.bool true)
 | k::ks,h=>by
  simp only[aF,LA];split;·rfl
  ·rename_i hn;rcases aM.1 h with h|h;·exact absurd h hn
   ·exact ATp h
def AEb{s:B8}: ∀ {keys:List B8},s∉keys->LA keys (keys.map λ_=>AVal.bool true) s=none|[],_=>rfl|k::ks,h=>by simp only[aM,fG]at h;simp only[aF,LA];rw[aj h.1];exact AEb h.2
def AR6{s:B8}{x:AVal}: ∀ {keys:List B8}{vs:List AVal},s∉keys->vs.length=keys.length->He keys s=keys++[s]/\K3 keys vs s x=vs++[x]|[],[],_,_=>⟨rfl,rfl⟩|[],_::_,_,h=>by simp at h|k::ks,[],_,h=>by simp at h|k::ks,v::vs,h,hl=>by simp only[aM,fG]at h;obtain⟨h1,h2⟩:=AR6 (x:=x) h.2 (by simpa using hl:vs.length=ks.length);simp only[He,K3,aj h.1,h1,h2,bz,and_self]
def Ash{k:Nat}{s:B8}{keys:List B8}{st:St} (hm:Ag st.m k=some [.map keys (keys.map λ_=>.bool true)]) (hin:s∈keys):Q0 vE 321 (.sh k) (.str s) false st=some (.bool true):=by obtain⟨e,h1,h2⟩:=U1;simp[Q0,h1,h2,V7,hm,ATp hin,AVal.strip]
def AoG{k:Nat}{s:B8}{keys:List B8}{st:St} (hm:Ag st.m k=some [.map keys (keys.map λ_=>.bool true)]) (hin:s∉keys):Q0 vE 321 (.sh k) (.str s) false st=some (.bool false):=by obtain⟨e,h1,h2⟩:=U1;simp[Q0,h1,h2,V7,hm,AEb hin,AVal.strip]
def AqS{k:Nat}{s:B8}{keys:List B8}{st:St} (hm:Ag st.m k=some [.map keys (keys.map λ_=>.bool true)]) (hin:s∉keys):ABU vE 321 (.sh k) (.str s) (.bool true) st=some {st with m:=A7 st.m k [.map (keys++[s]) ((keys++[s]).map λ_=>.bool true)]}:=by obtain⟨e,h1,h2⟩:=U1;obtain⟨h3,h4⟩:=AR6 (x:=AVal.bool true) (vs:=keys.map λ_=>AVal.bool true) hin fI;simp[ABU,h1,V7,hm,h3,h4]
def drop_at{q c:Nat}{pre l junk:List AVal} (h:pre.length=q):List.drop (q+c) (pre++l++junk)=List.drop c (l++junk):=by subst h;rw[aH,cu];simp
def get_at{q c:Nat}{pre l junk:List AVal} (h:pre.length=q):(pre++l++junk)[q+c]?=(l++junk)[c]?:=by subst h;rw[aH,eI fH];congr 1;omega
def AmZ{q c:Nat}{x:AVal}{pre l junk:List AVal} (h:pre.length=q) (hc:decide (c<l.length)=true):(pre++l++junk).set (q+c) x=pre++l.set c x++junk:=by
 subst h;have hc:c<l.length:=by simpa using hc
 rw[aH,dj _ _ fH,List.set_append_left _ _ fH,aH];congr 2;congr 1;omega
def Ayn{q:Nat}{a b c d e x:AVal}{pre junk:List AVal} (h:pre.length=q):(pre++[a,b,c,d,e]++junk).set (q+2) x=pre++[a,b,x,d,e]++junk:=AmZ h rfl
def Atj{q:Nat}{a b c d e x:AVal}{pre junk:List AVal} (h:pre.length=q):(pre++[a,b,c,d,e]++junk).set (q+3) x=pre++[a,b,c,x,e]++junk:=AmZ h rfl
def Ad4{i j k len:Nat}{pre junk:List AVal}{keys:List B8}{kd wt nd text it o1 o2 o3 o4:AVal}{s:B8} (hd:j≠i/\k≠i/\k≠j) (hp:pre.length=(len-1) * 5) (hl:0<len/\len<=CX) (ha:args=[.ptr i 0,.str s]) (hin:s∈keys) (hQ: ∀n',n<=n'->Gl (Q (.int .i64 143) ⟨(i,[.gsl 5 j len,wt,nd,o1,o2,o3,o4])::(j,pre++[kd,text,.slice 1 (keys.map AVal.str) true,it,.sh k]++junk)::(k,[.map keys (keys.map λ_=>.bool true)])::m,n'⟩)):ACall vE 206 args ⟨(i,[.gsl 5 j len,wt,nd,o1,o2,o3,o4])::(j,pre++[kd,text,.slice 1 (keys.map AVal.str) true,it,.sh k]++junk)::(k,[.map keys (keys.map λ_=>.bool true)])::m,n⟩ Q:=by
 have h:True/\True:=⟨trivial,trivial⟩;obtain⟨hd1,hd2,hd3⟩:=hd;subst ha;refine ent hQ func206 rfl ntmps206 results206 (.q (.r []) (.q (.r []) (.q (.q (.r []) (.c (.q (.r []) .z) .z)) .z))) λR hR=>?_;simp(disch:=omega) only[vm,seval,h.1];refine⟨ARp hl tD λn2 hn2=>?_⟩;have hg:Ag ((i,[.gsl 5 j len,wt,nd,o1,o2,o3,o4])::(j,pre++[kd,text,.slice 1 (keys.map AVal.str) true,it,.sh k]++junk)::(k,[.map keys (keys.map λ_=>.bool true)])::m) k=some [.map keys (keys.map λ_=>.bool true)]:=by simp[Ag,hd2,hd3]
 have hlk:=Ash (st:=⟨_,n2⟩) hg hin;simp(disch:=omega) only[vm,seval,h.1,drop_at hp,ZT,AXw,hlk];refine⟨(hR _ _ _ _ _ _ (by simp(disch:=omega) only[vm,seval,h.1];rfl) slr rfl fH ?_).1⟩<;>first|(simp(disch:=omega) only[vm,seval,h.1];done)|rfl
def AY5{i j k len:Nat}{pre junk:List AVal}{keys:List B8}{kd wt nd text it o1 o2 o3 o4:AVal}{s:B8} (hd:j≠i/\k≠i/\k≠j) (hp:pre.length=(len-1) * 5) (hl:0<len/\len<=CX) (ha:args=[.ptr i 0,.str s]) (hin:s∉keys) (hb:keys.length<=1099511627776) (hQ: ∀n',n<=n'->Gl (Q (.int .i64 0) ⟨(i,[.gsl 5 j len,.int .i64 4,nd,o1,o2,o3,o4])::(j,pre++[kd,text,.slice 1 ((keys++[s]).map AVal.str) true,it,.sh k]++junk)::(k,[.map (keys++[s]) ((keys++[s]).map λ_=>.bool true)])::m,n'⟩)):ACall vE 206 args ⟨(i,[.gsl 5 j len,wt,nd,o1,o2,o3,o4])::(j,pre++[kd,text,.slice 1 (keys.map AVal.str) true,it,.sh k]++junk)::(k,[.map keys (keys.map λ_=>.bool true)])::m,n⟩ Q:=by
 have h:True/\True:=⟨trivial,trivial⟩;obtain⟨hd1,hd2,hd3⟩:=hd;subst ha;refine ent hQ func206 rfl ntmps206 results206 (.q (.r []) (.q (.r []) (.q (.q (.r []) (.c (.q (.r []) .z) .z)) (.q (.r []) (.q (.r [24]) (.q (.r []) (.q (.r []) .z))))))) λR hR=>?_;simp(disch:=omega) only[vm,seval,h.1];refine⟨ARp hl tD λn2 hn2=>?_⟩;have hg:Ag ((i,[.gsl 5 j len,wt,nd,o1,o2,o3,o4])::(j,pre++[kd,text,.slice 1 (keys.map AVal.str) true,it,.sh k]++junk)::(k,[.map keys (keys.map λ_=>.bool true)])::m) k=some [.map keys (keys.map λ_=>.bool true)]:=by simp[Ag,hd2,hd3]
 have hlk:=AoG (st:=⟨_,n2⟩) hg hin;have hup:=AqS (st:=⟨_,n2⟩) hg hin;have hft:Ae (keys.length+1) 16:=by unfold Ae;omega
 have hr2:(len-1) * 5+3<=pre.length+(5+junk.length):=fH;simp(disch:=omega) only[vm,seval,h.1,drop_at hp,ZT,X7,AXw,hlk,hup,get_at hp,Ayn hp,hft,hr2,aB];refine⟨(hR _ _ _ _ _ _ (by simp(disch:=omega) only[vm,seval,h.1];rfl) slr ?_ fH ?_).1⟩<;>first|(simp(disch:=omega) only[vm,seval,h.1];done)|rfl
def AAI{E:Env}{c:Code}{f:FuncId}{fn:Func}{nt:Nat}{rs:List ResultVar}{args:List AVal}{m:MS}{n:Nat}{Q:PQ} (hf:E.P.funcs[f]?=some fn) (hb:fn.body=some c) (hn:fn.ntmps=nt) (hr:fn.results=rs.toArray) (a:An) (h: ∀R:APost,(∀af st xs m0 m1 n',RX E rs af st=some (xs,⟨m1,n'⟩)->m0.Sublist m1->n<=n'->Q (Tf xs) ⟨m0,n'⟩->R .ret af st/\R .normal af st)->Gl (wpc E c a R (args++List.replicate (nt-args.length) .any) ⟨m,n⟩)):ACall E f args ⟨m,n⟩ Q:=by
 refine NG hf hb ?_;have hw:=Qb a (h (KH E fn Q) ?_).go;·subst hn;exact hw
 ·intro af st xs m0 m1 n' h1 h2 h3 h4;have e:fn.results.toList=rs:=by rw[hr]
  exact⟨KW (by rw[e];exact h1) h2 h4,KY (by rw[e];exact h1) h2 h4⟩
def Zi:Ct vE.P 323=some (.agg [.int .i64 0,.str [],.slice 1 [] true,.slice 4 [] true,.nmap]):=by kernel_rfl
def AWB{i j len:Nat}{lc:List AVal}{kd want nodes:Int}{wt o1 o2 o3 o4:AVal} (hd:j≠i) (hlc:len * 5<=lc.length) (hl:len<64) (hn:0<=nodes/\nodes+1<=20000) (ha:args=[.ptr i 0,.int .i64 kd,.int .i64 want]) (hQ: ∀n' j' k',n<=n'->(j'=j\/n<=j')->n<=k'->k'≠j'->Gl (Q (.int .i64 0) ⟨(j',lc.take (len * 5)++[.int .i64 kd,.str [],.slice 1 [] true,.slice 4 [] true,.sh k'])::(k',[.map [] []])::(i,[.gsl 5 j' (len+1),.int .i64 want,.int .i64 (nodes+1),o1,o2,o3,o4])::m,n'⟩)):ACall vE 283 args ⟨(i,[.gsl 5 j len,wt,.int .i64 nodes,o1,o2,o3,o4])::(j,lc)::m,n⟩ Q:=by
 refine ACall.known λ_ hkn=>?_;have h:True/\True:=⟨trivial,trivial⟩;have hi:i<n:=by
  rcases bb i n with h|h;·exact h
  ·have:=hkn i h;simp[Ag]at this
 have hj:j<n:=by
  rcases bb j n with h|h;·exact h
  ·have:=hkn j h;simp[Ag,hd]at this
 subst ha;refine AAI func283 rfl ntmps283 results283 (.q (.r []) (.q (.q (.r []) (.c (.q (.r []) .z) .z)) (.q (.q (.r []) (.q (.r []) (.c (.q (.r []) .z) .z))) (.q (.r [29,34]) (.q (.r []) (.q (.r []) .z)))))) λR hR=>?_;have hc1:decide ((64:Int)<=len)=false:=by simp;omega
 have hc2:decide ((20000:Int)<nodes+1)=false:=by simp;omega
 have hw:wr .i64 (nodes+1)=nodes+1:=by obtain⟨q,rfl⟩: ∃q:Nat,nodes=q:=⟨nodes.toNat,fH⟩;exact AEw (by simp[CX];omega)
 simp(disch:=omega) only[vm,seval,h.1,Mi EM,PU,Rj,hc1,hc2,hw,Zi,ABB,I4];have happ:ARf vE 180 180 (AVal.gsl 5 j len) (AVal.gsl 5 (n+1) 1) {m:=(n+1,List.flatMap (λp=>AZ p.snd) [((0:Nat),AVal.agg [AVal.int IntKind.i64 kd,AVal.str [],AVal.slice 1 [] true,AVal.slice 4 [] true,AVal.sh n])])::(n,[AVal.map [] []])::(i,[AVal.gsl 5 j len,wt,AVal.int IntKind.i64 (nodes+1),o1,o2,o3,o4])::(j,lc)::m,next:=n+2}=some (5,len+1,lc.take (len * 5)++[.int .i64 kd,.str [],.slice 1 [] true,.slice 4 [] true,.sh n],(n,[AVal.map [] []])::(i,[AVal.gsl 5 j len,wt,AVal.int IntKind.i64 (nodes+1),o1,o2,o3,o4])::m,some j):=by
  have e1: ¬j=n:=fH;have e2: ¬j=n+1:=fH;have e3:(len+1) * 80<=140737488355328/\len+1<=CX:=by simp[CX];omega
  simp[ARf,Ag,Dm,ABh,ACX,Wp,AZ,hd,e1,e2,e3,hlc]
 rw[happ];constructor;intro j' hj';have hj1:j'≠i/\j'≠n/\(j'=j\/n<=j'):=by
  rcases hj' with hj'|hj';·simp only at hj';omega
  ·cases hj';omega
 obtain⟨hj1,hj2,hj3⟩:=hj1;have hin:i≠n:=fH;refine Gl.go ?_;simp(disch:=omega) only[vm,seval,h.1,PU,Rj,VE,VL];refine⟨(hR _ _ _ _ _ _ (by simp(disch:=omega) only[vm,seval,h.1];rfl) slr fH ?_).1⟩;exact(hQ _ j' n fH fH fH fH).go
def ADe{i j:Nat}{v:ApiValue}{wt nd o1 o2 o3 o4:AVal} (ha:args=[.ptr i 0,AC v]) (hQ: ∀n',n<=n'->Gl (Q (.tuple []) ⟨(i,[.gsl 5 j 0,.int .i64 6,nd,.int .i64 v.kind,.str v.text,.slice 1 (v.keys.map AVal.str) false,.slice 4 (v.items.map AC) false])::m,n'⟩)):ACall vE 284 args ⟨(i,[.gsl 5 j 0,wt,nd,o1,o2,o3,o4])::m,n⟩ Q:=by
 refine ACall.known λ_ hkn=>?_;have h:True/\True:=⟨trivial,trivial⟩;have hi:i<n:=by
  rcases bb i n with h|h;·exact h
  ·have:=hkn i h;simp[Ag]at this
 subst ha;refine AAI func284 rfl ntmps284 results284 (.q (.r []) (.q (.q (.r []) (.c (.q (.r []) .z) .z)) .z)) λR hR=>?_;simp(disch:=omega) only[vm,seval,h.1,Mi EM,PU,Rj,VE,VL];refine⟨(hR _ _ _ _ _ _ (by simp(disch:=omega) only[vm,seval,h.1];rfl) (.cons _ slr) fH ?_).1⟩;exact(hQ _ fH).go
def ATU{i:Nat}{v:ApiValue}{wt nd o1 o2 o3 o4:AVal} (ha:args=[.ptr i 0,AC v]) (hQ: ∀n',n<=n'->Gl (Q (.tuple []) ⟨(i,[.slice 5 [] true,.int .i64 6,nd,.int .i64 v.kind,.str v.text,.slice 1 (v.keys.map AVal.str) false,.slice 4 (v.items.map AC) false])::m,n'⟩)):ACall vE 284 args ⟨(i,[.slice 5 [] true,wt,nd,o1,o2,o3,o4])::m,n⟩ Q:=by
 refine ACall.known λ_ hkn=>?_;have h:True/\True:=⟨trivial,trivial⟩;have hi:i<n:=by
  rcases bb i n with h|h;·exact h
  ·have:=hkn i h;simp[Ag]at this
 subst ha;refine AAI func284 rfl ntmps284 results284 (.q (.r []) (.q (.q (.r []) (.c (.q (.r []) .z) .z)) .z)) λR hR=>?_;simp(disch:=omega) only[vm,seval,h.1,Mi EM,PU,Rj,VE,VL];refine⟨(hR _ _ _ _ _ _ (by simp(disch:=omega) only[vm,seval,h.1];rfl) (.cons _ slr) fH ?_).1⟩;exact(hQ _ fH).go
def Av2{E:Env}{t:TypeId}{q:Nat}{x:AVal}:DR E t (.sh q) x=none:=by cases x<;>rfl
def Av5{q k:Nat}{items:List ApiValue}:G9 vE 37 (.sh q) (.int .i64 (items.length:Int)) ⟨(q,[.slop 4 (List.map AC items)])::m,k⟩=some (.sptr q 4 items.length):=by simp[G9,WZ,Ag,AFL]
def ASk{E:Env}{t:TypeId}{j off q w k:Nat}{xs:List AVal}{o:Bool}:UG E t (.ptr j off) (.sh q) ⟨(q,[.slice w xs o])::m,k⟩=O3 E t (.ptr j off) (.slice w xs o) ⟨(q,[.slice w xs false])::m,k⟩:=by simp[UG,Ag,A7,MJ,O3]
def ASa{E:Env}{t:TypeId}{j off q w k:Nat}{xs:List AVal}:UG E t (.ptr j off) (.sh q) ⟨(q,[.slop w xs])::m,k⟩=ZW E t (.ptr j off) (.sh q) ⟨(q,[.slop w xs])::m,k⟩:=by simp[UG,Ag,R6]
def AvN{E:Env}{id:Nat}{os:Array Oper}{b:Bool}{K:APost}{af:List AVal}{st:St}:wpc E (.region id os b) .z K af st=AWp E (.region id os b) K af st:=by rw[wpc]<;>simp
def AT6{i j len:Nat}{v:ApiValue}{items:List ApiValue}{pre junk:List AVal}{wt nd o1 o2 o3 o4 kd tx ks sk:AVal} (hd:j≠i) (hp:pre.length=(len-1) * 5) (hl:0<len/\len<=CX) (hb:items.length<=1099511627776) (ha:args=[.ptr i 0,AC v]) (hQ: ∀n',n<=n'->Gl (Q (.tuple []) ⟨(i,[.gsl 5 j len,.int .i64 5,nd,o1,o2,o3,o4])::(j,pre++[kd,tx,ks,.slice 4 ((items++[v]).map AC) true,sk]++junk)::m,n'⟩)):ACall vE 284 args ⟨(i,[.gsl 5 j len,wt,nd,o1,o2,o3,o4])::(j,pre++[kd,tx,ks,.slice 4 (items.map AC) true,sk]++junk)::m,n⟩ Q:=by
 refine ACall.known λ_ hkn=>?_;have h:True/\True:=⟨trivial,trivial⟩;have hi:i<n:=by
  rcases bb i n with h|h;·exact h
  ·have:=hkn i h;simp[Ag]at this
 have hj:j<n:=by
  rcases bb j n with h|h;·exact h
  ·have:=hkn j h;simp[Ag,hd]at this
 subst ha;refine AAI func284 rfl ntmps284 results284 (.q (.r []) (.q (.q (.r []) (.c (.q (.r []) .z) .z)) (.q (.r []) (.q .z .z)))) λR hR=>?_;have hc:((len:Int)==0)=false:=by simp;omega
 simp(disch:=omega) only[vm,seval,h.1,Mi EM,PU,Rj,VE,VL,hc];have hin:i≠n:=fH;refine⟨XT (pc:=[wt,nd,o1,o2,o3,o4]) (j:=j) (len:=len) ?_ hl tD λn2 hn2=>?_⟩;·simp[Ag,hin]
 simp(disch:=omega) only[vm,seval,h.1];refine⟨QQ [24,28] (.take 0 (.take 1 (.take 2 (.take 3 (.take 5 (.take 7 (.alt 4 [7,5,2,1,0] (.take 6 (.alt 8 [] (.take 11 (.take 12 (.take 13 (.alt 9 [13,12,11] (.alt 10 [13,12,11] (.alt 14 [12,11] (.done) (.stop)) (.alt 14 [12,11] (.alt 10 [13,12,11] (.done) (.stop)) (.stop))) (.alt 14 [12,11] (.alt 9 [13,12,11] (.alt 10 [13,12,11] (.done) (.stop)) (.stop)) (.stop)))))) (.stop))) (.stop)))))))) M0 (by kernel_rfl) ?_⟩;have hft:(items.length+1) * 72<=140737488355328/\items.length<=4611686018427387903:=fH;have hjn:j≠n:=fH;have hr2:(len-1) * 5+4<=pre.length+(5+junk.length):=fH;simp(disch:=omega) only[hft,hr2,vm,seval,h.1,drop_at hp,get_at hp,Atj hp,QS,ioR,cp,and_self,Av2,Av5,AaU,ABD,WZ,MJ,Ata,Ath,ASk,ASa,AvN,Aim,Akq,KJ,Q9,Value.oneCell',cS,dh,aB];have hjn2:j≠n2:=fH;have hin2:i≠n2:=fH;have fin: ∀(af:List AVal) (c:Code) (m':MS) (n':Nat),n<=n'->([]:List (Nat×List AVal)).Sublist m'->True:=λ_ _ _ _ _ _=>trivial;refine AYY (AYY ⟨?_⟩ ⟨?_⟩) ⟨?_⟩;·refine Cx (.r []) ?_;simp(disch:=omega) only[vm,seval,h.1];refine⟨(hR _ _ _ _ _ _ (by simp(disch:=omega) only[vm,seval,h.1];rfl) (.cons _ (.cons _ slr)) fH ?_).2⟩;have:=(hQ (n2+1) fH).go;show Q (.tuple []) _;simpa only[cE,aF,cv,IV]using this
 all_goals refine AIM (i:=n2) (j:=j) (p:=(len-1) * 5+3) hjn2 (by simp(disch:=omega) only[vm];rfl) fK (by simp(disch:=omega) only[vm,get_at hp]) (by simp only[vm];rfl) ?_;refine Cx (.r []) ?_;simp(disch:=omega) only[vm,seval,h.1,Atj hp];refine⟨(hR _ _ _ _ _ _ (by simp(disch:=omega) only[vm,seval,h.1];rfl) (.cons _ (.cons _ slr)) fH ?_).2⟩;have:=(hQ (n2+1) fH).go;show Q (.tuple []) _;simpa only[cE,aF,cv,IV]using this
theorem ACall.nodup{E:Env}{f:FuncId}{args:List AVal}{st:St}{Q:PQ} (h:(st.m.map (·.1)).Nodup->ACall E f args st Q):ACall E f args st Q:=⟨λF O w cargs hs=>(h hs.keys).go F O w cargs hs⟩
def Gr: ∀ {m:MS}{i:Nat}{c:List AVal},(m.map (·.1)).Nodup->(i,c)∈m->Ag m i=some c
 |(j,d)::m,i,c,hn,h=>by
  simp only[aF,bY]at hn;rcases aM.1 h with h|h;·cases h;simp[Ag]
  ·have hne:i≠j:=λe=>hn.1 (by rw[<-e];exact eu (f:=(·.1)) h);simp only[Ag,aj hne];exact Gr hn.2 h
def WI{m m':MS} (h:m.Perm m') (hn:(m.map (·.1)).Nodup):(m'.map (·.1)).Nodup:=(h.map _).nodup_iff.1 hn
def WC{m r:MS}{i:Nat}{c x:List AVal} (hn:(m.map (·.1)).Nodup) (h:m.Perm ((i,c)::r)):(A7 m i x).Perm ((i,x)::r):=by have hg:Ag m i=some c:=Gr hn (h.mem_iff.2 fI);have h1:=Kg hg;have h2:r.Perm (Dm m i):=(h.symm.trans h1).cons_inv;exact(SK hg).symm.trans (h2.symm.cons _)
def lvl (v:ApiValue) (k:Nat):List AVal:=[.int .i64 v.kind,.str v.text,.slice 1 (v.keys.map AVal.str) true,.slice 4 (v.items.map AC) true,.sh k]
def ARe (v:ApiValue) (k:Nat):Nat×List AVal:=(k,[.map v.keys (v.keys.map λ_=>.bool true)])
def YY:List ApiValue->List Nat->List AVal|v::vs,k::ks=>lvl v k++YY vs ks|_,_=>[]
def maps:List ApiValue->List Nat->MS|v::vs,k::ks=>ARe v k::maps vs ks|_,_=>[]
def pc (sv:AVal) (p:JPsr):List AVal:=[sv,.int .i64 p.want,.int .i64 p.nodes,.int .i64 p.out.kind,.str p.out.text,.slice 1 (p.out.keys.map AVal.str) false,.slice 4 (p.out.items.map AC) false]
def U4: ∀ {st:List ApiValue}{ks:List Nat}{v:ApiValue}{k:Nat},ks.length=st.length->YY (st++[v]) (ks++[k])=YY st ks++lvl v k|[],[],v,k,_=>by simp[YY]|x::st,y::ks,v,k,h=>by simp only[bz,YY,aH];rw[U4 (by simpa using h)]
def U9: ∀ {st:List ApiValue}{ks:List Nat}{v:ApiValue}{k:Nat},ks.length=st.length->maps (st++[v]) (ks++[k])=maps st ks++[ARe v k]|[],[],v,k,_=>by simp[maps]|x::st,y::ks,v,k,h=>by simp only[bz,maps];rw[U9 (by simpa using h)]
def XX: ∀ {st:List ApiValue}{ks:List Nat},ks.length=st.length->(YY st ks).length=st.length * 5|[],[],_=>rfl|x::st,y::ks,h=>by simp only[YY,ah,XX (st:=st) (ks:=ks) (by simpa using h),ae,lvl,ap];omega
inductive PS (p:JPsr) (i:Nat) (m0 m:MS):Prop|nil (X:MS) (hs:p.stack=[]) (h:m.Perm ((i,pc (.slice 5 [] true) p)::(X++m0)))|box (j:Nat) (ks:List Nat) (junk:List AVal) (X:MS) (hk:ks.length=p.stack.length) (h:m.Perm ((i,pc (.gsl 5 j p.stack.length) p)::(j,YY p.stack ks++junk)::(maps p.stack ks++(X++m0))))
def PS.more{p:JPsr}{i:Nat}{m0 m:MS} (h:PS p i m0 m) (e:Nat×List AVal):PS p i (e::m0) (e::m):=by
 have key: ∀(a b X:MS),m.Perm (a++(b++(X++m0)))->(e::m).Perm (a++(b++(X++e::m0))):=λa b X h=>by
  have h1:(a++(b++(X++e::m0))).Perm (e::(a++(b++(X++m0)))):=by have:=dz (a:=e) (l₁:=a++b++X) (l₂:=m0);simpa only[aH]using this
  exact(h.cons e).trans h1.symm
 cases h with|nil X hs h=>exact .nil X hs (by simpa using key [_] [] X (by simpa using h))|box j ks junk X hk h=>exact .box j ks junk X hk (by simpa using key [_,_] _ X (by simpa using h))
def PS.less{p:JPsr}{i:Nat}{m0 m:MS}{e:Nat×List AVal} (h:PS p i (e::m0) m):PS p i m0 m:=by cases h with|nil X hs h=>exact .nil (X++[e]) hs (by simpa using h)|box j ks junk X hk h=>exact .box j ks junk (X++[e]) hk (by simpa using h)
def PS.perm{p:JPsr}{i:Nat}{m0 m m':MS} (h:PS p i m0 m) (hp:m'.Perm m):PS p i m0 m':=by cases h with|nil X hs h=>exact .nil X hs (hp.trans h)|box j ks junk X hk h=>exact .box j ks junk X hk (hp.trans h)
def PS.put{p:JPsr}{i:Nat}{m0 m:MS} (h:PS p i m0 m) (hn:(m.map (·.1)).Nodup): ∃sv,Ag m i=some (pc sv p)/\(sv=.slice 5 [] true/\p.stack=[]\/∃j,sv=.gsl 5 j p.stack.length)/\∀p':JPsr,p'.stack=p.stack->PS p' i m0 (A7 m i (pc sv p')):=by cases h with|nil X hs h=>exact⟨_,Gr hn (h.mem_iff.2 fI),.inl ⟨rfl,hs⟩,λp' e=>.nil X (e.trans hs) (WC hn h)⟩|box j ks junk X hk h=>exact⟨_,Gr hn (h.mem_iff.2 fI),.inr ⟨j,rfl⟩,λp' e=>.box j ks junk X (by rw[e];exact hk) (by rw[e];exact WC hn h)⟩
def PS.get{p:JPsr}{i x:Nat}{c:List AVal}{m0 m:MS} (h:PS p i m0 m) (hn:(m.map (·.1)).Nodup) (hx:(x,c)∈m0):Ag m x=some c:=by cases h with|nil X hs h=>exact Gr hn (h.mem_iff.2 (by simp[hx]))|box j ks junk X hk h=>exact Gr hn (h.mem_iff.2 (by simp[hx]))
def PS.top{p:JPsr}{i:Nat}{m0 m:MS}{st:List ApiValue}{v:ApiValue} (h:PS p i m0 m) (hs:p.stack=st++[v]): ∃j k pre junk rest,pre.length=st.length * 5/\m.Perm ((i,pc (.gsl 5 j (st.length+1)) p)::(j,pre++lvl v k++junk)::ARe v k::rest)/\(∀(p':JPsr) v' m',p'.stack=st++[v']->m'.Perm ((i,pc (.gsl 5 j (st.length+1)) p')::(j,pre++lvl v' k++junk)::ARe v' k::rest)->PS p' i m0 m')/\∀(p':JPsr) junk' m',p'.stack=st->m'.Perm ((i,pc (.gsl 5 j st.length) p')::(j,pre++junk')::ARe v k::rest)->PS p' i m0 m':=by
 cases h with
 |nil X hn h=>rw[hn]at hs;simp at hs
 | box j ks junk X hk h=>
  rw[hs]at hk h;obtain⟨ks',k,rfl⟩: ∃ks' k,ks=ks'++[k]:=by
   rcases dk ks with rfl|⟨a,b,rfl⟩;·simp at hk
   ·exact⟨a,b,fI⟩
  have hk':ks'.length=st.length:=by simpa using hk
  rw[U4 hk',U9 hk',ah,ae,ap]at h;have mid: ∀(a b:Nat×List AVal) (e:Nat×List AVal) (l:MS),(a::b::(maps st ks'++[e]++l)).Perm (a::b::e::(maps st ks'++l)):=λa b e l=>by refine cI _ (cI _ ?_);simp
  refine⟨j,k,YY st ks',junk,maps st ks'++(X++m0),XX hk',h.trans (mid _ _ _ _),λp' v' m' e hp=>?_,λp' junk' m' e hp=>?_⟩;·refine .box j (ks'++[k]) junk X (by simp[e,hk']) ?_;rw[e,U4 hk',U9 hk',ah,ae,ap];exact hp.trans (mid _ _ _ _).symm
  ·refine .box j ks' junk' (ARe v k::X) (by rw[e];exact hk') ?_;rw[e];refine hp.trans (cI _ (cI _ ?_));simpa using(dz (a:=ARe v k) (l₁:=maps st ks') (l₂:=X++m0)).symm
def Ng{l:List ApiValue}:l=[]\/∃st v,l=st++[v]:=by
 rcases dk l with h|⟨a,b,h⟩;·exact .inl h
 ·exact .inr ⟨a,b,by simpa using h⟩
def nd3{a b c:Nat×List AVal}{r m:MS} (hn:(m.map (·.1)).Nodup) (h:m.Perm (a::b::c::r)):b.1≠a.1/\c.1≠a.1/\c.1≠b.1:=by have h2:=WI h hn;simp only[aF,bY,aM,fG]at h2;exact⟨dI h2.1.1,dI h2.1.2.1,dI h2.2.1.1⟩
def AUT{p:JPsr}{i:Nat}{m0:MS}{s:B8}{q:JPsr×Int} (hp:PS p i m0 m) (h:AB2 p s=some q) (hlen:p.stack.length<=CX) (hb: ∀v,v∈p.stack->v.keys.length<=1099511627776) (ha:args=[.ptr i 0,.str s]) (hQ: ∀n' m',n<=n'->PS q.1 i m0 m'->Gl (Q (.int .i64 q.2) ⟨m',n'⟩)):ACall vE 206 args ⟨m,n⟩ Q:=by
 refine ACall.nodup λhn=>?_;rcases Ng (l:=p.stack)with hs|⟨st,v,hs⟩;·simp[AB2,hs]at h
 ·obtain⟨j,k,pre,junk,rest,h1,h2,h3,h4⟩:=hp.top hs;have hd:=nd3 hn h2;have hl:0<st.length+1/\st.length+1<=CX:=⟨fH,by rw[hs]at hlen;simpa using hlen⟩;have hvb:=hb v (by rw[hs];simp);refine ACall.perm h2 ?_;simp only[AB2,hs,ck,cn,dt,cZ]at h;by_cases hin:s∈v.keys;·rw[an hin]at h;cases h;refine Ad4 (hd:=hd) (hp:=by simpa using h1) hl ha hin λn' hn'=>hQ _ _ hn' ?_;exact h3 p v _ hs (db _)
  ·rw[aj hin]at h;cases h;refine AY5 (hd:=hd) (hp:=by simpa using h1) hl ha hin hvb λn' hn'=>hQ _ _ hn' ?_;exact h3 _ {v with keys:=v.keys++[s]} _ fI (db _)
def AE2{p:JPsr}{i:Nat}{m0:MS}{v:ApiValue} (hp:PS p i m0 m) (hlen:p.stack.length<=CX) (hb: ∀v,v∈p.stack->v.items.length<=1099511627776) (ha:args=[.ptr i 0,AC v]) (hQ: ∀n' m',n<=n'->PS (OC p v) i m0 m'->Gl (Q (.tuple []) ⟨m',n'⟩)):ACall vE 284 args ⟨m,n⟩ Q:=by
 refine ACall.nodup λhn=>?_;rcases Ng (l:=p.stack)with hs|⟨st,v',hs⟩
 ·have e:OC p v= {p with out:=v,want:=6}:=by simp[OC,hs]
  rw[e]at hQ;cases hp with|nil X hz h=>refine ACall.perm h ?_;refine ATU ha λn' hn'=>hQ _ _ hn' (.nil X hs (db _))|box j ks junk X hk h=>refine ACall.perm h ?_;rw[hs];refine ADe ha λn' hn'=>hQ _ _ hn' ?_;refine .box j ks junk X hk ?_;rw[hs];exact db _
 ·obtain⟨j,k,pre,junk,rest,h1,h2,h3,h4⟩:=hp.top hs;have hd:=nd3 hn h2;have hl:0<st.length+1/\st.length+1<=CX:=⟨fH,by rw[hs]at hlen;simpa using hlen⟩;have hvb:=hb v' (by rw[hs];simp);have e:OC p v= {p with stack:=p.stack.dropLast++[{v' with items:=v'.items++[v]}],want:=5}:=by simp[OC,hs]
  rw[e]at hQ;refine ACall.perm h2 ?_;refine AT6 hd.1 (by simpa using h1) hl hvb ha λn' hn'=>hQ _ _ hn' ?_;exact h3 _ {v' with items:=v'.items++[v]} _ (by simp[hs]) (db _)
def ABN{sv:AVal}{st:List ApiValue} (h:sv=.slice 5 [] true/\st=[]\/∃j,sv=.gsl 5 j st.length):Rx vE 180 sv=some (.int .i64 (st.length:Int))/\sv.strip=(match sv with|.slice w l _=>.slice w l false|x=>x)/\Rx vE 180 sv.strip=some (.int .i64 (st.length:Int))/\AZ sv=[sv]/\Ce sv=true/\MJ sv=false:=by
 rcases h with⟨rfl,rfl⟩|⟨j,rfl⟩;·exact⟨by simp[Rx,EM],rfl,by simp[Rx,EM,AVal.strip],rfl,rfl,rfl⟩
 ·exact⟨Mi EM,rfl,Mi EM,rfl,rfl,rfl⟩
def AHE{p:JPsr}{i:Nat}{m0:MS}{kd want:Int}{sv:AVal} (hm:Ag m i=some (pc sv p)) (hsv:Rx vE 180 sv.strip=some (.int .i64 (p.stack.length:Int))/\AZ sv=[sv]) (hl:64<=p.stack.length) (ha:args=[.ptr i 0,.int .i64 kd,.int .i64 want]) (hQ: ∀n',n<=n'->Gl (Q (.int .i64 141) ⟨m,n'⟩)):ACall vE 283 args ⟨m,n⟩ Q:=by
 have h:True/\True:=⟨trivial,trivial⟩;subst ha;refine ent hQ func283 rfl ntmps283 results283 (.q (.r []) (.q (.q (.r []) (.c (.q (.r []) .z) .z)) (.q (.q (.r []) (.q (.r []) (.c (.q (.r []) .z) .z))) (.q (.r [29]) (.q (.r []) (.q (.r []) .z)))))) λR hR=>?_;have hc1:decide ((64:Int)<=p.stack.length)=true:=by simp;omega
 simp(disch:=omega) only[vm,seval,h.1,hm,pc,hsv,hc1];refine⟨(hR _ _ _ _ _ _ (by simp(disch:=omega) only[vm,seval,h.1];rfl) slr ?_ fH ?_).1⟩<;>first|(simp(disch:=omega) only[vm,seval,h.1];done)|rfl
def AJF{nodes:Int} (hn:0<=nodes/\nodes<=30000):wr .i64 (nodes+1)=nodes+1:=by obtain⟨q,rfl⟩: ∃q:Nat,nodes=q:=⟨nodes.toNat,fH⟩;exact AEw (by simp[CX];omega)
def ALt{p:JPsr}{i:Nat}{m0:MS}{kd want:Int}{sv:AVal} (hm:Ag m i=some (pc sv p)) (hsv:Rx vE 180 sv.strip=some (.int .i64 (p.stack.length:Int))/\AZ sv=[sv]) (hl:p.stack.length<64) (hn:0<=p.nodes/\p.nodes<=20000/\20000<p.nodes+1) (ha:args=[.ptr i 0,.int .i64 kd,.int .i64 want]) (hQ: ∀n',n<=n'->Gl (Q (.int .i64 142) ⟨A7 m i (pc sv {p with nodes:=p.nodes+1}),n'⟩)):ACall vE 283 args ⟨m,n⟩ Q:=by
 have h:True/\True:=⟨trivial,trivial⟩;subst ha;refine ent hQ func283 rfl ntmps283 results283 (.q (.r []) (.q (.q (.r []) (.c (.q (.r []) .z) .z)) (.q (.q (.r []) (.q (.r []) (.c (.q (.r []) .z) .z))) (.q (.r [29]) (.q (.r []) (.q (.r []) .z)))))) λR hR=>?_;have hc1:decide ((64:Int)<=p.stack.length)=false:=by simp;omega
 have hc2:decide ((20000:Int)<p.nodes+1)=true:=by simp;omega
 have hw:wr .i64 (p.nodes+1)=p.nodes+1:=AJF ⟨hn.1,fH⟩;have hms: ∀x,Ag (A7 m i x) i=some x:=λx=>IW hm;simp(disch:=omega) only[vm,seval,h.1,hm,pc,hsv,hc1,hc2,hw,hms];refine⟨(hR _ _ _ _ _ _ (by simp(disch:=omega) only[vm,seval,h.1];rfl) slr ?_ fH ?_).1⟩<;>first|(simp(disch:=omega) only[vm,seval,h.1];done)|rfl
def ATJ{i:Nat}{kd want nodes:Int}{wt o1 o2 o3 o4:AVal} (hn:0<=nodes/\nodes+1<=20000) (ha:args=[.ptr i 0,.int .i64 kd,.int .i64 want]) (hQ: ∀n' j' k',n<=n'->n<=j'->n<=k'->k'≠j'->Gl (Q (.int .i64 0) ⟨(j',[.int .i64 kd,.str [],.slice 1 [] true,.slice 4 [] true,.sh k'])::(k',[.map [] []])::(i,[.gsl 5 j' 1,.int .i64 want,.int .i64 (nodes+1),o1,o2,o3,o4])::m,n'⟩)):ACall vE 283 args ⟨(i,[.slice 5 [] true,wt,.int .i64 nodes,o1,o2,o3,o4])::m,n⟩ Q:=by
 refine ACall.known λ_ hkn=>?_;have h:True/\True:=⟨trivial,trivial⟩;have hi:i<n:=by
  rcases bb i n with h|h;·exact h
  ·have:=hkn i h;simp[Ag]at this
 subst ha;refine AAI func283 rfl ntmps283 results283 (.q (.r []) (.q (.q (.r []) (.c (.q (.r []) .z) .z)) (.q (.q (.r []) (.q (.r []) (.c (.q (.r []) .z) .z))) (.q (.r [29,34]) (.q (.r []) (.q (.r []) .z)))))) λR hR=>?_;have hc1:decide ((64:Int)<=(0:Nat))=false:=fI;have hc2:decide ((20000:Int)<nodes+1)=false:=by simp;omega
 have hw:wr .i64 (nodes+1)=nodes+1:=AJF ⟨hn.1,fH⟩;simp(disch:=omega) only[vm,seval,h.1,Mi EM,PU,Rj,hc1,hc2,hw,Zi,ABB,I4];have happ:ARf vE 180 180 (AVal.slice 5 [] true) (AVal.gsl 5 (n+1) 1) {m:=(n+1,List.flatMap (λp=>AZ p.snd) [((0:Nat),AVal.agg [AVal.int IntKind.i64 kd,AVal.str [],AVal.slice 1 [] true,AVal.slice 4 [] true,AVal.sh n])])::(n,[AVal.map [] []])::(i,[AVal.slice 5 [] false,wt,AVal.int IntKind.i64 (nodes+1),o1,o2,o3,o4])::m,next:=n+2}=some (5,1,[.int .i64 kd,.str [],.slice 1 [] true,.slice 4 [] true,.sh n],(n,[AVal.map [] []])::(i,[AVal.slice 5 [] false,wt,AVal.int IntKind.i64 (nodes+1),o1,o2,o3,o4])::m,none):=by simp[ARf,Ag,Dm,ABh,ACX,Wp,AZ,CX]
 rw[happ];constructor;intro j' hj';have hj1:j'=n+2:=by
  rcases hj' with hj'|hj';·exact hj'
  ·cases hj'
 subst hj1;have hin:i≠n:=fH;refine Gl.go ?_;simp(disch:=omega) only[vm,seval,h.1,PU,Rj,VE,VL];refine⟨(hR _ _ _ _ _ _ (by simp(disch:=omega) only[vm,seval,h.1];rfl) slr fH ?_).1⟩;exact(hQ _ (n+2) n fH fH fH fH).go
def AEm{p:JPsr}{i:Nat}{m0:MS}{kd want:Int} (hp:PS p i m0 m) (hn:0<=p.nodes/\p.nodes<=20000) (ha:args=[.ptr i 0,.int .i64 kd,.int .i64 want]) (hQ: ∀n' m',n<=n'->PS (MK p kd want).1 i m0 m'->Gl (Q (.int .i64 (MK p kd want).2) ⟨m',n'⟩)):ACall vE 283 args ⟨m,n⟩ Q:=by
 refine ACall.nodup λhnd=>?_;obtain⟨sv,hg,hsv,hput⟩:=hp.put hnd;have hl:=ABN hsv;by_cases h1:p.stack.length>=64
 ·have e:MK p kd want=(p,141):=by simp[MK,h1]
  rw[e]at hQ;exact AHE (m0:=m0) hg ⟨hl.2.2.1,hl.2.2.2.1⟩ h1 ha λn' hn'=>hQ _ _ hn' hp
 ·by_cases h2:p.nodes+1>20000
  ·have e:MK p kd want=({p with nodes:=p.nodes+1},142):=by simp[MK,h1,h2]
   rw[e]at hQ;exact ALt (m0:=m0) hg ⟨hl.2.2.1,hl.2.2.2.1⟩ fH ⟨hn.1,hn.2,h2⟩ ha λn' hn'=>hQ _ _ hn' (hput _ rfl)
  ·have e:MK p kd want=({p with stack:=p.stack++[⟨kd,[],[],[]⟩],nodes:=p.nodes+1,want:=want},0):=by simp[MK,h1,h2]
   rw[e]at hQ;cases hp with
   |nil X hs h=>refine ACall.perm h ?_;refine ATJ ⟨hn.1,fH⟩ ha λn' j' k' h3 h4 h5 h6=>hQ _ _ h3 ?_;refine .box j' [k'] [] X (by simp[hs]) ?_;simp only[hs,bm,YY,maps,lvl,ARe,cv,bo,ae,ap,pc,bz];exact((cB _ _ _).cons _).trans (cB _ _ _)|>.trans (cI _ (db _))
   |box j ks junk X hk h=>
    have hd:j≠i:=by have h2:=WI h hnd;simp only[aF,bY,aM,fG]at h2;exact dI h2.1.1
    refine ACall.perm h ?_;refine AWB hd (by rw[ah,XX hk];omega) fH ⟨hn.1,fH⟩ ha λn' j' k' h3 h4 h5 h6=>hQ _ _ h3 ?_;refine .box j' (ks++[k']) [] X (by simp[hk]) ?_;have e1:(YY p.stack ks++junk).take (p.stack.length * 5)=YY p.stack ks:=by rw[<-XX hk,eG]
    rw[e1,U4 hk,U9 hk,bo,ah];have mid: ∀(e:Nat×List AVal) (l:MS),(e::(maps p.stack ks++l)).Perm (maps p.stack ks++[e]++l):=λe l=>by simpa using(dz (a:=e) (l₁:=maps p.stack ks) (l₂:=l)).symm
    refine((cB _ _ _).cons _).trans ((cB _ _ _).trans (cI _ (cI _ ?_)));exact mid (k',[.map [] []]) _
def AjA (p:JPsr) (t:ApiToken) (cl:B8):Bool:=if p.want==0 then Pj t else if p.want==1 then Pj t||(t.kind==2&&t.text==cl)else if p.want==2 then t.kind==3 else if p.want==3 then t.kind==3||(t.kind==2&&t.text==cl)else if p.want==4 then t.kind==2&&t.text==[58]else if p.want==5 then t.kind==2&&t.text==[44]||(t.kind==2&&t.text==cl)else t.kind==1
def Ami{q:Nat}{a:AVal}{pre l junk:List AVal} (h:pre.length=q):(pre++a::l++junk)[q]?=some a:=by subst h;simp
def AlT (t:ApiToken):Mm N t=some (Pj t):=by unfold Mm Pj;simp only[AA];cases t.kind==3<;>cases t.kind==4<;>cases t.kind==5<;>cases t.kind==2<;>cases t.text==[91]<;>simp
def Afx{p:JPsr}{i:Nat}{m0:MS}{t:ApiToken} (hp:PS p i m0 m) (hlen:p.stack.length<=CX) (ha:args=[.ptr i 0,Dz t]) (hQ: ∀n',n<=n'->Gl (Q (.bool (VW p t)) ⟨m,n'⟩)):ACall vE 204 args ⟨m,n⟩ Q:=by
 refine ACall.nodup λhnd=>ACall.known λ_ hkn=>?_;obtain⟨sv,hg,hsv,hput⟩:=hp.put hnd;have hl:=(ABN hsv).2.2;have hi:i<n:=by
  rcases bb i n with h|h;·exact h
  ·have:=hkn i h;rw[hg]at this;cases this
 have h:True/\AA (λcl=>some (AjA p t cl)) (λk=>k (LV p))=some (VW p t):=⟨trivial,by simp only[AA];first|done|rfl⟩;subst ha;refine ent hQ func204 rfl ntmps204 results204 (.q (.r []) (.q (.r []) .z)) λR hR=>?_;have hin:i≠n:=fH;simp(disch:=omega) only[vm,seval,h.1];refine⟨UM (γ:=Unit) h [7,8,9,10,11,12,13,14,15,16,17,18,19] [5] (λcl g=>[.str cl]) (λcl g=>(n,[.int .i64 t.kind,.str t.text,.int .i64 t.at_])::m) (.q (.r []) (.c (.q (.r []) (.q (.r []) (.c (.r []) .z))) .z)) ?_ ?_⟩<;>clear h
 ·rintro cl _ n4 hnn4 _ _ h;have h2:AjA p t cl=VW p t:=by simpa using h
  clear h;have hin4:i≠n:=fH;refine Cx (.q (.r []) (.q (.q (.r []) (.q (.r []) (.c (.q (.r []) .z) (.q (.r []) (.c (.q (.r []) .z) (.q (.r []) (.c (.q (.r []) .z) (.q (.r []) (.c (.q (.r []) .z) (.q (.r []) (.c (.q (.r []) .z) (.q (.r []) (.c (.q (.r []) .z) .z))))))))))))) (.q (.r []) .z))) ?_;unfold AjA at h2;have ow: ∀ {n5:Nat}{m5:MS}{Q5:PQ}{args5:List AVal},args5=[Dz t]->(∀n',n5<=n'->Gl (Q5 (.bool (Pj t)) ⟨m5,n'⟩))->ACall vE 282 args5 ⟨m5,n5⟩ Q5:=λha hq=>AAk (N:=0) (AlT t) ha hq;generalize VW p t=r at h2 hR;cases hk2:t.kind==2<;>cases hw0:p.want==0<;>cases hw1:p.want==1<;>cases hw2:p.want==2<;>cases hw3:p.want==3<;>cases hw4:p.want==4<;>cases hw5:p.want==5;all_goals try (exfalso;simp only[bf,bv]at hw0 hw1 hw2 hw3 hw4 hw5;omega)
  all_goals simp(disch:=omega) only[hw0,hw1,hw2,hw3,hw4,hw5,hk2,aB,az,aq,bQ,Bool.false_and,di]at h2;simp(disch:=omega) only[vm,seval,hk2,hg,pc,hl,hw0,hw1,hw2,hw3,hw4,hw5]
  all_goals first|((refine⟨(hR _ _ _ _ _ _ (by simp(disch:=omega) only[vm,seval,hk2];rfl) (.cons _ slr) rfl fH ?_).1⟩<;>first|rfl|(simp(disch:=omega) only[vm,seval,hk2];done)|(subst h2;rfl));done)|(cases hk3:t.kind==3<;>simp(disch:=omega) only[hk3,cN,be]at h2<;>simp(disch:=omega) only[vm,seval,hk2,hk3]<;>(refine⟨(hR _ _ _ _ _ _ (by simp(disch:=omega) only[vm,seval,hk2];rfl) (.cons _ slr) rfl fH ?_).1⟩<;>first|rfl|(simp(disch:=omega) only[vm,seval,hk2];done)|(subst h2;rfl));done)|(cases hk3:t.text==[44]<;>simp(disch:=omega) only[hk3,cN,be]at h2<;>simp(disch:=omega) only[vm,seval,hk2,hk3]<;>(refine⟨(hR _ _ _ _ _ _ (by simp(disch:=omega) only[vm,seval,hk2];rfl) (.cons _ slr) rfl fH ?_).1⟩<;>first|rfl|(simp(disch:=omega) only[vm,seval,hk2];done)|(subst h2;rfl));done)|(refine⟨ow (by first|(simp(disch:=omega) only[vm,seval,hk2];done)|rfl) λn5 hn5=>?_⟩;simp(disch:=omega) only[vm,seval,hk2];(refine⟨(hR _ _ _ _ _ _ (by simp(disch:=omega) only[vm,seval,hk2];rfl) (.cons _ slr) rfl fH ?_).1⟩<;>first|rfl|(simp(disch:=omega) only[vm,seval,hk2];done)|(subst h2;rfl));done)|(refine⟨ow (by first|(simp(disch:=omega) only[vm,seval,hk2];done)|rfl) λn5 hn5=>?_⟩;cases hk3:Pj t<;>simp(disch:=omega) only[hk3,cN,be]at h2<;>simp(disch:=omega) only[vm,seval,hk2,hk3]<;>(refine⟨(hR _ _ _ _ _ _ (by simp(disch:=omega) only[vm,seval,hk2];rfl) (.cons _ slr) rfl fH ?_).1⟩<;>first|rfl|(simp(disch:=omega) only[vm,seval,hk2];done)|(subst h2;rfl));done)
 ·intro k Jk hk h;rcases Ng (l:=p.stack)with hs|⟨st,v,hs⟩
  ·have hc:decide ((p.stack.length:Int)>0)=false:=by simp[hs]
   have e:LV p=[]:=by simp[LV,hs]
   simp(disch:=omega) only[vm,seval,h.1,hg,pc,hl,hc];refine⟨hk (LV p) () _ _ _ _ h.2 slr ?_ ?_ ?_ fH⟩<;>first|(simp(disch:=omega) only[vm,seval,h.1,e];done)|rfl
  ·obtain⟨j,ky,pre,junk,rest,h1,h2,h3,h4⟩:=hp.top hs;have hc:decide ((p.stack.length:Int)>0)=true:=by simp[hs]
   have hg2:Ag m i=some (pc (.gsl 5 j (st.length+1)) p):=Gr hnd (h2.mem_iff.2 fI);have hg3:Ag m j=some (pre++lvl v ky++junk):=Gr hnd (h2.mem_iff.2 fI);have hj:j<n:=by
    rcases bb j n with h|h;·exact h
    ·have:=hkn j h;rw[hg3]at this;cases this
   have hjn:j≠n:=fH;have hl2:0<st.length+1/\st.length+1<=CX:=⟨fH,by rw[hs]at hlen;simpa using hlen⟩;have hpr:pre.length=(st.length+1-1) * 5:=by simpa using h1
   simp(disch:=omega) only[vm,seval,h.1,hg,pc,hl,hc];refine⟨XT (i:=i) (j:=j) (len:=st.length+1) (pc:=_) (by rw[YC fH];exact hg2) hl2 tD λn2 hn2=>?_⟩;simp(disch:=omega) only[vm,seval,h.1,hg3,lvl,drop_at hpr];have e:LV p=if(v.kind==7)=true then [125]else [93]:=by simp[LV,hs]
   have hp5:pre.length=st.length * 5:=h1;cases hk7:v.kind==7;all_goals rw[hk7]at e;simp(disch:=omega) only[vm,seval,h.1,Ami hp5,hk7];refine⟨hk (LV p) () _ _ _ _ h.2 slr ?_ ?_ ?_ fH⟩<;>first|(simp(disch:=omega) only[vm,seval,h.1,e];done)|rfl
def AX1:(Tx vE.P 328).map (Ct vE.P)=some (some (.int .i64 0)):=by kernel_rfl
def Zr: ∃e,Tx vE.P 328=some e/\Ct vE.P e=some (.int .i64 0):=by have h:=AX1;cases he:Tx vE.P 328 with|none=>rw[he]at h;cases h|some e=>rw[he]at h;simp only[aN,ag]at h;exact⟨e,rfl,h⟩
def AgQ:(Tx vE.P 328).isSome=true:=by obtain⟨e,h1,h2⟩:=Zr;rw[h1];rfl
theorem AYG{k q:Nat}{s:B8}:Q0 vE 328 (.sh k) (.str s) false ⟨(k,[.map (He (He (He [] [110,117,108,108]) [102,97,108,115,101]) [116,114,117,101]) (K3 (He (He [] [110,117,108,108]) [102,97,108,115,101]) (K3 (He [] [110,117,108,108]) (K3 [] [] [110,117,108,108] (.int .i64 1)) [102,97,108,115,101] (.int .i64 2)) [116,114,117,101] (.int .i64 3))])::m,q⟩=some (.int .i64 (XO s)):=by
 obtain⟨e,h1,h2⟩:=Zr;have e1:(He (He (He [] [110,117,108,108]) [102,97,108,115,101]) [116,114,117,101])=([[110,117,108,108],[102,97,108,115,101],[116,114,117,101]]:List B8):=fJ;have e2:(K3 (He (He [] [110,117,108,108]) [102,97,108,115,101]) (K3 (He [] [110,117,108,108]) (K3 [] [] [110,117,108,108] (.int .i64 1)) [102,97,108,115,101] (.int .i64 2)) [116,114,117,101] (.int .i64 3))=([.int .i64 1,.int .i64 2,.int .i64 3]:List AVal):=by rfl
 rw[e1,e2];simp only[Q0,h1,h2,V7,Ag,aB,LA,AVal.strip,XO,aq,az];by_cases a:s=[110,117,108,108];·subst a;rfl
 ·by_cases b:s=[102,97,108,115,101];·subst b;rfl
  ·by_cases c:s=[116,114,117,101];·subst c;rfl
   ·simp[a,b,c]
def AmG{s:B8}:lkR ((Tx vE.P 328).bind (Ct vE.P)) (some [.map (He (He (He [] [110,117,108,108]) [102,97,108,115,101]) [116,114,117,101]) (K3 (He (He [] [110,117,108,108]) [102,97,108,115,101]) (K3 (He [] [110,117,108,108]) (K3 [] [] [110,117,108,108] (.int .i64 1)) [102,97,108,115,101] (.int .i64 2)) [116,114,117,101] (.int .i64 3))]) s=some (.int .i64 (XO s)):=(At7 (E:=vE) (t:=328) (i:=0) (st:=⟨[(0,_)],0⟩)).symm.trans (AYG (m:=[]) (k:=0) (q:=0))
def AW6{p:JPsr}{i:Nat}{m0:MS}{t:ApiToken}{q:JPsr×Int} (tokNum: ∀ {n:Nat}{m:MS}{Q:PQ}{args:List AVal} {a0 r},JE N a0=some r->args=[.str a0]->(∀n',n<=n'->Gl (Q (.tuple [.str r.1,.int .i64 r.2]) ⟨m,n'⟩))->ACall vE 285 args ⟨m,n⟩ Q) (hp:PS p i m0 m) (hq:XY N p t=some q) (hnd:0<=p.nodes/\p.nodes<=20000) (hlen:p.stack.length<=CX) (hb: ∀v,v∈p.stack->v.items.length<=1099511627776) (ha:args=[.ptr i 0,Dz t]) (hQ: ∀n' m',n<=n'->PS q.1 i m0 m'->Gl (Q (.int .i64 q.2) ⟨m',n'⟩)):ACall vE 207 args ⟨m,n⟩ Q:=by
 refine ACall.nodup λhnn=>ACall.known λ_ hkn=>?_;obtain⟨sv,hg,hsv,hput⟩:=hp.put hnn;have hl:=(ABN hsv).2.2;have hi:i<n:=by
  rcases bb i n with h|h;·exact h
  ·have:=hkn i h;rw[hg]at this;cases this
 have h:True/\AA (λv=>some (TZ p v)) (λk=>if(t.kind==4)=true then(JE N t.text).bind λy=>if(y.2 !=0)=true then some (p,144)else k ⟨4,y.1,[],[]⟩else if(t.kind==5)=true then k ⟨XO t.text,[],[],[]⟩else k ⟨5,t.text,[],[]⟩)=some q:=by refine⟨trivial,hq.symm▸?_⟩;unfold XY AA;rfl
 subst ha;refine AAI func207 rfl ntmps207 results207 (.q (.r []) (.q (.r []) .z)) λR hR=>?_;have hin:i≠n:=fH;simp(disch:=omega) only[vm,seval,h.1];refine⟨UM (γ:=Bool×Bool) h [6,7,11,12,13,14,15,16,17,18,19,20,21,22,23,24,25,26,27,28,29,30,31,32,33,34] [] (λv g=>[]) (λv g=>(n+1,[.int .i64 v.kind,.str v.text,.slice 1 (v.keys.map AVal.str) g.1,.slice 4 (v.items.map AC) g.2])::(n,[.int .i64 t.kind,.str t.text,.int .i64 t.at_])::m) (.q (.r []) (.c (.q (.r []) (.q (.q (.r []) (.c (.q (.r []) .z) .z)) (.r []))) (.q (.r []) (.c (.r []) .z)))) ?_ ?_⟩<;>clear h
 ·rintro v g n4 hnn4 _ _ h;have h2:TZ p v=q:=by simpa using h.2
  have hms: ∀x,Ag (A7 m i x) i=some x:=λx=>IW hg;have hin4:i≠n+1:=fH;have hw:wr .i64 (p.nodes+1)=p.nodes+1:=AJF ⟨hnd.1,fH⟩;refine Cx (.q (.q (.r []) (.q (.r []) (.c (.q (.r []) .z) .z))) (.q (.r []) (.q (.r []) .z))) ?_;unfold TZ at h2;by_cases hc:p.nodes+1>20000
  ·rw[an hc]at h2;subst h2;have hc2:decide ((20000:Int)<p.nodes+1)=true:=by simpa using hc
   simp(disch:=omega) only[vm,seval,hg,pc,hl,hms,hw,hc2];refine⟨(hR _ _ _ _ _ _ (by simp(disch:=omega) only[vm,seval];rfl) (.cons _ (.cons _ slr)) fH ?_).1⟩;exact(hQ _ _ fH (hput {p with nodes:=p.nodes+1} rfl)).go
  ·rw[aj hc]at h2;subst h2;have hc2:decide ((20000:Int)<p.nodes+1)=false:=by simpa using hc
   simp(disch:=omega) only[vm,seval,hg,pc,hl,hms,hw,hc2];have hps:PS {p with nodes:=p.nodes+1} i ((n+1,[.int .i64 v.kind,.str v.text,.slice 1 (v.keys.map AVal.str) g.1,.slice 4 (v.items.map AC) g.2])::(n,[.int .i64 t.kind,.str t.text,.int .i64 t.at_])::m0) _:=((hput {p with nodes:=p.nodes+1} rfl).more _).more _;refine⟨AE2 (v:=v) hps hlen hb (by first|(simp(disch:=omega) only[vm,seval];done)|rfl) λn5 m5 hn5 h5=>?_⟩;simp(disch:=omega) only[vm,seval];refine⟨(hR _ _ _ _ _ _ (by simp(disch:=omega) only[vm,seval];rfl) slr fH ?_).1⟩;exact(hQ _ _ fH h5.less.less).go
 ·intro k Jk hk h;cases h4:t.kind==4
  ·cases h5:t.kind==5;·simp only[h4,h5,aq,az]at h;simp(disch:=omega) only[vm,seval,h4,h5];refine⟨hk _ (true,true) _ _ _ _ h.2 slr ?_ ?_ ?_ fH⟩<;>first|(simp(disch:=omega) only[vm,seval];done)|rfl
   ·simp only[h4,h5,aq,az,aB]at h;simp(disch:=omega) only[vm,seval,h4,h5,AgQ,AmG];refine⟨hk _ (true,true) _ _ _ _ h.2 (.cons _ slr) ?_ ?_ ?_ fH⟩<;>first|(simp(disch:=omega) only[vm,seval];done)|rfl
  ·simp only[h4,aB]at h;obtain⟨y,h6,h7⟩:=bind_some h.2;simp(disch:=omega) only[vm,seval,h4];refine⟨tokNum h6 (by first|(simp(disch:=omega) only[vm,seval];done)|rfl) λn5 hn5=>?_⟩;cases h8:y.2 !=0;·simp only[h8,aq,az]at h7;simp(disch:=omega) only[vm,seval,h8];refine⟨hk _ (true,true) _ _ _ _ h7 slr ?_ ?_ ?_ fH⟩<;>first|(simp(disch:=omega) only[vm,seval];done)|rfl
   ·simp only[h8,aB,ag]at h7;subst h7;simp(disch:=omega) only[vm,seval,h8];refine⟨(hR _ _ _ _ _ _ (by simp(disch:=omega) only[vm,seval];rfl) (.cons _ (.cons _ slr)) fH ?_).1⟩;exact(hQ _ _ fH hp).go
def Av4{q:Nat}{pre l junk:List AVal} (h:pre.length=q):List.drop q (pre++l++junk)=l++junk:=by subst h;simp
def Br{w i l h:Nat} (hi:Bj vE.P 180=some w) (hl:h<=l):GD vE 180 (.gsl w i l) none (some (h:Int)) none=some (.gsl w i h):=by have:(h:Int)<=l:=fH;simp[GD,hi,this]
def AYi {p:JPsr}{i:Nat}{m0:MS}{c:B8}{q:JPsr×Int} (hp:PS p i m0 m) (hq:Xr p c=some q) (hnd:0<=p.nodes/\p.nodes<=20000) (hlen:p.stack.length<=CX) (hb: ∀v,v∈p.stack->v.items.length<=1099511627776) (ha:args=[.ptr i 0,.str c]) (hQ: ∀n' m',n<=n'->PS q.1 i m0 m'->Gl (Q (.int .i64 q.2) ⟨m',n'⟩)):ACall vE 205 args ⟨m,n⟩ Q:=by
 refine ACall.nodup λhnn=>ACall.known λ_ hkn=>?_;obtain⟨sv,hg,hsv,hput⟩:=hp.put hnn;have hl:=(ABN hsv).2.2;have hi:i<n:=by
  rcases bb i n with h|h;·exact h
  ·have:=hkn i h;rw[hg]at this;cases this
 have hms: ∀x,Ag (A7 m i x) i=some x:=λx=>IW hg;unfold Xr at hq;subst ha;refine AAI func205 rfl ntmps205 results205 (.q (.r []) (.q (.q (.r []) (.q (.r []) (.c (.q (.r []) .z) (.q (.r []) (.c (.q (.r []) .z) (.q (.r []) (.c (.r []) (.q (.r []) (.c (.q (.r []) (.q (.r []) (.c (.r []) .z))) (.q (.r []) (.q .z (.r [])))))))))))) (.q (.r []) .z))) λR hR=>?_;cases h1:c==[91]
 ·cases h2:c==[123]
  ·cases h3:c==[58]
   ·simp only[h1,h2,h3,aq,az]at hq;rcases Ng (l:=p.stack)with hs|⟨st,v,hs⟩;·simp[hs]at hq
    ·simp only[hs,ck,cn,dt,cZ]at hq;obtain⟨j,ky,pre,junk,rest,g1,g2,g3,g4⟩:=hp.top hs;have hg2:Ag m i=some (pc (.gsl 5 j (st.length+1)) p):=Gr hnn (g2.mem_iff.2 fI);have hg3:Ag m j=some (pre++lvl v ky++junk):=Gr hnn (g2.mem_iff.2 fI);have hd:=nd3 hnn g2;have hij:j≠i:=hd.1;have hj:j<n:=by
      rcases bb j n with h|h;·exact h
      ·have:=hkn j h;rw[hg3]at this;cases this
     have hl2:0<st.length+1/\st.length+1<=CX:=⟨fH,by rw[hs]at hlen;simpa using hlen⟩;have hpr:pre.length=(st.length+1-1) * 5:=by simpa using g1
     have hp5:pre.length=st.length * 5:=g1;cases h4:c==[44]
     ·simp only[h4,aq,az,ag]at hq;simp(disch:=omega) only[vm,seval,h1,h2,h3,h4];refine⟨XT (i:=i) (j:=j) (len:=st.length+1) (pc:=_) (by exact hg2) hl2 (by first|(simp(disch:=omega) only[vm,seval];done)|rfl) λn2 hn2=>?_⟩;have hw2:wr .i64 (((st.length+1:Nat):Int)-1)=((st.length:Nat):Int):=by have:(((st.length+1:Nat):Int)-1)=((st.length:Nat):Int):=fH;rw[this];exact ARL (by have:=hl2.2;simp[CX]at this;omega)
      have hin2:i≠n2:=fH;simp(disch:=omega) only[vm,seval,hg3,lvl,drop_at hpr,Ami hp5,Av4 hp5];refine⟨QQ [] (.take 0 (.take 1 (.take 2 (.take 3 (.take 4 (.take 5 (.take 6 (.take 7 (.take 8 (.take 9 (.take 10 (.take 11 (.take 12 (.take 13 (.alt 14 [12] (.done) (.stop)))))))))))))))) M0 (by kernel_rfl) ?_⟩;simp(disch:=omega) only[vm,seval,hg2,pc,Mi EM,PU,Rj,VE,VL,hw2,Br Wo (Nat.le_succ st.length)];have hps0:PS ⟨st,p.want,p.nodes,p.out⟩ i m0 (A7 m i (pc (.gsl 5 j st.length) ⟨st,p.want,p.nodes,p.out⟩)):=by refine g4 _ (lvl v ky++junk) _ rfl ?_;have:=WC (x:=pc (.gsl 5 j st.length) ⟨st,p.want,p.nodes,p.out⟩) hnn g2;rw[aH]at this;exact this
      have hps:=hps0.more (n2,[.int .i64 v.kind,.str v.text,.slice 1 (v.keys.map AVal.str) false,.slice 4 (v.items.map AC) false]);refine⟨AE2 (v:=v) hps (by simp only[];omega) (λx hx=>hb x (by rw[hs];simp[hx])) (by first|(simp(disch:=omega) only[vm,seval];done)|rfl) λn5 m5 hn5 h5=>?_⟩;simp(disch:=omega) only[vm,seval];refine⟨(hR _ _ _ _ _ _ (by simp(disch:=omega) only[vm,seval];rfl) slr fH ?_).1⟩;have e:OC {p with stack:=(st++[v]).dropLast} v=OC ⟨st,p.want,p.nodes,p.out⟩ v:=by rw[cR]
      rw[e]at hq;subst hq;exact(hQ _ _ fH h5.less).go
     ·simp only[h4,aB,ag]at hq;have hms2: ∀x,Ag (A7 m i x) j=some (pre++lvl v ky++junk):=λx=>by rw[QL hij];exact hg3
      subst hq;simp(disch:=omega) only[vm,seval,h1,h2,h3,h4,hg,pc];refine⟨XT (i:=i) (j:=j) (len:=st.length+1) (pc:=[.int .i64 0,.int .i64 p.nodes,.int .i64 p.out.kind,.str p.out.text,.slice 1 (p.out.keys.map AVal.str) false,.slice 4 (p.out.items.map AC) false]) (by have e:=hg2.symm.trans hg;simp only[pc,ag,dg]at e;rw[hms,<-e.1]) hl2 (by first|(simp(disch:=omega) only[vm,seval];done)|rfl) λn2 hn2=>?_⟩;simp(disch:=omega) only[vm,seval,hms2,lvl,drop_at hpr,Ami hp5];cases h7:v.kind==7;·simp(disch:=omega) only[vm,seval,h7];refine⟨(hR _ _ _ _ _ _ (by simp(disch:=omega) only[vm,seval];rfl) slr fH ?_).1⟩;exact(hQ _ _ fH (by simp only[h7,aq,az];exact hput ⟨st++[v],0,p.nodes,p.out⟩ hs.symm)).go
      ·simp(disch:=omega) only[vm,seval,h7,hms];refine⟨(hR _ _ _ _ _ _ (by simp(disch:=omega) only[vm,seval];rfl) slr fH ?_).1⟩;exact(hQ _ _ fH (by simp only[h7,aB];exact hput ⟨st++[v],2,p.nodes,p.out⟩ hs.symm)).go
   ·simp only[h1,h2,h3,aq,az,aB,ag]at hq;subst hq;simp(disch:=omega) only[vm,seval,h1,h2,h3,hg,pc,hl];refine⟨(hR _ _ _ _ _ _ (by simp(disch:=omega) only[vm,seval];rfl) slr fH ?_).1⟩;exact(hQ _ _ fH (hput {p with want:=0} rfl)).go
  ·simp only[h1,h2,aq,az,aB,ag]at hq;subst hq;simp(disch:=omega) only[vm,seval,h1,h2];refine⟨AEm hp hnd (by first|(simp(disch:=omega) only[vm,seval];done)|rfl) λn5 m5 hn5 h5=>?_⟩;simp(disch:=omega) only[vm,seval];refine⟨(hR _ _ _ _ _ _ (by simp(disch:=omega) only[vm,seval];rfl) slr fH ?_).1⟩;exact(hQ _ _ fH h5).go
 ·simp only[h1,aB,ag]at hq;subst hq;simp(disch:=omega) only[vm,seval,h1];refine⟨AEm hp hnd (by first|(simp(disch:=omega) only[vm,seval];done)|rfl) λn5 m5 hn5 h5=>?_⟩;simp(disch:=omega) only[vm,seval];refine⟨(hR _ _ _ _ _ _ (by simp(disch:=omega) only[vm,seval];rfl) slr fH ?_).1⟩;exact(hQ _ _ fH h5).go
def AbP{p:JPsr}{i:Nat}{m0:MS}{t:ApiToken}{q:JPsr×Int} (tokNum: ∀ {n:Nat}{m:MS}{Q:PQ}{args:List AVal} {a0 r},JE N a0=some r->args=[.str a0]->(∀n',n<=n'->Gl (Q (.tuple [.str r.1,.int .i64 r.2]) ⟨m,n'⟩))->ACall vE 285 args ⟨m,n⟩ Q) (hp:PS p i m0 m) (hq:YI N p t=some q) (hnd:0<=p.nodes/\p.nodes<=20000) (hlen:p.stack.length<=CX) (hb: ∀v,v∈p.stack->v.keys.length<=1099511627776/\v.items.length<=1099511627776) (ha:args=[.ptr i 0,Dz t]) (hQ: ∀n' m',n<=n'->PS q.1 i m0 m'->Gl (Q (.int .i64 q.2) ⟨m',n'⟩)):ACall vE 116 args ⟨m,n⟩ Q:=by
 refine ACall.nodup λhnn=>ACall.known λ_ hkn=>?_;obtain⟨sv,hg,hsv,hput⟩:=hp.put hnn;have hl:=(ABN hsv).2.2;have hi:i<n:=by
  rcases bb i n with h|h;·exact h
  ·have:=hkn i h;rw[hg]at this;cases this
 have hin:i≠n:=fH;unfold YI at hq;subst ha;refine AAI func116 rfl ntmps116 results116 (.q (.r []) (.q (.q (.r []) (.c (.q (.r []) .z) (.q (.r []) (.c (.q (.r []) .z) (.q (.r []) (.c (.q (.r []) .z) (.q (.r []) (.c (.q (.r []) .z) .z)))))))) (.q (.r []) .z))) λR hR=>?_;simp(disch:=omega) only[vm,seval];refine⟨Afx (m0:=(n,[.int .i64 t.kind,.str t.text,.int .i64 t.at_])::m0) (p:=p) (i:=i) (t:=t) (hp.more _) hlen (by first|(simp(disch:=omega) only[vm,seval];done)|rfl) λn2 hn2=>?_⟩;cases h0:VW p t;·simp only[h0,aB,ag]at hq;subst hq;simp(disch:=omega) only[vm,seval];refine⟨(hR _ _ _ _ _ _ (by simp(disch:=omega) only[vm,seval];rfl) (.cons _ slr) fH ?_).1⟩;exact(hQ _ _ fH hp).go
 ·simp only[h0,dJ,az]at hq;have hps:=hp.more (n,[.int .i64 t.kind,.str t.text,.int .i64 t.at_]);cases h1:t.kind==2
  ·simp only[h1,aq,az]at hq;cases h2:p.want==2||p.want==3
   ·simp only[h2,aq,az]at hq;obtain⟨h3,h4⟩:=d8.1 h2;cases h5:t.kind==1;·simp only[h5,aq,az]at hq;simp(disch:=omega) only[vm,seval,h1,h3,h4,h5,hg,pc,hl];refine⟨AW6 (i:=i) (t:=t) tokNum hps hq hnd hlen (λv hv=>(hb v hv).2) (by first|(simp(disch:=omega) only[vm,seval];done)|rfl) λn5 m5 hn5 h6=>?_⟩;simp(disch:=omega) only[vm,seval];refine⟨(hR _ _ _ _ _ _ (by simp(disch:=omega) only[vm,seval];rfl) slr fH ?_).1⟩;exact(hQ _ _ fH h6.less).go
    ·simp only[h5,aB,ag]at hq;subst hq;simp(disch:=omega) only[vm,seval,h1,h3,h4,h5,hg,pc,hl];refine⟨(hR _ _ _ _ _ _ (by simp(disch:=omega) only[vm,seval];rfl) (.cons _ slr) fH ?_).1⟩;exact(hQ _ _ fH hp).go
   ·simp only[h2,aB]at hq;cases h3:p.want==2
    ·have h4:(p.want==3)=true:=by simpa[h3]using h2
     simp(disch:=omega) only[vm,seval,h1,h3,h4,hg,pc,hl];refine⟨AUT (i:=i) hps hq hlen (λv hv=>(hb v hv).1) (by first|(simp(disch:=omega) only[vm,seval];done)|rfl) λn5 m5 hn5 h6=>?_⟩;simp(disch:=omega) only[vm,seval];refine⟨(hR _ _ _ _ _ _ (by simp(disch:=omega) only[vm,seval];rfl) slr fH ?_).1⟩;exact(hQ _ _ fH h6.less).go
    ·simp(disch:=omega) only[vm,seval,h1,h3,hg,pc,hl];refine⟨AUT (i:=i) hps hq hlen (λv hv=>(hb v hv).1) (by first|(simp(disch:=omega) only[vm,seval];done)|rfl) λn5 m5 hn5 h6=>?_⟩;simp(disch:=omega) only[vm,seval];refine⟨(hR _ _ _ _ _ _ (by simp(disch:=omega) only[vm,seval];rfl) slr fH ?_).1⟩;exact(hQ _ _ fH h6.less).go
  ·simp only[h1,aB]at hq;simp(disch:=omega) only[vm,seval,h1];refine⟨AYi (i:=i) hps hq hnd hlen (λv hv=>(hb v hv).2) (by first|(simp(disch:=omega) only[vm,seval];done)|rfl) λn5 m5 hn5 h6=>?_⟩;simp(disch:=omega) only[vm,seval];refine⟨(hR _ _ _ _ _ _ (by simp(disch:=omega) only[vm,seval];rfl) slr fH ?_).1⟩;exact(hQ _ _ fH h6.less).go
section cells
variable{E:Env}{F:Nat->Nat}{O:Ghost}{w:World}{a:Act}{af:List AVal}{st:St}
def Qs (b:Nat): ∀(xs:List AVal) (vs:List Value) (i:Nat),AP b (xs.set i (xs.getD i .any).strip) vs<=AP b xs vs|[],_,_=>by simp[AP]|x::xs,[],i=>by cases i<;>simp[AP]|x::xs,v::vs,0=>by have:=Iw b x v;simp only[dE,cf,AP];omega|x::xs,v::vs,i+1=>by have:=Qs b xs vs i;simp only[cW,cH,AP];omega
def Sim.stripCell{i:Nat}{cs:List AVal} (p:Nat) (hs:Sim E F O st w af a.tmps.toList) (hg:Ag st.m i=some cs):Sim E F O {st with m:=A7 st.m i (cs.set p (cs.getD p .any).strip)} w af a.tmps.toList:=by
 rcases hs.box_ok _ (Lj hg)with⟨b,arr,e,hb⟩|⟨v,hv⟩;rotate_left;·exact hs.setSh hg hv (hv.rep.setStrip p) (hv.own.setStrip p) λn=>by have:=Qs n cs [v] p;have h2:=hs.tok n;omega
 obtain⟨lo,hi,hh,hf⟩:=hb.heap;exact(hs.setBox (w':=w) (cs':=cs.set p (cs.getD p .any).strip) (arr':=arr) (lo:=lo) (hi:=hi) hg hb hh hf (λ_ _=>rfl) rfl rfl rfl rfl (by rw[bZ];exact hb.rep.setStrip p) (hb.own.setStrip p) (by rw[bZ];exact hb.one) (λn=>by have:=Qs n cs arr.toList p;have h2:=hs.tok n;omega)).1
def V9{c:Code}{Q:APost}{i:Nat}{cs:List AVal} (p:Nat) (hg:Ag st.m i=some cs) (h:AWp E c Q af {st with m:=A7 st.m i (cs.set p (cs.getD p .any).strip)}):AWp E c Q af st:=⟨λF O w a hd hs=>h.go F O w a hd (Sim.stripCell p hs hg)⟩
end cells
def BD (p:JPsr) (k:Nat):Prop:=k<=1099511627776/\0<=p.nodes/\p.nodes<=20000/\p.stack.length<=64/\ ∀v,v∈p.stack->v.keys.length+k<=1099511627776/\v.items.length+k<=1099511627776
instance (p:JPsr) (k:Nat):Decidable (BD p k):=by unfold BD;exact inferInstance
def PS.all{p:JPsr}{i x:Nat}{c:List AVal}{m0 m:MS} (h:PS p i ((x,c)::m0) m): ∃Y:MS,m.Perm ((x,c)::(Y++m0)):=by cases h with|nil X hs h=>exact⟨(i,pc (.slice 5 [] true) p)::X,h.trans (by simpa using dz (a:=(x,c)) (l₁:=(i,pc (.slice 5 [] true) p)::X) (l₂:=m0))⟩|box j ks junk X hk h=>exact⟨(i,pc (.gsl 5 j p.stack.length) p)::(j,YY p.stack ks++junk)::(maps p.stack ks++X),h.trans (by simpa using dz (a:=(x,c)) (l₁:=(i,pc (.gsl 5 j p.stack.length) p)::(j,YY p.stack ks++junk)::(maps p.stack ks++X)) (l₂:=m0))⟩
def BD.put{p:JPsr}{v:ApiValue}{k:Nat} (h:BD p (k+1)) (h2:(TZ p v).2=0):BD (TZ p v).1 k:=by
 obtain⟨hk,h3,h4,h5,h6⟩:=h;unfold TZ at h2⊢;by_cases hc:p.nodes+1>20000;·rw[an hc]at h2;cases h2
 ·rw[aj hc];unfold OC;rcases Ng (l:=p.stack)with hs|⟨st,w,hs⟩;·simp only[hs,List.getLast?_nil];exact⟨fH,by simp only[];omega,by simp only[];omega,fI,fI⟩
  ·simp only[hs,ck,cn,dt,cZ,cR];rw[hs]at h5 h6;refine⟨fH,by simp only[];omega,by simp only[];omega,by simpa using h5,λx hx=>?_⟩;simp only[aZ,aY]at hx;rcases hx with hx|rfl;·have:=h6 x (by simp[hx]);omega
   ·have:=h6 w fI;simp only[ah,ae,ap];omega
def BD.take{p:JPsr}{t:ApiToken}{q:JPsr×Int}{k:Nat} (h:BD p (k+1)) (hq:YI N p t=some q) (h2:q.2=0):BD q.1 k:=by
 have less:BD p k:=⟨by have:=h.1;omega,h.2.1,h.2.2.1,h.2.2.2.1,λv hv=>by have:=h.2.2.2.2 v hv;omega⟩;obtain⟨hk,h3,h4,h5,h6⟩:=h;have opn: ∀kd w,(MK p kd w).2=0->BD (MK p kd w).1 k:=by
  intro kd w h;unfold MK at h⊢;by_cases a:p.stack.length>=64;·rw[an a]at h;cases h
  ·rw[aj a]at h⊢;by_cases b:p.nodes+1>20000;·rw[an b]at h;cases h
   ·rw[aj b];refine⟨fH,by simp only[];omega,by simp only[];omega,by simp only[ah,ae,ap];omega,λx hx=>?_⟩;simp only[aZ,aY]at hx;rcases hx with hx|rfl;·have:=h6 x hx;omega
    ·simp only[ap];omega
 unfold YI at hq;split at hq;·cases hq;cases h2
 ·split at hq
  ·unfold Xr at hq;split at hq;·cases hq;exact opn _ _ h2
   ·split at hq;·cases hq;exact opn _ _ h2
    ·split at hq;·cases hq;exact less
     ·rcases Ng (l:=p.stack)with hs|⟨st,w,hs⟩;·simp[hs]at hq
      ·simp only[hs,ck,cn,dt,cZ,cR]at hq;split at hq;·cases hq;exact⟨less.1,less.2.1,less.2.2.1,by rw[<-hs];exact less.2.2.2.1,λv hv=>less.2.2.2.2 v (by rw[hs];exact hv)⟩
       ·cases hq;rw[hs]at h5 h6;unfold OC;rcases Ng (l:=st)with hs2|⟨st2,w2,hs2⟩;·simp only[hs2,List.getLast?_nil];exact⟨less.1,less.2.1,less.2.2.1,fI,fI⟩
        ·simp only[hs2,ck,cn,dt,cZ,cR];rw[hs2]at h5 h6;refine⟨less.1,less.2.1,less.2.2.1,by simp at h5⊢;omega,λx hx=>?_⟩;simp only[aZ,aY]at hx;rcases hx with hx|rfl;·have:=h6 x (by simp[hx]);omega
         ·have:=h6 w2 fI;simp only[ah,ae,ap];omega
  ·split at hq
   ·unfold AB2 at hq;rcases Ng (l:=p.stack)with hs|⟨st,w,hs⟩;·simp[hs]at hq
    ·simp only[hs,ck,cn,dt,cZ,cR]at hq;split at hq;·cases hq;cases h2
     ·cases hq;rw[hs]at h5 h6;refine⟨less.1,less.2.1,less.2.2.1,by simpa using h5,λx hx=>?_⟩;simp only[aZ,aY]at hx;rcases hx with hx|rfl;·have:=h6 x (by simp[hx]);omega
      ·have:=h6 w fI;simp only[ah,ae,ap];omega
   ·split at hq;·cases hq;exact less
    ·unfold XY at hq;split at hq
     ·obtain⟨y,h7,h8⟩:=bind_some hq;split at h8;·cases h8;cases h2
      ·cases h8;exact BD.put ⟨hk,h3,h4,h5,h6⟩ h2
     ·split at hq;·cases hq;exact BD.put ⟨hk,h3,h4,h5,h6⟩ h2
      ·cases hq;exact BD.put ⟨hk,h3,h4,h5,h6⟩ h2
def JS (i:Nat) (m0:MS):Type:= {x:Int×JPsr×MS // PS x.2.1 i m0 x.2.2}
def JG (N:Nat) (a0:B8){i:Nat}{m0:MS} (k:Nat) (x:JS i m0):Option (ApiValue×Int×Int):=grd (BD x.1.2.1 k) (Xt N a0 k x.1.1 x.1.2.1)
def JG0{a0:B8}{i:Nat}{m0:MS}{x:JS i m0}:JG N a0 0 x=none:=by unfold JG grd;split<;>rfl
def AXO{a0:B8}{r:ApiValue×Int×Int} (tokNum: ∀ {n:Nat}{m:MS}{Q:PQ}{args:List AVal} {a0 r},JE N a0=some r->args=[.str a0]->(∀n',n<=n'->Gl (Q (.tuple [.str r.1,.int .i64 r.2]) ⟨m,n'⟩))->ACall vE 285 args ⟨m,n⟩ Q) (tokNext: ∀ {n:Nat}{m:MS}{Q:PQ}{args:List AVal} {a0 a1 r},Qj N a0 a1=some r->args=[.str a0,.int .i64 a1]->(∀n',n<=n'->Gl (Q (.tuple [Dz r.1,.int .i64 r.2.1,.int .i64 r.2.2]) ⟨m,n'⟩))->ACall vE 115 args ⟨m,n⟩ Q) (h:Ja N a0=some r) (ha:args=[.str a0]) (hQ: ∀n',n<=n'->Gl (Q (.tuple [AC r.1,.int .i64 r.2.1,.int .i64 r.2.2]) ⟨m,n'⟩)):ACall vE 42 args ⟨m,n⟩ Q:=by
 unfold Ja at h;by_cases hN:N>1099511627776;·rw[an hN]at h;cases h
 rw[aj hN]at h;subst ha;refine Ayh hQ func42 rfl ntmps42 results42 (.q (.r []) (.q (.q (.r []) (.c (.q (.r []) .z) .z)) (.q (.r []) (.q (.r []) .z)))) λR hR=>?_;by_cases hl:a0.length>1048576
 ·rw[an hl]at h;cases h;have hc:decide ((1048576:Int)<(a0.length:Int))=true:=by simp;omega
  simp(disch:=omega) only[vm,seval,hc];refine⟨(hR _ _ _ _ _ _ (by simp(disch:=omega) only[vm,seval];rfl) (.cons _ slr) rfl fH ?_).1⟩;simp(disch:=omega) only[vm,seval,J6,IV]
 ·rw[aj hl]at h;have hc:decide ((1048576:Int)<(a0.length:Int))=false:=by simp;omega
  simp(disch:=omega) only[vm,seval,hc];have hnn:n+1≠n:=fH;refine⟨V9 (i:=n+1) 5 AHD (V9 (i:=n+1) 6 (by simp only[vm];rfl) ?_)⟩;simp(disch:=omega) only[vm,seval];generalize hcell:([.int .i64 0,.str [],.slice 1 [] true,.slice 4 [] true]:List AVal)=cell;have hcl:cell.length=4:=by subst hcell;rfl
  have s0:PS ⟨[],0,0,J6⟩ (n+1) ((n,cell)::m) ((n+1,pc (.slice 5 [] true) ⟨[],0,0,J6⟩)::(n,cell)::m):=.nil [] rfl (db _);have hG:True/\JG N a0 N (⟨(0,⟨[],0,0,J6⟩,(n+1,pc (.slice 5 [] true) ⟨[],0,0,J6⟩)::(n,cell)::m),s0⟩:JS (n+1) ((n,cell)::m))=some r:=by refine⟨trivial,?_⟩;have:BD ⟨[],0,0,J6⟩ N:=⟨Nat.not_lt.1 hN,fI,fI,fI,fI⟩;simp only[JG,grd,an this];exact h
  refine Akf (σ:=JS (n+1) ((n,cell)::m)) (γ:=Unit) (JG N a0) (λx _=>[.int .i64 x.1.1]) (λx _=>x.1.2.2) [7,8,9,10,15,16,17,18,19,20,21,22,23,24,25,26,27,28,29,30,31,32,33,34,35,36,37,38,39,40,41,42] [6] ⟨(0,⟨[],0,0,J6⟩,(n+1,pc (.slice 5 [] true) ⟨[],0,0,J6⟩)::(n,cell)::m),s0⟩ () hG (λx=>JG0) ?_ ?_ ?_;·simp only[pc,J6,cv]
  ·simp(disch:=omega) only[vm,seval]
  rintro k ⟨⟨at_,p,m1⟩,hps⟩ _ n1 hn1 hk1 h1 Jk hJ;simp only at hps hk1 h1 hJ;refine AWp.nodup λhnd=>?_;refine Cx (.q (.r []) (.q (.q (.r []) (.c .z .z)) (.q (.q (.r []) (.q (.r []) (.c .z .z))) .z))) ?_;obtain⟨hbd,h2⟩:=ABg (show grd (BD p (k+1)) (Xt N a0 (k+1) at_ p)=some r from h1.2);rw[Xt]at h2;obtain⟨y,h3,h4⟩:=bind_some h2;simp(disch:=omega) only[vm,seval];refine⟨tokNext h3 (by first|(simp(disch:=omega) only[vm,seval];done)|rfl) λn2 hn2=>?_⟩;have hn12:n<n1:=fH;have hfin: ∀(x:ApiValue) (a b:Int),True:=λ_ _ _=>trivial;subst hcell;have hnp:n+1<n1:=by
   rcases bb (n+1) n1 with h|h;·exact h
   ·obtain⟨sv,hg,_⟩:=hps.put hnd;have:=hk1 (n+1) h;rw[hg]at this;cases this
  have hn_2:n≠n2:=fH;have hp_2:n+1≠n2:=fH;cases h5:y.2.2 !=0
  ·simp only[h5,aq,az]at h4;obtain⟨q,h6,h7⟩:=bind_some h4;simp(disch:=omega) only[vm,seval,h5];have hps2:=hps.more (n2,[.int .i64 y.1.kind,.str y.1.text,.int .i64 y.1.at_]);refine⟨AbP (i:=n+1) tokNum hps2 h6 ⟨hbd.2.1,hbd.2.2.1⟩ (by have:=hbd.2.2.2.1;simp[CX];omega) (λv hv=>by have:=hbd.2.2.2.2 v hv;omega) (by first|(simp(disch:=omega) only[vm,seval];done)|rfl) λn5 m5 hn5 h8=>?_⟩;have hln: ∀x c,(x,c)∈(n2,[.int .i64 y.1.kind,.str y.1.text,.int .i64 y.1.at_])::(n,[.int .i64 0,.str [],.slice 1 [] true,.slice 4 [] true])::m->(m5.map (·.1)).Nodup->Ag m5 x=some c:=λx c hx hd=>h8.get hd hx;have hpm: ∃Y:MS,m5.Perm ((n,[.int .i64 0,.str [],.slice 1 [] true,.slice 4 [] true])::(n2,[.int .i64 y.1.kind,.str y.1.text,.int .i64 y.1.at_])::(Y++m)):=by obtain⟨Y,hY⟩:=h8.all;refine⟨Y,hY.trans ?_⟩;refine(cI _ ?_).trans (cB _ _ _);simp
   cases h9:q.2 !=0
   ·simp only[h9,aq,az]at h7;simp(disch:=omega) only[vm,seval,h9];refine⟨AWp.nodup λhd5=>?_⟩;have ht5:=hln n2 _ dK hd5;obtain⟨sv,hg5,hsv5,_⟩:=h8.put hd5;refine Cx (.q (.q (.r []) (.c .z .z)) (.r [])) ?_;cases h10:y.1.kind==1
    ·simp only[h10,aq,az]at h7;simp(disch:=omega) only[vm,seval,ht5,h10];have hps5:PS q.1 (n+1) ((n,[.int .i64 0,.str [],.slice 1 [] true,.slice 4 [] true])::m) m5:=h8.less;have hb5:BD q.1 k:=BD.take hbd h6 (by simpa using h9);have hg:JG N a0 k (⟨(y.2.1,q.1,m5),hps5⟩:JS (n+1) ((n,[.int .i64 0,.str [],.slice 1 [] true,.slice 4 [] true])::m))=some r:=by simp only[JG,grd,an hb5];exact h7
     refine⟨hJ _ () _ _ _ _ hg slr rfl ?_ ?_ fH⟩<;>first|(simp(disch:=omega) only[vm,seval];done)|rfl
    ·simp only[h10,aB,ag]at h7;subst h7;simp(disch:=omega) only[vm,seval,ht5,h10];obtain⟨Y,hY⟩:=hpm;have hgp:Ag ((n,[.int .i64 0,.str [],.slice 1 [] true,.slice 4 [] true])::(n2,[.int .i64 y.1.kind,.str y.1.text,.int .i64 y.1.at_])::(Y++m)) (n+1)=some (pc sv q.1):=by refine Gr (WI hY hd5) (hY.mem_iff.1 ?_);exact Lj hg5
     have hgp2:Ag (Y++m) (n+1)=some (pc sv q.1):=by rw[YC fH,YC fH]at hgp;exact hgp
     refine⟨ABC hY ?_⟩;refine Cx (.q (.r []) .z) ?_;simp(disch:=omega) only[vm,seval,hgp2,pc];refine⟨(hR _ _ _ _ _ _ (by simp(disch:=omega) only[vm,seval];rfl) (.cons _ (.cons _ (cM Y m))) rfl fH ?_).1⟩;simp(disch:=omega) only[vm,seval,IV]
   ·simp only[h9,aB,ag]at h7;subst h7;simp(disch:=omega) only[vm,seval,h9];obtain⟨Y,hY⟩:=hpm;refine⟨ABC hY ?_⟩;refine Cx (.q .z .z) ?_;simp(disch:=omega) only[vm,seval];refine⟨QQ [] (.take 1 (.take 2 (.take 3 (.alt 0 [3,2,1] (.alt 4 [3,2,1] (.alt 5 [3] (.alt 6 [] (.done) (.stop)) (.stop)) (.stop)) (.stop))))) M0 (by kernel_rfl) ?_⟩;simp(disch:=omega) only[vm,seval];refine⟨(hR _ _ _ _ _ _ (by simp(disch:=omega) only[vm,seval];rfl) (.cons _ (.cons _ (cM Y m))) rfl fH ?_).1⟩;simp(disch:=omega) only[vm,seval,J6,IV]
  ·simp only[h5,aB,ag]at h4;subst h4;simp(disch:=omega) only[vm,seval,h5];obtain⟨Y,hY⟩:=hps.all;refine⟨ABC ((hY.cons _).trans (cB _ _ _)) ?_⟩;refine Cx (.q (.r []) .z) ?_;simp(disch:=omega) only[vm,seval];refine⟨(hR _ _ _ _ _ _ (by simp(disch:=omega) only[vm,seval];rfl) (.cons _ (.cons _ (cM Y m))) rfl fH ?_).1⟩;simp(disch:=omega) only[vm,seval,J6,IV]
def AAZ {a0 r} (h:Ja N a0=some r) (ha:args=[.str a0]) (hQ: ∀n',n<=n'->Gl (Q (.tuple [AC r.1,.int .i64 r.2.1,.int .i64 r.2.2]) ⟨m,n'⟩)):ACall vE 42 args ⟨m,n⟩ Q:=AXO (λh ha hq=>AB6 h ha hq) (λh ha hq=>AIq h ha hq) h ha hQ
instance AhO {a0}:CF vE (Ja N a0) 42 [.str a0] (λr=>.tuple [AC r.1,.int .i64 r.2.1,.int .i64 r.2.2]):=⟨λh hQ=>AAZ h rfl hQ⟩
end Go.Proofs.YtenhbiooanampaaGreatDoor
