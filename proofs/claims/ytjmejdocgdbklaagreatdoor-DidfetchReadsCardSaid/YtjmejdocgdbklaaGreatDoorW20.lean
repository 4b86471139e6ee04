import Derived.Test.YtjmejdocgdbklaaGreatDoorVmFacts
import Derived.Test.YtjmejdocgdbklaaGreatDoorDefs
import Derived.Test.YtjmejdocgdbklaaGreatDoorVM7
import Derived.Test.YtjmejdocgdbklaaGreatDoorW0
import Derived.Test.YtjmejdocgdbklaaGreatDoorW18
import Derived.Test.YtjmejdocgdbklaaGreatDoorW19
set_option linter.unusedVariables false
set_option linter.unusedSimpArgs false
set_option maxHeartbeats 4000000
set_option maxRecDepth 100000
set_option linter.defProp false
namespace Go.Proofs.YtjmejdocgdbklaaGreatDoor
open Go.VM
attribute [local irreducible] AB grd letL
variable{N n:Nat}{m:MS}{Q:PQ}{args:List AVal}
def MJ{t:TypeId}{w i l:Nat} (h:Dk vE.P t=true):Sk vE t (.gsl w i l)=some (.int .i64 l):=by simp[Sk,h]
theorem OU{w i l:Nat}:(AVal.gsl w i l).strip=.gsl w i l:=rfl
theorem Qa{w i l:Nat}:Ag (.gsl w i l)=[.gsl w i l]:=rfl
theorem Uj{w i l:Nat}:EY (.gsl w i l)=true:=rfl
theorem UQ{w i l:Nat}:MO (.gsl w i l)=false:=rfl
def AUz{i l:Nat} (h:0<l/\l<=Dl):D5 vE 104 (.gsl 5 i l) (.int .i64 (wr .i64 ((l:Int)-1)))=some (.ptr i ((l-1) * 5)):=by
 have e:wr .i64 ((l:Int)-1)=((l-1:Nat):Int):=by have h2:=h.2;have h1:((l:Int)-1)=((l-1:Nat):Int):=fy;rw[h1];exact AOZ fy
 rw[e];have h3:l-1<l:=fy;simp[D5,Vj,h3]
def AN0{i j len:Nat}{pc:List AVal} (hl:0<len/\len<=Dl) (ha:args=[.ptr i 0]) (hQ: ∀n',n<=n'->Gl (Q (.ptr j ((len-1)*5)) ⟨(i,.gsl 5 j len::pc)::m,n'⟩)):ACall vE 157 args ⟨(i,.gsl 5 j len::pc)::m,n⟩ Q:=by have h:True/\True:=⟨trivial,trivial⟩;subst ha;refine ent hQ Tryz.func157 rfl Tryz.ntmps157 Tryz.results157 (.q (.r []) (.q .z .z)) λR hR=>?_;simp(disch:= omega) only[vm,seval,h.1];refine⟨PV [] (.take 0 (.take 1 (.take 2 (.take 3 (.take 4 (.take 5 (.take 6 (.take 7 (.take 8 (.take 9 (.take 10 (.alt 11 [] (.done) (.stop))))))))))))) MZ (by kernel_rfl) ?_⟩;simp(disch:= omega) only[vm,seval,h.1,MJ Ev,OU,AUz hl];refine⟨(hR _ _ _ _ _ _ (by simp(disch:= omega) only[vm,seval,h.1];rfl) slr ?_ fy ?_).1⟩<;>first| (simp(disch:= omega) only[vm,seval,h.1];done)| rfl
def Xr{i j len:Nat}{pc:List AVal} (hm:A9 m i=some (.gsl 5 j len::pc)) (hl:0<len/\len<=Dl) (ha:args=[.ptr i 0]) (hQ: ∀n',n<=n'->Gl (Q (.ptr j ((len-1)*5)) ⟨m,n'⟩)):ACall vE 157 args ⟨m,n⟩ Q:=by have h:True/\True:=⟨trivial,trivial⟩;subst ha;refine ent hQ Tryz.func157 rfl Tryz.ntmps157 Tryz.results157 (.q (.r []) (.q .z .z)) λR hR=>?_;simp(disch:= omega) only[vm,seval,h.1,hm];refine⟨PV [] (.take 0 (.take 1 (.take 2 (.take 3 (.take 4 (.take 5 (.take 6 (.take 7 (.take 8 (.take 9 (.take 10 (.alt 11 [] (.done) (.stop))))))))))))) MZ (by kernel_rfl) ?_⟩;simp(disch:= omega) only[vm,seval,h.1,MJ Ev,OU,AUz hl,hm];refine⟨(hR _ _ _ _ _ _ (by simp(disch:= omega) only[vm,seval,h.1,hm];rfl) slr ?_ fy ?_).1⟩<;>first| (simp(disch:= omega) only[vm,seval,h.1,hm];done)| rfl
def AUH:(U1 vE.P 210).map (FI vE.P)=some (some (.bool false)):=by kernel_rfl
def Tu: ∃e,U1 vE.P 210=some e/\FI vE.P e=some (.bool false):=by have h:=AUH;cases he:U1 vE.P 210 with |none=>rw[he]at h;cases h|some e=>rw[he]at h;simp only[aQ,aj]at h;exact⟨e,rfl,h⟩
def ANq{s:B8}: ∀ {keys:List B8},s∈keys->LW keys (keys.map λ_=>AVal.bool true) s=some (.bool true)
 | k::ks,h=>by
  simp only[aE,LW];split;·rfl
  ·rename_i hn;rcases aL.1 h with h|h;·exact absurd h hn
   ·exact ANq h
def AES{s:B8}: ∀ {keys:List B8},s∉keys->LW keys (keys.map λ_=>AVal.bool true) s=none |[],_=>rfl| k::ks,h=>by simp only[aL,fx]at h;simp only[aE,LW];rw[ae h.1];exact AES h.2
def ANk{s:B8}{x:AVal}: ∀ {keys:List B8}{vs:List AVal},s∉keys->vs.length=keys.length->I9 keys s=keys++[s]/\K5 keys vs s x=vs++[x] |[],[],_,_=>⟨rfl,rfl⟩|[],_::_,_,h=>by simp at h|k::ks,[],_,h=>by simp at h| k::ks,v::vs,h,hl=>by simp only[aL,fx]at h;obtain⟨h1,h2⟩:=ANk (x:=x) h.2 (by simpa using hl:vs.length=ks.length);simp only[I9,K5,ae h.1,h1,h2,ba,d8]
def AjR{k:Nat}{s:B8}{keys:List B8}{st:St} (hm:A9 st.m k=some [.map keys (keys.map λ_=>.bool true)]) (hin:s∈keys):P8 vE 210 (.sh k) (.str s) false st=some (.bool true):=by obtain⟨e,h1,h2⟩:=Tu;simp[P8,h1,h2,Tv,hm,ANq hin,AVal.strip]
def Ac7{k:Nat}{s:B8}{keys:List B8}{st:St} (hm:A9 st.m k=some [.map keys (keys.map λ_=>.bool true)]) (hin:s∉keys):P8 vE 210 (.sh k) (.str s) false st=some (.bool false):=by obtain⟨e,h1,h2⟩:=Tu;simp[P8,h1,h2,Tv,hm,AES hin,AVal.strip]
def AjD{k:Nat}{s:B8}{keys:List B8}{st:St} (hm:A9 st.m k=some [.map keys (keys.map λ_=>.bool true)]) (hin:s∉keys):Sq vE 210 (.sh k) (.str s) (.bool true) st=some {st with m:=Bz st.m k [.map (keys++[s]) ((keys++[s]).map λ_=>.bool true)]}:=by obtain⟨e,h1,h2⟩:=Tu;obtain⟨h3,h4⟩:=ANk (x:=AVal.bool true) (vs:=keys.map λ_=>AVal.bool true) hin fA;simp[Sq,h1,Tv,hm,h3,h4]
def drop_at{q c:Nat}{pre l junk:List AVal} (h:pre.length=q):List.drop (q+c) (pre++l++junk)=List.drop c (l++junk):=by subst h;rw[aP,ck];simp
def get_at{q c:Nat}{pre l junk:List AVal} (h:pre.length=q):(pre++l++junk)[q+c]?=(l++junk)[c]?:=by subst h;rw[aP,dr fy];congr 1;omega
def Aex{q c:Nat}{x:AVal}{pre l junk:List AVal} (h:pre.length=q) (hc:decide (c<l.length)=true):(pre++l++junk).set (q+c) x=pre++l.set c x++junk:=by
 subst h;have hc:c<l.length:=by simpa using hc
 rw[aP,dZ _ _ fy,List.set_append_left _ _ fy,aP];congr 2;congr 1;omega
def Apt{q:Nat}{a b c d e x:AVal}{pre junk:List AVal} (h:pre.length=q):(pre++[a,b,c,d,e]++junk).set (q+2) x=pre++[a,b,x,d,e]++junk:=Aex h rfl
def AlZ{q:Nat}{a b c d e x:AVal}{pre junk:List AVal} (h:pre.length=q):(pre++[a,b,c,d,e]++junk).set (q+3) x=pre++[a,b,c,x,e]++junk:=Aex h rfl
def AYS{i j k len:Nat}{pre junk:List AVal}{keys:List B8}{kd wt nd text it o1 o2 o3 o4:AVal}{s:B8} (hd:j≠i/\k≠i/\k≠j) (hp:pre.length=(len-1) * 5) (hl:0<len/\len<=Dl) (ha:args=[.ptr i 0,.str s]) (hin:s∈keys) (hQ: ∀n',n<=n'->Gl (Q (.int .i64 143) ⟨(i,[.gsl 5 j len,wt,nd,o1,o2,o3,o4])::(j,pre++[kd,text,.slice 1 (keys.map AVal.str) true,it,.sh k]++junk)::(k,[.map keys (keys.map λ_=>.bool true)])::m,n'⟩)):ACall vE 109 args ⟨(i,[.gsl 5 j len,wt,nd,o1,o2,o3,o4])::(j,pre++[kd,text,.slice 1 (keys.map AVal.str) true,it,.sh k]++junk)::(k,[.map keys (keys.map λ_=>.bool true)])::m,n⟩ Q:=by
 have h:True/\True:=⟨trivial,trivial⟩;obtain⟨hd1,hd2,hd3⟩:=hd;subst ha;refine ent hQ Tryz.func109 rfl Tryz.ntmps109 Tryz.results109 (.q (.r []) (.q (.r []) (.q (.q (.r []) (.c (.q (.r []) .z) .z)) .z))) λR hR=>?_;simp(disch:= omega) only[vm,seval,h.1];refine⟨AN0 hl tD λn2 hn2=>?_⟩;have hg:A9 ((i,[.gsl 5 j len,wt,nd,o1,o2,o3,o4])::(j,pre++[kd,text,.slice 1 (keys.map AVal.str) true,it,.sh k]++junk)::(k,[.map keys (keys.map λ_=>.bool true)])::m) k=some [.map keys (keys.map λ_=>.bool true)]:=by simp[A9,hd2,hd3]
 have hlk:=AjR (st:=⟨_,n2⟩) hg hin;simp(disch:= omega) only[vm,seval,h.1,drop_at hp,Yc,AS6,hlk];refine⟨(hR _ _ _ _ _ _ (by simp(disch:= omega) only[vm,seval,h.1];rfl) slr rfl fy ?_).1⟩<;>first| (simp(disch:= omega) only[vm,seval,h.1];done)| rfl
def ARo{i j k len:Nat}{pre junk:List AVal}{keys:List B8}{kd wt nd text it o1 o2 o3 o4:AVal}{s:B8} (hd:j≠i/\k≠i/\k≠j) (hp:pre.length=(len-1) * 5) (hl:0<len/\len<=Dl) (ha:args=[.ptr i 0,.str s]) (hin:s∉keys) (hb:keys.length<=1099511627776) (hQ: ∀n',n<=n'->Gl (Q (.int .i64 0) ⟨(i,[.gsl 5 j len,.int .i64 4,nd,o1,o2,o3,o4])::(j,pre++[kd,text,.slice 1 ((keys++[s]).map AVal.str) true,it,.sh k]++junk)::(k,[.map (keys++[s]) ((keys++[s]).map λ_=>.bool true)])::m,n'⟩)):ACall vE 109 args ⟨(i,[.gsl 5 j len,wt,nd,o1,o2,o3,o4])::(j,pre++[kd,text,.slice 1 (keys.map AVal.str) true,it,.sh k]++junk)::(k,[.map keys (keys.map λ_=>.bool true)])::m,n⟩ Q:=by
 have h:True/\True:=⟨trivial,trivial⟩;obtain⟨hd1,hd2,hd3⟩:=hd;subst ha;refine ent hQ Tryz.func109 rfl Tryz.ntmps109 Tryz.results109 (.q (.r []) (.q (.r []) (.q (.q (.r []) (.c (.q (.r []) .z) .z)) (.q (.r []) (.q (.r [24]) (.q (.r []) (.q (.r []) .z))))))) λR hR=>?_;simp(disch:= omega) only[vm,seval,h.1];refine⟨AN0 hl tD λn2 hn2=>?_⟩;have hg:A9 ((i,[.gsl 5 j len,wt,nd,o1,o2,o3,o4])::(j,pre++[kd,text,.slice 1 (keys.map AVal.str) true,it,.sh k]++junk)::(k,[.map keys (keys.map λ_=>.bool true)])::m) k=some [.map keys (keys.map λ_=>.bool true)]:=by simp[A9,hd2,hd3]
 have hlk:=Ac7 (st:=⟨_,n2⟩) hg hin;have hup:=AjD (st:=⟨_,n2⟩) hg hin;have hft:CW (keys.length+1) 16:=by unfold CW;omega
 have hr2:(len-1) * 5+3<=pre.length+(5+junk.length):=fy;simp(disch:= omega) only[vm,seval,h.1,drop_at hp,Yc,Wo,AS6,hlk,hup,get_at hp,Apt hp,hft,hr2,av];refine⟨(hR _ _ _ _ _ _ (by simp(disch:= omega) only[vm,seval,h.1];rfl) slr ?_ fy ?_).1⟩<;>first| (simp(disch:= omega) only[vm,seval,h.1];done)| rfl
def Y6{E:Env}{c:Code}{f:FuncId}{fn:Func}{nt:Nat}{rs:List ResultVar}{args:List AVal}{m:MS}{n:Nat}{Q:PQ} (hf:E.P.funcs[f]?=some fn) (hb:fn.body=some c) (hn:fn.ntmps=nt) (hr:fn.results=rs.toArray) (a:An) (h: ∀R:APost,(∀af st xs m0 m1 n',QT E rs af st=some (xs,⟨m1,n'⟩)->m0.Sublist m1->n<=n'->Q (Sb xs) ⟨m0,n'⟩->R .ret af st/\R .normal af st)->Gl (wpc E c a R (args++List.replicate (nt-args.length) .any) ⟨m,n⟩)):ACall E f args ⟨m,n⟩ Q:=by
 refine MM hf hb ?_;have hw:=PY a (h (KP E fn Q) ?_).go;·subst hn;exact hw
 ·intro af st xs m0 m1 n' h1 h2 h3 h4;have e:fn.results.toList=rs:=by rw[hr]
  exact⟨Kc (by rw[e];exact h1) h2 h4,Km (by rw[e];exact h1) h2 h4⟩
def ZZ:FI vE.P 212=some (.agg [.int .i64 0,.str [],.slice 1 [] true,.slice 4 [] true,.nmap]):=by kernel_rfl
def AR8{i j len:Nat}{lc:List AVal}{kd want nodes:Int}{wt o1 o2 o3 o4:AVal} (hd:j≠i) (hlc:len * 5<=lc.length) (hl:len<64) (hn:0<=nodes/\nodes+1<=20000) (ha:args=[.ptr i 0,.int .i64 kd,.int .i64 want]) (hQ: ∀n' j' k',n<=n'->(j'=j\/n<=j')->n<=k'->k'≠j'->Gl (Q (.int .i64 0) ⟨(j',lc.take (len * 5)++[.int .i64 kd,.str [],.slice 1 [] true,.slice 4 [] true,.sh k'])::(k',[.map [] []])::(i,[.gsl 5 j' (len+1),.int .i64 want,.int .i64 (nodes+1),o1,o2,o3,o4])::m,n'⟩)):ACall vE 159 args ⟨(i,[.gsl 5 j len,wt,.int .i64 nodes,o1,o2,o3,o4])::(j,lc)::m,n⟩ Q:=by
 refine ACall.known λ_ hkn=>?_;have h:True/\True:=⟨trivial,trivial⟩;have hi:i<n:=by
  rcases aS i n with h|h;·exact h
  ·have:=hkn i h;simp[A9]at this
 have hj:j<n:=by
  rcases aS j n with h|h;·exact h
  ·have:=hkn j h;simp[A9,hd]at this
 subst ha;refine Y6 Tryz.func159 rfl Tryz.ntmps159 Tryz.results159 (.q (.r []) (.q (.q (.r []) (.c (.q (.r []) .z) .z)) (.q (.q (.r []) (.q (.r []) (.c (.q (.r []) .z) .z))) (.q (.r [29,34]) (.q (.r []) (.q (.r []) .z)))))) λR hR=>?_;have hc1:decide ((64:Int)<=len)=false:=by simp;omega
 have hc2:decide ((20000:Int)<nodes+1)=false:=by simp;omega
 have hw:wr .i64 (nodes+1)=nodes+1:=by obtain⟨q,rfl⟩: ∃q:Nat,nodes=q:=⟨nodes.toNat,fy⟩;exact AEW (by simp[Dl];omega)
 simp(disch:= omega) only[vm,seval,h.1,MJ Ev,OU,Qa,hc1,hc2,hw,ZZ,ACG,Jb];have happ:ANm vE 104 104 (AVal.gsl 5 j len) (AVal.gsl 5 (n+1) 1) {m:=(n+1,List.flatMap (λp=>Ag p.snd) [((0:Nat),AVal.agg [AVal.int IntKind.i64 kd,AVal.str [],AVal.slice 1 [] true,AVal.slice 4 [] true,AVal.sh n])])::(n,[AVal.map [] []])::(i,[AVal.gsl 5 j len,wt,AVal.int IntKind.i64 (nodes+1),o1,o2,o3,o4])::(j,lc)::m,next:=n+2} =some (5,len+1,lc.take (len * 5)++[.int .i64 kd,.str [],.slice 1 [] true,.slice 4 [] true,.sh n],(n,[AVal.map [] []])::(i,[AVal.gsl 5 j len,wt,AVal.int IntKind.i64 (nodes+1),o1,o2,o3,o4])::m,some j):=by
  have e1: ¬j=n:=fy;have e2: ¬j=n+1:=fy;have e3:(len+1) * 80<=140737488355328/\len+1<=Dl:=by simp[Dl];omega
  simp[ANm,A9,EP,ABd,ACP,V3,Ag,hd,e1,e2,e3,hlc]
 rw[happ];constructor;intro j' hj';have hj1:j'≠i/\j'≠n/\(j'=j\/n<=j'):=by
  rcases hj' with hj'|hj';·simp only at hj';omega
  ·cases hj';omega
 obtain⟨hj1,hj2,hj3⟩:=hj1;have hin:i≠n:=fy;refine Gl.go ?_;simp(disch:= omega) only[vm,seval,h.1,OU,Qa,Uj,UQ];refine⟨(hR _ _ _ _ _ _ (by simp(disch:= omega) only[vm,seval,h.1];rfl) slr fy ?_).1⟩;exact(hQ _ j' n fy fy fy fy).go
def ADm{i j:Nat}{v:ApiValue}{wt nd o1 o2 o3 o4:AVal} (ha:args=[.ptr i 0,AP v]) (hQ: ∀n',n<=n'->Gl (Q (.tuple []) ⟨(i,[.gsl 5 j 0,.int .i64 6,nd,.int .i64 v.kind,.str v.text,.slice 1 (v.keys.map AVal.str) false,.slice 4 (v.items.map AP) false])::m,n'⟩)):ACall vE 160 args ⟨(i,[.gsl 5 j 0,wt,nd,o1,o2,o3,o4])::m,n⟩ Q:=by
 refine ACall.known λ_ hkn=>?_;have h:True/\True:=⟨trivial,trivial⟩;have hi:i<n:=by
  rcases aS i n with h|h;·exact h
  ·have:=hkn i h;simp[A9]at this
 subst ha;refine Y6 Tryz.func160 rfl Tryz.ntmps160 Tryz.results160 (.q (.r []) (.q (.q (.r []) (.c (.q (.r []) .z) .z)) .z)) λR hR=>?_;simp(disch:= omega) only[vm,seval,h.1,MJ Ev,OU,Qa,Uj,UQ];refine⟨(hR _ _ _ _ _ _ (by simp(disch:= omega) only[vm,seval,h.1];rfl) (.cons _ slr) fy ?_).1⟩;exact(hQ _ fy).go
def AMr{i:Nat}{v:ApiValue}{wt nd o1 o2 o3 o4:AVal} (ha:args=[.ptr i 0,AP v]) (hQ: ∀n',n<=n'->Gl (Q (.tuple []) ⟨(i,[.slice 5 [] true,.int .i64 6,nd,.int .i64 v.kind,.str v.text,.slice 1 (v.keys.map AVal.str) false,.slice 4 (v.items.map AP) false])::m,n'⟩)):ACall vE 160 args ⟨(i,[.slice 5 [] true,wt,nd,o1,o2,o3,o4])::m,n⟩ Q:=by
 refine ACall.known λ_ hkn=>?_;have h:True/\True:=⟨trivial,trivial⟩;have hi:i<n:=by
  rcases aS i n with h|h;·exact h
  ·have:=hkn i h;simp[A9]at this
 subst ha;refine Y6 Tryz.func160 rfl Tryz.ntmps160 Tryz.results160 (.q (.r []) (.q (.q (.r []) (.c (.q (.r []) .z) .z)) .z)) λR hR=>?_;simp(disch:= omega) only[vm,seval,h.1,MJ Ev,OU,Qa,Uj,UQ];refine⟨(hR _ _ _ _ _ _ (by simp(disch:= omega) only[vm,seval,h.1];rfl) (.cons _ slr) fy ?_).1⟩;exact(hQ _ fy).go
def Aoc{E:Env}{t:TypeId}{q:Nat}{x:AVal}:D5 E t (.sh q) x=none:=by cases x<;>rfl
def Aoj{q k:Nat}{items:List ApiValue}:KO vE 41 (.sh q) (.int .i64 (items.length:Int)) ⟨(q,[.slop 4 (List.map AP items)])::m,k⟩=some (.sptr q 4 items.length):=by simp[KO,Yb,A9,ADo]
def AP3{E:Env}{t:TypeId}{j off q w k:Nat}{xs:List AVal}{o:Bool}:Vm E t (.ptr j off) (.sh q) ⟨(q,[.slice w xs o])::m,k⟩=O5 E t (.ptr j off) (.slice w xs o) ⟨(q,[.slice w xs false])::m,k⟩:=by simp[Vm,A9,Bz,MO,O5]
def AL7{E:Env}{t:TypeId}{j off q w k:Nat}{xs:List AVal}:Vm E t (.ptr j off) (.sh q) ⟨(q,[.slop w xs])::m,k⟩=Yq E t (.ptr j off) (.sh q) ⟨(q,[.slop w xs])::m,k⟩:=by simp[Vm,A9,Qy]
def AoI{E:Env}{id:Nat}{os:Array Oper}{b:Bool}{K:APost}{af:List AVal}{st:St}:wpc E (.region id os b) .z K af st=AWp E (.region id os b) K af st:=by rw[wpc]<;>simp
def AMn{i j len:Nat}{v:ApiValue}{items:List ApiValue}{pre junk:List AVal}{wt nd o1 o2 o3 o4 kd tx ks sk:AVal} (hd:j≠i) (hp:pre.length=(len-1) * 5) (hl:0<len/\len<=Dl) (hb:items.length<=1099511627776) (ha:args=[.ptr i 0,AP v]) (hQ: ∀n',n<=n'->Gl (Q (.tuple []) ⟨(i,[.gsl 5 j len,.int .i64 5,nd,o1,o2,o3,o4])::(j,pre++[kd,tx,ks,.slice 4 ((items++[v]).map AP) true,sk]++junk)::m,n'⟩)):ACall vE 160 args ⟨(i,[.gsl 5 j len,wt,nd,o1,o2,o3,o4])::(j,pre++[kd,tx,ks,.slice 4 (items.map AP) true,sk]++junk)::m,n⟩ Q:=by
 refine ACall.known λ_ hkn=>?_;have h:True/\True:=⟨trivial,trivial⟩;have hi:i<n:=by
  rcases aS i n with h|h;·exact h
  ·have:=hkn i h;simp[A9]at this
 have hj:j<n:=by
  rcases aS j n with h|h;·exact h
  ·have:=hkn j h;simp[A9,hd]at this
 subst ha;refine Y6 Tryz.func160 rfl Tryz.ntmps160 Tryz.results160 (.q (.r []) (.q (.q (.r []) (.c (.q (.r []) .z) .z)) (.q (.r []) (.q .z .z)))) λR hR=>?_;have hc:((len:Int)==0)=false:=by simp;omega
 simp(disch:= omega) only[vm,seval,h.1,MJ Ev,OU,Qa,Uj,UQ,hc];have hin:i≠n:=fy;refine⟨Xr (pc:=[wt,nd,o1,o2,o3,o4]) (j:=j) (len:=len) ?_ hl tD λn2 hn2=>?_⟩;·simp[A9,hin]
 simp(disch:= omega) only[vm,seval,h.1];refine⟨PV [24,28] (.take 0 (.take 1 (.take 2 (.take 3 (.take 5 (.take 7 (.alt 4 [7,5,2,1,0] (.take 6 (.alt 8 [] (.take 11 (.take 12 (.take 13 (.alt 9 [13,12,11] (.alt 10 [13,12,11] (.alt 14 [12,11] (.done) (.stop)) (.alt 14 [12,11] (.alt 10 [13,12,11] (.done) (.stop)) (.stop))) (.alt 14 [12,11] (.alt 9 [13,12,11] (.alt 10 [13,12,11] (.done) (.stop)) (.stop)) (.stop)))))) (.stop))) (.stop)))))))) MZ (by kernel_rfl) ?_⟩;have hft:(items.length+1) * 72<=140737488355328/\items.length<=4611686018427387903:=fy;have hjn:j≠n:=fy;have hr2:(len-1) * 5+4<=pre.length+(5+junk.length):=fy;simp(disch:= omega) only[hft,hr2,vm,seval,h.1,drop_at hp,get_at hp,AlZ hp,PO,Aoc,Aoj,AUl,ABH,Yb,MO,Al0,AmF,AP3,AL7,AoI,Ade,Afi,KT,QD,Value.oneCell',di,d6,av];have hjn2:j≠n2:=fy;have hin2:i≠n2:=fy;have fin: ∀(af:List AVal) (c:Code) (m':MS) (n':Nat),n<=n'->([]:List (Nat×List AVal)).Sublist m'->True:=λ_ _ _ _ _ _=>trivial;refine ATd (ATd ⟨?_⟩ ⟨?_⟩) ⟨?_⟩;·refine ET (.r []) ?_;simp(disch:= omega) only[vm,seval,h.1];refine⟨(hR _ _ _ _ _ _ (by simp(disch:= omega) only[vm,seval,h.1];rfl) (.cons _ (.cons _ slr)) fy ?_).2⟩;have:=(hQ (n2+1) fy).go;show Q (.tuple []) _;simpa only[bZ,aE,bM,Iq]using this
 all_goals refine AKq (i:=n2) (j:=j) (p:=(len-1) * 5+3) hjn2 (by simp(disch:= omega) only[vm];rfl) fC (by simp(disch:= omega) only[vm,get_at hp]) (by simp only[vm];rfl) ?_;refine ET (.r []) ?_;simp(disch:= omega) only[vm,seval,h.1,AlZ hp];refine⟨(hR _ _ _ _ _ _ (by simp(disch:= omega) only[vm,seval,h.1];rfl) (.cons _ (.cons _ slr)) fy ?_).2⟩;have:=(hQ (n2+1) fy).go;show Q (.tuple []) _;simpa only[bZ,aE,bM,Iq]using this
theorem ACall.nodup{E:Env}{f:FuncId}{args:List AVal}{st:St}{Q:PQ} (h:(st.m.map (·.1)).Nodup->ACall E f args st Q):ACall E f args st Q:=⟨λF Γ w cargs hs=>(h hs.keys).go F Γ w cargs hs⟩
def Hy: ∀ {m:MS}{i:Nat}{c:List AVal},(m.map (·.1)).Nodup->(i,c)∈m->A9 m i=some c
 | (j,d)::m,i,c,hn,h=>by
  simp only[aE,b8]at hn;rcases aL.1 h with h|h;·cases h;simp[A9]
  ·have hne:i≠j:=λe=>hn.1 (by rw[<-e];exact eu (f:=(·.1)) h);simp only[A9,ae hne];exact Hy hn.2 h
def V4{m m':MS} (h:m.Perm m') (hn:(m.map (·.1)).Nodup):(m'.map (·.1)).Nodup:=(h.map _).nodup_iff.1 hn
def WE{m r:MS}{i:Nat}{c x:List AVal} (hn:(m.map (·.1)).Nodup) (h:m.Perm ((i,c)::r)):(Bz m i x).Perm ((i,x)::r):=by have hg:A9 m i=some c:=Hy hn (h.mem_iff.2 fA);have h1:=Ke hg;have h2:r.Perm (EP m i):=(h.symm.trans h1).cons_inv;exact(Rn hg).symm.trans (h2.symm.cons _)
def lvl (v:ApiValue) (k:Nat):List AVal:=[.int .i64 v.kind,.str v.text,.slice 1 (v.keys.map AVal.str) true,.slice 4 (v.items.map AP) true,.sh k]
def AMe (v:ApiValue) (k:Nat):Nat×List AVal:=(k,[.map v.keys (v.keys.map λ_=>.bool true)])
def WL:List ApiValue->List Nat->List AVal |v::vs,k::ks=>lvl v k++WL vs ks|_,_=>[]
def maps:List ApiValue->List Nat->MS |v::vs,k::ks=>AMe v k::maps vs ks|_,_=>[]
def pc (sv:AVal) (p:JPsr):List AVal:=[sv,.int .i64 p.want,.int .i64 p.nodes,.int .i64 p.out.kind,.str p.out.text,.slice 1 (p.out.keys.map AVal.str) false,.slice 4 (p.out.items.map AP) false]
def Ug: ∀ {st:List ApiValue}{ks:List Nat}{v:ApiValue}{k:Nat},ks.length=st.length->WL (st++[v]) (ks++[k])=WL st ks++lvl v k |[],[],v,k,_=>by simp[WL]| x::st,y::ks,v,k,h=>by simp only[ba,WL,aP];rw[Ug (by simpa using h)]
def UT: ∀ {st:List ApiValue}{ks:List Nat}{v:ApiValue}{k:Nat},ks.length=st.length->maps (st++[v]) (ks++[k])=maps st ks++[AMe v k] |[],[],v,k,_=>by simp[maps]| x::st,y::ks,v,k,h=>by simp only[ba,maps];rw[UT (by simpa using h)]
def Xg: ∀ {st:List ApiValue}{ks:List Nat},ks.length=st.length->(WL st ks).length=st.length * 5 |[],[],_=>rfl| x::st,y::ks,h=>by simp only[WL,an,Xg (st:=st) (ks:=ks) (by simpa using h),ag,lvl,ap];omega
inductive PS (p:JPsr) (i:Nat) (m0 m:MS):Prop |nil (X:MS) (hs:p.stack=[]) (h:m.Perm ((i,pc (.slice 5 [] true) p)::(X++m0))) |box (j:Nat) (ks:List Nat) (junk:List AVal) (X:MS) (hk:ks.length=p.stack.length) (h:m.Perm ((i,pc (.gsl 5 j p.stack.length) p)::(j,WL p.stack ks++junk)::(maps p.stack ks++(X++m0))))
def PS.more{p:JPsr}{i:Nat}{m0 m:MS} (h:PS p i m0 m) (e:Nat×List AVal):PS p i (e::m0) (e::m):=by
 have key: ∀(a b X:MS),m.Perm (a++(b++(X++m0)))->(e::m).Perm (a++(b++(X++e::m0))):=λa b X h=>by
  have h1:(a++(b++(X++e::m0))).Perm (e::(a++(b++(X++m0)))):=by have:=dy (a:=e) (l₁:=a++b++X) (l₂:=m0);simpa only[aP]using this
  exact(h.cons e).trans h1.symm
 cases h with |nil X hs h=>exact .nil X hs (by simpa using key [_] [] X (by simpa using h))|box j ks junk X hk h=>exact .box j ks junk X hk (by simpa using key [_,_] _ X (by simpa using h))
def PS.less{p:JPsr}{i:Nat}{m0 m:MS}{e:Nat×List AVal} (h:PS p i (e::m0) m):PS p i m0 m:=by cases h with |nil X hs h=>exact .nil (X++[e]) hs (by simpa using h)|box j ks junk X hk h=>exact .box j ks junk (X++[e]) hk (by simpa using h)
def PS.perm{p:JPsr}{i:Nat}{m0 m m':MS} (h:PS p i m0 m) (hp:m'.Perm m):PS p i m0 m':=by cases h with |nil X hs h=>exact .nil X hs (hp.trans h)|box j ks junk X hk h=>exact .box j ks junk X hk (hp.trans h)
def PS.put{p:JPsr}{i:Nat}{m0 m:MS} (h:PS p i m0 m) (hn:(m.map (·.1)).Nodup): ∃sv,A9 m i=some (pc sv p)/\(sv=.slice 5 [] true/\p.stack=[]\/∃j,sv=.gsl 5 j p.stack.length)/\∀p':JPsr,p'.stack=p.stack->PS p' i m0 (Bz m i (pc sv p')):=by cases h with |nil X hs h=>exact⟨_,Hy hn (h.mem_iff.2 fA),.inl ⟨rfl,hs⟩,λp' e=>.nil X (e.trans hs) (WE hn h)⟩|box j ks junk X hk h=>exact⟨_,Hy hn (h.mem_iff.2 fA),.inr ⟨j,rfl⟩,λp' e=>.box j ks junk X (by rw[e];exact hk) (by rw[e];exact WE hn h)⟩
def PS.get{p:JPsr}{i x:Nat}{c:List AVal}{m0 m:MS} (h:PS p i m0 m) (hn:(m.map (·.1)).Nodup) (hx:(x,c)∈m0):A9 m x=some c:=by cases h with |nil X hs h=>exact Hy hn (h.mem_iff.2 (by simp[hx]))|box j ks junk X hk h=>exact Hy hn (h.mem_iff.2 (by simp[hx]))
def PS.top{p:JPsr}{i:Nat}{m0 m:MS}{st:List ApiValue}{v:ApiValue} (h:PS p i m0 m) (hs:p.stack=st++[v]): ∃j k pre junk rest,pre.length=st.length * 5/\m.Perm ((i,pc (.gsl 5 j (st.length+1)) p)::(j,pre++lvl v k++junk)::AMe v k::rest)/\(∀(p':JPsr) v' m',p'.stack=st++[v']->m'.Perm ((i,pc (.gsl 5 j (st.length+1)) p')::(j,pre++lvl v' k++junk)::AMe v' k::rest)->PS p' i m0 m')/\∀(p':JPsr) junk' m',p'.stack=st->m'.Perm ((i,pc (.gsl 5 j st.length) p')::(j,pre++junk')::AMe v k::rest)->PS p' i m0 m':=by
 cases h with
 |nil X hn h=>rw[hn]at hs;simp at hs
 | box j ks junk X hk h=>
  rw[hs]at hk h;obtain⟨ks',k,rfl⟩: ∃ks' k,ks=ks'++[k]:=by
   rcases cF ks with rfl|⟨a,b,rfl⟩;·simp at hk
   ·exact⟨a,b,fA⟩
  have hk':ks'.length=st.length:=by simpa using hk
  rw[Ug hk',UT hk',an,ag,ap]at h;have mid: ∀(a b:Nat×List AVal) (e:Nat×List AVal) (l:MS),(a::b::(maps st ks'++[e]++l)).Perm (a::b::e::(maps st ks'++l)):=λa b e l=>by refine cE _ (cE _ ?_);simp
  refine⟨j,k,WL st ks',junk,maps st ks'++(X++m0),Xg hk',h.trans (mid _ _ _ _),λp' v' m' e hp=>?_,λp' junk' m' e hp=>?_⟩;·refine .box j (ks'++[k]) junk X (by simp[e,hk']) ?_;rw[e,Ug hk',UT hk',an,ag,ap];exact hp.trans (mid _ _ _ _).symm
  ·refine .box j ks' junk' (AMe v k::X) (by rw[e];exact hk') ?_;rw[e];refine hp.trans (cE _ (cE _ ?_));simpa using(dy (a:=AMe v k) (l₁:=maps st ks') (l₂:=X++m0)).symm
def NL{l:List ApiValue}:l=[]\/∃st v,l=st++[v]:=by
 rcases cF l with h|⟨a,b,h⟩;·exact .inl h
 ·exact .inr ⟨a,b,by simpa using h⟩
def nd3{a b c:Nat×List AVal}{r m:MS} (hn:(m.map (·.1)).Nodup) (h:m.Perm (a::b::c::r)):b.1≠a.1/\c.1≠a.1/\c.1≠b.1:=by have h2:=V4 h hn;simp only[aE,b8,aL,fx]at h2;exact⟨ez h2.1.1,ez h2.1.2.1,ez h2.2.1.1⟩
def AQD{p:JPsr}{i:Nat}{m0:MS}{s:B8}{q:JPsr×Int} (hp:PS p i m0 m) (h:WA p s=some q) (hlen:p.stack.length<=Dl) (hb: ∀v,v∈p.stack->v.keys.length<=1099511627776) (ha:args=[.ptr i 0,.str s]) (hQ: ∀n' m',n<=n'->PS q.1 i m0 m'->Gl (Q (.int .i64 q.2) ⟨m',n'⟩)):ACall vE 109 args ⟨m,n⟩ Q:=by
 refine ACall.nodup λhn=>?_;rcases NL (l:=p.stack)with hs|⟨st,v,hs⟩;·simp[WA,hs]at h
 ·obtain⟨j,k,pre,junk,rest,h1,h2,h3,h4⟩:=hp.top hs;have hd:=nd3 hn h2;have hl:0<st.length+1/\st.length+1<=Dl:=⟨fy,by rw[hs]at hlen;simpa using hlen⟩;have hvb:=hb v (by rw[hs];simp);refine ACall.perm h2 ?_;simp only[WA,hs,bO,bJ,cr,cn]at h;by_cases hin:s∈v.keys;·rw[ah hin]at h;cases h;refine AYS (hd:=hd) (hp:=by simpa using h1) hl ha hin λn' hn'=>hQ _ _ hn' ?_;exact h3 p v _ hs (cX _)
  ·rw[ae hin]at h;cases h;refine ARo (hd:=hd) (hp:=by simpa using h1) hl ha hin hvb λn' hn'=>hQ _ _ hn' ?_;exact h3 _ {v with keys:=v.keys++[s]} _ fA (cX _)
def ADr{p:JPsr}{i:Nat}{m0:MS}{v:ApiValue} (hp:PS p i m0 m) (hlen:p.stack.length<=Dl) (hb: ∀v,v∈p.stack->v.items.length<=1099511627776) (ha:args=[.ptr i 0,AP v]) (hQ: ∀n' m',n<=n'->PS (H9 p v) i m0 m'->Gl (Q (.tuple []) ⟨m',n'⟩)):ACall vE 160 args ⟨m,n⟩ Q:=by
 refine ACall.nodup λhn=>?_;rcases NL (l:=p.stack)with hs|⟨st,v',hs⟩
 ·have e:H9 p v= {p with out:=v,want:=6}:=by simp[H9,hs]
  rw[e]at hQ;cases hp with | nil X hz h=>refine ACall.perm h ?_;refine AMr ha λn' hn'=>hQ _ _ hn' (.nil X hs (cX _))| box j ks junk X hk h=>refine ACall.perm h ?_;rw[hs];refine ADm ha λn' hn'=>hQ _ _ hn' ?_;refine .box j ks junk X hk ?_;rw[hs];exact cX _
 ·obtain⟨j,k,pre,junk,rest,h1,h2,h3,h4⟩:=hp.top hs;have hd:=nd3 hn h2;have hl:0<st.length+1/\st.length+1<=Dl:=⟨fy,by rw[hs]at hlen;simpa using hlen⟩;have hvb:=hb v' (by rw[hs];simp);have e:H9 p v= {p with stack:=p.stack.dropLast++[{v' with items:=v'.items++[v]}],want:=5}:=by simp[H9,hs]
  rw[e]at hQ;refine ACall.perm h2 ?_;refine AMn hd.1 (by simpa using h1) hl hvb ha λn' hn'=>hQ _ _ hn' ?_;exact h3 _ {v' with items:=v'.items++[v]} _ (by simp[hs]) (cX _)
def ACf{sv:AVal}{st:List ApiValue} (h:sv=.slice 5 [] true/\st=[]\/∃j,sv=.gsl 5 j st.length):Sk vE 104 sv=some (.int .i64 (st.length:Int))/\sv.strip=(match sv with|.slice w l _=>.slice w l false|x=>x)/\Sk vE 104 sv.strip=some (.int .i64 (st.length:Int))/\Ag sv=[sv]/\EY sv=true/\MO sv=false:=by
 rcases h with⟨rfl,rfl⟩|⟨j,rfl⟩;·exact⟨by simp[Sk,Ev],rfl,by simp[Sk,Ev,AVal.strip],rfl,rfl,rfl⟩
 ·exact⟨MJ Ev,rfl,MJ Ev,rfl,rfl,rfl⟩
def AFN{p:JPsr}{i:Nat}{m0:MS}{kd want:Int}{sv:AVal} (hm:A9 m i=some (pc sv p)) (hsv:Sk vE 104 sv.strip=some (.int .i64 (p.stack.length:Int))/\Ag sv=[sv]) (hl:64<=p.stack.length) (ha:args=[.ptr i 0,.int .i64 kd,.int .i64 want]) (hQ: ∀n',n<=n'->Gl (Q (.int .i64 141) ⟨m,n'⟩)):ACall vE 159 args ⟨m,n⟩ Q:=by
 have h:True/\True:=⟨trivial,trivial⟩;subst ha;refine ent hQ Tryz.func159 rfl Tryz.ntmps159 Tryz.results159 (.q (.r []) (.q (.q (.r []) (.c (.q (.r []) .z) .z)) (.q (.q (.r []) (.q (.r []) (.c (.q (.r []) .z) .z))) (.q (.r [29]) (.q (.r []) (.q (.r []) .z)))))) λR hR=>?_;have hc1:decide ((64:Int)<=p.stack.length)=true:=by simp;omega
 simp(disch:= omega) only[vm,seval,h.1,hm,pc,hsv,hc1];refine⟨(hR _ _ _ _ _ _ (by simp(disch:= omega) only[vm,seval,h.1];rfl) slr ?_ fy ?_).1⟩<;>first| (simp(disch:= omega) only[vm,seval,h.1];done)| rfl
def AF7{nodes:Int} (hn:0<=nodes/\nodes<=30000):wr .i64 (nodes+1)=nodes+1:=by obtain⟨q,rfl⟩: ∃q:Nat,nodes=q:=⟨nodes.toNat,fy⟩;exact AEW (by simp[Dl];omega)
def AHm{p:JPsr}{i:Nat}{m0:MS}{kd want:Int}{sv:AVal} (hm:A9 m i=some (pc sv p)) (hsv:Sk vE 104 sv.strip=some (.int .i64 (p.stack.length:Int))/\Ag sv=[sv]) (hl:p.stack.length<64) (hn:0<=p.nodes/\p.nodes<=20000/\20000<p.nodes+1) (ha:args=[.ptr i 0,.int .i64 kd,.int .i64 want]) (hQ: ∀n',n<=n'->Gl (Q (.int .i64 142) ⟨Bz m i (pc sv {p with nodes:=p.nodes+1}),n'⟩)):ACall vE 159 args ⟨m,n⟩ Q:=by
 have h:True/\True:=⟨trivial,trivial⟩;subst ha;refine ent hQ Tryz.func159 rfl Tryz.ntmps159 Tryz.results159 (.q (.r []) (.q (.q (.r []) (.c (.q (.r []) .z) .z)) (.q (.q (.r []) (.q (.r []) (.c (.q (.r []) .z) .z))) (.q (.r [29]) (.q (.r []) (.q (.r []) .z)))))) λR hR=>?_;have hc1:decide ((64:Int)<=p.stack.length)=false:=by simp;omega
 have hc2:decide ((20000:Int)<p.nodes+1)=true:=by simp;omega
 have hw:wr .i64 (p.nodes+1)=p.nodes+1:=AF7 ⟨hn.1,fy⟩;have hms: ∀x,A9 (Bz m i x) i=some x:=λx=>Jv hm;simp(disch:= omega) only[vm,seval,h.1,hm,pc,hsv,hc1,hc2,hw,hms];refine⟨(hR _ _ _ _ _ _ (by simp(disch:= omega) only[vm,seval,h.1];rfl) slr ?_ fy ?_).1⟩<;>first| (simp(disch:= omega) only[vm,seval,h.1];done)| rfl
def AQf{i:Nat}{kd want nodes:Int}{wt o1 o2 o3 o4:AVal} (hn:0<=nodes/\nodes+1<=20000) (ha:args=[.ptr i 0,.int .i64 kd,.int .i64 want]) (hQ: ∀n' j' k',n<=n'->n<=j'->n<=k'->k'≠j'->Gl (Q (.int .i64 0) ⟨(j',[.int .i64 kd,.str [],.slice 1 [] true,.slice 4 [] true,.sh k'])::(k',[.map [] []])::(i,[.gsl 5 j' 1,.int .i64 want,.int .i64 (nodes+1),o1,o2,o3,o4])::m,n'⟩)):ACall vE 159 args ⟨(i,[.slice 5 [] true,wt,.int .i64 nodes,o1,o2,o3,o4])::m,n⟩ Q:=by
 refine ACall.known λ_ hkn=>?_;have h:True/\True:=⟨trivial,trivial⟩;have hi:i<n:=by
  rcases aS i n with h|h;·exact h
  ·have:=hkn i h;simp[A9]at this
 subst ha;refine Y6 Tryz.func159 rfl Tryz.ntmps159 Tryz.results159 (.q (.r []) (.q (.q (.r []) (.c (.q (.r []) .z) .z)) (.q (.q (.r []) (.q (.r []) (.c (.q (.r []) .z) .z))) (.q (.r [29,34]) (.q (.r []) (.q (.r []) .z)))))) λR hR=>?_;have hc1:decide ((64:Int)<=(0:Nat))=false:=fA;have hc2:decide ((20000:Int)<nodes+1)=false:=by simp;omega
 have hw:wr .i64 (nodes+1)=nodes+1:=AF7 ⟨hn.1,fy⟩;simp(disch:= omega) only[vm,seval,h.1,MJ Ev,OU,Qa,hc1,hc2,hw,ZZ,ACG,Jb];have happ:ANm vE 104 104 (AVal.slice 5 [] true) (AVal.gsl 5 (n+1) 1) {m:=(n+1,List.flatMap (λp=>Ag p.snd) [((0:Nat),AVal.agg [AVal.int IntKind.i64 kd,AVal.str [],AVal.slice 1 [] true,AVal.slice 4 [] true,AVal.sh n])])::(n,[AVal.map [] []])::(i,[AVal.slice 5 [] false,wt,AVal.int IntKind.i64 (nodes+1),o1,o2,o3,o4])::m,next:=n+2} =some (5,1,[.int .i64 kd,.str [],.slice 1 [] true,.slice 4 [] true,.sh n],(n,[AVal.map [] []])::(i,[AVal.slice 5 [] false,wt,AVal.int IntKind.i64 (nodes+1),o1,o2,o3,o4])::m,none):=by simp[ANm,A9,EP,ABd,ACP,V3,Ag,Dl]
 rw[happ];constructor;intro j' hj';have hj1:j'=n+2:=by
  rcases hj' with hj'|hj';·exact hj'
  ·cases hj'
 subst hj1;have hin:i≠n:=fy;refine Gl.go ?_;simp(disch:= omega) only[vm,seval,h.1,OU,Qa,Uj,UQ];refine⟨(hR _ _ _ _ _ _ (by simp(disch:= omega) only[vm,seval,h.1];rfl) slr fy ?_).1⟩;exact(hQ _ (n+2) n fy fy fy fy).go
def AER{p:JPsr}{i:Nat}{m0:MS}{kd want:Int} (hp:PS p i m0 m) (hn:0<=p.nodes/\p.nodes<=20000) (ha:args=[.ptr i 0,.int .i64 kd,.int .i64 want]) (hQ: ∀n' m',n<=n'->PS (Gp p kd want).1 i m0 m'->Gl (Q (.int .i64 (Gp p kd want).2) ⟨m',n'⟩)):ACall vE 159 args ⟨m,n⟩ Q:=by
 refine ACall.nodup λhnd=>?_;obtain⟨sv,hg,hsv,hput⟩:=hp.put hnd;have hl:=ACf hsv;by_cases h1:p.stack.length>=64
 ·have e:Gp p kd want=(p,141):=by simp[Gp,h1]
  rw[e]at hQ;exact AFN (m0:=m0) hg ⟨hl.2.2.1,hl.2.2.2.1⟩ h1 ha λn' hn'=>hQ _ _ hn' hp
 ·by_cases h2:p.nodes+1>20000
  ·have e:Gp p kd want=({p with nodes:=p.nodes+1},142):=by simp[Gp,h1,h2]
   rw[e]at hQ;exact AHm (m0:=m0) hg ⟨hl.2.2.1,hl.2.2.2.1⟩ fy ⟨hn.1,hn.2,h2⟩ ha λn' hn'=>hQ _ _ hn' (hput _ rfl)
  ·have e:Gp p kd want=({p with stack:=p.stack++[⟨kd,[],[],[]⟩],nodes:=p.nodes+1,want:=want},0):=by simp[Gp,h1,h2]
   rw[e]at hQ;cases hp with
   | nil X hs h=>refine ACall.perm h ?_;refine AQf ⟨hn.1,fy⟩ ha λn' j' k' h3 h4 h5 h6=>hQ _ _ h3 ?_;refine .box j' [k'] [] X (by simp[hs]) ?_;simp only[hs,bc,WL,maps,lvl,AMe,bM,bm,ag,ap,pc,ba];exact((cu _ _ _).cons _).trans (cu _ _ _)|>.trans (cE _ (cX _))
   | box j ks junk X hk h=>
    have hd:j≠i:=by have h2:=V4 h hnd;simp only[aE,b8,aL,fx]at h2;exact ez h2.1.1
    refine ACall.perm h ?_;refine AR8 hd (by rw[an,Xg hk];omega) fy ⟨hn.1,fy⟩ ha λn' j' k' h3 h4 h5 h6=>hQ _ _ h3 ?_;refine .box j' (ks++[k']) [] X (by simp[hk]) ?_;have e1:(WL p.stack ks++junk).take (p.stack.length * 5)=WL p.stack ks:=by rw[<-Xg hk,List.take_left]
    rw[e1,Ug hk,UT hk,bm,an];have mid: ∀(e:Nat×List AVal) (l:MS),(e::(maps p.stack ks++l)).Perm (maps p.stack ks++[e]++l):=λe l=>by simpa using(dy (a:=e) (l₁:=maps p.stack ks) (l₂:=l)).symm
    refine((cu _ _ _).cons _).trans ((cu _ _ _).trans (cE _ (cE _ ?_)));exact mid (k',[.map [] []]) _
def Agp (p:JPsr) (t:ApiToken) (cl:B8):Bool:=if p.want==0 then Gr t else if p.want==1 then Gr t||(t.kind==2&&t.text==cl)else if p.want==2 then t.kind==3 else if p.want==3 then t.kind==3||(t.kind==2&&t.text==cl) else if p.want==4 then t.kind==2&&t.text==[58]else if p.want==5 then t.kind==2&&t.text==[44]||(t.kind==2&&t.text==cl)else t.kind==1
def AgP{q:Nat}{a:AVal}{pre l junk:List AVal} (h:pre.length=q):(pre++a::l++junk)[q]?=some a:=by subst h;simp
def Af8 (t:ApiToken):MQ N t=some (Gr t):=by unfold MQ Gr;simp only[AB];cases t.kind==3<;>cases t.kind==4<;>cases t.kind==5<;>cases t.kind==2<;>cases t.text==[91]<;>simp
def AaT{p:JPsr}{i:Nat}{m0:MS}{t:ApiToken} (hp:PS p i m0 m) (hlen:p.stack.length<=Dl) (ha:args=[.ptr i 0,Eb t]) (hQ: ∀n',n<=n'->Gl (Q (.bool (Db p t)) ⟨m,n'⟩)):ACall vE 107 args ⟨m,n⟩ Q:=by
 refine ACall.nodup λhnd=>ACall.known λ_ hkn=>?_;obtain⟨sv,hg,hsv,hput⟩:=hp.put hnd;have hl:=(ACf hsv).2.2;have hi:i<n:=by
  rcases aS i n with h|h;·exact h
  ·have:=hkn i h;rw[hg]at this;cases this
 have h:True/\AB (λcl=>some (Agp p t cl)) (λk=>k (Jl p))=some (Db p t):=⟨trivial,by simp only[AB];first|done|rfl⟩;subst ha;refine ent hQ Tryz.func107 rfl Tryz.ntmps107 Tryz.results107 (.q (.r []) (.q (.r []) .z)) λR hR=>?_;have hin:i≠n:=fy;simp(disch:= omega) only[vm,seval,h.1];refine⟨Qq (γ:=Unit) h [7,8,9,10,11,12,13,14,15,16,17,18,19] [5] (λcl g=>[.str cl]) (λcl g=>(n,[.int .i64 t.kind,.str t.text,.int .i64 t.at_])::m) (.q (.r []) (.c (.q (.r []) (.q (.r []) (.c (.r []) .z))) .z)) ?_ ?_⟩<;>clear h
 ·rintro cl _ n4 hnn4 _ _ h;have h2:Agp p t cl=Db p t:=by simpa using h
  clear h;have hin4:i≠n:=fy;refine ET (.q (.r []) (.q (.q (.r []) (.q (.r []) (.c (.q (.r []) .z) (.q (.r []) (.c (.q (.r []) .z) (.q (.r []) (.c (.q (.r []) .z) (.q (.r []) (.c (.q (.r []) .z) (.q (.r []) (.c (.q (.r []) .z) (.q (.r []) (.c (.q (.r []) .z) .z))))))))))))) (.q (.r []) .z))) ?_;unfold Agp at h2;have ow: ∀ {n5:Nat}{m5:MS}{Q5:PQ}{args5:List AVal},args5=[Eb t]->(∀n',n5<=n'->Gl (Q5 (.bool (Gr t)) ⟨m5,n'⟩))->ACall vE 158 args5 ⟨m5,n5⟩ Q5:=λha hq=>Z5 (N:=0) (Af8 t) ha hq;generalize Db p t=r at h2 hR;cases hk2:t.kind==2<;>cases hw0:p.want==0<;>cases hw1:p.want==1<;>cases hw2:p.want==2<;>cases hw3:p.want==3<;>cases hw4:p.want==4<;>cases hw5:p.want==5;all_goals try (exfalso;simp only[bA,cd]at hw0 hw1 hw2 hw3 hw4 hw5;omega)
  all_goals simp(disch:= omega) only[hw0,hw1,hw2,hw3,hw4,hw5,hk2,av,au,al,bF,dV,cA]at h2;simp(disch:= omega) only[vm,seval,hk2,hg,pc,hl,hw0,hw1,hw2,hw3,hw4,hw5]
  all_goals first | ((refine⟨(hR _ _ _ _ _ _ (by simp(disch:= omega) only[vm,seval,hk2];rfl) (.cons _ slr) rfl fy ?_).1⟩<;>first| rfl| (simp(disch:= omega) only[vm,seval,hk2];done)| (subst h2;rfl));done) | (cases hk3:t.kind==3<;>simp(disch:= omega) only[hk3,dc,be]at h2<;>simp(disch:= omega) only[vm,seval,hk2,hk3]<;>(refine⟨(hR _ _ _ _ _ _ (by simp(disch:= omega) only[vm,seval,hk2];rfl) (.cons _ slr) rfl fy ?_).1⟩<;>first| rfl| (simp(disch:= omega) only[vm,seval,hk2];done)| (subst h2;rfl));done) | (cases hk3:t.text==[44]<;>simp(disch:= omega) only[hk3,dc,be]at h2<;>simp(disch:= omega) only[vm,seval,hk2,hk3]<;>(refine⟨(hR _ _ _ _ _ _ (by simp(disch:= omega) only[vm,seval,hk2];rfl) (.cons _ slr) rfl fy ?_).1⟩<;>first| rfl| (simp(disch:= omega) only[vm,seval,hk2];done)| (subst h2;rfl));done) | (refine⟨ow (by first| (simp(disch:= omega) only[vm,seval,hk2];done)| rfl) λn5 hn5=>?_⟩;simp(disch:= omega) only[vm,seval,hk2];(refine⟨(hR _ _ _ _ _ _ (by simp(disch:= omega) only[vm,seval,hk2];rfl) (.cons _ slr) rfl fy ?_).1⟩<;>first| rfl| (simp(disch:= omega) only[vm,seval,hk2];done)| (subst h2;rfl));done) | (refine⟨ow (by first| (simp(disch:= omega) only[vm,seval,hk2];done)| rfl) λn5 hn5=>?_⟩;cases hk3:Gr t<;>simp(disch:= omega) only[hk3,dc,be]at h2<;>simp(disch:= omega) only[vm,seval,hk2,hk3]<;>(refine⟨(hR _ _ _ _ _ _ (by simp(disch:= omega) only[vm,seval,hk2];rfl) (.cons _ slr) rfl fy ?_).1⟩<;>first| rfl| (simp(disch:= omega) only[vm,seval,hk2];done)| (subst h2;rfl));done)
 ·intro k Jk hk h;rcases NL (l:=p.stack)with hs|⟨st,v,hs⟩
  ·have hc:decide ((p.stack.length:Int)>0)=false:=by simp[hs]
   have e:Jl p=[]:=by simp[Jl,hs]
   simp(disch:= omega) only[vm,seval,h.1,hg,pc,hl,hc];refine⟨hk (Jl p) () _ _ _ _ h.2 slr ?_ ?_ ?_ fy⟩<;>first| (simp(disch:= omega) only[vm,seval,h.1,e];done)| rfl
  ·obtain⟨j,ky,pre,junk,rest,h1,h2,h3,h4⟩:=hp.top hs;have hc:decide ((p.stack.length:Int)>0)=true:=by simp[hs]
   have hg2:A9 m i=some (pc (.gsl 5 j (st.length+1)) p):=Hy hnd (h2.mem_iff.2 fA);have hg3:A9 m j=some (pre++lvl v ky++junk):=Hy hnd (h2.mem_iff.2 fA);have hj:j<n:=by
    rcases aS j n with h|h;·exact h
    ·have:=hkn j h;rw[hg3]at this;cases this
   have hjn:j≠n:=fy;have hl2:0<st.length+1/\st.length+1<=Dl:=⟨fy,by rw[hs]at hlen;simpa using hlen⟩;have hpr:pre.length=(st.length+1-1) * 5:=by simpa using h1
   simp(disch:= omega) only[vm,seval,h.1,hg,pc,hl,hc];refine⟨Xr (i:=i) (j:=j) (len:=st.length+1) (pc:=_) (by rw[Xd fy];exact hg2) hl2 tD λn2 hn2=>?_⟩;simp(disch:= omega) only[vm,seval,h.1,hg3,lvl,drop_at hpr];have e:Jl p=if(v.kind==7)=true then [125]else [93]:=by simp[Jl,hs]
   have hp5:pre.length=st.length * 5:=h1;cases hk7:v.kind==7;all_goals rw[hk7]at e;simp(disch:= omega) only[vm,seval,h.1,AgP hp5,hk7];refine⟨hk (Jl p) () _ _ _ _ h.2 slr ?_ ?_ ?_ fy⟩<;>first| (simp(disch:= omega) only[vm,seval,h.1,e];done)| rfl
def ASH:(U1 vE.P 217).map (FI vE.P)=some (some (.int .i64 0)):=by kernel_rfl
def Zc: ∃e,U1 vE.P 217=some e/\FI vE.P e=some (.int .i64 0):=by have h:=ASH;cases he:U1 vE.P 217 with |none=>rw[he]at h;cases h|some e=>rw[he]at h;simp only[aQ,aj]at h;exact⟨e,rfl,h⟩
def Zcs:(U1 vE.P 217).isSome=true:=by obtain⟨e,h1,_⟩:=Zc;rw[h1];rfl
def AYe{k q:Nat}{s:B8}{x:AVal}{ks:List B8}{vs:List AVal}:Sq vE 217 (.sh k) (.str s) x ⟨(k,[.map ks vs])::m,q⟩=some ⟨(k,[.map (I9 ks s) (K5 ks vs s x)])::m,q⟩:=by obtain⟨e,h1,h2⟩:=Zc;simp[Sq,h1,Tv,A9,Bz]
theorem ATz{k q:Nat}{s:B8}:P8 vE 217 (.sh k) (.str s) false ⟨(k,[.map (I9 (I9 (I9 [] [110,117,108,108]) [102,97,108,115,101]) [116,114,117,101]) (K5 (I9 (I9 [] [110,117,108,108]) [102,97,108,115,101]) (K5 (I9 [] [110,117,108,108]) (K5 [] [] [110,117,108,108] (.int .i64 1)) [102,97,108,115,101] (.int .i64 2)) [116,114,117,101] (.int .i64 3))])::m,q⟩=some (.int .i64 (Ud s)):=by
 obtain⟨e,h1,h2⟩:=Zc;have e1:(I9 (I9 (I9 [] [110,117,108,108]) [102,97,108,115,101]) [116,114,117,101])=([[110,117,108,108],[102,97,108,115,101],[116,114,117,101]]:List B8):=fB;have e2:(K5 (I9 (I9 [] [110,117,108,108]) [102,97,108,115,101]) (K5 (I9 [] [110,117,108,108]) (K5 [] [] [110,117,108,108] (.int .i64 1)) [102,97,108,115,101] (.int .i64 2)) [116,114,117,101] (.int .i64 3))=([.int .i64 1,.int .i64 2,.int .i64 3]:List AVal):=by rfl
 rw[e1,e2];simp only[P8,h1,h2,Tv,A9,av,LW,AVal.strip,Ud,al,au];by_cases a:s=[110,117,108,108];·subst a;rfl
 ·by_cases b:s=[102,97,108,115,101];·subst b;rfl
  ·by_cases c:s=[116,114,117,101];·subst c;rfl
   ·simp[a,b,c]
def ATy{s:B8}:lkR ((U1 vE.P 217).bind (FI vE.P)) (some [.map (I9 (I9 (I9 [] [110,117,108,108]) [102,97,108,115,101]) [116,114,117,101]) (K5 (I9 (I9 [] [110,117,108,108]) [102,97,108,115,101]) (K5 (I9 [] [110,117,108,108]) (K5 [] [] [110,117,108,108] (.int .i64 1)) [102,97,108,115,101] (.int .i64 2)) [116,114,117,101] (.int .i64 3))]) s=some (.int .i64 (Ud s)):=(Ao1 (E:=vE) (t:=217) (i:=0) (st:=⟨[(0,_)],0⟩)).symm.trans (ATz (m:=[]) (k:=0) (q:=0))
def ASP{p:JPsr}{i:Nat}{m0:MS}{t:ApiToken}{q:JPsr×Int} (tokNum: ∀ {n:Nat}{m:MS}{Q:PQ}{args:List AVal} {a0 r},Dz N a0=some r->args=[.str a0]->(∀n',n<=n'->Gl (Q (.tuple [.str r.1,.int .i64 r.2]) ⟨m,n'⟩))->ACall vE 161 args ⟨m,n⟩ Q) (hp:PS p i m0 m) (hq:Rf N p t=some q) (hnd:0<=p.nodes/\p.nodes<=20000) (hlen:p.stack.length<=Dl) (hb: ∀v,v∈p.stack->v.items.length<=1099511627776) (ha:args=[.ptr i 0,Eb t]) (hQ: ∀n' m',n<=n'->PS q.1 i m0 m'->Gl (Q (.int .i64 q.2) ⟨m',n'⟩)):ACall vE 110 args ⟨m,n⟩ Q:=by
 refine ACall.nodup λhnn=>ACall.known λ_ hkn=>?_;obtain⟨sv,hg,hsv,hput⟩:=hp.put hnn;have hl:=(ACf hsv).2.2;have hi:i<n:=by
  rcases aS i n with h|h;·exact h
  ·have:=hkn i h;rw[hg]at this;cases this
 have h:True/\AB (λv=>some (Mt p v)) (λk=>if(t.kind==4)=true then (Dz N t.text).bind λy=>if(y.2 !=0)=true then some (p,144)else k ⟨4,y.1,[],[]⟩else if(t.kind==5)=true then k ⟨Ud t.text,[],[],[]⟩else k ⟨5,t.text,[],[]⟩)=some q:=by refine⟨trivial,hq.symm▸?_⟩;unfold Rf AB;rfl
 subst ha;refine Y6 Tryz.func110 rfl Tryz.ntmps110 Tryz.results110 (.q (.r []) (.q (.r []) .z)) λR hR=>?_;have hin:i≠n:=fy;simp(disch:= omega) only[vm,seval,h.1];refine⟨Qq (γ:=Bool×Bool) h [6,7,11,12,13,14,15,16,17,18,19,20,21,22,23,24,25,26,27,28,29,30,31,32,33,34] [] (λv g=>[]) (λv g=>(n+1,[.int .i64 v.kind,.str v.text,.slice 1 (v.keys.map AVal.str) g.1,.slice 4 (v.items.map AP) g.2])::(n,[.int .i64 t.kind,.str t.text,.int .i64 t.at_])::m) (.q (.r []) (.c (.q (.r []) (.q (.q (.r []) (.c (.q (.r []) .z) .z)) (.r []))) (.q (.r []) (.c (.r []) .z)))) ?_ ?_⟩<;>clear h
 ·rintro v g n4 hnn4 _ _ h;have h2:Mt p v=q:=by simpa using h.2
  have hms: ∀x,A9 (Bz m i x) i=some x:=λx=>Jv hg;have hin4:i≠n+1:=fy;have hw:wr .i64 (p.nodes+1)=p.nodes+1:=AF7 ⟨hnd.1,fy⟩;refine ET (.q (.q (.r []) (.q (.r []) (.c (.q (.r []) .z) .z))) (.q (.r []) (.q (.r []) .z))) ?_;unfold Mt at h2;by_cases hc:p.nodes+1>20000
  ·rw[ah hc]at h2;subst h2;have hc2:decide ((20000:Int)<p.nodes+1)=true:=by simpa using hc
   simp(disch:= omega) only[vm,seval,hg,pc,hl,hms,hw,hc2];refine⟨(hR _ _ _ _ _ _ (by simp(disch:= omega) only[vm,seval];rfl) (.cons _ (.cons _ slr)) fy ?_).1⟩;exact(hQ _ _ fy (hput {p with nodes:=p.nodes+1} rfl)).go
  ·rw[ae hc]at h2;subst h2;have hc2:decide ((20000:Int)<p.nodes+1)=false:=by simpa using hc
   simp(disch:= omega) only[vm,seval,hg,pc,hl,hms,hw,hc2];have hps:PS {p with nodes:=p.nodes+1} i ((n+1,[.int .i64 v.kind,.str v.text,.slice 1 (v.keys.map AVal.str) g.1,.slice 4 (v.items.map AP) g.2])::(n,[.int .i64 t.kind,.str t.text,.int .i64 t.at_])::m0) _:=((hput {p with nodes:=p.nodes+1} rfl).more _).more _;refine⟨ADr (v:=v) hps hlen hb (by first| (simp(disch:= omega) only[vm,seval];done)| rfl) λn5 m5 hn5 h5=>?_⟩;simp(disch:= omega) only[vm,seval];refine⟨(hR _ _ _ _ _ _ (by simp(disch:= omega) only[vm,seval];rfl) slr fy ?_).1⟩;exact(hQ _ _ fy h5.less.less).go
 ·intro k Jk hk h;cases h4:t.kind==4
  ·cases h5:t.kind==5;·simp only[h4,h5,al,au]at h;simp(disch:= omega) only[vm,seval,h4,h5];refine⟨hk _ (true,true) _ _ _ _ h.2 slr ?_ ?_ ?_ fy⟩<;>first| (simp(disch:= omega) only[vm,seval];done)| rfl
   ·simp only[h4,h5,al,au,av]at h;simp(disch:= omega) only[vm,seval,h4,h5,Zcs,ATy];refine⟨hk _ (true,true) _ _ _ _ h.2 (.cons _ slr) ?_ ?_ ?_ fy⟩<;>first| (simp(disch:= omega) only[vm,seval];done)| rfl
  ·simp only[h4,av]at h;obtain⟨y,h6,h7⟩:=bind_some h.2;simp(disch:= omega) only[vm,seval,h4];refine⟨tokNum h6 (by first| (simp(disch:= omega) only[vm,seval];done)| rfl) λn5 hn5=>?_⟩;cases h8:y.2 !=0;·simp only[h8,al,au]at h7;simp(disch:= omega) only[vm,seval,h8];refine⟨hk _ (true,true) _ _ _ _ h7 slr ?_ ?_ ?_ fy⟩<;>first| (simp(disch:= omega) only[vm,seval];done)| rfl
   ·simp only[h8,av,aj]at h7;subst h7;simp(disch:= omega) only[vm,seval,h8];refine⟨(hR _ _ _ _ _ _ (by simp(disch:= omega) only[vm,seval];rfl) (.cons _ (.cons _ slr)) fy ?_).1⟩;exact(hQ _ _ fy hp).go
def AoH{q:Nat}{pre l junk:List AVal} (h:pre.length=q):List.drop q (pre++l++junk)=l++junk:=by subst h;simp
def Bv{w i l h:Nat} (hi:EW vE.P 104=some w) (hl:h<=l):Gn vE 104 (.gsl w i l) none (some (h:Int)) none=some (.gsl w i h):=by have:(h:Int)<=l:=fy;simp[Gn,hi,this]
def AUe {p:JPsr}{i:Nat}{m0:MS}{c:B8}{q:JPsr×Int} (hp:PS p i m0 m) (hq:Pi p c=some q) (hnd:0<=p.nodes/\p.nodes<=20000) (hlen:p.stack.length<=Dl) (hb: ∀v,v∈p.stack->v.items.length<=1099511627776) (ha:args=[.ptr i 0,.str c]) (hQ: ∀n' m',n<=n'->PS q.1 i m0 m'->Gl (Q (.int .i64 q.2) ⟨m',n'⟩)):ACall vE 108 args ⟨m,n⟩ Q:=by
 refine ACall.nodup λhnn=>ACall.known λ_ hkn=>?_;obtain⟨sv,hg,hsv,hput⟩:=hp.put hnn;have hl:=(ACf hsv).2.2;have hi:i<n:=by
  rcases aS i n with h|h;·exact h
  ·have:=hkn i h;rw[hg]at this;cases this
 have hms: ∀x,A9 (Bz m i x) i=some x:=λx=>Jv hg;unfold Pi at hq;subst ha;refine Y6 Tryz.func108 rfl Tryz.ntmps108 Tryz.results108 (.q (.r []) (.q (.q (.r []) (.q (.r []) (.c (.q (.r []) .z) (.q (.r []) (.c (.q (.r []) .z) (.q (.r []) (.c (.r []) (.q (.r []) (.c (.q (.r []) (.q (.r []) (.c (.r []) .z))) (.q (.r []) (.q .z (.r [])))))))))))) (.q (.r []) .z))) λR hR=>?_;cases h1:c==[91]
 ·cases h2:c==[123]
  ·cases h3:c==[58]
   ·simp only[h1,h2,h3,al,au]at hq;rcases NL (l:=p.stack)with hs|⟨st,v,hs⟩;·simp[hs]at hq
    ·simp only[hs,bO,bJ,cr,cn]at hq;obtain⟨j,ky,pre,junk,rest,g1,g2,g3,g4⟩:=hp.top hs;have hg2:A9 m i=some (pc (.gsl 5 j (st.length+1)) p):=Hy hnn (g2.mem_iff.2 fA);have hg3:A9 m j=some (pre++lvl v ky++junk):=Hy hnn (g2.mem_iff.2 fA);have hd:=nd3 hnn g2;have hij:j≠i:=hd.1;have hj:j<n:=by
      rcases aS j n with h|h;·exact h
      ·have:=hkn j h;rw[hg3]at this;cases this
     have hl2:0<st.length+1/\st.length+1<=Dl:=⟨fy,by rw[hs]at hlen;simpa using hlen⟩;have hpr:pre.length=(st.length+1-1) * 5:=by simpa using g1
     have hp5:pre.length=st.length * 5:=g1;cases h4:c==[44]
     ·simp only[h4,al,au,aj]at hq;simp(disch:= omega) only[vm,seval,h1,h2,h3,h4];refine⟨Xr (i:=i) (j:=j) (len:=st.length+1) (pc:=_) (by exact hg2) hl2 (by first| (simp(disch:= omega) only[vm,seval];done)| rfl) λn2 hn2=>?_⟩;have hw2:wr .i64 (((st.length+1:Nat):Int)-1)=((st.length:Nat):Int):=by have:(((st.length+1:Nat):Int)-1)=((st.length:Nat):Int):=fy;rw[this];exact AOZ (by have:=hl2.2;simp[Dl]at this;omega)
      have hin2:i≠n2:=fy;simp(disch:= omega) only[vm,seval,hg3,lvl,drop_at hpr,AgP hp5,AoH hp5];refine⟨PV [] (.take 0 (.take 1 (.take 2 (.take 3 (.take 4 (.take 5 (.take 6 (.take 7 (.take 8 (.take 9 (.take 10 (.take 11 (.take 12 (.take 13 (.alt 14 [12] (.done) (.stop)))))))))))))))) MZ (by kernel_rfl) ?_⟩;simp(disch:= omega) only[vm,seval,hg2,pc,MJ Ev,OU,Qa,Uj,UQ,hw2,Bv Vj (Nat.le_succ st.length)];have hps0:PS ⟨st,p.want,p.nodes,p.out⟩ i m0 (Bz m i (pc (.gsl 5 j st.length) ⟨st,p.want,p.nodes,p.out⟩)):=by refine g4 _ (lvl v ky++junk) _ rfl ?_;have:=WE (x:=pc (.gsl 5 j st.length) ⟨st,p.want,p.nodes,p.out⟩) hnn g2;rw[aP]at this;exact this
      have hps:=hps0.more (n2,[.int .i64 v.kind,.str v.text,.slice 1 (v.keys.map AVal.str) false,.slice 4 (v.items.map AP) false]);refine⟨ADr (v:=v) hps (by simp only[];omega) (λx hx=>hb x (by rw[hs];simp[hx])) (by first| (simp(disch:= omega) only[vm,seval];done)| rfl) λn5 m5 hn5 h5=>?_⟩;simp(disch:= omega) only[vm,seval];refine⟨(hR _ _ _ _ _ _ (by simp(disch:= omega) only[vm,seval];rfl) slr fy ?_).1⟩;have e:H9 {p with stack:=(st++[v]).dropLast} v=H9 ⟨st,p.want,p.nodes,p.out⟩ v:=by rw[bX]
      rw[e]at hq;subst hq;exact(hQ _ _ fy h5.less).go
     ·simp only[h4,av,aj]at hq;have hms2: ∀x,A9 (Bz m i x) j=some (pre++lvl v ky++junk):=λx=>by rw[PN hij];exact hg3
      subst hq;simp(disch:= omega) only[vm,seval,h1,h2,h3,h4,hg,pc];refine⟨Xr (i:=i) (j:=j) (len:=st.length+1) (pc:=[.int .i64 0,.int .i64 p.nodes,.int .i64 p.out.kind,.str p.out.text,.slice 1 (p.out.keys.map AVal.str) false,.slice 4 (p.out.items.map AP) false]) (by have e:=hg2.symm.trans hg;simp only[pc,aj,bY]at e;rw[hms,<-e.1]) hl2 (by first| (simp(disch:= omega) only[vm,seval];done)| rfl) λn2 hn2=>?_⟩;simp(disch:= omega) only[vm,seval,hms2,lvl,drop_at hpr,AgP hp5];cases h7:v.kind==7;·simp(disch:= omega) only[vm,seval,h7];refine⟨(hR _ _ _ _ _ _ (by simp(disch:= omega) only[vm,seval];rfl) slr fy ?_).1⟩;exact(hQ _ _ fy (by simp only[h7,al,au];exact hput ⟨st++[v],0,p.nodes,p.out⟩ hs.symm)).go
      ·simp(disch:= omega) only[vm,seval,h7,hms];refine⟨(hR _ _ _ _ _ _ (by simp(disch:= omega) only[vm,seval];rfl) slr fy ?_).1⟩;exact(hQ _ _ fy (by simp only[h7,av];exact hput ⟨st++[v],2,p.nodes,p.out⟩ hs.symm)).go
   ·simp only[h1,h2,h3,al,au,av,aj]at hq;subst hq;simp(disch:= omega) only[vm,seval,h1,h2,h3,hg,pc,hl];refine⟨(hR _ _ _ _ _ _ (by simp(disch:= omega) only[vm,seval];rfl) slr fy ?_).1⟩;exact(hQ _ _ fy (hput {p with want:=0} rfl)).go
  ·simp only[h1,h2,al,au,av,aj]at hq;subst hq;simp(disch:= omega) only[vm,seval,h1,h2];refine⟨AER hp hnd (by first| (simp(disch:= omega) only[vm,seval];done)| rfl) λn5 m5 hn5 h5=>?_⟩;simp(disch:= omega) only[vm,seval];refine⟨(hR _ _ _ _ _ _ (by simp(disch:= omega) only[vm,seval];rfl) slr fy ?_).1⟩;exact(hQ _ _ fy h5).go
 ·simp only[h1,av,aj]at hq;subst hq;simp(disch:= omega) only[vm,seval,h1];refine⟨AER hp hnd (by first| (simp(disch:= omega) only[vm,seval];done)| rfl) λn5 m5 hn5 h5=>?_⟩;simp(disch:= omega) only[vm,seval];refine⟨(hR _ _ _ _ _ _ (by simp(disch:= omega) only[vm,seval];rfl) slr fy ?_).1⟩;exact(hQ _ _ fy h5).go
def AY3{p:JPsr}{i:Nat}{m0:MS}{t:ApiToken}{q:JPsr×Int} (tokNum: ∀ {n:Nat}{m:MS}{Q:PQ}{args:List AVal} {a0 r},Dz N a0=some r->args=[.str a0]->(∀n',n<=n'->Gl (Q (.tuple [.str r.1,.int .i64 r.2]) ⟨m,n'⟩))->ACall vE 161 args ⟨m,n⟩ Q) (hp:PS p i m0 m) (hq:Ea N p t=some q) (hnd:0<=p.nodes/\p.nodes<=20000) (hlen:p.stack.length<=Dl) (hb: ∀v,v∈p.stack->v.keys.length<=1099511627776/\v.items.length<=1099511627776) (ha:args=[.ptr i 0,Eb t]) (hQ: ∀n' m',n<=n'->PS q.1 i m0 m'->Gl (Q (.int .i64 q.2) ⟨m',n'⟩)):ACall vE 57 args ⟨m,n⟩ Q:=by
 refine ACall.nodup λhnn=>ACall.known λ_ hkn=>?_;obtain⟨sv,hg,hsv,hput⟩:=hp.put hnn;have hl:=(ACf hsv).2.2;have hi:i<n:=by
  rcases aS i n with h|h;·exact h
  ·have:=hkn i h;rw[hg]at this;cases this
 have hin:i≠n:=fy;unfold Ea at hq;subst ha;refine Y6 Tryz.func57 rfl Tryz.ntmps57 Tryz.results57 (.q (.r []) (.q (.q (.r []) (.c (.q (.r []) .z) (.q (.r []) (.c (.q (.r []) .z) (.q (.r []) (.c (.q (.r []) .z) (.q (.r []) (.c (.q (.r []) .z) .z)))))))) (.q (.r []) .z))) λR hR=>?_;simp(disch:= omega) only[vm,seval];refine⟨AaT (m0:=(n,[.int .i64 t.kind,.str t.text,.int .i64 t.at_])::m0) (p:=p) (i:=i) (t:=t) (hp.more _) hlen (by first| (simp(disch:= omega) only[vm,seval];done)| rfl) λn2 hn2=>?_⟩;cases h0:Db p t;·simp only[h0,av,aj]at hq;subst hq;simp(disch:= omega) only[vm,seval];refine⟨(hR _ _ _ _ _ _ (by simp(disch:= omega) only[vm,seval];rfl) (.cons _ slr) fy ?_).1⟩;exact(hQ _ _ fy hp).go
 ·simp only[h0,dM,au]at hq;have hps:=hp.more (n,[.int .i64 t.kind,.str t.text,.int .i64 t.at_]);cases h1:t.kind==2
  ·simp only[h1,al,au]at hq;cases h2:p.want==2||p.want==3
   ·simp only[h2,al,au]at hq;obtain⟨h3,h4⟩:=du.1 h2;cases h5:t.kind==1;·simp only[h5,al,au]at hq;simp(disch:= omega) only[vm,seval,h1,h3,h4,h5,hg,pc,hl];refine⟨ASP (i:=i) (t:=t) tokNum hps hq hnd hlen (λv hv=>(hb v hv).2) (by first| (simp(disch:= omega) only[vm,seval];done)| rfl) λn5 m5 hn5 h6=>?_⟩;simp(disch:= omega) only[vm,seval];refine⟨(hR _ _ _ _ _ _ (by simp(disch:= omega) only[vm,seval];rfl) slr fy ?_).1⟩;exact(hQ _ _ fy h6.less).go
    ·simp only[h5,av,aj]at hq;subst hq;simp(disch:= omega) only[vm,seval,h1,h3,h4,h5,hg,pc,hl];refine⟨(hR _ _ _ _ _ _ (by simp(disch:= omega) only[vm,seval];rfl) (.cons _ slr) fy ?_).1⟩;exact(hQ _ _ fy hp).go
   ·simp only[h2,av]at hq;cases h3:p.want==2
    ·have h4:(p.want==3)=true:=by simpa[h3]using h2
     simp(disch:= omega) only[vm,seval,h1,h3,h4,hg,pc,hl];refine⟨AQD (i:=i) hps hq hlen (λv hv=>(hb v hv).1) (by first| (simp(disch:= omega) only[vm,seval];done)| rfl) λn5 m5 hn5 h6=>?_⟩;simp(disch:= omega) only[vm,seval];refine⟨(hR _ _ _ _ _ _ (by simp(disch:= omega) only[vm,seval];rfl) slr fy ?_).1⟩;exact(hQ _ _ fy h6.less).go
    ·simp(disch:= omega) only[vm,seval,h1,h3,hg,pc,hl];refine⟨AQD (i:=i) hps hq hlen (λv hv=>(hb v hv).1) (by first| (simp(disch:= omega) only[vm,seval];done)| rfl) λn5 m5 hn5 h6=>?_⟩;simp(disch:= omega) only[vm,seval];refine⟨(hR _ _ _ _ _ _ (by simp(disch:= omega) only[vm,seval];rfl) slr fy ?_).1⟩;exact(hQ _ _ fy h6.less).go
  ·simp only[h1,av]at hq;simp(disch:= omega) only[vm,seval,h1];refine⟨AUe (i:=i) hps hq hnd hlen (λv hv=>(hb v hv).2) (by first| (simp(disch:= omega) only[vm,seval];done)| rfl) λn5 m5 hn5 h6=>?_⟩;simp(disch:= omega) only[vm,seval];refine⟨(hR _ _ _ _ _ _ (by simp(disch:= omega) only[vm,seval];rfl) slr fy ?_).1⟩;exact(hQ _ _ fy h6.less).go
section cells
variable{E:Env}{F:Nat->Nat}{Γ:Ghost}{w:World}{a:Act}{af:List AVal}{st:St}
def Pz (b:Nat): ∀(xs:List AVal) (vs:List Value) (i:Nat),AU b (xs.set i (xs.getD i .any).strip) vs<=AU b xs vs |[],_,_=>by simp[AU]|x::xs,[],i=>by cases i<;>simp[AU]| x::xs,v::vs,0=>by have:=KA b x v;simp only[dD,cj,AU];omega| x::xs,v::vs,i+1=>by have:=Pz b xs vs i;simp only[cS,cC,AU];omega
def Sim.stripCell{i:Nat}{cs:List AVal} (p:Nat) (hs:Sim E F Γ st w af a.tmps.toList) (hg:A9 st.m i=some cs):Sim E F Γ {st with m:=Bz st.m i (cs.set p (cs.getD p .any).strip)} w af a.tmps.toList:=by
 rcases hs.box_ok _ (ME hg)with⟨b,arr,e,hb⟩|⟨v,hv⟩;rotate_left;·exact hs.setSh hg hv (hv.rep.setStrip p) (hv.own.setStrip p) λn=>by have:=Pz n cs [v] p;have h2:=hs.tok n;omega
 obtain⟨lo,hi,hh,hf⟩:=hb.heap;exact(hs.setBox (w':=w) (cs':=cs.set p (cs.getD p .any).strip) (arr':=arr) (lo:=lo) (hi:=hi) hg hb hh hf (λ_ _=>rfl) rfl rfl rfl rfl (by rw[ci];exact hb.rep.setStrip p) (hb.own.setStrip p) (by rw[ci];exact hb.one) (λn=>by have:=Pz n cs arr.toList p;have h2:=hs.tok n;omega)).1
def VJ{c:Code}{Q:APost}{i:Nat}{cs:List AVal} (p:Nat) (hg:A9 st.m i=some cs) (h:AWp E c Q af {st with m:=Bz st.m i (cs.set p (cs.getD p .any).strip)}):AWp E c Q af st:=⟨λF Γ w a hd hs=>h.go F Γ w a hd (Sim.stripCell p hs hg)⟩
end cells
def BD (p:JPsr) (k:Nat):Prop:=k<=1099511627776/\0<=p.nodes/\p.nodes<=20000/\p.stack.length<=64/\ ∀v,v∈p.stack->v.keys.length+k<=1099511627776/\v.items.length+k<=1099511627776
instance (p:JPsr) (k:Nat):Decidable (BD p k):=by unfold BD;exact inferInstance
def PS.all{p:JPsr}{i x:Nat}{c:List AVal}{m0 m:MS} (h:PS p i ((x,c)::m0) m): ∃Y:MS,m.Perm ((x,c)::(Y++m0)):=by cases h with |nil X hs h=>exact⟨(i,pc (.slice 5 [] true) p)::X,h.trans (by simpa using dy (a:=(x,c)) (l₁:=(i,pc (.slice 5 [] true) p)::X) (l₂:=m0))⟩|box j ks junk X hk h=>exact⟨(i,pc (.gsl 5 j p.stack.length) p)::(j,WL p.stack ks++junk)::(maps p.stack ks++X),h.trans (by simpa using dy (a:=(x,c)) (l₁:=(i,pc (.gsl 5 j p.stack.length) p)::(j,WL p.stack ks++junk)::(maps p.stack ks++X)) (l₂:=m0))⟩
def BD.put{p:JPsr}{v:ApiValue}{k:Nat} (h:BD p (k+1)) (h2:(Mt p v).2=0):BD (Mt p v).1 k:=by
 obtain⟨hk,h3,h4,h5,h6⟩:=h;unfold Mt at h2⊢;by_cases hc:p.nodes+1>20000;·rw[ah hc]at h2;cases h2
 ·rw[ae hc];unfold H9;rcases NL (l:=p.stack)with hs|⟨st,w,hs⟩;·simp only[hs,eM];exact⟨fy,by simp only[];omega,by simp only[];omega,fA,fA⟩
  ·simp only[hs,bO,bJ,cr,cn,bX];rw[hs]at h5 h6;refine⟨fy,by simp only[];omega,by simp only[];omega,by simpa using h5,λx hx=>?_⟩;simp only[aX,bv]at hx;rcases hx with hx|rfl;·have:=h6 x (by simp[hx]);omega
   ·have:=h6 w fA;simp only[an,ag,ap];omega
def BD.take{p:JPsr}{t:ApiToken}{q:JPsr×Int}{k:Nat} (h:BD p (k+1)) (hq:Ea N p t=some q) (h2:q.2=0):BD q.1 k:=by
 have less:BD p k:=⟨by have:=h.1;omega,h.2.1,h.2.2.1,h.2.2.2.1,λv hv=>by have:=h.2.2.2.2 v hv;omega⟩;obtain⟨hk,h3,h4,h5,h6⟩:=h;have opn: ∀kd w,(Gp p kd w).2=0->BD (Gp p kd w).1 k:=by
  intro kd w h;unfold Gp at h⊢;by_cases a:p.stack.length>=64;·rw[ah a]at h;cases h
  ·rw[ae a]at h⊢;by_cases b:p.nodes+1>20000;·rw[ah b]at h;cases h
   ·rw[ae b];refine⟨fy,by simp only[];omega,by simp only[];omega,by simp only[an,ag,ap];omega,λx hx=>?_⟩;simp only[aX,bv]at hx;rcases hx with hx|rfl;·have:=h6 x hx;omega
    ·simp only[ap];omega
 unfold Ea at hq;split at hq;·cases hq;cases h2
 ·split at hq
  ·unfold Pi at hq;split at hq;·cases hq;exact opn _ _ h2
   ·split at hq;·cases hq;exact opn _ _ h2
    ·split at hq;·cases hq;exact less
     ·rcases NL (l:=p.stack)with hs|⟨st,w,hs⟩;·simp[hs]at hq
      ·simp only[hs,bO,bJ,cr,cn,bX]at hq;split at hq;·cases hq;exact⟨less.1,less.2.1,less.2.2.1,by rw[<-hs];exact less.2.2.2.1,λv hv=>less.2.2.2.2 v (by rw[hs];exact hv)⟩
       ·cases hq;rw[hs]at h5 h6;unfold H9;rcases NL (l:=st)with hs2|⟨st2,w2,hs2⟩;·simp only[hs2,eM];exact⟨less.1,less.2.1,less.2.2.1,fA,fA⟩
        ·simp only[hs2,bO,bJ,cr,cn,bX];rw[hs2]at h5 h6;refine⟨less.1,less.2.1,less.2.2.1,by simp at h5⊢;omega,λx hx=>?_⟩;simp only[aX,bv]at hx;rcases hx with hx|rfl;·have:=h6 x (by simp[hx]);omega
         ·have:=h6 w2 fA;simp only[an,ag,ap];omega
  ·split at hq
   ·unfold WA at hq;rcases NL (l:=p.stack)with hs|⟨st,w,hs⟩;·simp[hs]at hq
    ·simp only[hs,bO,bJ,cr,cn,bX]at hq;split at hq;·cases hq;cases h2
     ·cases hq;rw[hs]at h5 h6;refine⟨less.1,less.2.1,less.2.2.1,by simpa using h5,λx hx=>?_⟩;simp only[aX,bv]at hx;rcases hx with hx|rfl;·have:=h6 x (by simp[hx]);omega
      ·have:=h6 w fA;simp only[an,ag,ap];omega
   ·split at hq;·cases hq;exact less
    ·unfold Rf at hq;split at hq
     ·obtain⟨y,h7,h8⟩:=bind_some hq;split at h8;·cases h8;cases h2
      ·cases h8;exact BD.put ⟨hk,h3,h4,h5,h6⟩ h2
     ·split at hq;·cases hq;exact BD.put ⟨hk,h3,h4,h5,h6⟩ h2
      ·cases hq;exact BD.put ⟨hk,h3,h4,h5,h6⟩ h2
def JS (i:Nat) (m0:MS):Type:= {x:Int×JPsr×MS // PS x.2.1 i m0 x.2.2}
def JG (N:Nat) (a0:B8){i:Nat}{m0:MS} (k:Nat) (x:JS i m0):Option (ApiValue×Int×Int):=grd (BD x.1.2.1 k) (Le N a0 k x.1.1 x.1.2.1)
def JG0{a0:B8}{i:Nat}{m0:MS}{x:JS i m0}:JG N a0 0 x=none:=by unfold JG grd;split<;>rfl
def ARX{a0:B8}{r:ApiValue×Int×Int} (tokNum: ∀ {n:Nat}{m:MS}{Q:PQ}{args:List AVal} {a0 r},Dz N a0=some r->args=[.str a0]->(∀n',n<=n'->Gl (Q (.tuple [.str r.1,.int .i64 r.2]) ⟨m,n'⟩))->ACall vE 161 args ⟨m,n⟩ Q) (tokNext: ∀ {n:Nat}{m:MS}{Q:PQ}{args:List AVal} {a0 a1 r},LH N a0 a1=some r->args=[.str a0,.int .i64 a1]->(∀n',n<=n'->Gl (Q (.tuple [Eb r.1,.int .i64 r.2.1,.int .i64 r.2.2]) ⟨m,n'⟩))->ACall vE 56 args ⟨m,n⟩ Q) (h:F8 N a0=some r) (ha:args=[.str a0]) (hQ: ∀n',n<=n'->Gl (Q (.tuple [AP r.1,.int .i64 r.2.1,.int .i64 r.2.2]) ⟨m,n'⟩)):ACall vE 17 args ⟨m,n⟩ Q:=by
 unfold F8 at h;by_cases hN:N>1099511627776;·rw[ah hN]at h;cases h
 rw[ae hN]at h;subst ha;refine Ap4 hQ Tryz.func17 rfl Tryz.ntmps17 Tryz.results17 (.q (.r []) (.q (.q (.r []) (.c (.q (.r []) .z) .z)) (.q (.r []) (.q (.r []) .z)))) λR hR=>?_;by_cases hl:a0.length>1048576
 ·rw[ah hl]at h;cases h;have hc:decide ((1048576:Int)<(a0.length:Int))=true:=by simp;omega
  simp(disch:= omega) only[vm,seval,hc];refine⟨(hR _ _ _ _ _ _ (by simp(disch:= omega) only[vm,seval];rfl) (.cons _ slr) rfl fy ?_).1⟩;simp(disch:= omega) only[vm,seval,F4,Iq]
 ·rw [ae hl]at h;have hc:decide ((1048576:Int)<(a0.length:Int))=false:=by simp;omega
  simp(disch:= omega) only[vm,seval,hc];have hnn:n+1≠n:=fy;refine⟨VJ (i:=n+1) 5 ALm (VJ (i:=n+1) 6 (by simp only[vm];rfl) ?_)⟩;simp(disch:= omega) only[vm,seval];generalize hcell:([.int .i64 0,.str [],.slice 1 [] true,.slice 4 [] true]:List AVal)=cell;have hcl:cell.length=4:=by subst hcell;rfl
  have s0:PS ⟨[],0,0,F4⟩ (n+1) ((n,cell)::m) ((n+1,pc (.slice 5 [] true) ⟨[],0,0,F4⟩)::(n,cell)::m):=.nil [] rfl (cX _);have hG:True/\JG N a0 N (⟨(0,⟨[],0,0,F4⟩,(n+1,pc (.slice 5 [] true) ⟨[],0,0,F4⟩)::(n,cell)::m),s0⟩:JS (n+1) ((n,cell)::m))=some r:=by refine⟨trivial,?_⟩;have:BD ⟨[],0,0,F4⟩ N:=⟨Nat.not_lt.1 hN,fA,fA,fA,fA⟩;simp only[JG,grd,ah this];exact h
  refine ANT (σ:=JS (n+1) ((n,cell)::m)) (γ:=Unit) (JG N a0) (λx _=>[.int .i64 x.1.1]) (λx _=>x.1.2.2) [7,8,9,10,15,16,17,18,19,20,21,22,23,24,25,26,27,28,29,30,31,32,33,34,35,36,37,38,39,40,41,42] [6] ⟨(0,⟨[],0,0,F4⟩,(n+1,pc (.slice 5 [] true) ⟨[],0,0,F4⟩)::(n,cell)::m),s0⟩ () hG (λx=>JG0) ?_ ?_ ?_;·simp only[pc,F4,bM]
  ·simp(disch:= omega) only[vm,seval]
  rintro k ⟨⟨at_,p,m1⟩,hps⟩ _ n1 hn1 hk1 h1 Jk hJ;simp only at hps hk1 h1 hJ;refine AWp.nodup λhnd=>?_;refine ET (.q (.r []) (.q (.q (.r []) (.c .z .z)) (.q (.q (.r []) (.q (.r []) (.c .z .z))) .z))) ?_;obtain⟨hbd,h2⟩:=ACl (show grd (BD p (k+1)) (Le N a0 (k+1) at_ p)=some r from h1.2);rw[Le]at h2;obtain⟨y,h3,h4⟩:=bind_some h2;simp(disch:= omega) only[vm,seval];refine⟨tokNext h3 (by first| (simp(disch:= omega) only[vm,seval];done)| rfl) λn2 hn2=>?_⟩;have hn12:n<n1:=fy;have hfin: ∀(x:ApiValue) (a b:Int),True:=λ_ _ _=>trivial;subst hcell;have hnp:n+1<n1:=by
   rcases aS (n+1) n1 with h|h;·exact h
   ·obtain⟨sv,hg,_⟩:=hps.put hnd;have:=hk1 (n+1) h;rw[hg]at this;cases this
  have hn_2:n≠n2:=fy;have hp_2:n+1≠n2:=fy;cases h5:y.2.2 !=0
  ·simp only[h5,al,au]at h4;obtain⟨q,h6,h7⟩:=bind_some h4;simp(disch:= omega) only[vm,seval,h5];have hps2:=hps.more (n2,[.int .i64 y.1.kind,.str y.1.text,.int .i64 y.1.at_]);refine⟨AY3 (i:=n+1) tokNum hps2 h6 ⟨hbd.2.1,hbd.2.2.1⟩ (by have:=hbd.2.2.2.1;simp[Dl];omega) (λv hv=>by have:=hbd.2.2.2.2 v hv;omega) (by first| (simp(disch:= omega) only[vm,seval];done)| rfl) λn5 m5 hn5 h8=>?_⟩;have hln: ∀x c,(x,c)∈(n2,[.int .i64 y.1.kind,.str y.1.text,.int .i64 y.1.at_])::(n,[.int .i64 0,.str [],.slice 1 [] true,.slice 4 [] true])::m->(m5.map (·.1)).Nodup->A9 m5 x=some c:=λx c hx hd=>h8.get hd hx;have hpm: ∃Y:MS,m5.Perm ((n,[.int .i64 0,.str [],.slice 1 [] true,.slice 4 [] true])::(n2,[.int .i64 y.1.kind,.str y.1.text,.int .i64 y.1.at_])::(Y++m)):=by obtain⟨Y,hY⟩:=h8.all;refine⟨Y,hY.trans ?_⟩;refine(cE _ ?_).trans (cu _ _ _);simp
   cases h9:q.2 !=0
   ·simp only[h9,al,au]at h7;simp(disch:= omega) only[vm,seval,h9];refine⟨AWp.nodup λhd5=>?_⟩;have ht5:=hln n2 _ List.mem_cons_self hd5;obtain⟨sv,hg5,hsv5,_⟩:=h8.put hd5;refine ET (.q (.q (.r []) (.c .z .z)) (.r [])) ?_;cases h10:y.1.kind==1
    ·simp only[h10,al,au]at h7;simp(disch:= omega) only[vm,seval,ht5,h10];have hps5:PS q.1 (n+1) ((n,[.int .i64 0,.str [],.slice 1 [] true,.slice 4 [] true])::m) m5:=h8.less;have hb5:BD q.1 k:=BD.take hbd h6 (by simpa using h9);have hg:JG N a0 k (⟨(y.2.1,q.1,m5),hps5⟩:JS (n+1) ((n,[.int .i64 0,.str [],.slice 1 [] true,.slice 4 [] true])::m))=some r:=by simp only[JG,grd,ah hb5];exact h7
     refine⟨hJ _ () _ _ _ _ hg slr rfl ?_ ?_ fy⟩<;>first| (simp(disch:= omega) only[vm,seval];done)| rfl
    ·simp only[h10,av,aj]at h7;subst h7;simp(disch:= omega) only[vm,seval,ht5,h10];obtain⟨Y,hY⟩:=hpm;have hgp:A9 ((n,[.int .i64 0,.str [],.slice 1 [] true,.slice 4 [] true])::(n2,[.int .i64 y.1.kind,.str y.1.text,.int .i64 y.1.at_])::(Y++m)) (n+1)=some (pc sv q.1):=by refine Hy (V4 hY hd5) (hY.mem_iff.1 ?_);exact ME hg5
     have hgp2:A9 (Y++m) (n+1)=some (pc sv q.1):=by rw[Xd fy,Xd fy]at hgp;exact hgp
     refine⟨ABt hY ?_⟩;refine ET (.q (.r []) .z) ?_;simp(disch:= omega) only[vm,seval,hgp2,pc];refine⟨(hR _ _ _ _ _ _ (by simp(disch:= omega) only[vm,seval];rfl) (.cons _ (.cons _ (cJ Y m))) rfl fy ?_).1⟩;simp(disch:= omega) only[vm,seval,Iq]
   ·simp only[h9,av,aj]at h7;subst h7;simp(disch:= omega) only[vm,seval,h9];obtain⟨Y,hY⟩:=hpm;refine⟨ABt hY ?_⟩;refine ET (.q .z .z) ?_;simp(disch:= omega) only[vm,seval];refine⟨PV [] (.take 1 (.take 2 (.take 3 (.alt 0 [3,2,1] (.alt 4 [3,2,1] (.alt 5 [3] (.alt 6 [] (.done) (.stop)) (.stop)) (.stop)) (.stop))))) MZ (by kernel_rfl) ?_⟩;simp(disch:= omega) only[vm,seval];refine⟨(hR _ _ _ _ _ _ (by simp(disch:= omega) only[vm,seval];rfl) (.cons _ (.cons _ (cJ Y m))) rfl fy ?_).1⟩;simp(disch:= omega) only[vm,seval,F4,Iq]
  ·simp only[h5,av,aj]at h4;subst h4;simp(disch:= omega) only[vm,seval,h5];obtain⟨Y,hY⟩:=hps.all;refine⟨ABt ((hY.cons _).trans (cu _ _ _)) ?_⟩;refine ET (.q (.r []) .z) ?_;simp(disch:= omega) only[vm,seval];refine⟨(hR _ _ _ _ _ _ (by simp(disch:= omega) only[vm,seval];rfl) (.cons _ (.cons _ (cJ Y m))) rfl fy ?_).1⟩;simp(disch:= omega) only[vm,seval,F4,Iq]
def Zw {a0 r} (h:F8 N a0=some r) (ha:args=[.str a0]) (hQ: ∀n',n<=n'->Gl (Q (.tuple [AP r.1,.int .i64 r.2.1,.int .i64 r.2.2]) ⟨m,n'⟩)):ACall vE 17 args ⟨m,n⟩ Q:=ARX (λh ha hq=>AAq h ha hq) (λh ha hq=>AKJ h ha hq) h ha hQ
instance Aax {a0}:CF vE (F8 N a0) 17 [.str a0] (λr=>.tuple [AP r.1,.int .i64 r.2.1,.int .i64 r.2.2]):=⟨λh hQ=>Zw h rfl hQ⟩
end Go.Proofs.YtjmejdocgdbklaaGreatDoor
