import Derived.Test.YtalbfkgififmfaaGreatDoorW21
set_option linter.unusedVariables false
set_option linter.unusedSimpArgs false
set_option maxHeartbeats 4000000
set_option maxRecDepth 100000
set_option linter.defProp false
namespace Go.Proofs.YtalbfkgififmfaaGreatDoor
open Go.VM Tryz
attribute [local irreducible] AA grd letL
variable{N n:Nat}{m:MS}{Q:PQ}{args:List AVal}
def Nb{t:TypeId}{w i l:Nat} (h:Ba vE.P t=true):TS vE t (.gsl w i l)=some (.int .i64 l):=by simp[TS,h]
theorem QS{w i l:Nat}:(AVal.gsl w i l).strip=.gsl w i l:=rfl
theorem TJ{w i l:Nat}:Aa (.gsl w i l)=[.gsl w i l]:=rfl
theorem WK{w i l:Nat}:Ch (.gsl w i l)=true:=rfl
theorem Wy{w i l:Nat}:NB (.gsl w i l)=false:=rfl
def AcO{i l:Nat} (h:0<l/\l<=Ca):Da vE 207 (.gsl 5 i l) (.int .i64 (wr .i64 ((l:Int)-1)))=some (.ptr i ((l-1) * 5)):=by
 have e:wr .i64 ((l:Int)-1)=((l-1:Nat):Int):=by have h2:=h.2;have h1:((l:Int)-1)=((l-1:Nat):Int):=fM;rw[h1];exact ARp fM
 rw[e];have h3:l-1<l:=fM;simp[Da,YT,h3]
def ASG{i j len:Nat}{pc:List AVal} (hl:0<len/\len<=Ca) (ha:args=[.ptr i 0]) (hQ: ∀n',n<=n'->Gl (Q (.ptr j ((len-1)*5)) ⟨(i,.gsl 5 j len::pc)::m,n'⟩)):AE vE 294 args ⟨(i,.gsl 5 j len::pc)::m,n⟩ Q:=by have h:True/\True:=⟨trivial,trivial⟩;subst ha;refine ent hQ func294 rfl ntmps294 results294 (.q (.r []) (.q .z .z)) λR hR=>?_;simp(disch:=omega) only[vm,seval,h.1];refine⟨RV [] (.take 0 (.take 1 (.take 2 (.take 3 (.take 4 (.take 5 (.take 6 (.take 7 (.take 8 (.take 9 (.take 10 (.alt 11 [] (.done) (.stop))))))))))))) Nr (by kernel_rfl) ?_⟩;simp(disch:=omega) only[vm,seval,h.1,Nb Ea,QS,AcO hl];refine⟨(hR _ _ _ _ _ _ (by simp(disch:=omega) only[vm,seval,h.1];rfl) slr ?_ fM ?_).1⟩<;>first|(simp(disch:=omega) only[vm,seval,h.1];done)|rfl
def Y2{i j len:Nat}{pc:List AVal} (hm:Aj m i=some (.gsl 5 j len::pc)) (hl:0<len/\len<=Ca) (ha:args=[.ptr i 0]) (hQ: ∀n',n<=n'->Gl (Q (.ptr j ((len-1)*5)) ⟨m,n'⟩)):AE vE 294 args ⟨m,n⟩ Q:=by have h:True/\True:=⟨trivial,trivial⟩;subst ha;refine ent hQ func294 rfl ntmps294 results294 (.q (.r []) (.q .z .z)) λR hR=>?_;simp(disch:=omega) only[vm,seval,h.1,hm];refine⟨RV [] (.take 0 (.take 1 (.take 2 (.take 3 (.take 4 (.take 5 (.take 6 (.take 7 (.take 8 (.take 9 (.take 10 (.alt 11 [] (.done) (.stop))))))))))))) Nr (by kernel_rfl) ?_⟩;simp(disch:=omega) only[vm,seval,h.1,Nb Ea,QS,AcO hl,hm];refine⟨(hR _ _ _ _ _ _ (by simp(disch:=omega) only[vm,seval,h.1,hm];rfl) slr ?_ fM ?_).1⟩<;>first|(simp(disch:=omega) only[vm,seval,h.1,hm];done)|rfl
def Aav:(U6 vE.P 331).map (Cr vE.P)=some (some (.bool false)):=by kernel_rfl
def VH: ∃e,U6 vE.P 331=some e/\Cr vE.P e=some (.bool false):=by have h:=Aav;cases he:U6 vE.P 331 with|none=>rw[he]at h;cases h|some e=>rw[he]at h;simp only[aP,ah]at h;exact⟨e,rfl,h⟩
def AVm{s:B8}: ∀ {keys:List B8},s∈keys->MP keys (keys.map λ_=>AVal.bool true) s=some (.bool true)
 | k::ks,h=>by
  simp only[aH,MP];split;·rfl
  ·rename_i hn;rcases aO.1 h with h|h;·exact absurd h hn
   ·exact AVm h
def AGo{s:B8}: ∀ {keys:List B8},s∉keys->MP keys (keys.map λ_=>AVal.bool true) s=none|[],_=>rfl|k::ks,h=>by simp only[aO,fL]at h;simp only[aH,MP];rw[aj h.1];exact AGo h.2
def AXD{s:B8}{x:AVal}: ∀ {keys:List B8}{vs:List AVal},s∉keys->vs.length=keys.length->IB keys s=keys++[s]/\MC keys vs s x=vs++[x]|[],[],_,_=>⟨rfl,rfl⟩|[],_::_,_,h=>by simp at h|k::ks,[],_,h=>by simp at h|k::ks,v::vs,h,hl=>by simp only[aO,fL]at h;obtain⟨h1,h2⟩:=AXD (x:=x) h.2 (by simpa using hl:vs.length=ks.length);simp only[IB,MC,aj h.1,h1,h2,bD,and_self]
def Aul{k:Nat}{s:B8}{keys:List B8}{st:St} (hm:Aj st.m k=some [.map keys (keys.map λ_=>.bool true)]) (hin:s∈keys):SB vE 331 (.sh k) (.str s) false st=some (.bool true):=by obtain⟨e,h1,h2⟩:=VH;simp[SB,h1,h2,XT,hm,AVm hin,AVal.strip]
def Akc{k:Nat}{s:B8}{keys:List B8}{st:St} (hm:Aj st.m k=some [.map keys (keys.map λ_=>.bool true)]) (hin:s∉keys):SB vE 331 (.sh k) (.str s) false st=some (.bool false):=by obtain⟨e,h1,h2⟩:=VH;simp[SB,h1,h2,XT,hm,AGo hin,AVal.strip]
def AwB{k:Nat}{s:B8}{keys:List B8}{st:St} (hm:Aj st.m k=some [.map keys (keys.map λ_=>.bool true)]) (hin:s∉keys):ACo vE 331 (.sh k) (.str s) (.bool true) st=some {st with m:=A9 st.m k [.map (keys++[s]) ((keys++[s]).map λ_=>.bool true)]}:=by obtain⟨e,h1,h2⟩:=VH;obtain⟨h3,h4⟩:=AXD (x:=AVal.bool true) (vs:=keys.map λ_=>AVal.bool true) hin fN;simp[ACo,h1,XT,hm,h3,h4]
def drop_at{q c:Nat}{pre l junk:List AVal} (h:pre.length=q):List.drop (q+c) (pre++l++junk)=List.drop c (l++junk):=by subst h;rw[aJ,cv];simp
def get_at{q c:Nat}{pre l junk:List AVal} (h:pre.length=q):(pre++l++junk)[q+c]?=(l++junk)[c]?:=by subst h;rw[aJ,dx fM];congr 1;omega
def Aol{q c:Nat}{x:AVal}{pre l junk:List AVal} (h:pre.length=q) (hc:decide (c<l.length)=true):(pre++l++junk).set (q+c) x=pre++l.set c x++junk:=by
 subst h;have hc:c<l.length:=by simpa using hc
 rw[aJ,dn _ _ fM,List.set_append_left _ _ fM,aJ];congr 2;congr 1;omega
def A1r{q:Nat}{a b c d e x:AVal}{pre junk:List AVal} (h:pre.length=q):(pre++[a,b,c,d,e]++junk).set (q+2) x=pre++[a,b,x,d,e]++junk:=Aol h rfl
def AxO{q:Nat}{a b c d e x:AVal}{pre junk:List AVal} (h:pre.length=q):(pre++[a,b,c,d,e]++junk).set (q+3) x=pre++[a,b,c,x,e]++junk:=Aol h rfl
def Adb{i j k len:Nat}{pre junk:List AVal}{keys:List B8}{kd wt nd text it o1 o2 o3 o4:AVal}{s:B8} (hd:j≠i/\k≠i/\k≠j) (hp:pre.length=(len-1) * 5) (hl:0<len/\len<=Ca) (ha:args=[.ptr i 0,.str s]) (hin:s∈keys) (hQ: ∀n',n<=n'->Gl (Q (.int .i64 143) ⟨(i,[.gsl 5 j len,wt,nd,o1,o2,o3,o4])::(j,pre++[kd,text,.slice 1 (keys.map AVal.str) true,it,.sh k]++junk)::(k,[.map keys (keys.map λ_=>.bool true)])::m,n'⟩)):AE vE 222 args ⟨(i,[.gsl 5 j len,wt,nd,o1,o2,o3,o4])::(j,pre++[kd,text,.slice 1 (keys.map AVal.str) true,it,.sh k]++junk)::(k,[.map keys (keys.map λ_=>.bool true)])::m,n⟩ Q:=by
 have h:True/\True:=⟨trivial,trivial⟩;obtain⟨hd1,hd2,hd3⟩:=hd;subst ha;refine ent hQ func222 rfl ntmps222 results222 (.q (.r []) (.q (.r []) (.q (.q (.r []) (.c (.q (.r []) .z) .z)) .z))) λR hR=>?_;simp(disch:=omega) only[vm,seval,h.1];refine⟨ASG hl tD λn2 hn2=>?_⟩;have hg:Aj ((i,[.gsl 5 j len,wt,nd,o1,o2,o3,o4])::(j,pre++[kd,text,.slice 1 (keys.map AVal.str) true,it,.sh k]++junk)::(k,[.map keys (keys.map λ_=>.bool true)])::m) k=some [.map keys (keys.map λ_=>.bool true)]:=by simp[Aj,hd2,hd3]
 have hlk:=Aul (st:=⟨_,n2⟩) hg hin;simp(disch:=omega) only[vm,seval,h.1,drop_at hp,AAO,Aaf,hlk];refine⟨(hR _ _ _ _ _ _ (by simp(disch:=omega) only[vm,seval,h.1];rfl) slr rfl fM ?_).1⟩<;>first|(simp(disch:=omega) only[vm,seval,h.1];done)|rfl
def AbL{i j k len:Nat}{pre junk:List AVal}{keys:List B8}{kd wt nd text it o1 o2 o3 o4:AVal}{s:B8} (hd:j≠i/\k≠i/\k≠j) (hp:pre.length=(len-1) * 5) (hl:0<len/\len<=Ca) (ha:args=[.ptr i 0,.str s]) (hin:s∉keys) (hb:keys.length<=1099511627776) (hQ: ∀n',n<=n'->Gl (Q (.int .i64 0) ⟨(i,[.gsl 5 j len,.int .i64 4,nd,o1,o2,o3,o4])::(j,pre++[kd,text,.slice 1 ((keys++[s]).map AVal.str) true,it,.sh k]++junk)::(k,[.map (keys++[s]) ((keys++[s]).map λ_=>.bool true)])::m,n'⟩)):AE vE 222 args ⟨(i,[.gsl 5 j len,wt,nd,o1,o2,o3,o4])::(j,pre++[kd,text,.slice 1 (keys.map AVal.str) true,it,.sh k]++junk)::(k,[.map keys (keys.map λ_=>.bool true)])::m,n⟩ Q:=by
 have h:True/\True:=⟨trivial,trivial⟩;obtain⟨hd1,hd2,hd3⟩:=hd;subst ha;refine ent hQ func222 rfl ntmps222 results222 (.q (.r []) (.q (.r []) (.q (.q (.r []) (.c (.q (.r []) .z) .z)) (.q (.r []) (.q (.r [24]) (.q (.r []) (.q (.r []) .z))))))) λR hR=>?_;simp(disch:=omega) only[vm,seval,h.1];refine⟨ASG hl tD λn2 hn2=>?_⟩;have hg:Aj ((i,[.gsl 5 j len,wt,nd,o1,o2,o3,o4])::(j,pre++[kd,text,.slice 1 (keys.map AVal.str) true,it,.sh k]++junk)::(k,[.map keys (keys.map λ_=>.bool true)])::m) k=some [.map keys (keys.map λ_=>.bool true)]:=by simp[Aj,hd2,hd3]
 have hlk:=Akc (st:=⟨_,n2⟩) hg hin;have hup:=AwB (st:=⟨_,n2⟩) hg hin;have hft:Af (keys.length+1) 16:=by unfold Af;omega
 have hr2:(len-1) * 5+3<=pre.length+(5+junk.length):=fM;simp(disch:=omega) only[vm,seval,h.1,drop_at hp,AAO,Zt,Aaf,hlk,hup,get_at hp,A1r hp,hft,hr2,az];refine⟨(hR _ _ _ _ _ _ (by simp(disch:=omega) only[vm,seval,h.1];rfl) slr ?_ fM ?_).1⟩<;>first|(simp(disch:=omega) only[vm,seval,h.1];done)|rfl
def AA9{E:Env}{c:Code}{f:FuncId}{fn:Func}{nt:Nat}{rs:List ResultVar}{args:List AVal}{m:MS}{n:Nat}{Q:PQ} (hf:E.P.funcs[f]?=some fn) (hb:fn.body=some c) (hn:fn.ntmps=nt) (hr:fn.results=rs.toArray) (a:An) (h: ∀R:APost,(∀af st xs m0 m1 n',Sm E rs af st=some (xs,⟨m1,n'⟩)->m0.Sublist m1->n<=n'->Q (Uv xs) ⟨m0,n'⟩->R .ret af st/\R .normal af st)->Gl (wpc E c a R (args++List.replicate (nt-args.length) .any) ⟨m,n⟩)):AE E f args ⟨m,n⟩ Q:=by
 refine Nh hf hb ?_;have hw:=Re a (h (Ko E fn Q) ?_).go;·subst hn;exact hw
 ·intro af st xs m0 m1 n' h1 h2 h3 h4;have e:fn.results.toList=rs:=by rw[hr]
  exact⟨LW (by rw[e];exact h1) h2 h4,Ld (by rw[e];exact h1) h2 h4⟩
def ABF:Cr vE.P 333=some (.agg [.int .i64 0,.str [],.slice 1 [] true,.slice 4 [] true,.nmap]):=by kernel_rfl
def Aa0{i j len:Nat}{lc:List AVal}{kd want nodes:Int}{wt o1 o2 o3 o4:AVal} (hd:j≠i) (hlc:len * 5<=lc.length) (hl:len<64) (hn:0<=nodes/\nodes+1<=20000) (ha:args=[.ptr i 0,.int .i64 kd,.int .i64 want]) (hQ: ∀n' j' k',n<=n'->(j'=j\/n<=j')->n<=k'->k'≠j'->Gl (Q (.int .i64 0) ⟨(j',lc.take (len * 5)++[.int .i64 kd,.str [],.slice 1 [] true,.slice 4 [] true,.sh k'])::(k',[.map [] []])::(i,[.gsl 5 j' (len+1),.int .i64 want,.int .i64 (nodes+1),o1,o2,o3,o4])::m,n'⟩)):AE vE 296 args ⟨(i,[.gsl 5 j len,wt,.int .i64 nodes,o1,o2,o3,o4])::(j,lc)::m,n⟩ Q:=by
 refine AE.known λ_ hkn=>?_;have h:True/\True:=⟨trivial,trivial⟩;have hi:i<n:=by
  rcases bf i n with h|h;·exact h
  ·have:=hkn i h;simp[Aj]at this
 have hj:j<n:=by
  rcases bf j n with h|h;·exact h
  ·have:=hkn j h;simp[Aj,hd]at this
 subst ha;refine AA9 func296 rfl ntmps296 results296 (.q (.r []) (.q (.q (.r []) (.c (.q (.r []) .z) .z)) (.q (.q (.r []) (.q (.r []) (.c (.q (.r []) .z) .z))) (.q (.r [29,34]) (.q (.r []) (.q (.r []) .z)))))) λR hR=>?_;have hc1:decide ((64:Int)<=len)=false:=by simp;omega
 have hc2:decide ((20000:Int)<nodes+1)=false:=by simp;omega
 have hw:wr .i64 (nodes+1)=nodes+1:=by obtain⟨q,rfl⟩: ∃q:Nat,nodes=q:=⟨nodes.toNat,fM⟩;exact AF7 (by simp[Ca];omega)
 simp(disch:=omega) only[vm,seval,h.1,Nb Ea,QS,TJ,hc1,hc2,hw,ABF,AC2,Js];have happ:AWE vE 207 207 (AVal.gsl 5 j len) (AVal.gsl 5 (n+1) 1) {m:=(n+1,List.flatMap (λp=>Aa p.snd) [((0:Nat),AVal.agg [AVal.int IntKind.i64 kd,AVal.str [],AVal.slice 1 [] true,AVal.slice 4 [] true,AVal.sh n])])::(n,[AVal.map [] []])::(i,[AVal.gsl 5 j len,wt,AVal.int IntKind.i64 (nodes+1),o1,o2,o3,o4])::(j,lc)::m,next:=n+2}=some (5,len+1,lc.take (len * 5)++[.int .i64 kd,.str [],.slice 1 [] true,.slice 4 [] true,.sh n],(n,[AVal.map [] []])::(i,[AVal.gsl 5 j len,wt,AVal.int IntKind.i64 (nodes+1),o1,o2,o3,o4])::m,some j):=by
  have e1: ¬j=n:=fM;have e2: ¬j=n+1:=fM;have e3:(len+1) * 80<=140737488355328/\len+1<=Ca:=by simp[Ca];omega
  simp[AWE,Aj,Dy,ADa,ADi,Xz,Aa,hd,e1,e2,e3,hlc]
 rw[happ];constructor;intro j' hj';have hj1:j'≠i/\j'≠n/\(j'=j\/n<=j'):=by
  rcases hj' with hj'|hj';·simp only at hj';omega
  ·cases hj';omega
 obtain⟨hj1,hj2,hj3⟩:=hj1;have hin:i≠n:=fM;refine Gl.go ?_;simp(disch:=omega) only[vm,seval,h.1,QS,TJ,WK,Wy];refine⟨(hR _ _ _ _ _ _ (by simp(disch:=omega) only[vm,seval,h.1];rfl) slr fM ?_).1⟩;exact(hQ _ j' n fM fM fM fM).go
def AEk{i j:Nat}{v:Ax}{wt nd o1 o2 o3 o4:AVal} (ha:args=[.ptr i 0,AC v]) (hQ: ∀n',n<=n'->Gl (Q (.tuple []) ⟨(i,[.gsl 5 j 0,.int .i64 6,nd,.int .i64 v.kind,.str v.text,.slice 1 (v.keys.map AVal.str) false,.slice 4 (v.items.map AC) false])::m,n'⟩)):AE vE 297 args ⟨(i,[.gsl 5 j 0,wt,nd,o1,o2,o3,o4])::m,n⟩ Q:=by
 refine AE.known λ_ hkn=>?_;have h:True/\True:=⟨trivial,trivial⟩;have hi:i<n:=by
  rcases bf i n with h|h;·exact h
  ·have:=hkn i h;simp[Aj]at this
 subst ha;refine AA9 func297 rfl ntmps297 results297 (.q (.r []) (.q (.q (.r []) (.c (.q (.r []) .z) .z)) .z)) λR hR=>?_;simp(disch:=omega) only[vm,seval,h.1,Nb Ea,QS,TJ,WK,Wy];refine⟨(hR _ _ _ _ _ _ (by simp(disch:=omega) only[vm,seval,h.1];rfl) (.cons _ slr) fM ?_).1⟩;exact(hQ _ fM).go
def ARi{i:Nat}{v:Ax}{wt nd o1 o2 o3 o4:AVal} (ha:args=[.ptr i 0,AC v]) (hQ: ∀n',n<=n'->Gl (Q (.tuple []) ⟨(i,[.slice 5 [] true,.int .i64 6,nd,.int .i64 v.kind,.str v.text,.slice 1 (v.keys.map AVal.str) false,.slice 4 (v.items.map AC) false])::m,n'⟩)):AE vE 297 args ⟨(i,[.slice 5 [] true,wt,nd,o1,o2,o3,o4])::m,n⟩ Q:=by
 refine AE.known λ_ hkn=>?_;have h:True/\True:=⟨trivial,trivial⟩;have hi:i<n:=by
  rcases bf i n with h|h;·exact h
  ·have:=hkn i h;simp[Aj]at this
 subst ha;refine AA9 func297 rfl ntmps297 results297 (.q (.r []) (.q (.q (.r []) (.c (.q (.r []) .z) .z)) .z)) λR hR=>?_;simp(disch:=omega) only[vm,seval,h.1,Nb Ea,QS,TJ,WK,Wy];refine⟨(hR _ _ _ _ _ _ (by simp(disch:=omega) only[vm,seval,h.1];rfl) (.cons _ slr) fM ?_).1⟩;exact(hQ _ fM).go
def AyJ{E:Env}{t:TypeId}{q:Nat}{x:AVal}:Da E t (.sh q) x=none:=by cases x<;>rfl
def Ay1{q k:Nat}{items:List Ax}:Hy vE 60 (.sh q) (.int .i64 (items.length:Int)) ⟨(q,[.slop 4 (List.map AC items)])::m,k⟩=some (.sptr q 4 items.length):=by simp[Hy,YR,Aj,AGb]
def ATy{E:Env}{t:TypeId}{j off q w k:Nat}{xs:List AVal}{o:Bool}:VN E t (.ptr j off) (.sh q) ⟨(q,[.slice w xs o])::m,k⟩=QA E t (.ptr j off) (.slice w xs o) ⟨(q,[.slice w xs false])::m,k⟩:=by simp[VN,Aj,A9,NB,QA]
def AUO{E:Env}{t:TypeId}{j off q w k:Nat}{xs:List AVal}:VN E t (.ptr j off) (.sh q) ⟨(q,[.slop w xs])::m,k⟩=AAu E t (.ptr j off) (.sh q) ⟨(q,[.slop w xs])::m,k⟩:=by simp[VN,Aj,TZ]
def AzG{E:Env}{id:Nat}{os:Array Oper}{b:Bool}{K:APost}{af:List AVal}{st:St}:wpc E (.region id os b) .z K af st=AWp E (.region id os b) K af st:=by rw[wpc]<;>simp
def AWv{i j len:Nat}{v:Ax}{items:List Ax}{pre junk:List AVal}{wt nd o1 o2 o3 o4 kd tx ks sk:AVal} (hd:j≠i) (hp:pre.length=(len-1) * 5) (hl:0<len/\len<=Ca) (hb:items.length<=1099511627776) (ha:args=[.ptr i 0,AC v]) (hQ: ∀n',n<=n'->Gl (Q (.tuple []) ⟨(i,[.gsl 5 j len,.int .i64 5,nd,o1,o2,o3,o4])::(j,pre++[kd,tx,ks,.slice 4 ((items++[v]).map AC) true,sk]++junk)::m,n'⟩)):AE vE 297 args ⟨(i,[.gsl 5 j len,wt,nd,o1,o2,o3,o4])::(j,pre++[kd,tx,ks,.slice 4 (items.map AC) true,sk]++junk)::m,n⟩ Q:=by
 refine AE.known λ_ hkn=>?_;have h:True/\True:=⟨trivial,trivial⟩;have hi:i<n:=by
  rcases bf i n with h|h;·exact h
  ·have:=hkn i h;simp[Aj]at this
 have hj:j<n:=by
  rcases bf j n with h|h;·exact h
  ·have:=hkn j h;simp[Aj,hd]at this
 subst ha;refine AA9 func297 rfl ntmps297 results297 (.q (.r []) (.q (.q (.r []) (.c (.q (.r []) .z) .z)) (.q (.r []) (.q .z .z)))) λR hR=>?_;have hc:((len:Int)==0)=false:=by simp;omega
 simp(disch:=omega) only[vm,seval,h.1,Nb Ea,QS,TJ,WK,Wy,hc];have hin:i≠n:=fM;refine⟨Y2 (pc:=[wt,nd,o1,o2,o3,o4]) (j:=j) (len:=len) ?_ hl tD λn2 hn2=>?_⟩;·simp[Aj,hin]
 simp(disch:=omega) only[vm,seval,h.1];refine⟨RV [24,28] (.take 0 (.take 1 (.take 2 (.take 3 (.take 5 (.take 7 (.alt 4 [7,5,2,1,0] (.take 6 (.alt 8 [] (.take 11 (.take 12 (.take 13 (.alt 9 [13,12,11] (.alt 10 [13,12,11] (.alt 14 [12,11] (.done) (.stop)) (.alt 14 [12,11] (.alt 10 [13,12,11] (.done) (.stop)) (.stop))) (.alt 14 [12,11] (.alt 9 [13,12,11] (.alt 10 [13,12,11] (.done) (.stop)) (.stop)) (.stop)))))) (.stop))) (.stop)))))))) Nr (by kernel_rfl) ?_⟩;have hft:(items.length+1) * 72<=140737488355328/\items.length<=4611686018427387903:=fM;have hjn:j≠n:=fM;have hr2:(len-1) * 5+4<=pre.length+(5+junk.length):=fM;simp(disch:=omega) only[hft,hr2,vm,seval,h.1,drop_at hp,get_at hp,AxO hp,RS,ioR,cq,and_self,AyJ,Ay1,AcD,ACv,YR,NB,Axr,Axk,ATy,AUO,AzG,Aqs,AoS,Kq,SS,Value.oneCell',cU,dm,az];have hjn2:j≠n2:=fM;have hin2:i≠n2:=fM;have fin: ∀(af:List AVal) (c:Code) (m':MS) (n':Nat),n<=n'->([]:List (Nat×List AVal)).Sublist m'->True:=λ_ _ _ _ _ _=>trivial;refine AaM (AaM ⟨?_⟩ ⟨?_⟩) ⟨?_⟩;·refine Cy (.r []) ?_;simp(disch:=omega) only[vm,seval,h.1];refine⟨(hR _ _ _ _ _ _ (by simp(disch:=omega) only[vm,seval,h.1];rfl) (.cons _ (.cons _ slr)) fM ?_).2⟩;have:=(hQ (n2+1) fM).go;show Q (.tuple []) _;simpa only[cF,aH,cw,I8]using this
 all_goals refine AJU (i:=n2) (j:=j) (p:=(len-1) * 5+3) hjn2 (by simp(disch:=omega) only[vm];rfl) fP (by simp(disch:=omega) only[vm,get_at hp]) (by simp only[vm];rfl) ?_;refine Cy (.r []) ?_;simp(disch:=omega) only[vm,seval,h.1,AxO hp];refine⟨(hR _ _ _ _ _ _ (by simp(disch:=omega) only[vm,seval,h.1];rfl) (.cons _ (.cons _ slr)) fM ?_).2⟩;have:=(hQ (n2+1) fM).go;show Q (.tuple []) _;simpa only[cF,aH,cw,I8]using this
theorem AE.nodup{E:Env}{f:FuncId}{args:List AVal}{st:St}{Q:PQ} (h:(st.m.map (·.1)).Nodup->AE E f args st Q):AE E f args st Q:=⟨λF O w cargs hs=>(h hs.keys).go F O w cargs hs⟩
def Hl: ∀ {m:MS}{i:Nat}{c:List AVal},(m.map (·.1)).Nodup->(i,c)∈m->Aj m i=some c
 |(j,d)::m,i,c,hn,h=>by
  simp only[aH,bZ]at hn;rcases aO.1 h with h|h;·cases h;simp[Aj]
  ·have hne:i≠j:=λe=>hn.1 (by rw[<-e];exact eC (f:=(·.1)) h);simp only[Aj,aj hne];exact Hl hn.2 h
def Xk{m m':MS} (h:m.Perm m') (hn:(m.map (·.1)).Nodup):(m'.map (·.1)).Nodup:=(h.map _).nodup_iff.1 hn
def Xh{m r:MS}{i:Nat}{c x:List AVal} (hn:(m.map (·.1)).Nodup) (h:m.Perm ((i,c)::r)):(A9 m i x).Perm ((i,x)::r):=by have hg:Aj m i=some c:=Hl hn (h.mem_iff.2 fN);have h1:=Lc hg;have h2:r.Perm (Dy m i):=(h.symm.trans h1).cons_inv;exact(UH hg).symm.trans (h2.symm.cons _)
def lvl (v:Ax) (k:Nat):List AVal:=[.int .i64 v.kind,.str v.text,.slice 1 (v.keys.map AVal.str) true,.slice 4 (v.items.map AC) true,.sh k]
def AWQ (v:Ax) (k:Nat):Nat×List AVal:=(k,[.map v.keys (v.keys.map λ_=>.bool true)])
def Ze:List Ax->List Nat->List AVal|v::vs,k::ks=>lvl v k++Ze vs ks|_,_=>[]
def maps:List Ax->List Nat->MS|v::vs,k::ks=>AWQ v k::maps vs ks|_,_=>[]
def pc (sv:AVal) (p:AS):List AVal:=[sv,.int .i64 p.want,.int .i64 p.n,.int .i64 p.out.kind,.str p.out.text,.slice 1 (p.out.keys.map AVal.str) false,.slice 4 (p.out.items.map AC) false]
def WS: ∀ {st:List Ax}{ks:List Nat}{v:Ax}{k:Nat},ks.length=st.length->Ze (st++[v]) (ks++[k])=Ze st ks++lvl v k|[],[],v,k,_=>by simp[Ze]|x::st,y::ks,v,k,h=>by simp only[bD,Ze,aJ];rw[WS (by simpa using h)]
def WT: ∀ {st:List Ax}{ks:List Nat}{v:Ax}{k:Nat},ks.length=st.length->maps (st++[v]) (ks++[k])=maps st ks++[AWQ v k]|[],[],v,k,_=>by simp[maps]|x::st,y::ks,v,k,h=>by simp only[bD,maps];rw[WT (by simpa using h)]
def Zb: ∀ {st:List Ax}{ks:List Nat},ks.length=st.length->(Ze st ks).length=st.length * 5|[],[],_=>rfl|x::st,y::ks,h=>by simp only[Ze,ag,Zb (st:=st) (ks:=ks) (by simpa using h),ae,lvl,aq];omega
inductive PS (p:AS) (i:Nat) (m0 m:MS):Prop|nil (X:MS) (hs:p.p=[]) (h:m.Perm ((i,pc (.slice 5 [] true) p)::(X++m0)))|box (j:Nat) (ks:List Nat) (junk:List AVal) (X:MS) (hk:ks.length=p.p.length) (h:m.Perm ((i,pc (.gsl 5 j p.p.length) p)::(j,Ze p.p ks++junk)::(maps p.p ks++(X++m0))))
def PS.more{p:AS}{i:Nat}{m0 m:MS} (h:PS p i m0 m) (e:Nat×List AVal):PS p i (e::m0) (e::m):=by
 have key: ∀(a b X:MS),m.Perm (a++(b++(X++m0)))->(e::m).Perm (a++(b++(X++e::m0))):=λa b X h=>by
  have h1:(a++(b++(X++e::m0))).Perm (e::(a++(b++(X++m0)))):=by have:=dE (a:=e) (l₁:=a++b++X) (l₂:=m0);simpa only[aJ]using this
  exact(h.cons e).trans h1.symm
 cases h with|nil X hs h=>exact .nil X hs (by simpa using key [_] [] X (by simpa using h))|box j ks junk X hk h=>exact .box j ks junk X hk (by simpa using key [_,_] _ X (by simpa using h))
def PS.less{p:AS}{i:Nat}{m0 m:MS}{e:Nat×List AVal} (h:PS p i (e::m0) m):PS p i m0 m:=by cases h with|nil X hs h=>exact .nil (X++[e]) hs (by simpa using h)|box j ks junk X hk h=>exact .box j ks junk (X++[e]) hk (by simpa using h)
def PS.perm{p:AS}{i:Nat}{m0 m m':MS} (h:PS p i m0 m) (hp:m'.Perm m):PS p i m0 m':=by cases h with|nil X hs h=>exact .nil X hs (hp.trans h)|box j ks junk X hk h=>exact .box j ks junk X hk (hp.trans h)
def PS.put{p:AS}{i:Nat}{m0 m:MS} (h:PS p i m0 m) (hn:(m.map (·.1)).Nodup): ∃sv,Aj m i=some (pc sv p)/\(sv=.slice 5 [] true/\p.p=[]\/∃j,sv=.gsl 5 j p.p.length)/\∀p':AS,p'.p=p.p->PS p' i m0 (A9 m i (pc sv p')):=by cases h with|nil X hs h=>exact⟨_,Hl hn (h.mem_iff.2 fN),.inl ⟨rfl,hs⟩,λp' e=>.nil X (e.trans hs) (Xh hn h)⟩|box j ks junk X hk h=>exact⟨_,Hl hn (h.mem_iff.2 fN),.inr ⟨j,rfl⟩,λp' e=>.box j ks junk X (by rw[e];exact hk) (by rw[e];exact Xh hn h)⟩
def PS.get{p:AS}{i x:Nat}{c:List AVal}{m0 m:MS} (h:PS p i m0 m) (hn:(m.map (·.1)).Nodup) (hx:(x,c)∈m0):Aj m x=some c:=by cases h with|nil X hs h=>exact Hl hn (h.mem_iff.2 (by simp[hx]))|box j ks junk X hk h=>exact Hl hn (h.mem_iff.2 (by simp[hx]))
def PS.top{p:AS}{i:Nat}{m0 m:MS}{st:List Ax}{v:Ax} (h:PS p i m0 m) (hs:p.p=st++[v]): ∃j k pre junk rest,pre.length=st.length * 5/\m.Perm ((i,pc (.gsl 5 j (st.length+1)) p)::(j,pre++lvl v k++junk)::AWQ v k::rest)/\(∀(p':AS) v' m',p'.p=st++[v']->m'.Perm ((i,pc (.gsl 5 j (st.length+1)) p')::(j,pre++lvl v' k++junk)::AWQ v' k::rest)->PS p' i m0 m')/\∀(p':AS) junk' m',p'.p=st->m'.Perm ((i,pc (.gsl 5 j st.length) p')::(j,pre++junk')::AWQ v k::rest)->PS p' i m0 m':=by
 cases h with
 |nil X hn h=>rw[hn]at hs;simp at hs
 | box j ks junk X hk h=>
  rw[hs]at hk h;obtain⟨ks',k,rfl⟩: ∃ks' k,ks=ks'++[k]:=by
   rcases dp ks with rfl|⟨a,b,rfl⟩;·simp at hk
   ·exact⟨a,b,fN⟩
  have hk':ks'.length=st.length:=by simpa using hk
  rw[WS hk',WT hk',ag,ae,aq]at h;have mid: ∀(a b:Nat×List AVal) (e:Nat×List AVal) (l:MS),(a::b::(maps st ks'++[e]++l)).Perm (a::b::e::(maps st ks'++l)):=λa b e l=>by refine cJ _ (cJ _ ?_);simp
  refine⟨j,k,Ze st ks',junk,maps st ks'++(X++m0),Zb hk',h.trans (mid _ _ _ _),λp' v' m' e hp=>?_,λp' junk' m' e hp=>?_⟩;·refine .box j (ks'++[k]) junk X (by simp[e,hk']) ?_;rw[e,WS hk',WT hk',ag,ae,aq];exact hp.trans (mid _ _ _ _).symm
  ·refine .box j ks' junk' (AWQ v k::X) (by rw[e];exact hk') ?_;rw[e];refine hp.trans (cJ _ (cJ _ ?_));simpa using(dE (a:=AWQ v k) (l₁:=maps st ks') (l₂:=X++m0)).symm
def OX{l:List Ax}:l=[]\/∃st v,l=st++[v]:=by
 rcases dp l with h|⟨a,b,h⟩;·exact .inl h
 ·exact .inr ⟨a,b,by simpa using h⟩
def nd3{a b c:Nat×List AVal}{r m:MS} (hn:(m.map (·.1)).Nodup) (h:m.Perm (a::b::c::r)):b.1≠a.1/\c.1≠a.1/\c.1≠b.1:=by have h2:=Xk h hn;simp only[aH,bZ,aO,fL]at h2;exact⟨dO h2.1.1,dO h2.1.2.1,dO h2.2.1.1⟩
def AS9{p:AS}{i:Nat}{m0:MS}{s:B8}{q:AS×Int} (hp:PS p i m0 m) (h:ACu p s=some q) (hlen:p.p.length<=Ca) (hb: ∀v,v∈p.p->v.keys.length<=1099511627776) (ha:args=[.ptr i 0,.str s]) (hQ: ∀n' m',n<=n'->PS q.1 i m0 m'->Gl (Q (.int .i64 q.2) ⟨m',n'⟩)):AE vE 222 args ⟨m,n⟩ Q:=by
 refine AE.nodup λhn=>?_;rcases OX (l:=p.p)with hs|⟨st,v,hs⟩;·simp[ACu,hs]at h
 ·obtain⟨j,k,pre,junk,rest,h1,h2,h3,h4⟩:=hp.top hs;have hd:=nd3 hn h2;have hl:0<st.length+1/\st.length+1<=Ca:=⟨fM,by rw[hs]at hlen;simpa using hlen⟩;have hvb:=hb v (by rw[hs];simp);refine AE.perm h2 ?_;simp only[ACu,hs,cm,co,dz,da]at h;by_cases hin:s∈v.keys;·rw[an hin]at h;cases h;refine Adb (hd:=hd) (hp:=by simpa using h1) hl ha hin λn' hn'=>hQ _ _ hn' ?_;exact h3 p v _ hs (dg _)
  ·rw[aj hin]at h;cases h;refine AbL (hd:=hd) (hp:=by simpa using h1) hl ha hin hvb λn' hn'=>hQ _ _ hn' ?_;exact h3 _ {v with keys:=v.keys++[s]} _ fN (dg _)
def AG8{p:AS}{i:Nat}{m0:MS}{v:Ax} (hp:PS p i m0 m) (hlen:p.p.length<=Ca) (hb: ∀v,v∈p.p->v.items.length<=1099511627776) (ha:args=[.ptr i 0,AC v]) (hQ: ∀n' m',n<=n'->PS (PI p v) i m0 m'->Gl (Q (.tuple []) ⟨m',n'⟩)):AE vE 297 args ⟨m,n⟩ Q:=by
 refine AE.nodup λhn=>?_;rcases OX (l:=p.p)with hs|⟨st,v',hs⟩
 ·have e:PI p v= {p with out:=v,want:=6}:=by simp[PI,hs]
  rw[e]at hQ;cases hp with|nil X hz h=>refine AE.perm h ?_;refine ARi ha λn' hn'=>hQ _ _ hn' (.nil X hs (dg _))|box j ks junk X hk h=>refine AE.perm h ?_;rw[hs];refine AEk ha λn' hn'=>hQ _ _ hn' ?_;refine .box j ks junk X hk ?_;rw[hs];exact dg _
 ·obtain⟨j,k,pre,junk,rest,h1,h2,h3,h4⟩:=hp.top hs;have hd:=nd3 hn h2;have hl:0<st.length+1/\st.length+1<=Ca:=⟨fM,by rw[hs]at hlen;simpa using hlen⟩;have hvb:=hb v' (by rw[hs];simp);have e:PI p v= {p with p:=p.p.dropLast++[{v' with items:=v'.items++[v]}],want:=5}:=by simp[PI,hs]
  rw[e]at hQ;refine AE.perm h2 ?_;refine AWv hd.1 (by simpa using h1) hl hvb ha λn' hn'=>hQ _ _ hn' ?_;exact h3 _ {v' with items:=v'.items++[v]} _ (by simp[hs]) (dg _)
def AEM{sv:AVal}{st:List Ax} (h:sv=.slice 5 [] true/\st=[]\/∃j,sv=.gsl 5 j st.length):TS vE 207 sv=some (.int .i64 (st.length:Int))/\sv.strip=(match sv with|.slice w l _=>.slice w l false|x=>x)/\TS vE 207 sv.strip=some (.int .i64 (st.length:Int))/\Aa sv=[sv]/\Ch sv=true/\NB sv=false:=by
 rcases h with⟨rfl,rfl⟩|⟨j,rfl⟩;·exact⟨by simp[TS,Ea],rfl,by simp[TS,Ea,AVal.strip],rfl,rfl,rfl⟩
 ·exact⟨Nb Ea,rfl,Nb Ea,rfl,rfl,rfl⟩
def AH3{p:AS}{i:Nat}{m0:MS}{kd want:Int}{sv:AVal} (hm:Aj m i=some (pc sv p)) (hsv:TS vE 207 sv.strip=some (.int .i64 (p.p.length:Int))/\Aa sv=[sv]) (hl:64<=p.p.length) (ha:args=[.ptr i 0,.int .i64 kd,.int .i64 want]) (hQ: ∀n',n<=n'->Gl (Q (.int .i64 141) ⟨m,n'⟩)):AE vE 296 args ⟨m,n⟩ Q:=by
 have h:True/\True:=⟨trivial,trivial⟩;subst ha;refine ent hQ func296 rfl ntmps296 results296 (.q (.r []) (.q (.q (.r []) (.c (.q (.r []) .z) .z)) (.q (.q (.r []) (.q (.r []) (.c (.q (.r []) .z) .z))) (.q (.r [29]) (.q (.r []) (.q (.r []) .z)))))) λR hR=>?_;have hc1:decide ((64:Int)<=p.p.length)=true:=by simp;omega
 simp(disch:=omega) only[vm,seval,h.1,hm,pc,hsv,hc1];refine⟨(hR _ _ _ _ _ _ (by simp(disch:=omega) only[vm,seval,h.1];rfl) slr ?_ fM ?_).1⟩<;>first|(simp(disch:=omega) only[vm,seval,h.1];done)|rfl
def AQ8{nodes:Int} (hn:0<=nodes/\nodes<=30000):wr .i64 (nodes+1)=nodes+1:=by obtain⟨q,rfl⟩: ∃q:Nat,nodes=q:=⟨nodes.toNat,fM⟩;exact AF7 (by simp[Ca];omega)
def APM{p:AS}{i:Nat}{m0:MS}{kd want:Int}{sv:AVal} (hm:Aj m i=some (pc sv p)) (hsv:TS vE 207 sv.strip=some (.int .i64 (p.p.length:Int))/\Aa sv=[sv]) (hl:p.p.length<64) (hn:0<=p.n/\p.n<=20000/\20000<p.n+1) (ha:args=[.ptr i 0,.int .i64 kd,.int .i64 want]) (hQ: ∀n',n<=n'->Gl (Q (.int .i64 142) ⟨A9 m i (pc sv {p with n:=p.n+1}),n'⟩)):AE vE 296 args ⟨m,n⟩ Q:=by
 have h:True/\True:=⟨trivial,trivial⟩;subst ha;refine ent hQ func296 rfl ntmps296 results296 (.q (.r []) (.q (.q (.r []) (.c (.q (.r []) .z) .z)) (.q (.q (.r []) (.q (.r []) (.c (.q (.r []) .z) .z))) (.q (.r [29]) (.q (.r []) (.q (.r []) .z)))))) λR hR=>?_;have hc1:decide ((64:Int)<=p.p.length)=false:=by simp;omega
 have hc2:decide ((20000:Int)<p.n+1)=true:=by simp;omega
 have hw:wr .i64 (p.n+1)=p.n+1:=AQ8 ⟨hn.1,fM⟩;have hms: ∀x,Aj (A9 m i x) i=some x:=λx=>JC hm;simp(disch:=omega) only[vm,seval,h.1,hm,pc,hsv,hc1,hc2,hw,hms];refine⟨(hR _ _ _ _ _ _ (by simp(disch:=omega) only[vm,seval,h.1];rfl) slr ?_ fM ?_).1⟩<;>first|(simp(disch:=omega) only[vm,seval,h.1];done)|rfl
def AT0{i:Nat}{kd want nodes:Int}{wt o1 o2 o3 o4:AVal} (hn:0<=nodes/\nodes+1<=20000) (ha:args=[.ptr i 0,.int .i64 kd,.int .i64 want]) (hQ: ∀n' j' k',n<=n'->n<=j'->n<=k'->k'≠j'->Gl (Q (.int .i64 0) ⟨(j',[.int .i64 kd,.str [],.slice 1 [] true,.slice 4 [] true,.sh k'])::(k',[.map [] []])::(i,[.gsl 5 j' 1,.int .i64 want,.int .i64 (nodes+1),o1,o2,o3,o4])::m,n'⟩)):AE vE 296 args ⟨(i,[.slice 5 [] true,wt,.int .i64 nodes,o1,o2,o3,o4])::m,n⟩ Q:=by
 refine AE.known λ_ hkn=>?_;have h:True/\True:=⟨trivial,trivial⟩;have hi:i<n:=by
  rcases bf i n with h|h;·exact h
  ·have:=hkn i h;simp[Aj]at this
 subst ha;refine AA9 func296 rfl ntmps296 results296 (.q (.r []) (.q (.q (.r []) (.c (.q (.r []) .z) .z)) (.q (.q (.r []) (.q (.r []) (.c (.q (.r []) .z) .z))) (.q (.r [29,34]) (.q (.r []) (.q (.r []) .z)))))) λR hR=>?_;have hc1:decide ((64:Int)<=(0:Nat))=false:=fN;have hc2:decide ((20000:Int)<nodes+1)=false:=by simp;omega
 have hw:wr .i64 (nodes+1)=nodes+1:=AQ8 ⟨hn.1,fM⟩;simp(disch:=omega) only[vm,seval,h.1,Nb Ea,QS,TJ,hc1,hc2,hw,ABF,AC2,Js];have happ:AWE vE 207 207 (AVal.slice 5 [] true) (AVal.gsl 5 (n+1) 1) {m:=(n+1,List.flatMap (λp=>Aa p.snd) [((0:Nat),AVal.agg [AVal.int IntKind.i64 kd,AVal.str [],AVal.slice 1 [] true,AVal.slice 4 [] true,AVal.sh n])])::(n,[AVal.map [] []])::(i,[AVal.slice 5 [] false,wt,AVal.int IntKind.i64 (nodes+1),o1,o2,o3,o4])::m,next:=n+2}=some (5,1,[.int .i64 kd,.str [],.slice 1 [] true,.slice 4 [] true,.sh n],(n,[AVal.map [] []])::(i,[AVal.slice 5 [] false,wt,AVal.int IntKind.i64 (nodes+1),o1,o2,o3,o4])::m,none):=by simp[AWE,Aj,Dy,ADa,ADi,Xz,Aa,Ca]
 rw[happ];constructor;intro j' hj';have hj1:j'=n+2:=by
  rcases hj' with hj'|hj';·exact hj'
  ·cases hj'
 subst hj1;have hin:i≠n:=fM;refine Gl.go ?_;simp(disch:=omega) only[vm,seval,h.1,QS,TJ,WK,Wy];refine⟨(hR _ _ _ _ _ _ (by simp(disch:=omega) only[vm,seval,h.1];rfl) slr fM ?_).1⟩;exact(hQ _ (n+2) n fM fM fM fM).go
def AGn{p:AS}{i:Nat}{m0:MS}{kd want:Int} (hp:PS p i m0 m) (hn:0<=p.n/\p.n<=20000) (ha:args=[.ptr i 0,.int .i64 kd,.int .i64 want]) (hQ: ∀n' m',n<=n'->PS (NI p kd want).1 i m0 m'->Gl (Q (.int .i64 (NI p kd want).2) ⟨m',n'⟩)):AE vE 296 args ⟨m,n⟩ Q:=by
 refine AE.nodup λhnd=>?_;obtain⟨sv,hg,hsv,hput⟩:=hp.put hnd;have hl:=AEM hsv;by_cases h1:p.p.length>=64
 ·have e:NI p kd want=(p,141):=by simp[NI,h1]
  rw[e]at hQ;exact AH3 (m0:=m0) hg ⟨hl.2.2.1,hl.2.2.2.1⟩ h1 ha λn' hn'=>hQ _ _ hn' hp
 ·by_cases h2:p.n+1>20000
  ·have e:NI p kd want=({p with n:=p.n+1},142):=by simp[NI,h1,h2]
   rw[e]at hQ;exact APM (m0:=m0) hg ⟨hl.2.2.1,hl.2.2.2.1⟩ fM ⟨hn.1,hn.2,h2⟩ ha λn' hn'=>hQ _ _ hn' (hput _ rfl)
  ·have e:NI p kd want=({p with p:=p.p++[⟨kd,[],[],[]⟩],n:=p.n+1,want:=want},0):=by simp[NI,h1,h2]
   rw[e]at hQ;cases hp with
   |nil X hs h=>refine AE.perm h ?_;refine AT0 ⟨hn.1,fM⟩ ha λn' j' k' h3 h4 h5 h6=>hQ _ _ h3 ?_;refine .box j' [k'] [] X (by simp[hs]) ?_;simp only[hs,bl,Ze,maps,lvl,AWQ,cw,bm,ae,aq,pc,bD];exact((cC _ _ _).cons _).trans (cC _ _ _)|>.trans (cJ _ (dg _))
   |box j ks junk X hk h=>
    have hd:j≠i:=by have h2:=Xk h hnd;simp only[aH,bZ,aO,fL]at h2;exact dO h2.1.1
    refine AE.perm h ?_;refine Aa0 hd (by rw[ag,Zb hk];omega) fM ⟨hn.1,fM⟩ ha λn' j' k' h3 h4 h5 h6=>hQ _ _ h3 ?_;refine .box j' (ks++[k']) [] X (by simp[hk]) ?_;have e1:(Ze p.p ks++junk).take (p.p.length * 5)=Ze p.p ks:=by rw[<-Zb hk,eN]
    rw[e1,WS hk,WT hk,bm,ag];have mid: ∀(e:Nat×List AVal) (l:MS),(e::(maps p.p ks++l)).Perm (maps p.p ks++[e]++l):=λe l=>by simpa using(dE (a:=e) (l₁:=maps p.p ks) (l₂:=l)).symm
    refine((cC _ _ _).cons _).trans ((cC _ _ _).trans (cJ _ (cJ _ ?_)));exact mid (k',[.map [] []]) _
def ArA (p:AS) (t:AN) (cl:B8):Bool:=if p.want==0 then Qi t else if p.want==1 then Qi t||(t.kind==2&&t.text==cl)else if p.want==2 then t.kind==3 else if p.want==3 then t.kind==3||(t.kind==2&&t.text==cl)else if p.want==4 then t.kind==2&&t.text==[58]else if p.want==5 then t.kind==2&&t.text==[44]||(t.kind==2&&t.text==cl)else t.kind==1
def Ak4{q:Nat}{a:AVal}{pre l junk:List AVal} (h:pre.length=q):(pre++a::l++junk)[q]?=some a:=by subst h;simp
def Aqx (t:AN):Ng N t=some (Qi t):=by unfold Ng Qi;simp only[AA];cases t.kind==3<;>cases t.kind==4<;>cases t.kind==5<;>cases t.kind==2<;>cases t.text==[91]<;>simp
def Aha{p:AS}{i:Nat}{m0:MS}{t:AN} (hp:PS p i m0 m) (hlen:p.p.length<=Ca) (ha:args=[.ptr i 0,ED t]) (hQ: ∀n',n<=n'->Gl (Q (.bool (We p t)) ⟨m,n'⟩)):AE vE 220 args ⟨m,n⟩ Q:=by
 refine AE.nodup λhnd=>AE.known λ_ hkn=>?_;obtain⟨sv,hg,hsv,hput⟩:=hp.put hnd;have hl:=(AEM hsv).2.2;have hi:i<n:=by
  rcases bf i n with h|h;·exact h
  ·have:=hkn i h;rw[hg]at this;cases this
 have h:True/\AA (λcl=>some (ArA p t cl)) (λk=>k (Mj p))=some (We p t):=⟨trivial,by simp only[AA];first|done|rfl⟩;subst ha;refine ent hQ func220 rfl ntmps220 results220 (.q (.r []) (.q (.r []) .z)) λR hR=>?_;have hin:i≠n:=fM;simp(disch:=omega) only[vm,seval,h.1];refine⟨VO (γ:=Unit) h [7,8,9,10,11,12,13,14,15,16,17,18,19] [5] (λcl g=>[.str cl]) (λcl g=>(n,[.int .i64 t.kind,.str t.text,.int .i64 t.o])::m) (.q (.r []) (.c (.q (.r []) (.q (.r []) (.c (.r []) .z))) .z)) ?_ ?_⟩<;>clear h
 ·rintro cl _ n4 hnn4 _ _ h;have h2:ArA p t cl=We p t:=by simpa using h
  clear h;have hin4:i≠n:=fM;refine Cy (.q (.r []) (.q (.q (.r []) (.q (.r []) (.c (.q (.r []) .z) (.q (.r []) (.c (.q (.r []) .z) (.q (.r []) (.c (.q (.r []) .z) (.q (.r []) (.c (.q (.r []) .z) (.q (.r []) (.c (.q (.r []) .z) (.q (.r []) (.c (.q (.r []) .z) .z))))))))))))) (.q (.r []) .z))) ?_;unfold ArA at h2;have ow: ∀ {n5:Nat}{m5:MS}{Q5:PQ}{args5:List AVal},args5=[ED t]->(∀n',n5<=n'->Gl (Q5 (.bool (Qi t)) ⟨m5,n'⟩))->AE vE 295 args5 ⟨m5,n5⟩ Q5:=λha hq=>AB0 (N:=0) (Aqx t) ha hq;generalize We p t=r at h2 hR;cases hk2:t.kind==2<;>cases hw0:p.want==0<;>cases hw1:p.want==1<;>cases hw2:p.want==2<;>cases hw3:p.want==3<;>cases hw4:p.want==4<;>cases hw5:p.want==5;all_goals try (exfalso;simp only[be,bB]at hw0 hw1 hw2 hw3 hw4 hw5;omega)
  all_goals simp(disch:=omega) only[hw0,hw1,hw2,hw3,hw4,hw5,hk2,az,aA,ap,bM,eO,cV]at h2;simp(disch:=omega) only[vm,seval,hk2,hg,pc,hl,hw0,hw1,hw2,hw3,hw4,hw5]
  all_goals first|((refine⟨(hR _ _ _ _ _ _ (by simp(disch:=omega) only[vm,seval,hk2];rfl) (.cons _ slr) rfl fM ?_).1⟩<;>first|rfl|(simp(disch:=omega) only[vm,seval,hk2];done)|(subst h2;rfl));done)|(cases hk3:t.kind==3<;>simp(disch:=omega) only[hk3,cO,bk]at h2<;>simp(disch:=omega) only[vm,seval,hk2,hk3]<;>(refine⟨(hR _ _ _ _ _ _ (by simp(disch:=omega) only[vm,seval,hk2];rfl) (.cons _ slr) rfl fM ?_).1⟩<;>first|rfl|(simp(disch:=omega) only[vm,seval,hk2];done)|(subst h2;rfl));done)|(cases hk3:t.text==[44]<;>simp(disch:=omega) only[hk3,cO,bk]at h2<;>simp(disch:=omega) only[vm,seval,hk2,hk3]<;>(refine⟨(hR _ _ _ _ _ _ (by simp(disch:=omega) only[vm,seval,hk2];rfl) (.cons _ slr) rfl fM ?_).1⟩<;>first|rfl|(simp(disch:=omega) only[vm,seval,hk2];done)|(subst h2;rfl));done)|(refine⟨ow (by first|(simp(disch:=omega) only[vm,seval,hk2];done)|rfl) λn5 hn5=>?_⟩;simp(disch:=omega) only[vm,seval,hk2];(refine⟨(hR _ _ _ _ _ _ (by simp(disch:=omega) only[vm,seval,hk2];rfl) (.cons _ slr) rfl fM ?_).1⟩<;>first|rfl|(simp(disch:=omega) only[vm,seval,hk2];done)|(subst h2;rfl));done)|(refine⟨ow (by first|(simp(disch:=omega) only[vm,seval,hk2];done)|rfl) λn5 hn5=>?_⟩;cases hk3:Qi t<;>simp(disch:=omega) only[hk3,cO,bk]at h2<;>simp(disch:=omega) only[vm,seval,hk2,hk3]<;>(refine⟨(hR _ _ _ _ _ _ (by simp(disch:=omega) only[vm,seval,hk2];rfl) (.cons _ slr) rfl fM ?_).1⟩<;>first|rfl|(simp(disch:=omega) only[vm,seval,hk2];done)|(subst h2;rfl));done)
 ·intro k Jk hk h;rcases OX (l:=p.p)with hs|⟨st,v,hs⟩
  ·have hc:decide ((p.p.length:Int)>0)=false:=by simp[hs]
   have e:Mj p=[]:=by simp[Mj,hs]
   simp(disch:=omega) only[vm,seval,h.1,hg,pc,hl,hc];refine⟨hk (Mj p) () _ _ _ _ h.2 slr ?_ ?_ ?_ fM⟩<;>first|(simp(disch:=omega) only[vm,seval,h.1,e];done)|rfl
  ·obtain⟨j,ky,pre,junk,rest,h1,h2,h3,h4⟩:=hp.top hs;have hc:decide ((p.p.length:Int)>0)=true:=by simp[hs]
   have hg2:Aj m i=some (pc (.gsl 5 j (st.length+1)) p):=Hl hnd (h2.mem_iff.2 fN);have hg3:Aj m j=some (pre++lvl v ky++junk):=Hl hnd (h2.mem_iff.2 fN);have hj:j<n:=by
    rcases bf j n with h|h;·exact h
    ·have:=hkn j h;rw[hg3]at this;cases this
   have hjn:j≠n:=fM;have hl2:0<st.length+1/\st.length+1<=Ca:=⟨fM,by rw[hs]at hlen;simpa using hlen⟩;have hpr:pre.length=(st.length+1-1) * 5:=by simpa using h1
   simp(disch:=omega) only[vm,seval,h.1,hg,pc,hl,hc];refine⟨Y2 (i:=i) (j:=j) (len:=st.length+1) (pc:=_) (by rw[Zl fM];exact hg2) hl2 tD λn2 hn2=>?_⟩;simp(disch:=omega) only[vm,seval,h.1,hg3,lvl,drop_at hpr];have e:Mj p=if(v.kind==7)=true then [125]else [93]:=by simp[Mj,hs]
   have hp5:pre.length=st.length * 5:=h1;cases hk7:v.kind==7;all_goals rw[hk7]at e;simp(disch:=omega) only[vm,seval,h.1,Ak4 hp5,hk7];refine⟨hk (Mj p) () _ _ _ _ h.2 slr ?_ ?_ ?_ fM⟩<;>first|(simp(disch:=omega) only[vm,seval,h.1,e];done)|rfl
def Aa7:(U6 vE.P 338).map (Cr vE.P)=some (some (.int .i64 0)):=by kernel_rfl
def AA5: ∃e,U6 vE.P 338=some e/\Cr vE.P e=some (.int .i64 0):=by have h:=Aa7;cases he:U6 vE.P 338 with|none=>rw[he]at h;cases h|some e=>rw[he]at h;simp only[aP,ah]at h;exact⟨e,rfl,h⟩
def AjE:(U6 vE.P 338).isSome=true:=by obtain⟨e,h1,h2⟩:=AA5;rw[h1];rfl
theorem AY1{k q:Nat}{s:B8}:SB vE 338 (.sh k) (.str s) false ⟨(k,[.map (IB (IB (IB [] [110,117,108,108]) [102,97,108,115,101]) [116,114,117,101]) (MC (IB (IB [] [110,117,108,108]) [102,97,108,115,101]) (MC (IB [] [110,117,108,108]) (MC [] [] [110,117,108,108] (.int .i64 1)) [102,97,108,115,101] (.int .i64 2)) [116,114,117,101] (.int .i64 3))])::m,q⟩=some (.int .i64 (Zu s)):=by
 obtain⟨e,h1,h2⟩:=AA5;have e1:(IB (IB (IB [] [110,117,108,108]) [102,97,108,115,101]) [116,114,117,101])=([[110,117,108,108],[102,97,108,115,101],[116,114,117,101]]:List B8):=fO;have e2:(MC (IB (IB [] [110,117,108,108]) [102,97,108,115,101]) (MC (IB [] [110,117,108,108]) (MC [] [] [110,117,108,108] (.int .i64 1)) [102,97,108,115,101] (.int .i64 2)) [116,114,117,101] (.int .i64 3))=([.int .i64 1,.int .i64 2,.int .i64 3]:List AVal):=by rfl
 rw[e1,e2];simp only[SB,h1,h2,XT,Aj,az,MP,AVal.strip,Zu,ap,aA];by_cases a:s=[110,117,108,108];·subst a;rfl
 ·by_cases b:s=[102,97,108,115,101];·subst b;rfl
  ·by_cases c:s=[116,114,117,101];·subst c;rfl
   ·simp[a,b,c]
def AlX{s:B8}:lkR ((U6 vE.P 338).bind (Cr vE.P)) (some [.map (IB (IB (IB [] [110,117,108,108]) [102,97,108,115,101]) [116,114,117,101]) (MC (IB (IB [] [110,117,108,108]) [102,97,108,115,101]) (MC (IB [] [110,117,108,108]) (MC [] [] [110,117,108,108] (.int .i64 1)) [102,97,108,115,101] (.int .i64 2)) [116,114,117,101] (.int .i64 3))]) s=some (.int .i64 (Zu s)):=(AxF (E:=vE) (t:=338) (i:=0) (st:=⟨[(0,_)],0⟩)).symm.trans (AY1 (m:=[]) (k:=0) (q:=0))
def Aai{p:AS}{i:Nat}{m0:MS}{t:AN}{q:AS×Int} (tokNum: ∀ {n:Nat}{m:MS}{Q:PQ}{args:List AVal} {a0 r},Jw N a0=some r->args=[.str a0]->(∀n',n<=n'->Gl (Q (.tuple [.str r.1,.int .i64 r.2]) ⟨m,n'⟩))->AE vE 298 args ⟨m,n⟩ Q) (hp:PS p i m0 m) (hq:Zj N p t=some q) (hnd:0<=p.n/\p.n<=20000) (hlen:p.p.length<=Ca) (hb: ∀v,v∈p.p->v.items.length<=1099511627776) (ha:args=[.ptr i 0,ED t]) (hQ: ∀n' m',n<=n'->PS q.1 i m0 m'->Gl (Q (.int .i64 q.2) ⟨m',n'⟩)):AE vE 223 args ⟨m,n⟩ Q:=by
 refine AE.nodup λhnn=>AE.known λ_ hkn=>?_;obtain⟨sv,hg,hsv,hput⟩:=hp.put hnn;have hl:=(AEM hsv).2.2;have hi:i<n:=by
  rcases bf i n with h|h;·exact h
  ·have:=hkn i h;rw[hg]at this;cases this
 have h:True/\AA (λv=>some (Ur p v)) (λk=>if(t.kind==4)=true then(Jw N t.text).bind λy=>if(y.2 !=0)=true then some (p,144)else k ⟨4,y.1,[],[]⟩else if(t.kind==5)=true then k ⟨Zu t.text,[],[],[]⟩else k ⟨5,t.text,[],[]⟩)=some q:=by refine⟨trivial,hq.symm▸?_⟩;unfold Zj AA;rfl
 subst ha;refine AA9 func223 rfl ntmps223 results223 (.q (.r []) (.q (.r []) .z)) λR hR=>?_;have hin:i≠n:=fM;simp(disch:=omega) only[vm,seval,h.1];refine⟨VO (γ:=Bool×Bool) h [6,7,11,12,13,14,15,16,17,18,19,20,21,22,23,24,25,26,27,28,29,30,31,32,33,34] [] (λv g=>[]) (λv g=>(n+1,[.int .i64 v.kind,.str v.text,.slice 1 (v.keys.map AVal.str) g.1,.slice 4 (v.items.map AC) g.2])::(n,[.int .i64 t.kind,.str t.text,.int .i64 t.o])::m) (.q (.r []) (.c (.q (.r []) (.q (.q (.r []) (.c (.q (.r []) .z) .z)) (.r []))) (.q (.r []) (.c (.r []) .z)))) ?_ ?_⟩<;>clear h
 ·rintro v g n4 hnn4 _ _ h;have h2:Ur p v=q:=by simpa using h.2
  have hms: ∀x,Aj (A9 m i x) i=some x:=λx=>JC hg;have hin4:i≠n+1:=fM;have hw:wr .i64 (p.n+1)=p.n+1:=AQ8 ⟨hnd.1,fM⟩;refine Cy (.q (.q (.r []) (.q (.r []) (.c (.q (.r []) .z) .z))) (.q (.r []) (.q (.r []) .z))) ?_;unfold Ur at h2;by_cases hc:p.n+1>20000
  ·rw[an hc]at h2;subst h2;have hc2:decide ((20000:Int)<p.n+1)=true:=by simpa using hc
   simp(disch:=omega) only[vm,seval,hg,pc,hl,hms,hw,hc2];refine⟨(hR _ _ _ _ _ _ (by simp(disch:=omega) only[vm,seval];rfl) (.cons _ (.cons _ slr)) fM ?_).1⟩;exact(hQ _ _ fM (hput {p with n:=p.n+1} rfl)).go
  ·rw[aj hc]at h2;subst h2;have hc2:decide ((20000:Int)<p.n+1)=false:=by simpa using hc
   simp(disch:=omega) only[vm,seval,hg,pc,hl,hms,hw,hc2];have hps:PS {p with n:=p.n+1} i ((n+1,[.int .i64 v.kind,.str v.text,.slice 1 (v.keys.map AVal.str) g.1,.slice 4 (v.items.map AC) g.2])::(n,[.int .i64 t.kind,.str t.text,.int .i64 t.o])::m0) _:=((hput {p with n:=p.n+1} rfl).more _).more _;refine⟨AG8 (v:=v) hps hlen hb (by first|(simp(disch:=omega) only[vm,seval];done)|rfl) λn5 m5 hn5 h5=>?_⟩;simp(disch:=omega) only[vm,seval];refine⟨(hR _ _ _ _ _ _ (by simp(disch:=omega) only[vm,seval];rfl) slr fM ?_).1⟩;exact(hQ _ _ fM h5.less.less).go
 ·intro k Jk hk h;cases h4:t.kind==4
  ·cases h5:t.kind==5;·simp only[h4,h5,ap,aA]at h;simp(disch:=omega) only[vm,seval,h4,h5];refine⟨hk _ (true,true) _ _ _ _ h.2 slr ?_ ?_ ?_ fM⟩<;>first|(simp(disch:=omega) only[vm,seval];done)|rfl
   ·simp only[h4,h5,ap,aA,az]at h;simp(disch:=omega) only[vm,seval,h4,h5,AjE,AlX];refine⟨hk _ (true,true) _ _ _ _ h.2 (.cons _ slr) ?_ ?_ ?_ fM⟩<;>first|(simp(disch:=omega) only[vm,seval];done)|rfl
  ·simp only[h4,az]at h;obtain⟨y,h6,h7⟩:=bind_some h.2;simp(disch:=omega) only[vm,seval,h4];refine⟨tokNum h6 (by first|(simp(disch:=omega) only[vm,seval];done)|rfl) λn5 hn5=>?_⟩;cases h8:y.2 !=0;·simp only[h8,ap,aA]at h7;simp(disch:=omega) only[vm,seval,h8];refine⟨hk _ (true,true) _ _ _ _ h7 slr ?_ ?_ ?_ fM⟩<;>first|(simp(disch:=omega) only[vm,seval];done)|rfl
   ·simp only[h8,az,ah]at h7;subst h7;simp(disch:=omega) only[vm,seval,h8];refine⟨(hR _ _ _ _ _ _ (by simp(disch:=omega) only[vm,seval];rfl) (.cons _ (.cons _ slr)) fM ?_).1⟩;exact(hQ _ _ fM hp).go
def A0V{q:Nat}{pre l junk:List AVal} (h:pre.length=q):List.drop q (pre++l++junk)=l++junk:=by subst h;simp
def Bv{w i l h:Nat} (hi:Bh vE.P 207=some w) (hl:h<=l):GZ vE 207 (.gsl w i l) none (some (h:Int)) none=some (.gsl w i h):=by have:(h:Int)<=l:=fM;simp[GZ,hi,this]
def Aa2 {p:AS}{i:Nat}{m0:MS}{c:B8}{q:AS×Int} (hp:PS p i m0 m) (hq:ZG p c=some q) (hnd:0<=p.n/\p.n<=20000) (hlen:p.p.length<=Ca) (hb: ∀v,v∈p.p->v.items.length<=1099511627776) (ha:args=[.ptr i 0,.str c]) (hQ: ∀n' m',n<=n'->PS q.1 i m0 m'->Gl (Q (.int .i64 q.2) ⟨m',n'⟩)):AE vE 221 args ⟨m,n⟩ Q:=by
 refine AE.nodup λhnn=>AE.known λ_ hkn=>?_;obtain⟨sv,hg,hsv,hput⟩:=hp.put hnn;have hl:=(AEM hsv).2.2;have hi:i<n:=by
  rcases bf i n with h|h;·exact h
  ·have:=hkn i h;rw[hg]at this;cases this
 have hms: ∀x,Aj (A9 m i x) i=some x:=λx=>JC hg;unfold ZG at hq;subst ha;refine AA9 func221 rfl ntmps221 results221 (.q (.r []) (.q (.q (.r []) (.q (.r []) (.c (.q (.r []) .z) (.q (.r []) (.c (.q (.r []) .z) (.q (.r []) (.c (.r []) (.q (.r []) (.c (.q (.r []) (.q (.r []) (.c (.r []) .z))) (.q (.r []) (.q .z (.r [])))))))))))) (.q (.r []) .z))) λR hR=>?_;cases h1:c==[91]
 ·cases h2:c==[123]
  ·cases h3:c==[58]
   ·simp only[h1,h2,h3,ap,aA]at hq;rcases OX (l:=p.p)with hs|⟨st,v,hs⟩;·simp[hs]at hq
    ·simp only[hs,cm,co,dz,da]at hq;obtain⟨j,ky,pre,junk,rest,g1,g2,g3,g4⟩:=hp.top hs;have hg2:Aj m i=some (pc (.gsl 5 j (st.length+1)) p):=Hl hnn (g2.mem_iff.2 fN);have hg3:Aj m j=some (pre++lvl v ky++junk):=Hl hnn (g2.mem_iff.2 fN);have hd:=nd3 hnn g2;have hij:j≠i:=hd.1;have hj:j<n:=by
      rcases bf j n with h|h;·exact h
      ·have:=hkn j h;rw[hg3]at this;cases this
     have hl2:0<st.length+1/\st.length+1<=Ca:=⟨fM,by rw[hs]at hlen;simpa using hlen⟩;have hpr:pre.length=(st.length+1-1) * 5:=by simpa using g1
     have hp5:pre.length=st.length * 5:=g1;cases h4:c==[44]
     ·simp only[h4,ap,aA,ah]at hq;simp(disch:=omega) only[vm,seval,h1,h2,h3,h4];refine⟨Y2 (i:=i) (j:=j) (len:=st.length+1) (pc:=_) (by exact hg2) hl2 (by first|(simp(disch:=omega) only[vm,seval];done)|rfl) λn2 hn2=>?_⟩;have hw2:wr .i64 (((st.length+1:Nat):Int)-1)=((st.length:Nat):Int):=by have:(((st.length+1:Nat):Int)-1)=((st.length:Nat):Int):=fM;rw[this];exact ARp (by have:=hl2.2;simp[Ca]at this;omega)
      have hin2:i≠n2:=fM;simp(disch:=omega) only[vm,seval,hg3,lvl,drop_at hpr,Ak4 hp5,A0V hp5];refine⟨RV [] (.take 0 (.take 1 (.take 2 (.take 3 (.take 4 (.take 5 (.take 6 (.take 7 (.take 8 (.take 9 (.take 10 (.take 11 (.take 12 (.take 13 (.alt 14 [12] (.done) (.stop)))))))))))))))) Nr (by kernel_rfl) ?_⟩;simp(disch:=omega) only[vm,seval,hg2,pc,Nb Ea,QS,TJ,WK,Wy,hw2,Bv YT (Nat.le_succ st.length)];have hps0:PS ⟨st,p.want,p.n,p.out⟩ i m0 (A9 m i (pc (.gsl 5 j st.length) ⟨st,p.want,p.n,p.out⟩)):=by refine g4 _ (lvl v ky++junk) _ rfl ?_;have:=Xh (x:=pc (.gsl 5 j st.length) ⟨st,p.want,p.n,p.out⟩) hnn g2;rw[aJ]at this;exact this
      have hps:=hps0.more (n2,[.int .i64 v.kind,.str v.text,.slice 1 (v.keys.map AVal.str) false,.slice 4 (v.items.map AC) false]);refine⟨AG8 (v:=v) hps (by simp only[];omega) (λx hx=>hb x (by rw[hs];simp[hx])) (by first|(simp(disch:=omega) only[vm,seval];done)|rfl) λn5 m5 hn5 h5=>?_⟩;simp(disch:=omega) only[vm,seval];refine⟨(hR _ _ _ _ _ _ (by simp(disch:=omega) only[vm,seval];rfl) slr fM ?_).1⟩;have e:PI {p with p:=(st++[v]).dropLast} v=PI ⟨st,p.want,p.n,p.out⟩ v:=by rw[cT]
      rw[e]at hq;subst hq;exact(hQ _ _ fM h5.less).go
     ·simp only[h4,az,ah]at hq;have hms2: ∀x,Aj (A9 m i x) j=some (pre++lvl v ky++junk):=λx=>by rw[RO hij];exact hg3
      subst hq;simp(disch:=omega) only[vm,seval,h1,h2,h3,h4,hg,pc];refine⟨Y2 (i:=i) (j:=j) (len:=st.length+1) (pc:=[.int .i64 0,.int .i64 p.n,.int .i64 p.out.kind,.str p.out.text,.slice 1 (p.out.keys.map AVal.str) false,.slice 4 (p.out.items.map AC) false]) (by have e:=hg2.symm.trans hg;simp only[pc,ah,dl]at e;rw[hms,<-e.1]) hl2 (by first|(simp(disch:=omega) only[vm,seval];done)|rfl) λn2 hn2=>?_⟩;simp(disch:=omega) only[vm,seval,hms2,lvl,drop_at hpr,Ak4 hp5];cases h7:v.kind==7;·simp(disch:=omega) only[vm,seval,h7];refine⟨(hR _ _ _ _ _ _ (by simp(disch:=omega) only[vm,seval];rfl) slr fM ?_).1⟩;exact(hQ _ _ fM (by simp only[h7,ap,aA];exact hput ⟨st++[v],0,p.n,p.out⟩ hs.symm)).go
      ·simp(disch:=omega) only[vm,seval,h7,hms];refine⟨(hR _ _ _ _ _ _ (by simp(disch:=omega) only[vm,seval];rfl) slr fM ?_).1⟩;exact(hQ _ _ fM (by simp only[h7,az];exact hput ⟨st++[v],2,p.n,p.out⟩ hs.symm)).go
   ·simp only[h1,h2,h3,ap,aA,az,ah]at hq;subst hq;simp(disch:=omega) only[vm,seval,h1,h2,h3,hg,pc,hl];refine⟨(hR _ _ _ _ _ _ (by simp(disch:=omega) only[vm,seval];rfl) slr fM ?_).1⟩;exact(hQ _ _ fM (hput {p with want:=0} rfl)).go
  ·simp only[h1,h2,ap,aA,az,ah]at hq;subst hq;simp(disch:=omega) only[vm,seval,h1,h2];refine⟨AGn hp hnd (by first|(simp(disch:=omega) only[vm,seval];done)|rfl) λn5 m5 hn5 h5=>?_⟩;simp(disch:=omega) only[vm,seval];refine⟨(hR _ _ _ _ _ _ (by simp(disch:=omega) only[vm,seval];rfl) slr fM ?_).1⟩;exact(hQ _ _ fM h5).go
 ·simp only[h1,az,ah]at hq;subst hq;simp(disch:=omega) only[vm,seval,h1];refine⟨AGn hp hnd (by first|(simp(disch:=omega) only[vm,seval];done)|rfl) λn5 m5 hn5 h5=>?_⟩;simp(disch:=omega) only[vm,seval];refine⟨(hR _ _ _ _ _ _ (by simp(disch:=omega) only[vm,seval];rfl) slr fM ?_).1⟩;exact(hQ _ _ fM h5).go
def AdZ{p:AS}{i:Nat}{m0:MS}{t:AN}{q:AS×Int} (tokNum: ∀ {n:Nat}{m:MS}{Q:PQ}{args:List AVal} {a0 r},Jw N a0=some r->args=[.str a0]->(∀n',n<=n'->Gl (Q (.tuple [.str r.1,.int .i64 r.2]) ⟨m,n'⟩))->AE vE 298 args ⟨m,n⟩ Q) (hp:PS p i m0 m) (hq:Yf N p t=some q) (hnd:0<=p.n/\p.n<=20000) (hlen:p.p.length<=Ca) (hb: ∀v,v∈p.p->v.keys.length<=1099511627776/\v.items.length<=1099511627776) (ha:args=[.ptr i 0,ED t]) (hQ: ∀n' m',n<=n'->PS q.1 i m0 m'->Gl (Q (.int .i64 q.2) ⟨m',n'⟩)):AE vE 139 args ⟨m,n⟩ Q:=by
 refine AE.nodup λhnn=>AE.known λ_ hkn=>?_;obtain⟨sv,hg,hsv,hput⟩:=hp.put hnn;have hl:=(AEM hsv).2.2;have hi:i<n:=by
  rcases bf i n with h|h;·exact h
  ·have:=hkn i h;rw[hg]at this;cases this
 have hin:i≠n:=fM;unfold Yf at hq;subst ha;refine AA9 func139 rfl ntmps139 results139 (.q (.r []) (.q (.q (.r []) (.c (.q (.r []) .z) (.q (.r []) (.c (.q (.r []) .z) (.q (.r []) (.c (.q (.r []) .z) (.q (.r []) (.c (.q (.r []) .z) .z)))))))) (.q (.r []) .z))) λR hR=>?_;simp(disch:=omega) only[vm,seval];refine⟨Aha (m0:=(n,[.int .i64 t.kind,.str t.text,.int .i64 t.o])::m0) (p:=p) (i:=i) (t:=t) (hp.more _) hlen (by first|(simp(disch:=omega) only[vm,seval];done)|rfl) λn2 hn2=>?_⟩;cases h0:We p t;·simp only[h0,az,ah]at hq;subst hq;simp(disch:=omega) only[vm,seval];refine⟨(hR _ _ _ _ _ _ (by simp(disch:=omega) only[vm,seval];rfl) (.cons _ slr) fM ?_).1⟩;exact(hQ _ _ fM hp).go
 ·simp only[h0,dP,aA]at hq;have hps:=hp.more (n,[.int .i64 t.kind,.str t.text,.int .i64 t.o]);cases h1:t.kind==2
  ·simp only[h1,ap,aA]at hq;cases h2:p.want==2||p.want==3
   ·simp only[h2,ap,aA]at hq;obtain⟨h3,h4⟩:=eg.1 h2;cases h5:t.kind==1;·simp only[h5,ap,aA]at hq;simp(disch:=omega) only[vm,seval,h1,h3,h4,h5,hg,pc,hl];refine⟨Aai (i:=i) (t:=t) tokNum hps hq hnd hlen (λv hv=>(hb v hv).2) (by first|(simp(disch:=omega) only[vm,seval];done)|rfl) λn5 m5 hn5 h6=>?_⟩;simp(disch:=omega) only[vm,seval];refine⟨(hR _ _ _ _ _ _ (by simp(disch:=omega) only[vm,seval];rfl) slr fM ?_).1⟩;exact(hQ _ _ fM h6.less).go
    ·simp only[h5,az,ah]at hq;subst hq;simp(disch:=omega) only[vm,seval,h1,h3,h4,h5,hg,pc,hl];refine⟨(hR _ _ _ _ _ _ (by simp(disch:=omega) only[vm,seval];rfl) (.cons _ slr) fM ?_).1⟩;exact(hQ _ _ fM hp).go
   ·simp only[h2,az]at hq;cases h3:p.want==2
    ·have h4:(p.want==3)=true:=by simpa[h3]using h2
     simp(disch:=omega) only[vm,seval,h1,h3,h4,hg,pc,hl];refine⟨AS9 (i:=i) hps hq hlen (λv hv=>(hb v hv).1) (by first|(simp(disch:=omega) only[vm,seval];done)|rfl) λn5 m5 hn5 h6=>?_⟩;simp(disch:=omega) only[vm,seval];refine⟨(hR _ _ _ _ _ _ (by simp(disch:=omega) only[vm,seval];rfl) slr fM ?_).1⟩;exact(hQ _ _ fM h6.less).go
    ·simp(disch:=omega) only[vm,seval,h1,h3,hg,pc,hl];refine⟨AS9 (i:=i) hps hq hlen (λv hv=>(hb v hv).1) (by first|(simp(disch:=omega) only[vm,seval];done)|rfl) λn5 m5 hn5 h6=>?_⟩;simp(disch:=omega) only[vm,seval];refine⟨(hR _ _ _ _ _ _ (by simp(disch:=omega) only[vm,seval];rfl) slr fM ?_).1⟩;exact(hQ _ _ fM h6.less).go
  ·simp only[h1,az]at hq;simp(disch:=omega) only[vm,seval,h1];refine⟨Aa2 (i:=i) hps hq hnd hlen (λv hv=>(hb v hv).2) (by first|(simp(disch:=omega) only[vm,seval];done)|rfl) λn5 m5 hn5 h6=>?_⟩;simp(disch:=omega) only[vm,seval];refine⟨(hR _ _ _ _ _ _ (by simp(disch:=omega) only[vm,seval];rfl) slr fM ?_).1⟩;exact(hQ _ _ fM h6.less).go
section cells
variable{E:Env}{F:Nat->Nat}{O:At}{w:World}{a:Act}{af:List AVal}{st:St}
def SF (b:Nat): ∀(xs:List AVal) (vs:List Value) (i:Nat),AR b (xs.set i (xs.getD i .any).strip) vs<=AR b xs vs|[],_,_=>by simp[AR]|x::xs,[],i=>by cases i<;>simp[AR]|x::xs,v::vs,0=>by have:=JU b x v;simp only[dJ,ci,AR];omega|x::xs,v::vs,i+1=>by have:=SF b xs vs i;simp only[cZ,cI,AR];omega
def Sim.stripCell{i:Nat}{cs:List AVal} (p:Nat) (hs:Sim E F O st w af a.tmps.toList) (hg:Aj st.m i=some cs):Sim E F O {st with m:=A9 st.m i (cs.set p (cs.getD p .any).strip)} w af a.tmps.toList:=by
 rcases hs.box_ok _ (Mt hg)with⟨b,arr,e,hb⟩|⟨v,hv⟩;rotate_left;·exact hs.setSh hg hv (hv.rep.setStrip p) (hv.own.setStrip p) λn=>by have:=SF n cs [v] p;have h2:=hs.tok n;omega
 obtain⟨lo,hi,hh,hf⟩:=hb.heap;exact(hs.setBox (w':=w) (cs':=cs.set p (cs.getD p .any).strip) (arr':=arr) (lo:=lo) (hi:=hi) hg hb hh hf (λ_ _=>rfl) rfl rfl rfl rfl (by rw[b9];exact hb.rep.setStrip p) (hb.own.setStrip p) (by rw[b9];exact hb.one) (λn=>by have:=SF n cs arr.toList p;have h2:=hs.tok n;omega)).1
def XZ{c:Code}{Q:APost}{i:Nat}{cs:List AVal} (p:Nat) (hg:Aj st.m i=some cs) (h:AWp E c Q af {st with m:=A9 st.m i (cs.set p (cs.getD p .any).strip)}):AWp E c Q af st:=⟨λF O w a hd hs=>h.go F O w a hd (Sim.stripCell p hs hg)⟩
end cells
def BD (p:AS) (k:Nat):Prop:=k<=1099511627776/\0<=p.n/\p.n<=20000/\p.p.length<=64/\ ∀v,v∈p.p->v.keys.length+k<=1099511627776/\v.items.length+k<=1099511627776
instance (p:AS) (k:Nat):Decidable (BD p k):=by unfold BD;exact inferInstance
def PS.all{p:AS}{i x:Nat}{c:List AVal}{m0 m:MS} (h:PS p i ((x,c)::m0) m): ∃Y:MS,m.Perm ((x,c)::(Y++m0)):=by cases h with|nil X hs h=>exact⟨(i,pc (.slice 5 [] true) p)::X,h.trans (by simpa using dE (a:=(x,c)) (l₁:=(i,pc (.slice 5 [] true) p)::X) (l₂:=m0))⟩|box j ks junk X hk h=>exact⟨(i,pc (.gsl 5 j p.p.length) p)::(j,Ze p.p ks++junk)::(maps p.p ks++X),h.trans (by simpa using dE (a:=(x,c)) (l₁:=(i,pc (.gsl 5 j p.p.length) p)::(j,Ze p.p ks++junk)::(maps p.p ks++X)) (l₂:=m0))⟩
def BD.put{p:AS}{v:Ax}{k:Nat} (h:BD p (k+1)) (h2:(Ur p v).2=0):BD (Ur p v).1 k:=by
 obtain⟨hk,h3,h4,h5,h6⟩:=h;unfold Ur at h2⊢;by_cases hc:p.n+1>20000;·rw[an hc]at h2;cases h2
 ·rw[aj hc];unfold PI;rcases OX (l:=p.p)with hs|⟨st,w,hs⟩;·simp only[hs,List.getLast?_nil];exact⟨fM,by simp only[];omega,by simp only[];omega,fN,fN⟩
  ·simp only[hs,cm,co,dz,da,cT];rw[hs]at h5 h6;refine⟨fM,by simp only[];omega,by simp only[];omega,by simpa using h5,λx hx=>?_⟩;simp only[aZ,aV]at hx;rcases hx with hx|rfl;·have:=h6 x (by simp[hx]);omega
   ·have:=h6 w fN;simp only[ag,ae,aq];omega
def BD.take{p:AS}{t:AN}{q:AS×Int}{k:Nat} (h:BD p (k+1)) (hq:Yf N p t=some q) (h2:q.2=0):BD q.1 k:=by
 have less:BD p k:=⟨by have:=h.1;omega,h.2.1,h.2.2.1,h.2.2.2.1,λv hv=>by have:=h.2.2.2.2 v hv;omega⟩;obtain⟨hk,h3,h4,h5,h6⟩:=h;have opn: ∀kd w,(NI p kd w).2=0->BD (NI p kd w).1 k:=by
  intro kd w h;unfold NI at h⊢;by_cases a:p.p.length>=64;·rw[an a]at h;cases h
  ·rw[aj a]at h⊢;by_cases b:p.n+1>20000;·rw[an b]at h;cases h
   ·rw[aj b];refine⟨fM,by simp only[];omega,by simp only[];omega,by simp only[ag,ae,aq];omega,λx hx=>?_⟩;simp only[aZ,aV]at hx;rcases hx with hx|rfl;·have:=h6 x hx;omega
    ·simp only[aq];omega
 unfold Yf at hq;split at hq;·cases hq;cases h2
 ·split at hq
  ·unfold ZG at hq;split at hq;·cases hq;exact opn _ _ h2
   ·split at hq;·cases hq;exact opn _ _ h2
    ·split at hq;·cases hq;exact less
     ·rcases OX (l:=p.p)with hs|⟨st,w,hs⟩;·simp[hs]at hq
      ·simp only[hs,cm,co,dz,da,cT]at hq;split at hq;·cases hq;exact⟨less.1,less.2.1,less.2.2.1,by rw[<-hs];exact less.2.2.2.1,λv hv=>less.2.2.2.2 v (by rw[hs];exact hv)⟩
       ·cases hq;rw[hs]at h5 h6;unfold PI;rcases OX (l:=st)with hs2|⟨st2,w2,hs2⟩;·simp only[hs2,List.getLast?_nil];exact⟨less.1,less.2.1,less.2.2.1,fN,fN⟩
        ·simp only[hs2,cm,co,dz,da,cT];rw[hs2]at h5 h6;refine⟨less.1,less.2.1,less.2.2.1,by simp at h5⊢;omega,λx hx=>?_⟩;simp only[aZ,aV]at hx;rcases hx with hx|rfl;·have:=h6 x (by simp[hx]);omega
         ·have:=h6 w2 fN;simp only[ag,ae,aq];omega
  ·split at hq
   ·unfold ACu at hq;rcases OX (l:=p.p)with hs|⟨st,w,hs⟩;·simp[hs]at hq
    ·simp only[hs,cm,co,dz,da,cT]at hq;split at hq;·cases hq;cases h2
     ·cases hq;rw[hs]at h5 h6;refine⟨less.1,less.2.1,less.2.2.1,by simpa using h5,λx hx=>?_⟩;simp only[aZ,aV]at hx;rcases hx with hx|rfl;·have:=h6 x (by simp[hx]);omega
      ·have:=h6 w fN;simp only[ag,ae,aq];omega
   ·split at hq;·cases hq;exact less
    ·unfold Zj at hq;split at hq
     ·obtain⟨y,h7,h8⟩:=bind_some hq;split at h8;·cases h8;cases h2
      ·cases h8;exact BD.put ⟨hk,h3,h4,h5,h6⟩ h2
     ·split at hq;·cases hq;exact BD.put ⟨hk,h3,h4,h5,h6⟩ h2
      ·cases hq;exact BD.put ⟨hk,h3,h4,h5,h6⟩ h2
def JS (i:Nat) (m0:MS):Type:= {x:Int×AS×MS // PS x.2.1 i m0 x.2.2}
def JG (N:Nat) (a:B8){i:Nat}{m0:MS} (k:Nat) (x:JS i m0):Option (Ax×Int×Int):=grd (BD x.1.2.1 k) (Zx N a k x.1.1 x.1.2.1)
def JG0{a0:B8}{i:Nat}{m0:MS}{x:JS i m0}:JG N a0 0 x=none:=by unfold JG grd;split<;>rfl
def AZC{a0:B8}{r:Ax×Int×Int} (tokNum: ∀ {n:Nat}{m:MS}{Q:PQ}{args:List AVal} {a0 r},Jw N a0=some r->args=[.str a0]->(∀n',n<=n'->Gl (Q (.tuple [.str r.1,.int .i64 r.2]) ⟨m,n'⟩))->AE vE 298 args ⟨m,n⟩ Q) (tokNext: ∀ {n:Nat}{m:MS}{Q:PQ}{args:List AVal} {a0 a1 r},Ro N a0 a1=some r->args=[.str a0,.int .i64 a1]->(∀n',n<=n'->Gl (Q (.tuple [ED r.1,.int .i64 r.2.1,.int .i64 r.2.2]) ⟨m,n'⟩))->AE vE 138 args ⟨m,n⟩ Q) (h:J7 N a0=some r) (ha:args=[.str a0]) (hQ: ∀n',n<=n'->Gl (Q (.tuple [AC r.1,.int .i64 r.2.1,.int .i64 r.2.2]) ⟨m,n'⟩)):AE vE 52 args ⟨m,n⟩ Q:=by
 unfold J7 at h;by_cases hN:N>1099511627776;·rw[an hN]at h;cases h
 rw[aj hN]at h;subst ha;refine A1z hQ func52 rfl ntmps52 results52 (.q (.r []) (.q (.q (.r []) (.c (.q (.r []) .z) .z)) (.q (.r []) (.q (.r []) .z)))) λR hR=>?_;by_cases hl:a0.length>1048576
 ·rw[an hl]at h;cases h;have hc:decide ((1048576:Int)<(a0.length:Int))=true:=by simp;omega
  simp(disch:=omega) only[vm,seval,hc];refine⟨(hR _ _ _ _ _ _ (by simp(disch:=omega) only[vm,seval];rfl) (.cons _ slr) rfl fM ?_).1⟩;simp(disch:=omega) only[vm,seval,K5,I8]
 ·rw[aj hl]at h;have hc:decide ((1048576:Int)<(a0.length:Int))=false:=by simp;omega
  simp(disch:=omega) only[vm,seval,hc];have hnn:n+1≠n:=fM;refine⟨XZ (i:=n+1) 5 ALU (XZ (i:=n+1) 6 (by simp only[vm];rfl) ?_)⟩;simp(disch:=omega) only[vm,seval];generalize hcell:([.int .i64 0,.str [],.slice 1 [] true,.slice 4 [] true]:List AVal)=cell;have hcl:cell.length=4:=by subst hcell;rfl
  have s0:PS ⟨[],0,0,K5⟩ (n+1) ((n,cell)::m) ((n+1,pc (.slice 5 [] true) ⟨[],0,0,K5⟩)::(n,cell)::m):=.nil [] rfl (dg _);have hG:True/\JG N a0 N (⟨(0,⟨[],0,0,K5⟩,(n+1,pc (.slice 5 [] true) ⟨[],0,0,K5⟩)::(n,cell)::m),s0⟩:JS (n+1) ((n,cell)::m))=some r:=by refine⟨trivial,?_⟩;have:BD ⟨[],0,0,K5⟩ N:=⟨Nat.not_lt.1 hN,fN,fN,fN,fN⟩;simp only[JG,grd,an this];exact h
  refine AnC (σ:=JS (n+1) ((n,cell)::m)) (γ:=Unit) (JG N a0) (λx _=>[.int .i64 x.1.1]) (λx _=>x.1.2.2) [7,8,9,10,15,16,17,18,19,20,21,22,23,24,25,26,27,28,29,30,31,32,33,34,35,36,37,38,39,40,41,42] [6] ⟨(0,⟨[],0,0,K5⟩,(n+1,pc (.slice 5 [] true) ⟨[],0,0,K5⟩)::(n,cell)::m),s0⟩ () hG (λx=>JG0) ?_ ?_ ?_;·simp only[pc,K5,cw]
  ·simp(disch:=omega) only[vm,seval]
  rintro k ⟨⟨at_,p,m1⟩,hps⟩ _ n1 hn1 hk1 h1 Jk hJ;simp only at hps hk1 h1 hJ;refine AWp.nodup λhnd=>?_;refine Cy (.q (.r []) (.q (.q (.r []) (.c .z .z)) (.q (.q (.r []) (.q (.r []) (.c .z .z))) .z))) ?_;obtain⟨hbd,h2⟩:=ADY (show grd (BD p (k+1)) (Zx N a0 (k+1) at_ p)=some r from h1.2);rw[Zx]at h2;obtain⟨y,h3,h4⟩:=bind_some h2;simp(disch:=omega) only[vm,seval];refine⟨tokNext h3 (by first|(simp(disch:=omega) only[vm,seval];done)|rfl) λn2 hn2=>?_⟩;have hn12:n<n1:=fM;have hfin: ∀(x:Ax) (a b:Int),True:=λ_ _ _=>trivial;subst hcell;have hnp:n+1<n1:=by
   rcases bf (n+1) n1 with h|h;·exact h
   ·obtain⟨sv,hg,_⟩:=hps.put hnd;have:=hk1 (n+1) h;rw[hg]at this;cases this
  have hn_2:n≠n2:=fM;have hp_2:n+1≠n2:=fM;cases h5:y.2.2 !=0
  ·simp only[h5,ap,aA]at h4;obtain⟨q,h6,h7⟩:=bind_some h4;simp(disch:=omega) only[vm,seval,h5];have hps2:=hps.more (n2,[.int .i64 y.1.kind,.str y.1.text,.int .i64 y.1.o]);refine⟨AdZ (i:=n+1) tokNum hps2 h6 ⟨hbd.2.1,hbd.2.2.1⟩ (by have:=hbd.2.2.2.1;simp[Ca];omega) (λv hv=>by have:=hbd.2.2.2.2 v hv;omega) (by first|(simp(disch:=omega) only[vm,seval];done)|rfl) λn5 m5 hn5 h8=>?_⟩;have hln: ∀x c,(x,c)∈(n2,[.int .i64 y.1.kind,.str y.1.text,.int .i64 y.1.o])::(n,[.int .i64 0,.str [],.slice 1 [] true,.slice 4 [] true])::m->(m5.map (·.1)).Nodup->Aj m5 x=some c:=λx c hx hd=>h8.get hd hx;have hpm: ∃Y:MS,m5.Perm ((n,[.int .i64 0,.str [],.slice 1 [] true,.slice 4 [] true])::(n2,[.int .i64 y.1.kind,.str y.1.text,.int .i64 y.1.o])::(Y++m)):=by obtain⟨Y,hY⟩:=h8.all;refine⟨Y,hY.trans ?_⟩;refine(cJ _ ?_).trans (cC _ _ _);simp
   cases h9:q.2 !=0
   ·simp only[h9,ap,aA]at h7;simp(disch:=omega) only[vm,seval,h9];refine⟨AWp.nodup λhd5=>?_⟩;have ht5:=hln n2 _ dQ hd5;obtain⟨sv,hg5,hsv5,_⟩:=h8.put hd5;refine Cy (.q (.q (.r []) (.c .z .z)) (.r [])) ?_;cases h10:y.1.kind==1
    ·simp only[h10,ap,aA]at h7;simp(disch:=omega) only[vm,seval,ht5,h10];have hps5:PS q.1 (n+1) ((n,[.int .i64 0,.str [],.slice 1 [] true,.slice 4 [] true])::m) m5:=h8.less;have hb5:BD q.1 k:=BD.take hbd h6 (by simpa using h9);have hg:JG N a0 k (⟨(y.2.1,q.1,m5),hps5⟩:JS (n+1) ((n,[.int .i64 0,.str [],.slice 1 [] true,.slice 4 [] true])::m))=some r:=by simp only[JG,grd,an hb5];exact h7
     refine⟨hJ _ () _ _ _ _ hg slr rfl ?_ ?_ fM⟩<;>first|(simp(disch:=omega) only[vm,seval];done)|rfl
    ·simp only[h10,az,ah]at h7;subst h7;simp(disch:=omega) only[vm,seval,ht5,h10];obtain⟨Y,hY⟩:=hpm;have hgp:Aj ((n,[.int .i64 0,.str [],.slice 1 [] true,.slice 4 [] true])::(n2,[.int .i64 y.1.kind,.str y.1.text,.int .i64 y.1.o])::(Y++m)) (n+1)=some (pc sv q.1):=by refine Hl (Xk hY hd5) (hY.mem_iff.1 ?_);exact Mt hg5
     have hgp2:Aj (Y++m) (n+1)=some (pc sv q.1):=by rw[Zl fM,Zl fM]at hgp;exact hgp
     refine⟨ADw hY ?_⟩;refine Cy (.q (.r []) .z) ?_;simp(disch:=omega) only[vm,seval,hgp2,pc];refine⟨(hR _ _ _ _ _ _ (by simp(disch:=omega) only[vm,seval];rfl) (.cons _ (.cons _ (cN Y m))) rfl fM ?_).1⟩;simp(disch:=omega) only[vm,seval,I8]
   ·simp only[h9,az,ah]at h7;subst h7;simp(disch:=omega) only[vm,seval,h9];obtain⟨Y,hY⟩:=hpm;refine⟨ADw hY ?_⟩;refine Cy (.q .z .z) ?_;simp(disch:=omega) only[vm,seval];refine⟨RV [] (.take 1 (.take 2 (.take 3 (.alt 0 [3,2,1] (.alt 4 [3,2,1] (.alt 5 [3] (.alt 6 [] (.done) (.stop)) (.stop)) (.stop)) (.stop))))) Nr (by kernel_rfl) ?_⟩;simp(disch:=omega) only[vm,seval];refine⟨(hR _ _ _ _ _ _ (by simp(disch:=omega) only[vm,seval];rfl) (.cons _ (.cons _ (cN Y m))) rfl fM ?_).1⟩;simp(disch:=omega) only[vm,seval,K5,I8]
  ·simp only[h5,az,ah]at h4;subst h4;simp(disch:=omega) only[vm,seval,h5];obtain⟨Y,hY⟩:=hps.all;refine⟨ADw ((hY.cons _).trans (cC _ _ _)) ?_⟩;refine Cy (.q (.r []) .z) ?_;simp(disch:=omega) only[vm,seval];refine⟨(hR _ _ _ _ _ _ (by simp(disch:=omega) only[vm,seval];rfl) (.cons _ (.cons _ (cN Y m))) rfl fM ?_).1⟩;simp(disch:=omega) only[vm,seval,K5,I8]
def AB9 {a r} (h:J7 N a=some r) (ha:args=[.str a]) (hQ: ∀n',n<=n'->Gl (Q (.tuple [AC r.1,.int .i64 r.2.1,.int .i64 r.2.2]) ⟨m,n'⟩)):AE vE 52 args ⟨m,n⟩ Q:=AZC (λh ha hq=>ADg h ha hq) (λh ha hq=>AQl h ha hq) h ha hQ
instance Ajw {a}:CF vE (J7 N a) 52 [.str a] (λr=>.tuple [AC r.1,.int .i64 r.2.1,.int .i64 r.2.2]):=⟨λh hQ=>AB9 h rfl hQ⟩
end Go.Proofs.YtalbfkgififmfaaGreatDoor
