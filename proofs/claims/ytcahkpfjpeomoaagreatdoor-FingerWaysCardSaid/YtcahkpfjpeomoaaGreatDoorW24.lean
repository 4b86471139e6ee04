import Derived.Test.YtcahkpfjpeomoaaGreatDoorW21
set_option linter.unusedVariables false
set_option linter.unusedSimpArgs false
set_option maxHeartbeats 4000000
set_option maxRecDepth 100000
set_option linter.defProp false
namespace Go.Proofs.YtcahkpfjpeomoaaGreatDoor
open Go.VM
attribute [local irreducible] AA grd letL
variable{N n:Nat}{m:MS}{Q:PQ}{args:List AVal}
theorem Ja{t:TypeId}{w i l:Nat} (h:BG vE.P t=true):NA vE t (.gsl w i l)=some (.int .i64 l):=by simp[NA,h]
theorem K3{w i l:Nat}:(AVal.gsl w i l).strip=.gsl w i l:=rfl
theorem Mr{w i l:Nat}:AQ (.gsl w i l)=[.gsl w i l]:=rfl
theorem QG{w i l:Nat}:Bq (.gsl w i l)=true:=rfl
theorem QC{w i l:Nat}:JI (.gsl w i l)=false:=rfl
theorem AOg{i l:Nat} (h:0<l∧l≤Bl):CV vE 205 (.gsl 5 i l) (.int .i64 (wr .i64 ((l:Int)-1)))=some (.ptr i ((l-1) * 5)):=by
  have e:wr .i64 ((l:Int)-1)=((l-1:Nat):Int):=by
    have h2:=h.2
    have h1:((l:Int)-1)=((l-1:Nat):Int):=by omega
    rw[h1]
    exact AIB (by omega)
  rw[e]
  have h3:l-1<l:=by omega
  simp[CV,Qz,h3]
theorem AJ7{i j len:Nat}{pc:List AVal} (hl:0<len∧len≤Bl) (ha:args=[.ptr i 0]) (hQ: ∀n',n≤n'→Gl (Q (.ptr j ((len-1)*5)) ⟨(i,.gsl 5 j len::pc)::m,n'⟩)):ACall vE 256 args ⟨(i,.gsl 5 j len::pc)::m,n⟩ Q:=by
 have h:True∧True:=⟨trivial,trivial⟩
 subst ha
 refine ent hQ Tryz.func256 rfl Tryz.ntmps256 Tryz.results256 (.q (.r []) (.q .z .z)) fun R hR=>?_
 simp(disch:=omega) only[vm,seval,h.1]
 refine⟨Jg [] (.take 0 (.take 1 (.take 2 (.take 3 (.take 4 (.take 5 (.take 6 (.take 7 (.take 8 (.take 9 (.take 10 (.alt 11 [] (.done) (.stop))))))))))))) HY (by kernel_rfl) ?_⟩
 simp(disch:=omega) only[vm,seval,h.1,Ja Cy,K3,AOg hl]
 refine⟨(hR _ _ _ _ _ _ (by simp(disch:=omega) only[vm,seval,h.1];rfl) slr ?_ (by omega) ?_).1⟩<;>first|(simp(disch:=omega) only[vm,seval,h.1];done)|rfl
theorem Rw{i j len:Nat}{pc:List AVal} (hm:AZ m i=some (.gsl 5 j len::pc)) (hl:0<len∧len≤Bl) (ha:args=[.ptr i 0]) (hQ: ∀n',n≤n'→Gl (Q (.ptr j ((len-1)*5)) ⟨m,n'⟩)):ACall vE 256 args ⟨m,n⟩ Q:=by
 have h:True∧True:=⟨trivial,trivial⟩
 subst ha
 refine ent hQ Tryz.func256 rfl Tryz.ntmps256 Tryz.results256 (.q (.r []) (.q .z .z)) fun R hR=>?_
 simp(disch:=omega) only[vm,seval,h.1,hm]
 refine⟨Jg [] (.take 0 (.take 1 (.take 2 (.take 3 (.take 4 (.take 5 (.take 6 (.take 7 (.take 8 (.take 9 (.take 10 (.alt 11 [] (.done) (.stop))))))))))))) HY (by kernel_rfl) ?_⟩
 simp(disch:=omega) only[vm,seval,h.1,Ja Cy,K3,AOg hl,hm]
 refine⟨(hR _ _ _ _ _ _ (by simp(disch:=omega) only[vm,seval,h.1,hm];rfl) slr ?_ (by omega) ?_).1⟩<;>first|(simp(disch:=omega) only[vm,seval,h.1,hm];done)|rfl
theorem ALF:(Ol vE.P 289).map (CR vE.P)=some (some (.bool false)):=by kernel_rfl
theorem Pb: ∃e,Ol vE.P 289=some e∧CR vE.P e=some (.bool false):=by
  have h:=ALF
  cases he:Ol vE.P 289 with
  |none=>rw[he]at h;cases h
  |some e=>rw[he]at h;simp only[Option.map_some,Option.some.injEq]at h;exact⟨e,rfl,h⟩
theorem AIb{s:List UInt8}: ∀ {keys:List (List UInt8)},s∈keys→Ik keys (keys.map fun _=>AVal.bool true) s=some (.bool true)
  | k::ks,h=>by
    simp only[List.map_cons,Ik]
    split
    · rfl
    · rename_i hn
      rcases List.mem_cons.1 h with h|h
      · exact absurd h hn
      · exact AIb h
theorem YC{s:List UInt8}: ∀ {keys:List (List UInt8)},s∉keys→Ik keys (keys.map fun _=>AVal.bool true) s=none
  |[],_=>rfl
  | k::ks,h=>by
    simp only[List.mem_cons,not_or]at h
    simp only[List.map_cons,Ik]
    rw[if_neg h.1]
    exact YC h.2
theorem AJi{s:List UInt8}{x:AVal}: ∀ {keys:List (List UInt8)}{vs:List AVal},s∉keys→vs.length=keys.length→Er keys s=keys++[s]∧Ih keys vs s x=vs++[x]
  |[],[],_,_=>⟨rfl,rfl⟩
  |[],_::_,_,h=>by simp at h
  |k::ks,[],_,h=>by simp at h
  | k::ks,v::vs,h,hl=>by
    simp only[List.mem_cons,not_or]at h
    obtain⟨h1,h2⟩:=AJi (x:=x) h.2 (by simpa using hl:vs.length=ks.length)
    simp only[Er,Ih,if_neg h.1,h1,h2,List.cons_append,and_self]
theorem AbM{k:Nat}{s:List UInt8}{keys:List (List UInt8)}{st:St} (hm:AZ st.m k=some [.map keys (keys.map fun _=>.bool true)]) (hin:s∈keys):MK vE 289 (.sh k) (.str s) false st=some (.bool true):=by
  obtain⟨e,h1,h2⟩:=Pb
  simp[MK,h1,h2,Qa,hm,AIb hin,AVal.strip]
theorem AUf{k:Nat}{s:List UInt8}{keys:List (List UInt8)}{st:St} (hm:AZ st.m k=some [.map keys (keys.map fun _=>.bool true)]) (hin:s∉keys):MK vE 289 (.sh k) (.str s) false st=some (.bool false):=by
  obtain⟨e,h1,h2⟩:=Pb
  simp[MK,h1,h2,Qa,hm,YC hin,AVal.strip]
theorem AaN{k:Nat}{s:List UInt8}{keys:List (List UInt8)}{st:St} (hm:AZ st.m k=some [.map keys (keys.map fun _=>.bool true)]) (hin:s∉keys):VV vE 289 (.sh k) (.str s) (.bool true) st=some {st with m:=Ao st.m k [.map (keys++[s]) ((keys++[s]).map fun _=>.bool true)]}:=by
  obtain⟨e,h1,h2⟩:=Pb
  obtain⟨h3,h4⟩:=AJi (x:=AVal.bool true) (vs:=keys.map fun _=>AVal.bool true) hin (by simp)
  simp[VV,h1,Qa,hm,h3,h4]
theorem drop_at{q c:Nat}{pre l junk:List AVal} (h:pre.length=q):List.drop (q+c) (pre++l++junk)=List.drop c (l++junk):=by
  subst h
  rw[List.append_assoc,List.drop_append]
  simp
theorem get_at{q c:Nat}{pre l junk:List AVal} (h:pre.length=q):(pre++l++junk)[q+c]?=(l++junk)[c]?:=by
  subst h
  rw[List.append_assoc,List.getElem?_append_right (by omega)]
  congr 1;omega
theorem AVA{q c:Nat}{x:AVal}{pre l junk:List AVal} (h:pre.length=q) (hc:decide (c<l.length)=true):(pre++l++junk).set (q+c) x=pre++l.set c x++junk:=by
  subst h
  have hc:c<l.length:=by simpa using hc
  rw[List.append_assoc,List.set_append_right _ _ (by omega),List.set_append_left _ _ (by omega),List.append_assoc]
  congr 2
  congr 1;omega
theorem Af3{q:Nat}{a b c d e x:AVal}{pre junk:List AVal} (h:pre.length=q):(pre++[a,b,c,d,e]++junk).set (q+2) x=pre++[a,b,x,d,e]++junk:=AVA h rfl
theorem AdK{q:Nat}{a b c d e x:AVal}{pre junk:List AVal} (h:pre.length=q):(pre++[a,b,c,d,e]++junk).set (q+3) x=pre++[a,b,c,x,e]++junk:=AVA h rfl
theorem ARk{i j k len:Nat}{pre junk:List AVal}{keys:List (List UInt8)}{kd wt nd text it o1 o2 o3 o4:AVal}{s:List UInt8} (hd:j≠i∧k≠i∧k≠j) (hp:pre.length=(len-1) * 5) (hl:0<len∧len≤Bl) (ha:args=[.ptr i 0,.str s])
    (hin:s∈keys) (hQ: ∀n',n≤n'→Gl (Q (.int .i64 143) ⟨(i,[.gsl 5 j len,wt,nd,o1,o2,o3,o4])::(j,pre++[kd,text,.slice 1 (keys.map AVal.str) true,it,.sh k]++junk)::(k,[.map keys (keys.map fun _=>.bool true)])::m,n'⟩)):
    ACall vE 208 args ⟨(i,[.gsl 5 j len,wt,nd,o1,o2,o3,o4])::(j,pre++[kd,text,.slice 1 (keys.map AVal.str) true,it,.sh k]++junk)::(k,[.map keys (keys.map fun _=>.bool true)])::m,n⟩ Q:=by
 have h:True∧True:=⟨trivial,trivial⟩
 obtain⟨hd1,hd2,hd3⟩:=hd
 subst ha
 refine ent hQ Tryz.func208 rfl Tryz.ntmps208 Tryz.results208 (.q (.r []) (.q (.r []) (.q (.q (.r []) (.c (.q (.r []) .z) .z)) .z))) fun R hR=>?_
 simp(disch:=omega) only[vm,seval,h.1]
 refine⟨AJ7 hl tD fun n2 hn2=>?_⟩
 have hg:AZ ((i,[.gsl 5 j len,wt,nd,o1,o2,o3,o4])::(j,pre++[kd,text,.slice 1 (keys.map AVal.str) true,it,.sh k]++junk)::(k,[.map keys (keys.map fun _=>.bool true)])::m) k=some [.map keys (keys.map fun _=>.bool true)]:=by simp[AZ,hd2,hd3]
 have hlk:=AbM (st:=⟨_,n2⟩) hg hin
 simp(disch:=omega) only[vm,seval,h.1,drop_at hp,Tw,AN0,hlk]
 refine⟨(hR _ _ _ _ _ _ (by simp(disch:=omega) only[vm,seval,h.1];rfl) slr rfl (by omega) ?_).1⟩<;>first|(simp(disch:=omega) only[vm,seval,h.1];done)|rfl
theorem AM3{i j k len:Nat}{pre junk:List AVal}{keys:List (List UInt8)}{kd wt nd text it o1 o2 o3 o4:AVal}{s:List UInt8} (hd:j≠i∧k≠i∧k≠j) (hp:pre.length=(len-1) * 5) (hl:0<len∧len≤Bl) (ha:args=[.ptr i 0,.str s])
    (hin:s∉keys) (hb:keys.length≤1099511627776) (hQ: ∀n',n≤n'→Gl (Q (.int .i64 0) ⟨(i,[.gsl 5 j len,.int .i64 4,nd,o1,o2,o3,o4])::(j,pre++[kd,text,.slice 1 ((keys++[s]).map AVal.str) true,it,.sh k]++junk)::(k,[.map (keys++[s]) ((keys++[s]).map fun _=>.bool true)])::m,n'⟩)):
    ACall vE 208 args ⟨(i,[.gsl 5 j len,wt,nd,o1,o2,o3,o4])::(j,pre++[kd,text,.slice 1 (keys.map AVal.str) true,it,.sh k]++junk)::(k,[.map keys (keys.map fun _=>.bool true)])::m,n⟩ Q:=by
 have h:True∧True:=⟨trivial,trivial⟩
 obtain⟨hd1,hd2,hd3⟩:=hd
 subst ha
 refine ent hQ Tryz.func208 rfl Tryz.ntmps208 Tryz.results208 (.q (.r []) (.q (.r []) (.q (.q (.r []) (.c (.q (.r []) .z) .z)) (.q (.r []) (.q (.r [24]) (.q (.r []) (.q (.r []) .z))))))) fun R hR=>?_
 simp(disch:=omega) only[vm,seval,h.1]
 refine⟨AJ7 hl tD fun n2 hn2=>?_⟩
 have hg:AZ ((i,[.gsl 5 j len,wt,nd,o1,o2,o3,o4])::(j,pre++[kd,text,.slice 1 (keys.map AVal.str) true,it,.sh k]++junk)::(k,[.map keys (keys.map fun _=>.bool true)])::m) k=some [.map keys (keys.map fun _=>.bool true)]:=by simp[AZ,hd2,hd3]
 have hlk:=AUf (st:=⟨_,n2⟩) hg hin
 have hup:=AaN (st:=⟨_,n2⟩) hg hin
 have hft:CG (keys.length+1) 16:=by unfold CG;omega
 have hr2:(len-1) * 5+3≤pre.length+(5+junk.length):=by omega
 simp(disch:=omega) only[vm,seval,h.1,drop_at hp,Tw,SQ,AN0,hlk,hup,get_at hp,Af3 hp,hft,hr2,if_true]
 refine⟨(hR _ _ _ _ _ _ (by simp(disch:=omega) only[vm,seval,h.1];rfl) slr ?_ (by omega) ?_).1⟩<;>first|(simp(disch:=omega) only[vm,seval,h.1];done)|rfl
theorem UZ{E:Env}{c:Code}{f:FuncId}{fn:Func}{nt:Nat}{rs:List ResultVar}{args:List AVal}{m:MS}{n:Nat}{Q:PQ} (hf:E.P.funcs[f]?=some fn) (hb:fn.body=some c)
    (hn:fn.ntmps=nt) (hr:fn.results=rs.toArray) (a:An)
    (h: ∀R:APost,(∀af st xs m0 m1 n',Me E rs af st=some (xs,⟨m1,n'⟩)→m0.Sublist m1→n≤n'→Q (Oc xs) ⟨m0,n'⟩→R .ret af st∧R .normal af st)→Gl (wpc E c a R (args++List.replicate (nt-args.length) .any) ⟨m,n⟩)):ACall E f args ⟨m,n⟩ Q:=by
  refine JZ hf hb ?_
  have hw:=Lv a (h (H5 E fn Q) ?_).go
  · subst hn;exact hw
  · intro af st xs m0 m1 n' h1 h2 h3 h4
    have e:fn.results.toList=rs:=by rw[hr]
    exact⟨IA (by rw[e];exact h1) h2 h4,IP (by rw[e];exact h1) h2 h4⟩
theorem UI:CR vE.P 291=some (.agg [.int .i64 0,.str [],.slice 1 [] true,.slice 4 [] true,.nmap]):=by kernel_rfl
theorem ALl{i j len:Nat}{lc:List AVal}{kd want nodes:Int}{wt o1 o2 o3 o4:AVal} (hd:j≠i) (hlc:len * 5≤lc.length) (hl:len<64) (hn:0≤nodes∧nodes+1≤20000) (ha:args=[.ptr i 0,.int .i64 kd,.int .i64 want])
    (hQ: ∀n' j' k',n≤n'→(j'=j∨n≤j')→n≤k'→k'≠j'→Gl (Q (.int .i64 0) ⟨(j',lc.take (len * 5)++[.int .i64 kd,.str [],.slice 1 [] true,.slice 4 [] true,.sh k'])::(k',[.map [] []])::(i,[.gsl 5 j' (len+1),.int .i64 want,.int .i64 (nodes+1),o1,o2,o3,o4])::m,n'⟩)):
    ACall vE 258 args ⟨(i,[.gsl 5 j len,wt,.int .i64 nodes,o1,o2,o3,o4])::(j,lc)::m,n⟩ Q:=by
 refine ACall.known fun _ hkn=>?_
 have h:True∧True:=⟨trivial,trivial⟩
 have hi:i<n:=by
   rcases Nat.lt_or_ge i n with h|h
   · exact h
   · have:=hkn i h;simp[AZ]at this
 have hj:j<n:=by
   rcases Nat.lt_or_ge j n with h|h
   · exact h
   · have:=hkn j h;simp[AZ,hd]at this
 subst ha
 refine UZ Tryz.func258 rfl Tryz.ntmps258 Tryz.results258 (.q (.r []) (.q (.q (.r []) (.c (.q (.r []) .z) .z)) (.q (.q (.r []) (.q (.r []) (.c (.q (.r []) .z) .z))) (.q (.r [29,34]) (.q (.r []) (.q (.r []) .z)))))) fun R hR=>?_
 have hc1:decide ((64:Int)≤len)=false:=by simp;omega
 have hc2:decide ((20000:Int)<nodes+1)=false:=by simp;omega
 have hw:wr .i64 (nodes+1)=nodes+1:=by
   obtain⟨q,rfl⟩: ∃q:Nat,nodes=q:=⟨nodes.toNat,by omega⟩
   exact Xu (by simp[Bl];omega)
 simp(disch:=omega) only[vm,seval,h.1,Ja Cy,K3,Mr,hc1,hc2,hw,UI,Vb,GL]
 have happ:AI9 vE 205 205 (AVal.gsl 5 j len) (AVal.gsl 5 (n+1) 1) {m:=(n+1,List.flatMap (fun p=>AQ p.snd) [((0:Nat),AVal.agg [AVal.int IntKind.i64 kd,AVal.str [],AVal.slice 1 [] true,AVal.slice 4 [] true,AVal.sh n])])::(n,[AVal.map [] []])::(i,[AVal.gsl 5 j len,wt,AVal.int IntKind.i64 (nodes+1),o1,o2,o3,o4])::(j,lc)::m,next:=n+2}
   =some (5,len+1,lc.take (len * 5)++[.int .i64 kd,.str [],.slice 1 [] true,.slice 4 [] true,.sh n],(n,[AVal.map [] []])::(i,[AVal.gsl 5 j len,wt,AVal.int IntKind.i64 (nodes+1),o1,o2,o3,o4])::m,some j):=by
   have e1: ¬j=n:=by omega
   have e2: ¬j=n+1:=by omega
   have e3:(len+1) * 80≤140737488355328∧len+1≤Bl:=by simp[Bl];omega
   simp[AI9,AZ,Ck,VW,Vu,Qf,AQ,hd,e1,e2,e3,hlc]
 rw[happ]
 constructor
 intro j' hj'
 have hj1:j'≠i∧j'≠n∧(j'=j∨n≤j'):=by
   rcases hj' with hj'|hj'
   · simp only at hj';omega
   · cases hj';omega
 obtain⟨hj1,hj2,hj3⟩:=hj1
 have hin:i≠n:=by omega
 refine Gl.go ?_
 simp(disch:=omega) only[vm,seval,h.1,K3,Mr,QG,QC]
 refine⟨(hR _ _ _ _ _ _ (by simp(disch:=omega) only[vm,seval,h.1];rfl) slr (by omega) ?_).1⟩
 exact(hQ _ j' n (by omega) (by omega) (by omega) (by omega)).go
theorem Xf{i j:Nat}{v:ApiValue}{wt nd o1 o2 o3 o4:AVal} (ha:args=[.ptr i 0,Al v])
    (hQ: ∀n',n≤n'→Gl (Q (.tuple []) ⟨(i,[.gsl 5 j 0,.int .i64 6,nd,.int .i64 v.kind,.str v.text,.slice 1 (v.keys.map AVal.str) false,.slice 4 (v.items.map Al) false])::m,n'⟩)):
    ACall vE 259 args ⟨(i,[.gsl 5 j 0,wt,nd,o1,o2,o3,o4])::m,n⟩ Q:=by
 refine ACall.known fun _ hkn=>?_
 have h:True∧True:=⟨trivial,trivial⟩
 have hi:i<n:=by
   rcases Nat.lt_or_ge i n with h|h
   · exact h
   · have:=hkn i h;simp[AZ]at this
 subst ha
 refine UZ Tryz.func259 rfl Tryz.ntmps259 Tryz.results259 (.q (.r []) (.q (.q (.r []) (.c (.q (.r []) .z) .z)) .z)) fun R hR=>?_
 simp(disch:=omega) only[vm,seval,h.1,Ja Cy,K3,Mr,QG,QC]
 refine⟨(hR _ _ _ _ _ _ (by simp(disch:=omega) only[vm,seval,h.1];rfl) (.cons _ slr) (by omega) ?_).1⟩
 exact(hQ _ (by omega)).go
theorem AJZ{i:Nat}{v:ApiValue}{wt nd o1 o2 o3 o4:AVal} (ha:args=[.ptr i 0,Al v])
    (hQ: ∀n',n≤n'→Gl (Q (.tuple []) ⟨(i,[.slice 5 [] true,.int .i64 6,nd,.int .i64 v.kind,.str v.text,.slice 1 (v.keys.map AVal.str) false,.slice 4 (v.items.map Al) false])::m,n'⟩)):
    ACall vE 259 args ⟨(i,[.slice 5 [] true,wt,nd,o1,o2,o3,o4])::m,n⟩ Q:=by
 refine ACall.known fun _ hkn=>?_
 have h:True∧True:=⟨trivial,trivial⟩
 have hi:i<n:=by
   rcases Nat.lt_or_ge i n with h|h
   · exact h
   · have:=hkn i h;simp[AZ]at this
 subst ha
 refine UZ Tryz.func259 rfl Tryz.ntmps259 Tryz.results259 (.q (.r []) (.q (.q (.r []) (.c (.q (.r []) .z) .z)) .z)) fun R hR=>?_
 simp(disch:=omega) only[vm,seval,h.1,Ja Cy,K3,Mr,QG,QC]
 refine⟨(hR _ _ _ _ _ _ (by simp(disch:=omega) only[vm,seval,h.1];rfl) (.cons _ slr) (by omega) ?_).1⟩
 exact(hQ _ (by omega)).go
theorem AeA{E:Env}{t:TypeId}{q:Nat}{x:AVal}:CV E t (.sh q) x=none:=by cases x<;>rfl
theorem AdP{q k:Nat}{items:List ApiValue}:Eo vE 152 (.sh q) (.int .i64 (items.length:Int)) ⟨(q,[.slop 4 (List.map Al items)])::m,k⟩=some (.sptr q 4 items.length):=by
  simp[Eo,Qu,AZ,VU]
theorem AHp{E:Env}{t:TypeId}{j off q w k:Nat}{xs:List AVal}{o:Bool}:O0 E t (.ptr j off) (.sh q) ⟨(q,[.slice w xs o])::m,k⟩=Kj E t (.ptr j off) (.slice w xs o) ⟨(q,[.slice w xs false])::m,k⟩:=by
  simp[O0,AZ,Ao,JI,Kj]
theorem AJc{E:Env}{t:TypeId}{j off q w k:Nat}{xs:List AVal}:O0 E t (.ptr j off) (.sh q) ⟨(q,[.slop w xs])::m,k⟩=TJ E t (.ptr j off) (.sh q) ⟨(q,[.slop w xs])::m,k⟩:=by
  simp[O0,AZ,NB]
theorem Aem{E:Env}{id:Nat}{os:Array Oper}{b:Bool}{K:APost}{af:List AVal}{st:St}:wpc E (.region id os b) .z K af st=AWp E (.region id os b) K af st:=by rw[wpc]<;>simp
theorem AF1{i j len:Nat}{v:ApiValue}{items:List ApiValue}{pre junk:List AVal}{wt nd o1 o2 o3 o4 kd tx ks sk:AVal} (hd:j≠i) (hp:pre.length=(len-1) * 5) (hl:0<len∧len≤Bl) (hb:items.length≤1099511627776) (ha:args=[.ptr i 0,Al v])
    (hQ: ∀n',n≤n'→Gl (Q (.tuple []) ⟨(i,[.gsl 5 j len,.int .i64 5,nd,o1,o2,o3,o4])::(j,pre++[kd,tx,ks,.slice 4 ((items++[v]).map Al) true,sk]++junk)::m,n'⟩)):
    ACall vE 259 args ⟨(i,[.gsl 5 j len,wt,nd,o1,o2,o3,o4])::(j,pre++[kd,tx,ks,.slice 4 (items.map Al) true,sk]++junk)::m,n⟩ Q:=by
 refine ACall.known fun _ hkn=>?_
 have h:True∧True:=⟨trivial,trivial⟩
 have hi:i<n:=by
   rcases Nat.lt_or_ge i n with h|h
   · exact h
   · have:=hkn i h;simp[AZ]at this
 have hj:j<n:=by
   rcases Nat.lt_or_ge j n with h|h
   · exact h
   · have:=hkn j h;simp[AZ,hd]at this
 subst ha
 refine UZ Tryz.func259 rfl Tryz.ntmps259 Tryz.results259 (.q (.r []) (.q (.q (.r []) (.c (.q (.r []) .z) .z)) (.q (.r []) (.q .z .z)))) fun R hR=>?_
 have hc:((len:Int)==0)=false:=by simp;omega
 simp(disch:=omega) only[vm,seval,h.1,Ja Cy,K3,Mr,QG,QC,hc]
 have hin:i≠n:=by omega
 refine⟨Rw (pc:=[wt,nd,o1,o2,o3,o4]) (j:=j) (len:=len) ?_ hl tD fun n2 hn2=>?_⟩
 · simp[AZ,hin]
 simp(disch:=omega) only[vm,seval,h.1]
 refine⟨Jg [24,28] (.take 0 (.take 1 (.take 2 (.take 3 (.take 5 (.take 7 (.alt 4 [7,5,2,1,0] (.take 6 (.alt 8 [] (.take 11 (.take 12 (.take 13 (.alt 9 [13,12,11] (.alt 10 [13,12,11] (.alt 14 [12,11] (.done) (.stop)) (.alt 14 [12,11] (.alt 10 [13,12,11] (.done) (.stop)) (.stop))) (.alt 14 [12,11] (.alt 9 [13,12,11] (.alt 10 [13,12,11] (.done) (.stop)) (.stop)) (.stop)))))) (.stop))) (.stop)))))))) HY (by kernel_rfl) ?_⟩
 have hft:(items.length+1) * 72≤140737488355328∧items.length≤4611686018427387903:=by omega
 have hjn:j≠n:=by omega
 have hr2:(len-1) * 5+4≤pre.length+(5+junk.length):=by omega
 simp(disch:=omega) only[hft,hr2,ioR,List.length_map,and_self,vm,seval,h.1,drop_at hp,get_at hp,AdK hp,Lb,AeA,AdP,AN5,WA,Qu,JI,AdH,AdA,AHp,AJc,Aem,AU0,AXj,H6,MC,Value.oneCell',Bool.and_self,Bool.and_true,if_true]
 have hjn2:j≠n2:=by omega
 have hin2:i≠n2:=by omega
 have fin: ∀(af:List AVal) (c:Code) (m':MS) (n':Nat),n≤n'→([]:List (Nat×List AVal)).Sublist m'→True:=fun _ _ _ _ _ _=>trivial
 refine ANg (ANg ⟨?_⟩ ⟨?_⟩) ⟨?_⟩
 · refine BM (.r []) ?_
   simp(disch:=omega) only[vm,seval,h.1]
   refine⟨(hR _ _ _ _ _ _ (by simp(disch:=omega) only[vm,seval,h.1];rfl) (.cons _ (.cons _ slr)) (by omega) ?_).2⟩
   have:=(hQ (n2+1) (by omega)).go
   show Q (.tuple []) _
   simpa only[List.map_append,List.map_cons,List.map_nil,FK]using this
 all_goals
   refine AA2 (i:=n2) (j:=j) (p:=(len-1) * 5+3) hjn2 (by simp(disch:=omega) only[vm];rfl) (by simp;omega) (by simp(disch:=omega) only[vm,get_at hp]) (by simp only[vm];rfl) ?_
   refine BM (.r []) ?_
   simp(disch:=omega) only[vm,seval,h.1,AdK hp]
   refine⟨(hR _ _ _ _ _ _ (by simp(disch:=omega) only[vm,seval,h.1];rfl) (.cons _ (.cons _ slr)) (by omega) ?_).2⟩
   have:=(hQ (n2+1) (by omega)).go
   show Q (.tuple []) _
   simpa only[List.map_append,List.map_cons,List.map_nil,FK]using this
theorem ACall.nodup{E:Env}{f:FuncId}{args:List AVal}{st:St}{Q:PQ} (h:(st.m.map (·.1)).Nodup→ACall E f args st Q):ACall E f args st Q:=⟨fun F Γ w cargs hs=>(h hs.keys).go F Γ w cargs hs⟩
theorem Eb: ∀ {m:MS}{i:Nat}{c:List AVal},(m.map (·.1)).Nodup→(i,c)∈m→AZ m i=some c
  | (j,d)::m,i,c,hn,h=>by
    simp only[List.map_cons,List.nodup_cons]at hn
    rcases List.mem_cons.1 h with h|h
    · cases h;simp[AZ]
    · have hne:i≠j:=fun e=>hn.1 (by rw[←e];exact List.mem_map_of_mem (f:=(·.1)) h)
      simp only[AZ,if_neg hne]
      exact Eb hn.2 h
theorem Qq{m m':MS} (h:m.Perm m') (hn:(m.map (·.1)).Nodup):(m'.map (·.1)).Nodup:=(h.map _).nodup_iff.1 hn
theorem Qg{m r:MS}{i:Nat}{c x:List AVal} (hn:(m.map (·.1)).Nodup) (h:m.Perm ((i,c)::r)):(Ao m i x).Perm ((i,x)::r):=by
  have hg:AZ m i=some c:=Eb hn (h.mem_iff.2 (by simp))
  have h1:=IM hg
  have h2:r.Perm (Ck m i):=(h.symm.trans h1).cons_inv
  exact(NU hg).symm.trans (h2.symm.cons _)
def lvl (v:ApiValue) (k:Nat):List AVal:=[.int .i64 v.kind,.str v.text,.slice 1 (v.keys.map AVal.str) true,.slice 4 (v.items.map Al) true,.sh k]
def AHf (v:ApiValue) (k:Nat):Nat×List AVal:=(k,[.map v.keys (v.keys.map fun _=>.bool true)])
def Sq:List ApiValue→List Nat→List AVal
  |v::vs,k::ks=>lvl v k++Sq vs ks
  |_,_=>[]
def maps:List ApiValue→List Nat→MS
  |v::vs,k::ks=>AHf v k::maps vs ks
  |_,_=>[]
def pc (sv:AVal) (p:JPsr):List AVal:=[sv,.int .i64 p.want,.int .i64 p.nodes,.int .i64 p.out.kind,.str p.out.text,.slice 1 (p.out.keys.map AVal.str) false,.slice 4 (p.out.items.map Al) false]
theorem QH: ∀ {st:List ApiValue}{ks:List Nat}{v:ApiValue}{k:Nat},ks.length=st.length→Sq (st++[v]) (ks++[k])=Sq st ks++lvl v k
  |[],[],v,k,_=>by simp[Sq]
  | x::st,y::ks,v,k,h=>by
    simp only[List.cons_append,Sq,List.append_assoc]
    rw[QH (by simpa using h)]
theorem Py: ∀ {st:List ApiValue}{ks:List Nat}{v:ApiValue}{k:Nat},ks.length=st.length→maps (st++[v]) (ks++[k])=maps st ks++[AHf v k]
  |[],[],v,k,_=>by simp[maps]
  | x::st,y::ks,v,k,h=>by
    simp only[List.cons_append,maps]
    rw[Py (by simpa using h)]
theorem Sn: ∀ {st:List ApiValue}{ks:List Nat},ks.length=st.length→(Sq st ks).length=st.length * 5
  |[],[],_=>rfl
  | x::st,y::ks,h=>by
    simp only[Sq,List.length_append,Sn (st:=st) (ks:=ks) (by simpa using h),List.length_cons,lvl,List.length_nil];omega
inductive PS (p:JPsr) (i:Nat) (m0 m:MS):Prop
  |nil (X:MS) (hs:p.stack=[]) (h:m.Perm ((i,pc (.slice 5 [] true) p)::(X++m0)))
  |box (j:Nat) (ks:List Nat) (junk:List AVal) (X:MS) (hk:ks.length=p.stack.length) (h:m.Perm ((i,pc (.gsl 5 j p.stack.length) p)::(j,Sq p.stack ks++junk)::(maps p.stack ks++(X++m0))))
theorem PS.more{p:JPsr}{i:Nat}{m0 m:MS} (h:PS p i m0 m) (e:Nat×List AVal):PS p i (e::m0) (e::m):=by
  have key: ∀(a b X:MS),m.Perm (a++(b++(X++m0)))→(e::m).Perm (a++(b++(X++e::m0))):=fun a b X h=>by
    have h1:(a++(b++(X++e::m0))).Perm (e::(a++(b++(X++m0)))):=by
      have:=List.perm_middle (a:=e) (l₁:=a++b++X) (l₂:=m0)
      simpa only[List.append_assoc]using this
    exact(h.cons e).trans h1.symm
  cases h with
  |nil X hs h=>exact .nil X hs (by simpa using key [_] [] X (by simpa using h))
  |box j ks junk X hk h=>exact .box j ks junk X hk (by simpa using key [_,_] _ X (by simpa using h))
theorem PS.less{p:JPsr}{i:Nat}{m0 m:MS}{e:Nat×List AVal} (h:PS p i (e::m0) m):PS p i m0 m:=by
  cases h with
  |nil X hs h=>exact .nil (X++[e]) hs (by simpa using h)
  |box j ks junk X hk h=>exact .box j ks junk (X++[e]) hk (by simpa using h)
theorem PS.perm{p:JPsr}{i:Nat}{m0 m m':MS} (h:PS p i m0 m) (hp:m'.Perm m):PS p i m0 m':=by
  cases h with
  |nil X hs h=>exact .nil X hs (hp.trans h)
  |box j ks junk X hk h=>exact .box j ks junk X hk (hp.trans h)
theorem PS.put{p:JPsr}{i:Nat}{m0 m:MS} (h:PS p i m0 m) (hn:(m.map (·.1)).Nodup): ∃sv,AZ m i=some (pc sv p)∧(sv=.slice 5 [] true∧p.stack=[]∨ ∃j,sv=.gsl 5 j p.stack.length)∧ ∀p':JPsr,p'.stack=p.stack→PS p' i m0 (Ao m i (pc sv p')):=by
  cases h with
  |nil X hs h=>exact⟨_,Eb hn (h.mem_iff.2 (by simp)),.inl ⟨rfl,hs⟩,fun p' e=>.nil X (e.trans hs) (Qg hn h)⟩
  |box j ks junk X hk h=>exact⟨_,Eb hn (h.mem_iff.2 (by simp)),.inr ⟨j,rfl⟩,fun p' e=>.box j ks junk X (by rw[e];exact hk) (by rw[e];exact Qg hn h)⟩
theorem PS.get{p:JPsr}{i x:Nat}{c:List AVal}{m0 m:MS} (h:PS p i m0 m) (hn:(m.map (·.1)).Nodup) (hx:(x,c)∈m0):AZ m x=some c:=by
  cases h with
  |nil X hs h=>exact Eb hn (h.mem_iff.2 (by simp[hx]))
  |box j ks junk X hk h=>exact Eb hn (h.mem_iff.2 (by simp[hx]))
theorem PS.top{p:JPsr}{i:Nat}{m0 m:MS}{st:List ApiValue}{v:ApiValue} (h:PS p i m0 m) (hs:p.stack=st++[v]): ∃j k pre junk rest,pre.length=st.length * 5∧m.Perm ((i,pc (.gsl 5 j (st.length+1)) p)::(j,pre++lvl v k++junk)::AHf v k::rest)∧
    (∀(p':JPsr) v' m',p'.stack=st++[v']→m'.Perm ((i,pc (.gsl 5 j (st.length+1)) p')::(j,pre++lvl v' k++junk)::AHf v' k::rest)→PS p' i m0 m')∧
    ∀(p':JPsr) junk' m',p'.stack=st→m'.Perm ((i,pc (.gsl 5 j st.length) p')::(j,pre++junk')::AHf v k::rest)→PS p' i m0 m':=by
  cases h with
  |nil X hn h=>rw[hn]at hs;simp at hs
  | box j ks junk X hk h=>
    rw[hs]at hk h
    obtain⟨ks',k,rfl⟩: ∃ks' k,ks=ks'++[k]:=by
      rcases List.eq_nil_or_concat ks with rfl|⟨a,b,rfl⟩
      · simp at hk
      · exact⟨a,b,by simp⟩
    have hk':ks'.length=st.length:=by simpa using hk
    rw[QH hk',Py hk',List.length_append,List.length_cons,List.length_nil]at h
    have mid: ∀(a b:Nat×List AVal) (e:Nat×List AVal) (l:MS),(a::b::(maps st ks'++[e]++l)).Perm (a::b::e::(maps st ks'++l)):=fun a b e l=>by
      refine List.Perm.cons _ (List.Perm.cons _ ?_)
      simp
    refine⟨j,k,Sq st ks',junk,maps st ks'++(X++m0),Sn hk',h.trans (mid _ _ _ _),fun p' v' m' e hp=>?_,fun p' junk' m' e hp=>?_⟩
    · refine .box j (ks'++[k]) junk X (by simp[e,hk']) ?_
      rw[e,QH hk',Py hk',List.length_append,List.length_cons,List.length_nil]
      exact hp.trans (mid _ _ _ _).symm
    · refine .box j ks' junk' (AHf v k::X) (by rw[e];exact hk') ?_
      rw[e]
      refine hp.trans (List.Perm.cons _ (List.Perm.cons _ ?_))
      simpa using(List.perm_middle (a:=AHf v k) (l₁:=maps st ks') (l₂:=X++m0)).symm
theorem Ju{l:List ApiValue}:l=[]∨ ∃st v,l=st++[v]:=by
  rcases List.eq_nil_or_concat l with h|⟨a,b,h⟩
  · exact .inl h
  · exact .inr ⟨a,b,by simpa using h⟩
theorem nd3{a b c:Nat×List AVal}{r m:MS} (hn:(m.map (·.1)).Nodup) (h:m.Perm (a::b::c::r)):b.1≠a.1∧c.1≠a.1∧c.1≠b.1:=by
  have h2:=Qq h hn
  simp only[List.map_cons,List.nodup_cons,List.mem_cons,not_or]at h2
  exact⟨Ne.symm h2.1.1,Ne.symm h2.1.2.1,Ne.symm h2.2.1.1⟩
theorem AI0{p:JPsr}{i:Nat}{m0:MS}{s:List UInt8}{q:JPsr×Int} (hp:PS p i m0 m) (h:V5 p s=some q) (hlen:p.stack.length≤Bl) (hb: ∀v,v∈p.stack→v.keys.length≤1099511627776) (ha:args=[.ptr i 0,.str s])
    (hQ: ∀n' m',n≤n'→PS q.1 i m0 m'→Gl (Q (.int .i64 q.2) ⟨m',n'⟩)):ACall vE 208 args ⟨m,n⟩ Q:=by
  refine ACall.nodup fun hn=>?_
  rcases Ju (l:=p.stack)with hs|⟨st,v,hs⟩
  · simp[V5,hs]at h
  · obtain⟨j,k,pre,junk,rest,h1,h2,h3,h4⟩:=hp.top hs
    have hd:=nd3 hn h2
    have hl:0<st.length+1∧st.length+1≤Bl:=⟨by omega,by rw[hs]at hlen;simpa using hlen⟩
    have hvb:=hb v (by rw[hs];simp)
    refine ACall.perm h2 ?_
    simp only[V5,hs,List.getLast?_append,List.getLast?_singleton,Option.or_some,Option.some_or]at h
    by_cases hin:s∈v.keys
    · rw[if_pos hin]at h
      cases h
      refine ARk (hd:=hd) (hp:=by simpa using h1) hl ha hin fun n' hn'=>hQ _ _ hn' ?_
      exact h3 p v _ hs (List.Perm.refl _)
    · rw[if_neg hin]at h
      cases h
      refine AM3 (hd:=hd) (hp:=by simpa using h1) hl ha hin hvb fun n' hn'=>hQ _ _ hn' ?_
      exact h3 _ {v with keys:=v.keys++[s]} _ (by simp) (List.Perm.refl _)
theorem YE{p:JPsr}{i:Nat}{m0:MS}{v:ApiValue} (hp:PS p i m0 m) (hlen:p.stack.length≤Bl) (hb: ∀v,v∈p.stack→v.items.length≤1099511627776) (ha:args=[.ptr i 0,Al v])
    (hQ: ∀n' m',n≤n'→PS (KF p v) i m0 m'→Gl (Q (.tuple []) ⟨m',n'⟩)):ACall vE 259 args ⟨m,n⟩ Q:=by
  refine ACall.nodup fun hn=>?_
  rcases Ju (l:=p.stack)with hs|⟨st,v',hs⟩
  · have e:KF p v= {p with out:=v,want:=6}:=by simp[KF,hs]
    rw[e]at hQ
    cases hp with
    | nil X hz h=>
      refine ACall.perm h ?_
      refine AJZ ha fun n' hn'=>hQ _ _ hn' (.nil X hs (List.Perm.refl _))
    | box j ks junk X hk h=>
      refine ACall.perm h ?_
      rw[hs]
      refine Xf ha fun n' hn'=>hQ _ _ hn' ?_
      refine .box j ks junk X hk ?_
      rw[hs];exact List.Perm.refl _
  · obtain⟨j,k,pre,junk,rest,h1,h2,h3,h4⟩:=hp.top hs
    have hd:=nd3 hn h2
    have hl:0<st.length+1∧st.length+1≤Bl:=⟨by omega,by rw[hs]at hlen;simpa using hlen⟩
    have hvb:=hb v' (by rw[hs];simp)
    have e:KF p v= {p with stack:=p.stack.dropLast++[{v' with items:=v'.items++[v]}],want:=5}:=by simp[KF,hs]
    rw[e]at hQ
    refine ACall.perm h2 ?_
    refine AF1 hd.1 (by simpa using h1) hl hvb ha fun n' hn'=>hQ _ _ hn' ?_
    exact h3 _ {v' with items:=v'.items++[v]} _ (by simp[hs]) (List.Perm.refl _)
theorem Vy{sv:AVal}{st:List ApiValue} (h:sv=.slice 5 [] true∧st=[]∨ ∃j,sv=.gsl 5 j st.length):NA vE 205 sv=some (.int .i64 (st.length:Int))∧sv.strip=(match sv with|.slice w l _=>.slice w l false|x=>x)∧NA vE 205 sv.strip=some (.int .i64 (st.length:Int))∧AQ sv=[sv]∧Bq sv=true∧JI sv=false:=by
  rcases h with⟨rfl,rfl⟩|⟨j,rfl⟩
  · exact⟨by simp[NA,Cy],rfl,by simp[NA,Cy,AVal.strip],rfl,rfl,rfl⟩
  · exact⟨Ja Cy,rfl,Ja Cy,rfl,rfl,rfl⟩
theorem AEU{p:JPsr}{i:Nat}{m0:MS}{kd want:Int}{sv:AVal} (hm:AZ m i=some (pc sv p)) (hsv:NA vE 205 sv.strip=some (.int .i64 (p.stack.length:Int))∧AQ sv=[sv]) (hl:64≤p.stack.length) (ha:args=[.ptr i 0,.int .i64 kd,.int .i64 want])
    (hQ: ∀n',n≤n'→Gl (Q (.int .i64 141) ⟨m,n'⟩)):ACall vE 258 args ⟨m,n⟩ Q:=by
 have h:True∧True:=⟨trivial,trivial⟩
 subst ha
 refine ent hQ Tryz.func258 rfl Tryz.ntmps258 Tryz.results258 (.q (.r []) (.q (.q (.r []) (.c (.q (.r []) .z) .z)) (.q (.q (.r []) (.q (.r []) (.c (.q (.r []) .z) .z))) (.q (.r [29]) (.q (.r []) (.q (.r []) .z)))))) fun R hR=>?_
 have hc1:decide ((64:Int)≤p.stack.length)=true:=by simp;omega
 simp(disch:=omega) only[vm,seval,h.1,hm,pc,hsv,hc1]
 refine⟨(hR _ _ _ _ _ _ (by simp(disch:=omega) only[vm,seval,h.1];rfl) slr ?_ (by omega) ?_).1⟩<;>first|(simp(disch:=omega) only[vm,seval,h.1];done)|rfl
theorem ADA{nodes:Int} (hn:0≤nodes∧nodes≤30000):wr .i64 (nodes+1)=nodes+1:=by
  obtain⟨q,rfl⟩: ∃q:Nat,nodes=q:=⟨nodes.toNat,by omega⟩
  exact Xu (by simp[Bl];omega)
theorem ZM{p:JPsr}{i:Nat}{m0:MS}{kd want:Int}{sv:AVal} (hm:AZ m i=some (pc sv p)) (hsv:NA vE 205 sv.strip=some (.int .i64 (p.stack.length:Int))∧AQ sv=[sv]) (hl:p.stack.length<64) (hn:0≤p.nodes∧p.nodes≤20000∧20000<p.nodes+1) (ha:args=[.ptr i 0,.int .i64 kd,.int .i64 want])
    (hQ: ∀n',n≤n'→Gl (Q (.int .i64 142) ⟨Ao m i (pc sv {p with nodes:=p.nodes+1}),n'⟩)):ACall vE 258 args ⟨m,n⟩ Q:=by
 have h:True∧True:=⟨trivial,trivial⟩
 subst ha
 refine ent hQ Tryz.func258 rfl Tryz.ntmps258 Tryz.results258 (.q (.r []) (.q (.q (.r []) (.c (.q (.r []) .z) .z)) (.q (.q (.r []) (.q (.r []) (.c (.q (.r []) .z) .z))) (.q (.r [29]) (.q (.r []) (.q (.r []) .z)))))) fun R hR=>?_
 have hc1:decide ((64:Int)≤p.stack.length)=false:=by simp;omega
 have hc2:decide ((20000:Int)<p.nodes+1)=true:=by simp;omega
 have hw:wr .i64 (p.nodes+1)=p.nodes+1:=ADA ⟨hn.1,by omega⟩
 have hms: ∀x,AZ (Ao m i x) i=some x:=fun x=>FN hm
 simp(disch:=omega) only[vm,seval,h.1,hm,pc,hsv,hc1,hc2,hw,hms]
 refine⟨(hR _ _ _ _ _ _ (by simp(disch:=omega) only[vm,seval,h.1];rfl) slr ?_ (by omega) ?_).1⟩<;>first|(simp(disch:=omega) only[vm,seval,h.1];done)|rfl
theorem AF3{i:Nat}{kd want nodes:Int}{wt o1 o2 o3 o4:AVal} (hn:0≤nodes∧nodes+1≤20000) (ha:args=[.ptr i 0,.int .i64 kd,.int .i64 want])
    (hQ: ∀n' j' k',n≤n'→n≤j'→n≤k'→k'≠j'→Gl (Q (.int .i64 0) ⟨(j',[.int .i64 kd,.str [],.slice 1 [] true,.slice 4 [] true,.sh k'])::(k',[.map [] []])::(i,[.gsl 5 j' 1,.int .i64 want,.int .i64 (nodes+1),o1,o2,o3,o4])::m,n'⟩)):
    ACall vE 258 args ⟨(i,[.slice 5 [] true,wt,.int .i64 nodes,o1,o2,o3,o4])::m,n⟩ Q:=by
 refine ACall.known fun _ hkn=>?_
 have h:True∧True:=⟨trivial,trivial⟩
 have hi:i<n:=by
   rcases Nat.lt_or_ge i n with h|h
   · exact h
   · have:=hkn i h;simp[AZ]at this
 subst ha
 refine UZ Tryz.func258 rfl Tryz.ntmps258 Tryz.results258 (.q (.r []) (.q (.q (.r []) (.c (.q (.r []) .z) .z)) (.q (.q (.r []) (.q (.r []) (.c (.q (.r []) .z) .z))) (.q (.r [29,34]) (.q (.r []) (.q (.r []) .z)))))) fun R hR=>?_
 have hc1:decide ((64:Int)≤(0:Nat))=false:=by simp
 have hc2:decide ((20000:Int)<nodes+1)=false:=by simp;omega
 have hw:wr .i64 (nodes+1)=nodes+1:=ADA ⟨hn.1,by omega⟩
 simp(disch:=omega) only[vm,seval,h.1,Ja Cy,K3,Mr,hc1,hc2,hw,UI,Vb,GL]
 have happ:AI9 vE 205 205 (AVal.slice 5 [] true) (AVal.gsl 5 (n+1) 1) {m:=(n+1,List.flatMap (fun p=>AQ p.snd) [((0:Nat),AVal.agg [AVal.int IntKind.i64 kd,AVal.str [],AVal.slice 1 [] true,AVal.slice 4 [] true,AVal.sh n])])::(n,[AVal.map [] []])::(i,[AVal.slice 5 [] false,wt,AVal.int IntKind.i64 (nodes+1),o1,o2,o3,o4])::m,next:=n+2}
   =some (5,1,[.int .i64 kd,.str [],.slice 1 [] true,.slice 4 [] true,.sh n],(n,[AVal.map [] []])::(i,[AVal.slice 5 [] false,wt,AVal.int IntKind.i64 (nodes+1),o1,o2,o3,o4])::m,none):=by
   simp[AI9,AZ,Ck,VW,Vu,Qf,AQ,Bl]
 rw[happ]
 constructor
 intro j' hj'
 have hj1:j'=n+2:=by
   rcases hj' with hj'|hj'
   · exact hj'
   · cases hj'
 subst hj1
 have hin:i≠n:=by omega
 refine Gl.go ?_
 simp(disch:=omega) only[vm,seval,h.1,K3,Mr,QG,QC]
 refine⟨(hR _ _ _ _ _ _ (by simp(disch:=omega) only[vm,seval,h.1];rfl) slr (by omega) ?_).1⟩
 exact(hQ _ (n+2) n (by omega) (by omega) (by omega) (by omega)).go
theorem YA{p:JPsr}{i:Nat}{m0:MS}{kd want:Int} (hp:PS p i m0 m) (hn:0≤p.nodes∧p.nodes≤20000) (ha:args=[.ptr i 0,.int .i64 kd,.int .i64 want])
    (hQ: ∀n' m',n≤n'→PS (JB p kd want).1 i m0 m'→Gl (Q (.int .i64 (JB p kd want).2) ⟨m',n'⟩)):ACall vE 258 args ⟨m,n⟩ Q:=by
  refine ACall.nodup fun hnd=>?_
  obtain⟨sv,hg,hsv,hput⟩:=hp.put hnd
  have hl:=Vy hsv
  by_cases h1:p.stack.length≥64
  · have e:JB p kd want=(p,141):=by simp[JB,h1]
    rw[e]at hQ
    exact AEU (m0:=m0) hg ⟨hl.2.2.1,hl.2.2.2.1⟩ h1 ha fun n' hn'=>hQ _ _ hn' hp
  · by_cases h2:p.nodes+1>20000
    · have e:JB p kd want=({p with nodes:=p.nodes+1},142):=by simp[JB,h1,h2]
      rw[e]at hQ
      exact ZM (m0:=m0) hg ⟨hl.2.2.1,hl.2.2.2.1⟩ (by omega) ⟨hn.1,hn.2,h2⟩ ha fun n' hn'=>hQ _ _ hn' (hput _ rfl)
    · have e:JB p kd want=({p with stack:=p.stack++[⟨kd,[],[],[]⟩],nodes:=p.nodes+1,want:=want},0):=by simp[JB,h1,h2]
      rw[e]at hQ
      cases hp with
      | nil X hs h=>
        refine ACall.perm h ?_
        refine AF3 ⟨hn.1,by omega⟩ ha fun n' j' k' h3 h4 h5 h6=>hQ _ _ h3 ?_
        refine .box j' [k'] [] X (by simp[hs]) ?_
        simp only[hs,List.nil_append,Sq,maps,lvl,AHf,List.map_nil,List.append_nil,List.length_cons,List.length_nil,pc,List.cons_append]
        exact((List.Perm.swap _ _ _).cons _).trans (List.Perm.swap _ _ _)|>.trans (List.Perm.cons _ (List.Perm.refl _))
      | box j ks junk X hk h=>
        have hd:j≠i:=by
          have h2:=Qq h hnd
          simp only[List.map_cons,List.nodup_cons,List.mem_cons,not_or]at h2
          exact Ne.symm h2.1.1
        refine ACall.perm h ?_
        refine ALl hd (by rw[List.length_append,Sn hk];omega) (by omega) ⟨hn.1,by omega⟩ ha fun n' j' k' h3 h4 h5 h6=>hQ _ _ h3 ?_
        refine .box j' (ks++[k']) [] X (by simp[hk]) ?_
        have e1:(Sq p.stack ks++junk).take (p.stack.length * 5)=Sq p.stack ks:=by rw[←Sn hk,List.take_left]
        rw[e1,QH hk,Py hk,List.append_nil,List.length_append]
        have mid: ∀(e:Nat×List AVal) (l:MS),(e::(maps p.stack ks++l)).Perm (maps p.stack ks++[e]++l):=fun e l=>by
          simpa using(List.perm_middle (a:=e) (l₁:=maps p.stack ks) (l₂:=l)).symm
        refine((List.Perm.swap _ _ _).cons _).trans ((List.Perm.swap _ _ _).trans (List.Perm.cons _ (List.Perm.cons _ ?_)))
        exact mid (k',[.map [] []]) _
def AUO (p:JPsr) (t:ApiToken) (cl:List UInt8):Bool:=
  if p.want==0 then LA t else if p.want==1 then LA t||(t.kind==2&&t.text==cl)else if p.want==2 then t.kind==3 else if p.want==3 then t.kind==3||(t.kind==2&&t.text==cl)
  else if p.want==4 then t.kind==2&&t.text==[58]else if p.want==5 then t.kind==2&&t.text==[44]||(t.kind==2&&t.text==cl)else t.kind==1
theorem AVn{q:Nat}{a:AVal}{pre l junk:List AVal} (h:pre.length=q):(pre++a::l++junk)[q]?=some a:=by subst h;simp
theorem AWh (t:ApiToken):JY N t=some (LA t):=by
  unfold JY LA
  simp only[AA]
  cases t.kind==3<;>cases t.kind==4<;>cases t.kind==5<;>cases t.kind==2<;>cases t.text==[91]<;>simp
theorem ATD{p:JPsr}{i:Nat}{m0:MS}{t:ApiToken} (hp:PS p i m0 m) (hlen:p.stack.length≤Bl) (ha:args=[.ptr i 0,Ev t])
    (hQ: ∀n',n≤n'→Gl (Q (.bool (QD p t)) ⟨m,n'⟩)):ACall vE 206 args ⟨m,n⟩ Q:=by
 refine ACall.nodup fun hnd=>ACall.known fun _ hkn=>?_
 obtain⟨sv,hg,hsv,hput⟩:=hp.put hnd
 have hl:=(Vy hsv).2.2
 have hi:i<n:=by
   rcases Nat.lt_or_ge i n with h|h
   · exact h
   · have:=hkn i h;rw[hg]at this;cases this
 have h:True∧AA (fun cl=>some (AUO p t cl)) (fun k=>k (Im p))=some (QD p t):=⟨trivial,by simp only[AA];first|done|rfl⟩
 subst ha
 refine ent hQ Tryz.func206 rfl Tryz.ntmps206 Tryz.results206 (.q (.r []) (.q (.r []) .z)) fun R hR=>?_
 have hin:i≠n:=by omega
 simp(disch:=omega) only[vm,seval,h.1]
 refine⟨MQ (γ:=Unit) h [7,8,9,10,11,12,13,14,15,16,17,18,19] [5] (fun cl g=>[.str cl]) (fun cl g=>(n,[.int .i64 t.kind,.str t.text,.int .i64 t.at_])::m) (.q (.r []) (.c (.q (.r []) (.q (.r []) (.c (.r []) .z))) .z)) ?_ ?_⟩<;>clear h
 · rintro cl _ n4 hnn4 _ _ h
   have h2:AUO p t cl=QD p t:=by simpa using h
   clear h
   have hin4:i≠n:=by omega
   refine BM (.q (.r []) (.q (.q (.r []) (.q (.r []) (.c (.q (.r []) .z) (.q (.r []) (.c (.q (.r []) .z) (.q (.r []) (.c (.q (.r []) .z) (.q (.r []) (.c (.q (.r []) .z) (.q (.r []) (.c (.q (.r []) .z) (.q (.r []) (.c (.q (.r []) .z) .z))))))))))))) (.q (.r []) .z))) ?_
   unfold AUO at h2
   have ow: ∀ {n5:Nat}{m5:MS}{Q5:PQ}{args5:List AVal},args5=[Ev t]→(∀n',n5≤n'→Gl (Q5 (.bool (LA t)) ⟨m5,n'⟩))→ACall vE 257 args5 ⟨m5,n5⟩ Q5:=fun ha hq=>Ut (N:=0) (AWh t) ha hq
   generalize QD p t=r at h2 hR
   cases hk2:t.kind==2<;>cases hw0:p.want==0<;>cases hw1:p.want==1<;>cases hw2:p.want==2<;>cases hw3:p.want==3<;>cases hw4:p.want==4<;>cases hw5:p.want==5
   all_goals
     try (exfalso;simp only[beq_iff_eq,beq_eq_false_iff_ne]at hw0 hw1 hw2 hw3 hw4 hw5;omega)
   all_goals
     simp(disch:=omega) only[hw0,hw1,hw2,hw3,hw4,hw5,hk2,if_true,if_false,Bool.false_eq_true,Bool.true_and,Bool.false_and,Bool.or_false]at h2
     simp(disch:=omega) only[vm,seval,hk2,hg,pc,hl,hw0,hw1,hw2,hw3,hw4,hw5]
   all_goals first
     |((refine⟨(hR _ _ _ _ _ _ (by simp(disch:=omega) only[vm,seval,hk2];rfl) (.cons _ slr) rfl (by omega) ?_).1⟩<;>first|rfl|(simp(disch:=omega) only[vm,seval,hk2];done)|(subst h2;rfl));done)
     |(cases hk3:t.kind==3<;>simp(disch:=omega) only[hk3,Bool.true_or,Bool.false_or]at h2<;>simp(disch:=omega) only[vm,seval,hk2,hk3]<;>(refine⟨(hR _ _ _ _ _ _ (by simp(disch:=omega) only[vm,seval,hk2];rfl) (.cons _ slr) rfl (by omega) ?_).1⟩<;>first|rfl|(simp(disch:=omega) only[vm,seval,hk2];done)|(subst h2;rfl));done)
     |(cases hk3:t.text==[44]<;>simp(disch:=omega) only[hk3,Bool.true_or,Bool.false_or]at h2<;>simp(disch:=omega) only[vm,seval,hk2,hk3]<;>(refine⟨(hR _ _ _ _ _ _ (by simp(disch:=omega) only[vm,seval,hk2];rfl) (.cons _ slr) rfl (by omega) ?_).1⟩<;>first|rfl|(simp(disch:=omega) only[vm,seval,hk2];done)|(subst h2;rfl));done)
     |(refine⟨ow (by first|(simp(disch:=omega) only[vm,seval,hk2];done)|rfl) fun n5 hn5=>?_⟩;simp(disch:=omega) only[vm,seval,hk2];(refine⟨(hR _ _ _ _ _ _ (by simp(disch:=omega) only[vm,seval,hk2];rfl) (.cons _ slr) rfl (by omega) ?_).1⟩<;>first|rfl|(simp(disch:=omega) only[vm,seval,hk2];done)|(subst h2;rfl));done)
     |(refine⟨ow (by first|(simp(disch:=omega) only[vm,seval,hk2];done)|rfl) fun n5 hn5=>?_⟩;cases hk3:LA t<;>simp(disch:=omega) only[hk3,Bool.true_or,Bool.false_or]at h2<;>simp(disch:=omega) only[vm,seval,hk2,hk3]<;>(refine⟨(hR _ _ _ _ _ _ (by simp(disch:=omega) only[vm,seval,hk2];rfl) (.cons _ slr) rfl (by omega) ?_).1⟩<;>first|rfl|(simp(disch:=omega) only[vm,seval,hk2];done)|(subst h2;rfl));done)
 · intro k Jk hk h
   rcases Ju (l:=p.stack)with hs|⟨st,v,hs⟩
   · have hc:decide ((p.stack.length:Int)>0)=false:=by simp[hs]
     have e:Im p=[]:=by simp[Im,hs]
     simp(disch:=omega) only[vm,seval,h.1,hg,pc,hl,hc]
     refine⟨hk (Im p) () _ _ _ _ h.2 slr ?_ ?_ ?_ (by omega)⟩<;>first|(simp(disch:=omega) only[vm,seval,h.1,e];done)|rfl
   · obtain⟨j,ky,pre,junk,rest,h1,h2,h3,h4⟩:=hp.top hs
     have hc:decide ((p.stack.length:Int)>0)=true:=by simp[hs]
     have hg2:AZ m i=some (pc (.gsl 5 j (st.length+1)) p):=Eb hnd (h2.mem_iff.2 (by simp))
     have hg3:AZ m j=some (pre++lvl v ky++junk):=Eb hnd (h2.mem_iff.2 (by simp))
     have hj:j<n:=by
       rcases Nat.lt_or_ge j n with h|h
       · exact h
       · have:=hkn j h;rw[hg3]at this;cases this
     have hjn:j≠n:=by omega
     have hl2:0<st.length+1∧st.length+1≤Bl:=⟨by omega,by rw[hs]at hlen;simpa using hlen⟩
     have hpr:pre.length=(st.length+1-1) * 5:=by simpa using h1
     simp(disch:=omega) only[vm,seval,h.1,hg,pc,hl,hc]
     refine⟨Rw (i:=i) (j:=j) (len:=st.length+1) (pc:=_) (by rw[R9 (by omega)];exact hg2) hl2 tD fun n2 hn2=>?_⟩
     simp(disch:=omega) only[vm,seval,h.1,hg3,lvl,drop_at hpr]
     have e:Im p=if(v.kind==7)=true then [125]else [93]:=by simp[Im,hs]
     have hp5:pre.length=st.length * 5:=h1
     cases hk7:v.kind==7
     all_goals
       rw[hk7]at e
       simp(disch:=omega) only[vm,seval,h.1,AVn hp5,hk7]
       refine⟨hk (Im p) () _ _ _ _ h.2 slr ?_ ?_ ?_ (by omega)⟩<;>first|(simp(disch:=omega) only[vm,seval,h.1,e];done)|rfl
theorem AMj:(Ol vE.P 296).map (CR vE.P)=some (some (.int .i64 0)):=by kernel_rfl
theorem Tz: ∃e,Ol vE.P 296=some e∧CR vE.P e=some (.int .i64 0):=by
  have h:=AMj
  cases he:Ol vE.P 296 with
  |none=>rw[he]at h;cases h
  |some e=>rw[he]at h;simp only[Option.map_some,Option.some.injEq]at h;exact⟨e,rfl,h⟩
theorem ARF:(Ol vE.P 296).isSome=true:=by
  obtain⟨e,h1,h2⟩:=Tz
  rw[h1];rfl
theorem AMN{k q:Nat}{s:List UInt8}:MK vE 296 (.sh k) (.str s) false ⟨(k,[.map (Er (Er (Er [] [110,117,108,108]) [102,97,108,115,101]) [116,114,117,101]) (Ih (Er (Er [] [110,117,108,108]) [102,97,108,115,101]) (Ih (Er [] [110,117,108,108]) (Ih [] [] [110,117,108,108] (.int .i64 1)) [102,97,108,115,101] (.int .i64 2)) [116,114,117,101] (.int .i64 3))])::m,q⟩=some (.int .i64 (R7 s)):=by
  obtain⟨e,h1,h2⟩:=Tz
  have e1:(Er (Er (Er [] [110,117,108,108]) [102,97,108,115,101]) [116,114,117,101])=([[110,117,108,108],[102,97,108,115,101],[116,114,117,101]]:List (List UInt8)):=by decide
  have e2:(Ih (Er (Er [] [110,117,108,108]) [102,97,108,115,101]) (Ih (Er [] [110,117,108,108]) (Ih [] [] [110,117,108,108] (.int .i64 1)) [102,97,108,115,101] (.int .i64 2)) [116,114,117,101] (.int .i64 3))=([.int .i64 1,.int .i64 2,.int .i64 3]:List AVal):=by rfl
  rw[e1,e2]
  simp only[MK,h1,h2,Qa,AZ,if_true,Ik,AVal.strip,R7,Bool.false_eq_true,if_false]
  by_cases a:s=[110,117,108,108]
  · subst a;rfl
  · by_cases b:s=[102,97,108,115,101]
    · subst b;rfl
    · by_cases c:s=[116,114,117,101]
      · subst c;rfl
      · simp[a,b,c]
theorem AUb{s:List UInt8}:lkR ((Ol vE.P 296).bind (CR vE.P)) (some [.map (Er (Er (Er [] [110,117,108,108]) [102,97,108,115,101]) [116,114,117,101]) (Ih (Er (Er [] [110,117,108,108]) [102,97,108,115,101]) (Ih (Er [] [110,117,108,108]) (Ih [] [] [110,117,108,108] (.int .i64 1)) [102,97,108,115,101] (.int .i64 2)) [116,114,117,101] (.int .i64 3))]) s=some (.int .i64 (R7 s)):=(AdC (E:=vE) (t:=296) (i:=0) (st:=⟨[(0,_)],0⟩)).symm.trans (AMN (m:=[]) (k:=0) (q:=0))
theorem ANN{p:JPsr}{i:Nat}{m0:MS}{t:ApiToken}{q:JPsr×Int} (tokNum: ∀ {n:Nat}{m:MS}{Q:PQ}{args:List AVal} {a0 r},GN N a0=some r→args=[.str a0]→(∀n',n≤n'→Gl (Q (.tuple [.str r.1,.int .i64 r.2]) ⟨m,n'⟩))→ACall vE 260 args ⟨m,n⟩ Q)
    (hp:PS p i m0 m) (hq:Sl N p t=some q) (hnd:0≤p.nodes∧p.nodes≤20000) (hlen:p.stack.length≤Bl) (hb: ∀v,v∈p.stack→v.items.length≤1099511627776) (ha:args=[.ptr i 0,Ev t])
    (hQ: ∀n' m',n≤n'→PS q.1 i m0 m'→Gl (Q (.int .i64 q.2) ⟨m',n'⟩)):ACall vE 209 args ⟨m,n⟩ Q:=by
 refine ACall.nodup fun hnn=>ACall.known fun _ hkn=>?_
 obtain⟨sv,hg,hsv,hput⟩:=hp.put hnn
 have hl:=(Vy hsv).2.2
 have hi:i<n:=by
   rcases Nat.lt_or_ge i n with h|h
   · exact h
   · have:=hkn i h;rw[hg]at this;cases this
 have h:True∧AA (fun v=>some (OL p v)) (fun k=>if(t.kind==4)=true then Option.bind (GN N t.text) fun y=>if(y.2 !=0)=true then some (p,144)else k ⟨4,y.1,[],[]⟩else if(t.kind==5)=true then k ⟨R7 t.text,[],[],[]⟩else k ⟨5,t.text,[],[]⟩)=some q:=by
   refine⟨trivial,hq.symm▸?_⟩
   unfold Sl AA
   rfl
 subst ha
 refine UZ Tryz.func209 rfl Tryz.ntmps209 Tryz.results209 (.q (.r []) (.q (.r []) .z)) fun R hR=>?_
 have hin:i≠n:=by omega
 simp(disch:=omega) only[vm,seval,h.1]
 refine⟨MQ (γ:=Bool×Bool) h [6,7,11,12,13,14,15,16,17,18,19,20,21,22,23,24,25,26,27,28,29,30,31,32,33,34] [] (fun v g=>[]) (fun v g=>(n+1,[.int .i64 v.kind,.str v.text,.slice 1 (v.keys.map AVal.str) g.1,.slice 4 (v.items.map Al) g.2])::(n,[.int .i64 t.kind,.str t.text,.int .i64 t.at_])::m) (.q (.r []) (.c (.q (.r []) (.q (.q (.r []) (.c (.q (.r []) .z) .z)) (.r []))) (.q (.r []) (.c (.r []) .z)))) ?_ ?_⟩<;>clear h
 · rintro v g n4 hnn4 _ _ h
   have h2:OL p v=q:=by simpa using h.2
   have hms: ∀x,AZ (Ao m i x) i=some x:=fun x=>FN hg
   have hin4:i≠n+1:=by omega
   have hw:wr .i64 (p.nodes+1)=p.nodes+1:=ADA ⟨hnd.1,by omega⟩
   refine BM (.q (.q (.r []) (.q (.r []) (.c (.q (.r []) .z) .z))) (.q (.r []) (.q (.r []) .z))) ?_
   unfold OL at h2
   by_cases hc:p.nodes+1>20000
   · rw[if_pos hc]at h2
     subst h2
     have hc2:decide ((20000:Int)<p.nodes+1)=true:=by simpa using hc
     simp(disch:=omega) only[vm,seval,hg,pc,hl,hms,hw,hc2]
     refine⟨(hR _ _ _ _ _ _ (by simp(disch:=omega) only[vm,seval];rfl) (.cons _ (.cons _ slr)) (by omega) ?_).1⟩
     exact(hQ _ _ (by omega) (hput {p with nodes:=p.nodes+1} rfl)).go
   · rw[if_neg hc]at h2
     subst h2
     have hc2:decide ((20000:Int)<p.nodes+1)=false:=by simpa using hc
     simp(disch:=omega) only[vm,seval,hg,pc,hl,hms,hw,hc2]
     have hps:PS {p with nodes:=p.nodes+1} i ((n+1,[.int .i64 v.kind,.str v.text,.slice 1 (v.keys.map AVal.str) g.1,.slice 4 (v.items.map Al) g.2])::(n,[.int .i64 t.kind,.str t.text,.int .i64 t.at_])::m0) _:=((hput {p with nodes:=p.nodes+1} rfl).more _).more _
     refine⟨YE (v:=v) hps hlen hb (by first|(simp(disch:=omega) only[vm,seval];done)|rfl) fun n5 m5 hn5 h5=>?_⟩
     simp(disch:=omega) only[vm,seval]
     refine⟨(hR _ _ _ _ _ _ (by simp(disch:=omega) only[vm,seval];rfl) slr (by omega) ?_).1⟩
     exact(hQ _ _ (by omega) h5.less.less).go
 · intro k Jk hk h
   cases h4:t.kind==4
   · cases h5:t.kind==5
     · simp only[h4,h5,Bool.false_eq_true,if_false]at h
       simp(disch:=omega) only[vm,seval,h4,h5]
       refine⟨hk _ (true,true) _ _ _ _ h.2 slr ?_ ?_ ?_ (by omega)⟩<;>first|(simp(disch:=omega) only[vm,seval];done)|rfl
     · simp only[h4,h5,Bool.false_eq_true,if_false,if_true]at h
       simp(disch:=omega) only[vm,seval,h4,h5,ARF,AUb]
       refine⟨hk _ (true,true) _ _ _ _ h.2 (.cons _ slr) ?_ ?_ ?_ (by omega)⟩<;>first|(simp(disch:=omega) only[vm,seval];done)|rfl
   · simp only[h4,if_true]at h
     obtain⟨y,h6,h7⟩:=bind_some h.2
     simp(disch:=omega) only[vm,seval,h4]
     refine⟨tokNum h6 (by first|(simp(disch:=omega) only[vm,seval];done)|rfl) fun n5 hn5=>?_⟩
     cases h8:y.2 !=0
     · simp only[h8,Bool.false_eq_true,if_false]at h7
       simp(disch:=omega) only[vm,seval,h8]
       refine⟨hk _ (true,true) _ _ _ _ h7 slr ?_ ?_ ?_ (by omega)⟩<;>first|(simp(disch:=omega) only[vm,seval];done)|rfl
     · simp only[h8,if_true,Option.some.injEq]at h7
       subst h7
       simp(disch:=omega) only[vm,seval,h8]
       refine⟨(hR _ _ _ _ _ _ (by simp(disch:=omega) only[vm,seval];rfl) (.cons _ (.cons _ slr)) (by omega) ?_).1⟩
       exact(hQ _ _ (by omega) hp).go
theorem AfR{q:Nat}{pre l junk:List AVal} (h:pre.length=q):List.drop q (pre++l++junk)=l++junk:=by subst h;simp
theorem BS{w i l h:Nat} (hi:BP vE.P 205=some w) (hl:h≤l):EF vE 205 (.gsl w i l) none (some (h:Int)) none=some (.gsl w i h):=by
  have:(h:Int)≤l:=by omega
  simp[EF,hi,this]
theorem AMu {p:JPsr}{i:Nat}{m0:MS}{c:List UInt8}{q:JPsr×Int}
    (hp:PS p i m0 m) (hq:Sj p c=some q) (hnd:0≤p.nodes∧p.nodes≤20000) (hlen:p.stack.length≤Bl) (hb: ∀v,v∈p.stack→v.items.length≤1099511627776) (ha:args=[.ptr i 0,.str c])
    (hQ: ∀n' m',n≤n'→PS q.1 i m0 m'→Gl (Q (.int .i64 q.2) ⟨m',n'⟩)):ACall vE 207 args ⟨m,n⟩ Q:=by
 refine ACall.nodup fun hnn=>ACall.known fun _ hkn=>?_
 obtain⟨sv,hg,hsv,hput⟩:=hp.put hnn
 have hl:=(Vy hsv).2.2
 have hi:i<n:=by
   rcases Nat.lt_or_ge i n with h|h
   · exact h
   · have:=hkn i h;rw[hg]at this;cases this
 have hms: ∀x,AZ (Ao m i x) i=some x:=fun x=>FN hg
 unfold Sj at hq
 subst ha
 refine UZ Tryz.func207 rfl Tryz.ntmps207 Tryz.results207 (.q (.r []) (.q (.q (.r []) (.q (.r []) (.c (.q (.r []) .z) (.q (.r []) (.c (.q (.r []) .z) (.q (.r []) (.c (.r []) (.q (.r []) (.c (.q (.r []) (.q (.r []) (.c (.r []) .z))) (.q (.r []) (.q .z (.r [])))))))))))) (.q (.r []) .z))) fun R hR=>?_
 cases h1:c==[91]
 · cases h2:c==[123]
   · cases h3:c==[58]
     · simp only[h1,h2,h3,Bool.false_eq_true,if_false]at hq
       rcases Ju (l:=p.stack)with hs|⟨st,v,hs⟩
       · simp[hs]at hq
       · simp only[hs,List.getLast?_append,List.getLast?_singleton,Option.or_some,Option.some_or]at hq
         obtain⟨j,ky,pre,junk,rest,g1,g2,g3,g4⟩:=hp.top hs
         have hg2:AZ m i=some (pc (.gsl 5 j (st.length+1)) p):=Eb hnn (g2.mem_iff.2 (by simp))
         have hg3:AZ m j=some (pre++lvl v ky++junk):=Eb hnn (g2.mem_iff.2 (by simp))
         have hd:=nd3 hnn g2
         have hij:j≠i:=hd.1
         have hj:j<n:=by
           rcases Nat.lt_or_ge j n with h|h
           · exact h
           · have:=hkn j h;rw[hg3]at this;cases this
         have hl2:0<st.length+1∧st.length+1≤Bl:=⟨by omega,by rw[hs]at hlen;simpa using hlen⟩
         have hpr:pre.length=(st.length+1-1) * 5:=by simpa using g1
         have hp5:pre.length=st.length * 5:=g1
         cases h4:c==[44]
         · simp only[h4,Bool.false_eq_true,if_false,Option.some.injEq]at hq
           simp(disch:=omega) only[vm,seval,h1,h2,h3,h4]
           refine⟨Rw (i:=i) (j:=j) (len:=st.length+1) (pc:=_) (by exact hg2) hl2 (by first|(simp(disch:=omega) only[vm,seval];done)|rfl) fun n2 hn2=>?_⟩
           have hw2:wr .i64 (((st.length+1:Nat):Int)-1)=((st.length:Nat):Int):=by
             have:(((st.length+1:Nat):Int)-1)=((st.length:Nat):Int):=by omega
             rw[this];exact AIB (by have:=hl2.2;simp[Bl]at this;omega)
           have hin2:i≠n2:=by omega
           simp(disch:=omega) only[vm,seval,hg3,lvl,drop_at hpr,AVn hp5,AfR hp5]
           refine⟨Jg [] (.take 0 (.take 1 (.take 2 (.take 3 (.take 4 (.take 5 (.take 6 (.take 7 (.take 8 (.take 9 (.take 10 (.take 11 (.take 12 (.take 13 (.alt 14 [12] (.done) (.stop)))))))))))))))) HY (by kernel_rfl) ?_⟩
           simp(disch:=omega) only[vm,seval,hg2,pc,Ja Cy,K3,Mr,QG,QC,hw2,BS Qz (Nat.le_succ st.length)]
           have hps0:PS ⟨st,p.want,p.nodes,p.out⟩ i m0 (Ao m i (pc (.gsl 5 j st.length) ⟨st,p.want,p.nodes,p.out⟩)):=by
             refine g4 _ (lvl v ky++junk) _ rfl ?_
             have:=Qg (x:=pc (.gsl 5 j st.length) ⟨st,p.want,p.nodes,p.out⟩) hnn g2
             rw[List.append_assoc]at this
             exact this
           have hps:=hps0.more (n2,[.int .i64 v.kind,.str v.text,.slice 1 (v.keys.map AVal.str) false,.slice 4 (v.items.map Al) false])
           refine⟨YE (v:=v) hps (by simp only[];omega) (fun x hx=>hb x (by rw[hs];simp[hx])) (by first|(simp(disch:=omega) only[vm,seval];done)|rfl) fun n5 m5 hn5 h5=>?_⟩
           simp(disch:=omega) only[vm,seval]
           refine⟨(hR _ _ _ _ _ _ (by simp(disch:=omega) only[vm,seval];rfl) slr (by omega) ?_).1⟩
           have e:KF {p with stack:=(st++[v]).dropLast} v=KF ⟨st,p.want,p.nodes,p.out⟩ v:=by rw[List.dropLast_concat]
           rw[e]at hq
           subst hq
           exact(hQ _ _ (by omega) h5.less).go
         · simp only[h4,if_true,Option.some.injEq]at hq
           have hms2: ∀x,AZ (Ao m i x) j=some (pre++lvl v ky++junk):=fun x=>by
             rw[Li hij];exact hg3
           subst hq
           simp(disch:=omega) only[vm,seval,h1,h2,h3,h4,hg,pc]
           refine⟨Rw (i:=i) (j:=j) (len:=st.length+1) (pc:=[.int .i64 0,.int .i64 p.nodes,.int .i64 p.out.kind,.str p.out.text,.slice 1 (p.out.keys.map AVal.str) false,.slice 4 (p.out.items.map Al) false]) (by have e:=hg2.symm.trans hg;simp only[pc,Option.some.injEq,List.cons.injEq]at e;rw[hms,←e.1]) hl2 (by first|(simp(disch:=omega) only[vm,seval];done)|rfl) fun n2 hn2=>?_⟩
           simp(disch:=omega) only[vm,seval,hms2,lvl,drop_at hpr,AVn hp5]
           cases h7:v.kind==7
           · simp(disch:=omega) only[vm,seval,h7]
             refine⟨(hR _ _ _ _ _ _ (by simp(disch:=omega) only[vm,seval];rfl) slr (by omega) ?_).1⟩
             exact(hQ _ _ (by omega) (by simp only[h7,Bool.false_eq_true,if_false];exact hput ⟨st++[v],0,p.nodes,p.out⟩ hs.symm)).go
           · simp(disch:=omega) only[vm,seval,h7,hms]
             refine⟨(hR _ _ _ _ _ _ (by simp(disch:=omega) only[vm,seval];rfl) slr (by omega) ?_).1⟩
             exact(hQ _ _ (by omega) (by simp only[h7,if_true];exact hput ⟨st++[v],2,p.nodes,p.out⟩ hs.symm)).go
     · simp only[h1,h2,h3,Bool.false_eq_true,if_false,if_true,Option.some.injEq]at hq
       subst hq
       simp(disch:=omega) only[vm,seval,h1,h2,h3,hg,pc,hl]
       refine⟨(hR _ _ _ _ _ _ (by simp(disch:=omega) only[vm,seval];rfl) slr (by omega) ?_).1⟩
       exact(hQ _ _ (by omega) (hput {p with want:=0} rfl)).go
   · simp only[h1,h2,Bool.false_eq_true,if_false,if_true,Option.some.injEq]at hq
     subst hq
     simp(disch:=omega) only[vm,seval,h1,h2]
     refine⟨YA hp hnd (by first|(simp(disch:=omega) only[vm,seval];done)|rfl) fun n5 m5 hn5 h5=>?_⟩
     simp(disch:=omega) only[vm,seval]
     refine⟨(hR _ _ _ _ _ _ (by simp(disch:=omega) only[vm,seval];rfl) slr (by omega) ?_).1⟩
     exact(hQ _ _ (by omega) h5).go
 · simp only[h1,if_true,Option.some.injEq]at hq
   subst hq
   simp(disch:=omega) only[vm,seval,h1]
   refine⟨YA hp hnd (by first|(simp(disch:=omega) only[vm,seval];done)|rfl) fun n5 m5 hn5 h5=>?_⟩
   simp(disch:=omega) only[vm,seval]
   refine⟨(hR _ _ _ _ _ _ (by simp(disch:=omega) only[vm,seval];rfl) slr (by omega) ?_).1⟩
   exact(hQ _ _ (by omega) h5).go
theorem AP9{p:JPsr}{i:Nat}{m0:MS}{t:ApiToken}{q:JPsr×Int} (tokNum: ∀ {n:Nat}{m:MS}{Q:PQ}{args:List AVal} {a0 r},GN N a0=some r→args=[.str a0]→(∀n',n≤n'→Gl (Q (.tuple [.str r.1,.int .i64 r.2]) ⟨m,n'⟩))→ACall vE 260 args ⟨m,n⟩ Q)
    (hp:PS p i m0 m) (hq:Rm N p t=some q) (hnd:0≤p.nodes∧p.nodes≤20000) (hlen:p.stack.length≤Bl) (hb: ∀v,v∈p.stack→v.keys.length≤1099511627776∧v.items.length≤1099511627776) (ha:args=[.ptr i 0,Ev t])
    (hQ: ∀n' m',n≤n'→PS q.1 i m0 m'→Gl (Q (.int .i64 q.2) ⟨m',n'⟩)):ACall vE 148 args ⟨m,n⟩ Q:=by
 refine ACall.nodup fun hnn=>ACall.known fun _ hkn=>?_
 obtain⟨sv,hg,hsv,hput⟩:=hp.put hnn
 have hl:=(Vy hsv).2.2
 have hi:i<n:=by
   rcases Nat.lt_or_ge i n with h|h
   · exact h
   · have:=hkn i h;rw[hg]at this;cases this
 have hin:i≠n:=by omega
 unfold Rm at hq
 subst ha
 refine UZ Tryz.func148 rfl Tryz.ntmps148 Tryz.results148 (.q (.r []) (.q (.q (.r []) (.c (.q (.r []) .z) (.q (.r []) (.c (.q (.r []) .z) (.q (.r []) (.c (.q (.r []) .z) (.q (.r []) (.c (.q (.r []) .z) .z)))))))) (.q (.r []) .z))) fun R hR=>?_
 simp(disch:=omega) only[vm,seval]
 refine⟨ATD (m0:=(n,[.int .i64 t.kind,.str t.text,.int .i64 t.at_])::m0) (p:=p) (i:=i) (t:=t) (hp.more _) hlen (by first|(simp(disch:=omega) only[vm,seval];done)|rfl) fun n2 hn2=>?_⟩
 cases h0:QD p t
 · simp only[h0,if_true,Option.some.injEq]at hq
   subst hq
   simp(disch:=omega) only[vm,seval]
   refine⟨(hR _ _ _ _ _ _ (by simp(disch:=omega) only[vm,seval];rfl) (.cons _ slr) (by omega) ?_).1⟩
   exact(hQ _ _ (by omega) hp).go
 · simp only[h0,Bool.true_eq_false,if_false]at hq
   have hps:=hp.more (n,[.int .i64 t.kind,.str t.text,.int .i64 t.at_])
   cases h1:t.kind==2
   · simp only[h1,Bool.false_eq_true,if_false]at hq
     cases h2:p.want==2||p.want==3
     · simp only[h2,Bool.false_eq_true,if_false]at hq
       obtain⟨h3,h4⟩:=Bool.or_eq_false_iff.1 h2
       cases h5:t.kind==1
       · simp only[h5,Bool.false_eq_true,if_false]at hq
         simp(disch:=omega) only[vm,seval,h1,h3,h4,h5,hg,pc,hl]
         refine⟨ANN (i:=i) (t:=t) tokNum hps hq hnd hlen (fun v hv=>(hb v hv).2) (by first|(simp(disch:=omega) only[vm,seval];done)|rfl) fun n5 m5 hn5 h6=>?_⟩
         simp(disch:=omega) only[vm,seval]
         refine⟨(hR _ _ _ _ _ _ (by simp(disch:=omega) only[vm,seval];rfl) slr (by omega) ?_).1⟩
         exact(hQ _ _ (by omega) h6.less).go
       · simp only[h5,if_true,Option.some.injEq]at hq
         subst hq
         simp(disch:=omega) only[vm,seval,h1,h3,h4,h5,hg,pc,hl]
         refine⟨(hR _ _ _ _ _ _ (by simp(disch:=omega) only[vm,seval];rfl) (.cons _ slr) (by omega) ?_).1⟩
         exact(hQ _ _ (by omega) hp).go
     · simp only[h2,if_true]at hq
       cases h3:p.want==2
       · have h4:(p.want==3)=true:=by simpa[h3]using h2
         simp(disch:=omega) only[vm,seval,h1,h3,h4,hg,pc,hl]
         refine⟨AI0 (i:=i) hps hq hlen (fun v hv=>(hb v hv).1) (by first|(simp(disch:=omega) only[vm,seval];done)|rfl) fun n5 m5 hn5 h6=>?_⟩
         simp(disch:=omega) only[vm,seval]
         refine⟨(hR _ _ _ _ _ _ (by simp(disch:=omega) only[vm,seval];rfl) slr (by omega) ?_).1⟩
         exact(hQ _ _ (by omega) h6.less).go
       · simp(disch:=omega) only[vm,seval,h1,h3,hg,pc,hl]
         refine⟨AI0 (i:=i) hps hq hlen (fun v hv=>(hb v hv).1) (by first|(simp(disch:=omega) only[vm,seval];done)|rfl) fun n5 m5 hn5 h6=>?_⟩
         simp(disch:=omega) only[vm,seval]
         refine⟨(hR _ _ _ _ _ _ (by simp(disch:=omega) only[vm,seval];rfl) slr (by omega) ?_).1⟩
         exact(hQ _ _ (by omega) h6.less).go
   · simp only[h1,if_true]at hq
     simp(disch:=omega) only[vm,seval,h1]
     refine⟨AMu (i:=i) hps hq hnd hlen (fun v hv=>(hb v hv).2) (by first|(simp(disch:=omega) only[vm,seval];done)|rfl) fun n5 m5 hn5 h6=>?_⟩
     simp(disch:=omega) only[vm,seval]
     refine⟨(hR _ _ _ _ _ _ (by simp(disch:=omega) only[vm,seval];rfl) slr (by omega) ?_).1⟩
     exact(hQ _ _ (by omega) h6.less).go
section cells
variable{E:Env}{F:Nat→Nat}{Γ:Ghost}{w:World}{a:Act}{af:List AVal}{st:St}
theorem MG (b:Nat): ∀(xs:List AVal) (vs:List Value) (i:Nat),AC b (xs.set i (xs.getD i .any).strip) vs≤AC b xs vs
  |[],_,_=>by simp[AC]
  |x::xs,[],i=>by cases i<;>simp[AC]
  | x::xs,v::vs,0=>by
    have:=F5 b x v
    simp only[List.getD_cons_zero,List.set_cons_zero,AC];omega
  | x::xs,v::vs,i+1=>by
    have:=MG b xs vs i
    simp only[List.getD_cons_succ,List.set_cons_succ,AC];omega
theorem Sim.stripCell{i:Nat}{cs:List AVal} (p:Nat) (hs:Sim E F Γ st w af a.tmps.toList) (hg:AZ st.m i=some cs):Sim E F Γ {st with m:=Ao st.m i (cs.set p (cs.getD p .any).strip)} w af a.tmps.toList:=by
  rcases hs.box_ok _ (Ip hg)with⟨b,arr,e,hb⟩|⟨v,hv⟩
  rotate_left
  · exact hs.setSh hg hv (hv.rep.setStrip p) (hv.own.setStrip p) fun n=>by have:=MG n cs [v] p;have h2:=hs.tok n;omega
  obtain⟨lo,hi,hh,hf⟩:=hb.heap
  exact(hs.setBox (w':=w) (cs':=cs.set p (cs.getD p .any).strip) (arr':=arr) (lo:=lo) (hi:=hi) hg hb hh hf (fun _ _=>rfl) rfl rfl rfl rfl (by rw[List.length_set];exact hb.rep.setStrip p) (hb.own.setStrip p) (by rw[List.length_set];exact hb.one)
          (fun n=>by have:=MG n cs arr.toList p;have h2:=hs.tok n;omega)).1
theorem QY{c:Code}{Q:APost}{i:Nat}{cs:List AVal} (p:Nat) (hg:AZ st.m i=some cs) (h:AWp E c Q af {st with m:=Ao st.m i (cs.set p (cs.getD p .any).strip)}):AWp E c Q af st:=
  ⟨fun F Γ w a hd hs=>h.go F Γ w a hd (Sim.stripCell p hs hg)⟩
end cells
def BD (p:JPsr) (k:Nat):Prop:=k≤1099511627776∧0≤p.nodes∧p.nodes≤20000∧p.stack.length≤64∧ ∀v,v∈p.stack→v.keys.length+k≤1099511627776∧v.items.length+k≤1099511627776
instance (p:JPsr) (k:Nat):Decidable (BD p k):=by unfold BD;exact inferInstance
theorem PS.all{p:JPsr}{i x:Nat}{c:List AVal}{m0 m:MS} (h:PS p i ((x,c)::m0) m): ∃Y:MS,m.Perm ((x,c)::(Y++m0)):=by
  cases h with
  |nil X hs h=>exact⟨(i,pc (.slice 5 [] true) p)::X,h.trans (by simpa using List.perm_middle (a:=(x,c)) (l₁:=(i,pc (.slice 5 [] true) p)::X) (l₂:=m0))⟩
  |box j ks junk X hk h=>exact⟨(i,pc (.gsl 5 j p.stack.length) p)::(j,Sq p.stack ks++junk)::(maps p.stack ks++X),h.trans (by simpa using List.perm_middle (a:=(x,c)) (l₁:=(i,pc (.gsl 5 j p.stack.length) p)::(j,Sq p.stack ks++junk)::(maps p.stack ks++X)) (l₂:=m0))⟩
theorem BD.put{p:JPsr}{v:ApiValue}{k:Nat} (h:BD p (k+1)) (h2:(OL p v).2=0):BD (OL p v).1 k:=by
  obtain⟨hk,h3,h4,h5,h6⟩:=h
  unfold OL at h2⊢
  by_cases hc:p.nodes+1>20000
  · rw[if_pos hc]at h2;cases h2
  · rw[if_neg hc]
    unfold KF
    rcases Ju (l:=p.stack)with hs|⟨st,w,hs⟩
    · simp only[hs,List.getLast?_nil]
      exact⟨by omega,by simp only[];omega,by simp only[];omega,by simp,by simp⟩
    · simp only[hs,List.getLast?_append,List.getLast?_singleton,Option.or_some,Option.some_or,List.dropLast_concat]
      rw[hs]at h5 h6
      refine⟨by omega,by simp only[];omega,by simp only[];omega,by simpa using h5,fun x hx=>?_⟩
      simp only[List.mem_append,List.mem_singleton]at hx
      rcases hx with hx|rfl
      · have:=h6 x (by simp[hx]);omega
      · have:=h6 w (by simp);simp only[List.length_append,List.length_cons,List.length_nil];omega
theorem BD.take{p:JPsr}{t:ApiToken}{q:JPsr×Int}{k:Nat} (h:BD p (k+1)) (hq:Rm N p t=some q) (h2:q.2=0):BD q.1 k:=by
  have less:BD p k:=⟨by have:=h.1;omega,h.2.1,h.2.2.1,h.2.2.2.1,fun v hv=>by have:=h.2.2.2.2 v hv;omega⟩
  obtain⟨hk,h3,h4,h5,h6⟩:=h
  have opn: ∀kd w,(JB p kd w).2=0→BD (JB p kd w).1 k:=by
    intro kd w h
    unfold JB at h⊢
    by_cases a:p.stack.length≥64
    · rw[if_pos a]at h;cases h
    · rw[if_neg a]at h⊢
      by_cases b:p.nodes+1>20000
      · rw[if_pos b]at h;cases h
      · rw[if_neg b]
        refine⟨by omega,by simp only[];omega,by simp only[];omega,by simp only[List.length_append,List.length_cons,List.length_nil];omega,fun x hx=>?_⟩
        simp only[List.mem_append,List.mem_singleton]at hx
        rcases hx with hx|rfl
        · have:=h6 x hx;omega
        · simp only[List.length_nil];omega
  unfold Rm at hq
  split at hq
  · cases hq;cases h2
  · split at hq
    · unfold Sj at hq
      split at hq
      · cases hq;exact opn _ _ h2
      · split at hq
        · cases hq;exact opn _ _ h2
        · split at hq
          · cases hq;exact less
          · rcases Ju (l:=p.stack)with hs|⟨st,w,hs⟩
            · simp[hs]at hq
            · simp only[hs,List.getLast?_append,List.getLast?_singleton,Option.or_some,Option.some_or,List.dropLast_concat]at hq
              split at hq
              · cases hq
                exact⟨less.1,less.2.1,less.2.2.1,by rw[←hs];exact less.2.2.2.1,fun v hv=>less.2.2.2.2 v (by rw[hs];exact hv)⟩
              · cases hq
                rw[hs]at h5 h6
                unfold KF
                rcases Ju (l:=st)with hs2|⟨st2,w2,hs2⟩
                · simp only[hs2,List.getLast?_nil]
                  exact⟨less.1,less.2.1,less.2.2.1,by simp,by simp⟩
                · simp only[hs2,List.getLast?_append,List.getLast?_singleton,Option.or_some,Option.some_or,List.dropLast_concat]
                  rw[hs2]at h5 h6
                  refine⟨less.1,less.2.1,less.2.2.1,by simp at h5⊢;omega,fun x hx=>?_⟩
                  simp only[List.mem_append,List.mem_singleton]at hx
                  rcases hx with hx|rfl
                  · have:=h6 x (by simp[hx]);omega
                  · have:=h6 w2 (by simp);simp only[List.length_append,List.length_cons,List.length_nil];omega
    · split at hq
      · unfold V5 at hq
        rcases Ju (l:=p.stack)with hs|⟨st,w,hs⟩
        · simp[hs]at hq
        · simp only[hs,List.getLast?_append,List.getLast?_singleton,Option.or_some,Option.some_or,List.dropLast_concat]at hq
          split at hq
          · cases hq;cases h2
          · cases hq
            rw[hs]at h5 h6
            refine⟨less.1,less.2.1,less.2.2.1,by simpa using h5,fun x hx=>?_⟩
            simp only[List.mem_append,List.mem_singleton]at hx
            rcases hx with hx|rfl
            · have:=h6 x (by simp[hx]);omega
            · have:=h6 w (by simp);simp only[List.length_append,List.length_cons,List.length_nil];omega
      · split at hq
        · cases hq;exact less
        · unfold Sl at hq
          split at hq
          · obtain⟨y,h7,h8⟩:=bind_some hq
            split at h8
            · cases h8;cases h2
            · cases h8;exact BD.put ⟨hk,h3,h4,h5,h6⟩ h2
          · split at hq
            · cases hq;exact BD.put ⟨hk,h3,h4,h5,h6⟩ h2
            · cases hq;exact BD.put ⟨hk,h3,h4,h5,h6⟩ h2
def JS (i:Nat) (m0:MS):Type:= {x:Int×JPsr×MS // PS x.2.1 i m0 x.2.2}
def JG (N:Nat) (a0:List UInt8){i:Nat}{m0:MS} (k:Nat) (x:JS i m0):Option (ApiValue×Int×Int):=grd (BD x.1.2.1 k) (Rp N a0 k x.1.1 x.1.2.1)
theorem JG0{a0:List UInt8}{i:Nat}{m0:MS}{x:JS i m0}:JG N a0 0 x=none:=by
  unfold JG grd;split<;>rfl
theorem ALI{a0:List UInt8}{r:ApiValue×Int×Int} (tokNum: ∀ {n:Nat}{m:MS}{Q:PQ}{args:List AVal} {a0 r},GN N a0=some r→args=[.str a0]→(∀n',n≤n'→Gl (Q (.tuple [.str r.1,.int .i64 r.2]) ⟨m,n'⟩))→ACall vE 260 args ⟨m,n⟩ Q)
    (tokNext: ∀ {n:Nat}{m:MS}{Q:PQ}{args:List AVal} {a0 a1 r},L9 N a0 a1=some r→args=[.str a0,.int .i64 a1]→(∀n',n≤n'→Gl (Q (.tuple [Ev r.1,.int .i64 r.2.1,.int .i64 r.2.2]) ⟨m,n'⟩))→ACall vE 147 args ⟨m,n⟩ Q)
    (h:JX N a0=some r) (ha:args=[.str a0]) (hQ: ∀n',n≤n'→Gl (Q (.tuple [Al r.1,.int .i64 r.2.1,.int .i64 r.2.2]) ⟨m,n'⟩)):ACall vE 95 args ⟨m,n⟩ Q:=by
 unfold JX at h
 by_cases hN:N>1099511627776
 · rw[if_pos hN]at h;cases h
 rw[if_neg hN]at h
 subst ha
 refine Ac5 hQ Tryz.func95 rfl Tryz.ntmps95 Tryz.results95 (.q (.r []) (.q (.q (.r []) (.c (.q (.r []) .z) .z)) (.q (.r []) (.q (.r []) .z)))) fun R hR=>?_
 by_cases hl:a0.length>1048576
 · rw[if_pos hl]at h
   cases h
   have hc:decide ((1048576:Int)<(a0.length:Int))=true:=by simp;omega
   simp(disch:=omega) only[vm,seval,hc]
   refine⟨(hR _ _ _ _ _ _ (by simp(disch:=omega) only[vm,seval];rfl) (.cons _ slr) rfl (by omega) ?_).1⟩
   simp(disch:=omega) only[vm,seval,Hy,FK]
 · rw [if_neg hl]at h
   have hc:decide ((1048576:Int)<(a0.length:Int))=false:=by simp;omega
   simp(disch:=omega) only[vm,seval,hc]
   have hnn:n+1≠n:=by omega
   refine⟨QY (i:=n+1) 5 AAo (QY (i:=n+1) 6 (by simp only[vm];rfl) ?_)⟩
   simp(disch:=omega) only[vm,seval]
   generalize hcell:([.int .i64 0,.str [],.slice 1 [] true,.slice 4 [] true]:List AVal)=cell
   have hcl:cell.length=4:=by subst hcell;rfl
   have s0:PS ⟨[],0,0,Hy⟩ (n+1) ((n,cell)::m) ((n+1,pc (.slice 5 [] true) ⟨[],0,0,Hy⟩)::(n,cell)::m):=.nil [] rfl (List.Perm.refl _)
   have hG:True∧JG N a0 N (⟨(0,⟨[],0,0,Hy⟩,(n+1,pc (.slice 5 [] true) ⟨[],0,0,Hy⟩)::(n,cell)::m),s0⟩:JS (n+1) ((n,cell)::m))=some r:=by
     refine⟨trivial,?_⟩
     have:BD ⟨[],0,0,Hy⟩ N:=⟨Nat.not_lt.1 hN,by simp,by simp,by simp,by simp⟩
     simp only[JG,grd,if_pos this]
     exact h
   refine AGl (σ:=JS (n+1) ((n,cell)::m)) (γ:=Unit) (JG N a0) (fun x _=>[.int .i64 x.1.1]) (fun x _=>x.1.2.2) [7,8,9,10,15,16,17,18,19,20,21,22,23,24,25,26,27,28,29,30,31,32,33,34,35,36,37,38,39,40,41,42] [6] ⟨(0,⟨[],0,0,Hy⟩,(n+1,pc (.slice 5 [] true) ⟨[],0,0,Hy⟩)::(n,cell)::m),s0⟩ () hG (fun x=>JG0) ?_ ?_ ?_
   · simp only[pc,Hy,List.map_nil]
   · simp(disch:=omega) only[vm,seval]
   rintro k ⟨⟨at_,p,m1⟩,hps⟩ _ n1 hn1 hk1 h1 Jk hJ
   simp only at hps hk1 h1 hJ
   refine AWp.nodup fun hnd=>?_
   refine BM (.q (.r []) (.q (.q (.r []) (.c .z .z)) (.q (.q (.r []) (.q (.r []) (.c .z .z))) .z))) ?_
   obtain⟨hbd,h2⟩:=WG (show grd (BD p (k+1)) (Rp N a0 (k+1) at_ p)=some r from h1.2)
   rw[Rp]at h2
   obtain⟨y,h3,h4⟩:=bind_some h2
   simp(disch:=omega) only[vm,seval]
   refine⟨tokNext h3 (by first|(simp(disch:=omega) only[vm,seval];done)|rfl) fun n2 hn2=>?_⟩
   have hn12:n<n1:=by omega
   have hfin: ∀(x:ApiValue) (a b:Int),True:=fun _ _ _=>trivial
   subst hcell
   have hnp:n+1<n1:=by
     rcases Nat.lt_or_ge (n+1) n1 with h|h
     · exact h
     · obtain⟨sv,hg,_⟩:=hps.put hnd
       have:=hk1 (n+1) h;rw[hg]at this;cases this
   have hn_2:n≠n2:=by omega
   have hp_2:n+1≠n2:=by omega
   cases h5:y.2.2 !=0
   · simp only[h5,Bool.false_eq_true,if_false]at h4
     obtain⟨q,h6,h7⟩:=bind_some h4
     simp(disch:=omega) only[vm,seval,h5]
     have hps2:=hps.more (n2,[.int .i64 y.1.kind,.str y.1.text,.int .i64 y.1.at_])
     refine⟨AP9 (i:=n+1) tokNum hps2 h6 ⟨hbd.2.1,hbd.2.2.1⟩ (by have:=hbd.2.2.2.1;simp[Bl];omega) (fun v hv=>by have:=hbd.2.2.2.2 v hv;omega) (by first|(simp(disch:=omega) only[vm,seval];done)|rfl) fun n5 m5 hn5 h8=>?_⟩
     have hln: ∀x c,(x,c)∈(n2,[.int .i64 y.1.kind,.str y.1.text,.int .i64 y.1.at_])::(n,[.int .i64 0,.str [],.slice 1 [] true,.slice 4 [] true])::m→(m5.map (·.1)).Nodup→AZ m5 x=some c:=fun x c hx hd=>h8.get hd hx
     have hpm: ∃Y:MS,m5.Perm ((n,[.int .i64 0,.str [],.slice 1 [] true,.slice 4 [] true])::(n2,[.int .i64 y.1.kind,.str y.1.text,.int .i64 y.1.at_])::(Y++m)):=by
       obtain⟨Y,hY⟩:=h8.all
       refine⟨Y,hY.trans ?_⟩
       refine(List.Perm.cons _ ?_).trans (List.Perm.swap _ _ _)
       simp
     cases h9:q.2 !=0
     · simp only[h9,Bool.false_eq_true,if_false]at h7
       simp(disch:=omega) only[vm,seval,h9]
       refine⟨AWp.nodup fun hd5=>?_⟩
       have ht5:=hln n2 _ List.mem_cons_self hd5
       obtain⟨sv,hg5,hsv5,_⟩:=h8.put hd5
       refine BM (.q (.q (.r []) (.c .z .z)) (.r [])) ?_
       cases h10:y.1.kind==1
       · simp only[h10,Bool.false_eq_true,if_false]at h7
         simp(disch:=omega) only[vm,seval,ht5,h10]
         have hps5:PS q.1 (n+1) ((n,[.int .i64 0,.str [],.slice 1 [] true,.slice 4 [] true])::m) m5:=h8.less
         have hb5:BD q.1 k:=BD.take hbd h6 (by simpa using h9)
         have hg:JG N a0 k (⟨(y.2.1,q.1,m5),hps5⟩:JS (n+1) ((n,[.int .i64 0,.str [],.slice 1 [] true,.slice 4 [] true])::m))=some r:=by
           simp only[JG,grd,if_pos hb5];exact h7
         refine⟨hJ _ () _ _ _ _ hg slr rfl ?_ ?_ (by omega)⟩<;>first|(simp(disch:=omega) only[vm,seval];done)|rfl
       · simp only[h10,if_true,Option.some.injEq]at h7
         subst h7
         simp(disch:=omega) only[vm,seval,ht5,h10]
         obtain⟨Y,hY⟩:=hpm
         have hgp:AZ ((n,[.int .i64 0,.str [],.slice 1 [] true,.slice 4 [] true])::(n2,[.int .i64 y.1.kind,.str y.1.text,.int .i64 y.1.at_])::(Y++m)) (n+1)=some (pc sv q.1):=by
           refine Eb (Qq hY hd5) (hY.mem_iff.1 ?_)
           exact Ip hg5
         have hgp2:AZ (Y++m) (n+1)=some (pc sv q.1):=by
           rw[R9 (by omega),R9 (by omega)]at hgp;exact hgp
         refine⟨Vn hY ?_⟩
         refine BM (.q (.r []) .z) ?_
         simp(disch:=omega) only[vm,seval,hgp2,pc]
         refine⟨(hR _ _ _ _ _ _ (by simp(disch:=omega) only[vm,seval];rfl) (.cons _ (.cons _ (List.sublist_append_right Y m))) rfl (by omega) ?_).1⟩
         simp(disch:=omega) only[vm,seval,FK]
     · simp only[h9,if_true,Option.some.injEq]at h7
       subst h7
       simp(disch:=omega) only[vm,seval,h9]
       obtain⟨Y,hY⟩:=hpm
       refine⟨Vn hY ?_⟩
       refine BM (.q .z .z) ?_
       simp(disch:=omega) only[vm,seval]
       refine⟨Jg [] (.take 1 (.take 2 (.take 3 (.alt 0 [3,2,1] (.alt 4 [3,2,1] (.alt 5 [3] (.alt 6 [] (.done) (.stop)) (.stop)) (.stop)) (.stop))))) HY (by kernel_rfl) ?_⟩
       simp(disch:=omega) only[vm,seval]
       refine⟨(hR _ _ _ _ _ _ (by simp(disch:=omega) only[vm,seval];rfl) (.cons _ (.cons _ (List.sublist_append_right Y m))) rfl (by omega) ?_).1⟩
       simp(disch:=omega) only[vm,seval,Hy,FK]
   · simp only[h5,if_true,Option.some.injEq]at h4
     subst h4
     simp(disch:=omega) only[vm,seval,h5]
     obtain⟨Y,hY⟩:=hps.all
     refine⟨Vn ((hY.cons _).trans (List.Perm.swap _ _ _)) ?_⟩
     refine BM (.q (.r []) .z) ?_
     simp(disch:=omega) only[vm,seval]
     refine⟨(hR _ _ _ _ _ _ (by simp(disch:=omega) only[vm,seval];rfl) (.cons _ (.cons _ (List.sublist_append_right Y m))) rfl (by omega) ?_).1⟩
     simp(disch:=omega) only[vm,seval,Hy,FK]
theorem Ui {a0 r} (h:JX N a0=some r) (ha:args=[.str a0]) (hQ: ∀n',n≤n'→Gl (Q (.tuple [Al r.1,.int .i64 r.2.1,.int .i64 r.2.2]) ⟨m,n'⟩)):ACall vE 95 args ⟨m,n⟩ Q:=ALI (fun h ha hq=>Vh h ha hq) (fun h ha hq=>AEf h ha hq) h ha hQ
instance ATZ {a0}:CF vE (JX N a0) 95 [.str a0] (fun r=>.tuple [Al r.1,.int .i64 r.2.1,.int .i64 r.2.2]):=⟨fun h hQ=>Ui h rfl hQ⟩
end Go.Proofs.YtcahkpfjpeomoaaGreatDoor
