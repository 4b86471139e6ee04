import Derived.Test.YtfknikagmmfakaaGreatDoorW22
set_option linter.unusedVariables false
set_option linter.unusedSimpArgs false
set_option maxHeartbeats 4000000
set_option maxRecDepth 100000
set_option linter.defProp false
namespace Go.Proofs.YtfknikagmmfakaaGreatDoor
open Go.VM
attribute [local irreducible] AA grd letL
variable{N n:Nat}{m:MS}{Q:PQ}{args:List AVal}
theorem JX{t:TypeId}{w i l:Nat} (h:Ar vE.P t=true):Nf vE t (.gsl w i l)=some (.int .i64 l):=by simp[Nf,h]
theorem K9{w i l:Nat}:(AVal.gsl w i l).strip=.gsl w i l:=rfl
theorem M3{w i l:Nat}:AV (.gsl w i l)=[.gsl w i l]:=rfl
theorem QK{w i l:Nat}:Bo (.gsl w i l)=true:=rfl
theorem QT{w i l:Nat}:JA (.gsl w i l)=false:=rfl
theorem AS6{i l:Nat} (h:0<l∧l≤Bf):CW vE 328 (.gsl 5 i l) (.int .i64 (wr .i64 ((l:Int)-1)))=some (.ptr i ((l-1) * 5)):=by
  have e:wr .i64 ((l:Int)-1)=((l-1:Nat):Int):=by
    have h2:=h.2
    have h1:((l:Int)-1)=((l-1:Nat):Int):=by omega
    rw[h1]
    exact ALK (by omega)
  rw[e]
  have h3:l-1<l:=by omega
  simp[CW,RS,h3]
theorem ANd{i j len:Nat}{pc:List AVal} (hl:0<len∧len≤Bf) (ha:args=[.ptr i 0]) (hQ: ∀n',n≤n'→Gl (Q (.ptr j ((len-1)*5)) ⟨(i,.gsl 5 j len::pc)::m,n'⟩)):ACall vE 438 args ⟨(i,.gsl 5 j len::pc)::m,n⟩ Q:=by
 have h:True∧True:=⟨trivial,trivial⟩
 subst ha
 refine ent hQ Tryz.func438 rfl Tryz.ntmps438 Tryz.results438 (.q (.r []) (.q .z .z)) fun R hR=>?_
 simp(disch:=omega) only[vm,seval,h.1]
 refine⟨L6 [] (.take 0 (.take 1 (.take 2 (.take 3 (.take 4 (.take 5 (.take 6 (.take 7 (.take 8 (.take 9 (.take 10 (.alt 11 [] (.done) (.stop))))))))))))) JY (by kernel_rfl) ?_⟩
 simp(disch:=omega) only[vm,seval,h.1,JX Cu,K9,AS6 hl]
 refine⟨(hR _ _ _ _ _ _ (by simp(disch:=omega) only[vm,seval,h.1];rfl) slr ?_ (by omega) ?_).1⟩<;>first|(simp(disch:=omega) only[vm,seval,h.1];done)|rfl
theorem Sc{i j len:Nat}{pc:List AVal} (hm:Ab m i=some (.gsl 5 j len::pc)) (hl:0<len∧len≤Bf) (ha:args=[.ptr i 0]) (hQ: ∀n',n≤n'→Gl (Q (.ptr j ((len-1)*5)) ⟨m,n'⟩)):ACall vE 438 args ⟨m,n⟩ Q:=by
 have h:True∧True:=⟨trivial,trivial⟩
 subst ha
 refine ent hQ Tryz.func438 rfl Tryz.ntmps438 Tryz.results438 (.q (.r []) (.q .z .z)) fun R hR=>?_
 simp(disch:=omega) only[vm,seval,h.1,hm]
 refine⟨L6 [] (.take 0 (.take 1 (.take 2 (.take 3 (.take 4 (.take 5 (.take 6 (.take 7 (.take 8 (.take 9 (.take 10 (.alt 11 [] (.done) (.stop))))))))))))) JY (by kernel_rfl) ?_⟩
 simp(disch:=omega) only[vm,seval,h.1,JX Cu,K9,AS6 hl,hm]
 refine⟨(hR _ _ _ _ _ _ (by simp(disch:=omega) only[vm,seval,h.1,hm];rfl) slr ?_ (by omega) ?_).1⟩<;>first|(simp(disch:=omega) only[vm,seval,h.1,hm];done)|rfl
theorem APQ:(Oy vE.P 425).map (Bb vE.P)=some (some (.bool false)):=by kernel_rfl
theorem Pb: ∃e,Oy vE.P 425=some e∧Bb vE.P e=some (.bool false):=by
  have h:=APQ
  cases he:Oy vE.P 425 with
  |none=>rw[he]at h;cases h
  |some e=>rw[he]at h;simp only[Option.map_some,Option.some.injEq]at h;exact⟨e,rfl,h⟩
theorem AL2{s:List UInt8}: ∀ {keys:List (List UInt8)},s∈keys→Im keys (keys.map fun _=>AVal.bool true) s=some (.bool true)
  | k::ks,h=>by
    simp only[List.map_cons,Im]
    split
    · rfl
    · rename_i hn
      rcases List.mem_cons.1 h with h|h
      · exact absurd h hn
      · exact AL2 h
theorem Yt{s:List UInt8}: ∀ {keys:List (List UInt8)},s∉keys→Im keys (keys.map fun _=>AVal.bool true) s=none
  |[],_=>rfl
  | k::ks,h=>by
    simp only[List.mem_cons,not_or]at h
    simp only[List.map_cons,Im]
    rw[if_neg h.1]
    exact Yt h.2
theorem AOD{s:List UInt8}{x:AVal}: ∀ {keys:List (List UInt8)}{vs:List AVal},s∉keys→vs.length=keys.length→EQ keys s=keys++[s]∧Ic keys vs s x=vs++[x]
  |[],[],_,_=>⟨rfl,rfl⟩
  |[],_::_,_,h=>by simp at h
  |k::ks,[],_,h=>by simp at h
  | k::ks,v::vs,h,hl=>by
    simp only[List.mem_cons,not_or]at h
    obtain⟨h1,h2⟩:=AOD (x:=x) h.2 (by simpa using hl:vs.length=ks.length)
    simp only[EQ,Ic,if_neg h.1,h1,h2,List.cons_append,and_self]
theorem AjB{k:Nat}{s:List UInt8}{keys:List (List UInt8)}{st:St} (hm:Ab st.m k=some [.map keys (keys.map fun _=>.bool true)]) (hin:s∈keys):Mh vE 425 (.sh k) (.str s) false st=some (.bool true):=by
  obtain⟨e,h1,h2⟩:=Pb
  simp[Mh,h1,h2,Qk,hm,AL2 hin,AVal.strip]
theorem Aea{k:Nat}{s:List UInt8}{keys:List (List UInt8)}{st:St} (hm:Ab st.m k=some [.map keys (keys.map fun _=>.bool true)]) (hin:s∉keys):Mh vE 425 (.sh k) (.str s) false st=some (.bool false):=by
  obtain⟨e,h1,h2⟩:=Pb
  simp[Mh,h1,h2,Qk,hm,Yt hin,AVal.strip]
theorem AiV{k:Nat}{s:List UInt8}{keys:List (List UInt8)}{st:St} (hm:Ab st.m k=some [.map keys (keys.map fun _=>.bool true)]) (hin:s∉keys):Vz vE 425 (.sh k) (.str s) (.bool true) st=some {st with m:=Ak st.m k [.map (keys++[s]) ((keys++[s]).map fun _=>.bool true)]}:=by
  obtain⟨e,h1,h2⟩:=Pb
  obtain⟨h3,h4⟩:=AOD (x:=AVal.bool true) (vs:=keys.map fun _=>AVal.bool true) hin (by simp)
  simp[Vz,h1,Qk,hm,h3,h4]
theorem drop_at{q c:Nat}{pre l junk:List AVal} (h:pre.length=q):List.drop (q+c) (pre++l++junk)=List.drop c (l++junk):=by
  subst h
  rw[List.append_assoc,List.drop_append]
  simp
theorem get_at{q c:Nat}{pre l junk:List AVal} (h:pre.length=q):(pre++l++junk)[q+c]?=(l++junk)[c]?:=by
  subst h
  rw[List.append_assoc,List.getElem?_append_right (by omega)]
  congr 1;omega
theorem AbR{q c:Nat}{x:AVal}{pre l junk:List AVal} (h:pre.length=q) (hc:decide (c<l.length)=true):(pre++l++junk).set (q+c) x=pre++l.set c x++junk:=by
  subst h
  have hc:c<l.length:=by simpa using hc
  rw[List.append_assoc,List.set_append_right _ _ (by omega),List.set_append_left _ _ (by omega),List.append_assoc]
  congr 2
  congr 1;omega
theorem Anv{q:Nat}{a b c d e x:AVal}{pre junk:List AVal} (h:pre.length=q):(pre++[a,b,c,d,e]++junk).set (q+2) x=pre++[a,b,x,d,e]++junk:=AbR h rfl
theorem Aji{q:Nat}{a b c d e x:AVal}{pre junk:List AVal} (h:pre.length=q):(pre++[a,b,c,d,e]++junk).set (q+3) x=pre++[a,b,c,x,e]++junk:=AbR h rfl
theorem AUv{i j k len:Nat}{pre junk:List AVal}{keys:List (List UInt8)}{kd wt nd text it o1 o2 o3 o4:AVal}{s:List UInt8} (hd:j≠i∧k≠i∧k≠j) (hp:pre.length=(len-1) * 5) (hl:0<len∧len≤Bf) (ha:args=[.ptr i 0,.str s])
    (hin:s∈keys) (hQ: ∀n',n≤n'→Gl (Q (.int .i64 143) ⟨(i,[.gsl 5 j len,wt,nd,o1,o2,o3,o4])::(j,pre++[kd,text,.slice 1 (keys.map AVal.str) true,it,.sh k]++junk)::(k,[.map keys (keys.map fun _=>.bool true)])::m,n'⟩)):
    ACall vE 391 args ⟨(i,[.gsl 5 j len,wt,nd,o1,o2,o3,o4])::(j,pre++[kd,text,.slice 1 (keys.map AVal.str) true,it,.sh k]++junk)::(k,[.map keys (keys.map fun _=>.bool true)])::m,n⟩ Q:=by
 have h:True∧True:=⟨trivial,trivial⟩
 obtain⟨hd1,hd2,hd3⟩:=hd
 subst ha
 refine ent hQ Tryz.func391 rfl Tryz.ntmps391 Tryz.results391 (.q (.r []) (.q (.r []) (.q (.q (.r []) (.c (.q (.r []) .z) .z)) .z))) fun R hR=>?_
 simp(disch:=omega) only[vm,seval,h.1]
 refine⟨ANd hl tD fun n2 hn2=>?_⟩
 have hg:Ab ((i,[.gsl 5 j len,wt,nd,o1,o2,o3,o4])::(j,pre++[kd,text,.slice 1 (keys.map AVal.str) true,it,.sh k]++junk)::(k,[.map keys (keys.map fun _=>.bool true)])::m) k=some [.map keys (keys.map fun _=>.bool true)]:=by simp[Ab,hd2,hd3]
 have hlk:=AjB (st:=⟨_,n2⟩) hg hin
 simp(disch:=omega) only[vm,seval,h.1,drop_at hp,TZ,ASb,hlk]
 refine⟨(hR _ _ _ _ _ _ (by simp(disch:=omega) only[vm,seval,h.1];rfl) slr rfl (by omega) ?_).1⟩<;>first|(simp(disch:=omega) only[vm,seval,h.1];done)|rfl
theorem ASl{i j k len:Nat}{pre junk:List AVal}{keys:List (List UInt8)}{kd wt nd text it o1 o2 o3 o4:AVal}{s:List UInt8} (hd:j≠i∧k≠i∧k≠j) (hp:pre.length=(len-1) * 5) (hl:0<len∧len≤Bf) (ha:args=[.ptr i 0,.str s])
    (hin:s∉keys) (hb:keys.length≤1099511627776) (hQ: ∀n',n≤n'→Gl (Q (.int .i64 0) ⟨(i,[.gsl 5 j len,.int .i64 4,nd,o1,o2,o3,o4])::(j,pre++[kd,text,.slice 1 ((keys++[s]).map AVal.str) true,it,.sh k]++junk)::(k,[.map (keys++[s]) ((keys++[s]).map fun _=>.bool true)])::m,n'⟩)):
    ACall vE 391 args ⟨(i,[.gsl 5 j len,wt,nd,o1,o2,o3,o4])::(j,pre++[kd,text,.slice 1 (keys.map AVal.str) true,it,.sh k]++junk)::(k,[.map keys (keys.map fun _=>.bool true)])::m,n⟩ Q:=by
 have h:True∧True:=⟨trivial,trivial⟩
 obtain⟨hd1,hd2,hd3⟩:=hd
 subst ha
 refine ent hQ Tryz.func391 rfl Tryz.ntmps391 Tryz.results391 (.q (.r []) (.q (.r []) (.q (.q (.r []) (.c (.q (.r []) .z) .z)) (.q (.r []) (.q (.r [24]) (.q (.r []) (.q (.r []) .z))))))) fun R hR=>?_
 simp(disch:=omega) only[vm,seval,h.1]
 refine⟨ANd hl tD fun n2 hn2=>?_⟩
 have hg:Ab ((i,[.gsl 5 j len,wt,nd,o1,o2,o3,o4])::(j,pre++[kd,text,.slice 1 (keys.map AVal.str) true,it,.sh k]++junk)::(k,[.map keys (keys.map fun _=>.bool true)])::m) k=some [.map keys (keys.map fun _=>.bool true)]:=by simp[Ab,hd2,hd3]
 have hlk:=Aea (st:=⟨_,n2⟩) hg hin
 have hup:=AiV (st:=⟨_,n2⟩) hg hin
 have hft:Ah (keys.length+1) 16:=by unfold Ah;omega
 have hr2:(len-1) * 5+3≤pre.length+(5+junk.length):=by omega
 simp(disch:=omega) only[vm,seval,h.1,drop_at hp,TZ,SI,ASb,hlk,hup,get_at hp,Anv hp,hft,hr2,if_true]
 refine⟨(hR _ _ _ _ _ _ (by simp(disch:=omega) only[vm,seval,h.1];rfl) slr ?_ (by omega) ?_).1⟩<;>first|(simp(disch:=omega) only[vm,seval,h.1];done)|rfl
theorem UN{E:Env}{c:Code}{f:FuncId}{fn:Func}{nt:Nat}{rs:List ResultVar}{args:List AVal}{m:MS}{n:Nat}{Q:PQ} (hf:E.P.funcs[f]?=some fn) (hb:fn.body=some c)
    (hn:fn.ntmps=nt) (hr:fn.results=rs.toArray) (a:An)
    (h: ∀R:APost,(∀af st xs m0 m1 n',Mq E rs af st=some (xs,⟨m1,n'⟩)→m0.Sublist m1→n≤n'→Q (Om xs) ⟨m0,n'⟩→R .ret af st∧R .normal af st)→Gl (wpc E c a R (args++List.replicate (nt-args.length) .any) ⟨m,n⟩)):ACall E f args ⟨m,n⟩ Q:=by
  refine Ja hf hb ?_
  have hw:=MI a (h (He E fn Q) ?_).go
  · subst hn;exact hw
  · intro af st xs m0 m1 n' h1 h2 h3 h4
    have e:fn.results.toList=rs:=by rw[hr]
    exact⟨Hz (by rw[e];exact h1) h2 h4,IC (by rw[e];exact h1) h2 h4⟩
theorem UO:Bb vE.P 427=some (.agg [.int .i64 0,.str [],.slice 1 [] true,.slice 4 [] true,.nmap]):=by kernel_rfl
theorem APU{i j len:Nat}{lc:List AVal}{kd want nodes:Int}{wt o1 o2 o3 o4:AVal} (hd:j≠i) (hlc:len * 5≤lc.length) (hl:len<64) (hn:0≤nodes∧nodes+1≤20000) (ha:args=[.ptr i 0,.int .i64 kd,.int .i64 want])
    (hQ: ∀n' j' k',n≤n'→(j'=j∨n≤j')→n≤k'→k'≠j'→Gl (Q (.int .i64 0) ⟨(j',lc.take (len * 5)++[.int .i64 kd,.str [],.slice 1 [] true,.slice 4 [] true,.sh k'])::(k',[.map [] []])::(i,[.gsl 5 j' (len+1),.int .i64 want,.int .i64 (nodes+1),o1,o2,o3,o4])::m,n'⟩)):
    ACall vE 440 args ⟨(i,[.gsl 5 j len,wt,.int .i64 nodes,o1,o2,o3,o4])::(j,lc)::m,n⟩ Q:=by
 refine ACall.known fun _ hkn=>?_
 have h:True∧True:=⟨trivial,trivial⟩
 have hi:i<n:=by
   rcases Nat.lt_or_ge i n with h|h
   · exact h
   · have:=hkn i h;simp[Ab]at this
 have hj:j<n:=by
   rcases Nat.lt_or_ge j n with h|h
   · exact h
   · have:=hkn j h;simp[Ab,hd]at this
 subst ha
 refine UN Tryz.func440 rfl Tryz.ntmps440 Tryz.results440 (.q (.r []) (.q (.q (.r []) (.c (.q (.r []) .z) .z)) (.q (.q (.r []) (.q (.r []) (.c (.q (.r []) .z) .z))) (.q (.r [29,34]) (.q (.r []) (.q (.r []) .z)))))) fun R hR=>?_
 have hc1:decide ((64:Int)≤len)=false:=by simp;omega
 have hc2:decide ((20000:Int)<nodes+1)=false:=by simp;omega
 have hw:wr .i64 (nodes+1)=nodes+1:=by
   obtain⟨q,rfl⟩: ∃q:Nat,nodes=q:=⟨nodes.toNat,by omega⟩
   exact Y5 (by simp[Bf];omega)
 simp(disch:=omega) only[vm,seval,h.1,JX Cu,K9,M3,hc1,hc2,hw,UO,V5,Fy]
 have happ:ANx vE 328 328 (AVal.gsl 5 j len) (AVal.gsl 5 (n+1) 1) {m:=(n+1,List.flatMap (fun p=>AV p.snd) [((0:Nat),AVal.agg [AVal.int IntKind.i64 kd,AVal.str [],AVal.slice 1 [] true,AVal.slice 4 [] true,AVal.sh n])])::(n,[AVal.map [] []])::(i,[AVal.gsl 5 j len,wt,AVal.int IntKind.i64 (nodes+1),o1,o2,o3,o4])::(j,lc)::m,next:=n+2}
   =some (5,len+1,lc.take (len * 5)++[.int .i64 kd,.str [],.slice 1 [] true,.slice 4 [] true,.sh n],(n,[AVal.map [] []])::(i,[AVal.gsl 5 j len,wt,AVal.int IntKind.i64 (nodes+1),o1,o2,o3,o4])::m,some j):=by
   have e1: ¬j=n:=by omega
   have e2: ¬j=n+1:=by omega
   have e3:(len+1) * 80≤140737488355328∧len+1≤Bf:=by simp[Bf];omega
   simp[ANx,Ab,Ce,Vp,Vu,Rj,AV,hd,e1,e2,e3,hlc]
 rw[happ]
 constructor
 intro j' hj'
 have hj1:j'≠i∧j'≠n∧(j'=j∨n≤j'):=by
   rcases hj' with hj'|hj'
   · simp only at hj';omega
   · cases hj';omega
 obtain⟨hj1,hj2,hj3⟩:=hj1
 have hin:i≠n:=by omega
 refine Gl.go ?_
 simp(disch:=omega) only[vm,seval,h.1,K9,M3,QK,QT]
 refine⟨(hR _ _ _ _ _ _ (by simp(disch:=omega) only[vm,seval,h.1];rfl) slr (by omega) ?_).1⟩
 exact(hQ _ j' n (by omega) (by omega) (by omega) (by omega)).go
theorem Ww{i j:Nat}{v:ApiValue}{wt nd o1 o2 o3 o4:AVal} (ha:args=[.ptr i 0,AB v])
    (hQ: ∀n',n≤n'→Gl (Q (.tuple []) ⟨(i,[.gsl 5 j 0,.int .i64 6,nd,.int .i64 v.kind,.str v.text,.slice 1 (v.keys.map AVal.str) false,.slice 4 (v.items.map AB) false])::m,n'⟩)):
    ACall vE 441 args ⟨(i,[.gsl 5 j 0,wt,nd,o1,o2,o3,o4])::m,n⟩ Q:=by
 refine ACall.known fun _ hkn=>?_
 have h:True∧True:=⟨trivial,trivial⟩
 have hi:i<n:=by
   rcases Nat.lt_or_ge i n with h|h
   · exact h
   · have:=hkn i h;simp[Ab]at this
 subst ha
 refine UN Tryz.func441 rfl Tryz.ntmps441 Tryz.results441 (.q (.r []) (.q (.q (.r []) (.c (.q (.r []) .z) .z)) .z)) fun R hR=>?_
 simp(disch:=omega) only[vm,seval,h.1,JX Cu,K9,M3,QK,QT]
 refine⟨(hR _ _ _ _ _ _ (by simp(disch:=omega) only[vm,seval,h.1];rfl) (.cons _ slr) (by omega) ?_).1⟩
 exact(hQ _ (by omega)).go
theorem ANc{i:Nat}{v:ApiValue}{wt nd o1 o2 o3 o4:AVal} (ha:args=[.ptr i 0,AB v])
    (hQ: ∀n',n≤n'→Gl (Q (.tuple []) ⟨(i,[.slice 5 [] true,.int .i64 6,nd,.int .i64 v.kind,.str v.text,.slice 1 (v.keys.map AVal.str) false,.slice 4 (v.items.map AB) false])::m,n'⟩)):
    ACall vE 441 args ⟨(i,[.slice 5 [] true,wt,nd,o1,o2,o3,o4])::m,n⟩ Q:=by
 refine ACall.known fun _ hkn=>?_
 have h:True∧True:=⟨trivial,trivial⟩
 have hi:i<n:=by
   rcases Nat.lt_or_ge i n with h|h
   · exact h
   · have:=hkn i h;simp[Ab]at this
 subst ha
 refine UN Tryz.func441 rfl Tryz.ntmps441 Tryz.results441 (.q (.r []) (.q (.q (.r []) (.c (.q (.r []) .z) .z)) .z)) fun R hR=>?_
 simp(disch:=omega) only[vm,seval,h.1,JX Cu,K9,M3,QK,QT]
 refine⟨(hR _ _ _ _ _ _ (by simp(disch:=omega) only[vm,seval,h.1];rfl) (.cons _ slr) (by omega) ?_).1⟩
 exact(hQ _ (by omega)).go
theorem Alp{E:Env}{t:TypeId}{q:Nat}{x:AVal}:CW E t (.sh q) x=none:=by cases x<;>rfl
theorem AlA{q k:Nat}{items:List ApiValue}:EL vE 113 (.sh q) (.int .i64 (items.length:Int)) ⟨(q,[.slop 4 (List.map AB items)])::m,k⟩=some (.sptr q 4 items.length):=by
  simp[EL,Ri,Ab,Vt]
theorem AMH{E:Env}{t:TypeId}{j off q w k:Nat}{xs:List AVal}{o:Bool}:PI E t (.ptr j off) (.sh q) ⟨(q,[.slice w xs o])::m,k⟩=Kn E t (.ptr j off) (.slice w xs o) ⟨(q,[.slice w xs false])::m,k⟩:=by
  simp[PI,Ab,Ak,JA,Kn]
theorem AN5{E:Env}{t:TypeId}{j off q w k:Nat}{xs:List AVal}:PI E t (.ptr j off) (.sh q) ⟨(q,[.slop w xs])::m,k⟩=TP E t (.ptr j off) (.sh q) ⟨(q,[.slop w xs])::m,k⟩:=by
  simp[PI,Ab,NQ]
theorem AlM{E:Env}{id:Nat}{os:Array Oper}{b:Bool}{K:APost}{af:List AVal}{st:St}:wpc E (.region id os b) .z K af st=AWp E (.region id os b) K af st:=by rw[wpc]<;>simp
theorem AMa{i j len:Nat}{v:ApiValue}{items:List ApiValue}{pre junk:List AVal}{wt nd o1 o2 o3 o4 kd tx ks sk:AVal} (hd:j≠i) (hp:pre.length=(len-1) * 5) (hl:0<len∧len≤Bf) (hb:items.length≤1099511627776) (ha:args=[.ptr i 0,AB v])
    (hQ: ∀n',n≤n'→Gl (Q (.tuple []) ⟨(i,[.gsl 5 j len,.int .i64 5,nd,o1,o2,o3,o4])::(j,pre++[kd,tx,ks,.slice 4 ((items++[v]).map AB) true,sk]++junk)::m,n'⟩)):
    ACall vE 441 args ⟨(i,[.gsl 5 j len,wt,nd,o1,o2,o3,o4])::(j,pre++[kd,tx,ks,.slice 4 (items.map AB) true,sk]++junk)::m,n⟩ Q:=by
 refine ACall.known fun _ hkn=>?_
 have h:True∧True:=⟨trivial,trivial⟩
 have hi:i<n:=by
   rcases Nat.lt_or_ge i n with h|h
   · exact h
   · have:=hkn i h;simp[Ab]at this
 have hj:j<n:=by
   rcases Nat.lt_or_ge j n with h|h
   · exact h
   · have:=hkn j h;simp[Ab,hd]at this
 subst ha
 refine UN Tryz.func441 rfl Tryz.ntmps441 Tryz.results441 (.q (.r []) (.q (.q (.r []) (.c (.q (.r []) .z) .z)) (.q (.r []) (.q .z .z)))) fun R hR=>?_
 have hc:((len:Int)==0)=false:=by simp;omega
 simp(disch:=omega) only[vm,seval,h.1,JX Cu,K9,M3,QK,QT,hc]
 have hin:i≠n:=by omega
 refine⟨Sc (pc:=[wt,nd,o1,o2,o3,o4]) (j:=j) (len:=len) ?_ hl tD fun n2 hn2=>?_⟩
 · simp[Ab,hin]
 simp(disch:=omega) only[vm,seval,h.1]
 refine⟨L6 [24,28] (.take 0 (.take 1 (.take 2 (.take 3 (.take 5 (.take 7 (.alt 4 [7,5,2,1,0] (.take 6 (.alt 8 [] (.take 11 (.take 12 (.take 13 (.alt 9 [13,12,11] (.alt 10 [13,12,11] (.alt 14 [12,11] (.done) (.stop)) (.alt 14 [12,11] (.alt 10 [13,12,11] (.done) (.stop)) (.stop))) (.alt 14 [12,11] (.alt 9 [13,12,11] (.alt 10 [13,12,11] (.done) (.stop)) (.stop)) (.stop)))))) (.stop))) (.stop)))))))) JY (by kernel_rfl) ?_⟩
 have hft:(items.length+1) * 72≤140737488355328∧items.length≤4611686018427387903:=by omega
 have hjn:j≠n:=by omega
 have hr2:(len-1) * 5+4≤pre.length+(5+junk.length):=by omega
 simp(disch:=omega) only[hft,hr2,vm,seval,h.1,drop_at hp,get_at hp,Aji hp,Lm,ioR,List.length_map,and_self,Alp,AlA,ATq,V7,Ri,JA,Ajj,Ajp,AMH,AN5,AlM,Abq,Aa6,HZ,MO,Value.oneCell',Bool.and_self,Bool.and_true,if_true]
 have hjn2:j≠n2:=by omega
 have hin2:i≠n2:=by omega
 have fin: ∀(af:List AVal) (c:Code) (m':MS) (n':Nat),n≤n'→([]:List (Nat×List AVal)).Sublist m'→True:=fun _ _ _ _ _ _=>trivial
 refine AQ4 (AQ4 ⟨?_⟩ ⟨?_⟩) ⟨?_⟩
 · refine Cv (.r []) ?_
   simp(disch:=omega) only[vm,seval,h.1]
   refine⟨(hR _ _ _ _ _ _ (by simp(disch:=omega) only[vm,seval,h.1];rfl) (.cons _ (.cons _ slr)) (by omega) ?_).2⟩
   have:=(hQ (n2+1) (by omega)).go
   show Q (.tuple []) _
   simpa only[List.map_append,List.map_cons,List.map_nil,En]using this
 all_goals
   refine AJq (i:=n2) (j:=j) (p:=(len-1) * 5+3) hjn2 (by simp(disch:=omega) only[vm];rfl) (by simp;omega) (by simp(disch:=omega) only[vm,get_at hp]) (by simp only[vm];rfl) ?_
   refine Cv (.r []) ?_
   simp(disch:=omega) only[vm,seval,h.1,Aji hp]
   refine⟨(hR _ _ _ _ _ _ (by simp(disch:=omega) only[vm,seval,h.1];rfl) (.cons _ (.cons _ slr)) (by omega) ?_).2⟩
   have:=(hQ (n2+1) (by omega)).go
   show Q (.tuple []) _
   simpa only[List.map_append,List.map_cons,List.map_nil,En]using this
theorem ACall.nodup{E:Env}{f:FuncId}{args:List AVal}{st:St}{Q:PQ} (h:(st.m.map (·.1)).Nodup→ACall E f args st Q):ACall E f args st Q:=⟨fun F Γ w cargs hs=>(h hs.keys).go F Γ w cargs hs⟩
theorem EE: ∀ {m:MS}{i:Nat}{c:List AVal},(m.map (·.1)).Nodup→(i,c)∈m→Ab m i=some c
  | (j,d)::m,i,c,hn,h=>by
    simp only[List.map_cons,List.nodup_cons]at hn
    rcases List.mem_cons.1 h with h|h
    · cases h;simp[Ab]
    · have hne:i≠j:=fun e=>hn.1 (by rw[←e];exact List.mem_map_of_mem (f:=(·.1)) h)
      simp only[Ab,if_neg hne]
      exact EE hn.2 h
theorem RG{m m':MS} (h:m.Perm m') (hn:(m.map (·.1)).Nodup):(m'.map (·.1)).Nodup:=(h.map _).nodup_iff.1 hn
theorem Q9{m r:MS}{i:Nat}{c x:List AVal} (hn:(m.map (·.1)).Nodup) (h:m.Perm ((i,c)::r)):(Ak m i x).Perm ((i,x)::r):=by
  have hg:Ab m i=some c:=EE hn (h.mem_iff.2 (by simp))
  have h1:=IQ hg
  have h2:r.Perm (Ce m i):=(h.symm.trans h1).cons_inv
  exact(Nk hg).symm.trans (h2.symm.cons _)
def lvl (v:ApiValue) (k:Nat):List AVal:=[.int .i64 v.kind,.str v.text,.slice 1 (v.keys.map AVal.str) true,.slice 4 (v.items.map AB) true,.sh k]
def ANk (v:ApiValue) (k:Nat):Nat×List AVal:=(k,[.map v.keys (v.keys.map fun _=>.bool true)])
def SN:List ApiValue→List Nat→List AVal
  |v::vs,k::ks=>lvl v k++SN vs ks
  |_,_=>[]
def maps:List ApiValue→List Nat→MS
  |v::vs,k::ks=>ANk v k::maps vs ks
  |_,_=>[]
def pc (sv:AVal) (p:JPsr):List AVal:=[sv,.int .i64 p.want,.int .i64 p.nodes,.int .i64 p.out.kind,.str p.out.text,.slice 1 (p.out.keys.map AVal.str) false,.slice 4 (p.out.items.map AB) false]
theorem QV: ∀ {st:List ApiValue}{ks:List Nat}{v:ApiValue}{k:Nat},ks.length=st.length→SN (st++[v]) (ks++[k])=SN st ks++lvl v k
  |[],[],v,k,_=>by simp[SN]
  | x::st,y::ks,v,k,h=>by
    simp only[List.cons_append,SN,List.append_assoc]
    rw[QV (by simpa using h)]
theorem QL: ∀ {st:List ApiValue}{ks:List Nat}{v:ApiValue}{k:Nat},ks.length=st.length→maps (st++[v]) (ks++[k])=maps st ks++[ANk v k]
  |[],[],v,k,_=>by simp[maps]
  | x::st,y::ks,v,k,h=>by
    simp only[List.cons_append,maps]
    rw[QL (by simpa using h)]
theorem SX: ∀ {st:List ApiValue}{ks:List Nat},ks.length=st.length→(SN st ks).length=st.length * 5
  |[],[],_=>rfl
  | x::st,y::ks,h=>by
    simp only[SN,List.length_append,SX (st:=st) (ks:=ks) (by simpa using h),List.length_cons,lvl,List.length_nil];omega
inductive PS (p:JPsr) (i:Nat) (m0 m:MS):Prop
  |nil (X:MS) (hs:p.stack=[]) (h:m.Perm ((i,pc (.slice 5 [] true) p)::(X++m0)))
  |box (j:Nat) (ks:List Nat) (junk:List AVal) (X:MS) (hk:ks.length=p.stack.length) (h:m.Perm ((i,pc (.gsl 5 j p.stack.length) p)::(j,SN p.stack ks++junk)::(maps p.stack ks++(X++m0))))
theorem PS.more{p:JPsr}{i:Nat}{m0 m:MS} (h:PS p i m0 m) (e:Nat×List AVal):PS p i (e::m0) (e::m):=by
  have key: ∀(a b X:MS),m.Perm (a++(b++(X++m0)))→(e::m).Perm (a++(b++(X++e::m0))):=fun a b X h=>by
    have h1:(a++(b++(X++e::m0))).Perm (e::(a++(b++(X++m0)))):=by
      have:=List.perm_middle (a:=e) (l₁:=a++b++X) (l₂:=m0)
      simpa only[List.append_assoc]using this
    exact(h.cons e).trans h1.symm
  cases h with
  |nil X hs h=>exact .nil X hs (by simpa using key [_] [] X (by simpa using h))
  |box j ks junk X hk h=>exact .box j ks junk X hk (by simpa using key [_,_] _ X (by simpa using h))
theorem PS.less{p:JPsr}{i:Nat}{m0 m:MS}{e:Nat×List AVal} (h:PS p i (e::m0) m):PS p i m0 m:=by
  cases h with
  |nil X hs h=>exact .nil (X++[e]) hs (by simpa using h)
  |box j ks junk X hk h=>exact .box j ks junk (X++[e]) hk (by simpa using h)
theorem PS.perm{p:JPsr}{i:Nat}{m0 m m':MS} (h:PS p i m0 m) (hp:m'.Perm m):PS p i m0 m':=by
  cases h with
  |nil X hs h=>exact .nil X hs (hp.trans h)
  |box j ks junk X hk h=>exact .box j ks junk X hk (hp.trans h)
theorem PS.put{p:JPsr}{i:Nat}{m0 m:MS} (h:PS p i m0 m) (hn:(m.map (·.1)).Nodup): ∃sv,Ab m i=some (pc sv p)∧(sv=.slice 5 [] true∧p.stack=[]∨ ∃j,sv=.gsl 5 j p.stack.length)∧ ∀p':JPsr,p'.stack=p.stack→PS p' i m0 (Ak m i (pc sv p')):=by
  cases h with
  |nil X hs h=>exact⟨_,EE hn (h.mem_iff.2 (by simp)),.inl ⟨rfl,hs⟩,fun p' e=>.nil X (e.trans hs) (Q9 hn h)⟩
  |box j ks junk X hk h=>exact⟨_,EE hn (h.mem_iff.2 (by simp)),.inr ⟨j,rfl⟩,fun p' e=>.box j ks junk X (by rw[e];exact hk) (by rw[e];exact Q9 hn h)⟩
theorem PS.get{p:JPsr}{i x:Nat}{c:List AVal}{m0 m:MS} (h:PS p i m0 m) (hn:(m.map (·.1)).Nodup) (hx:(x,c)∈m0):Ab m x=some c:=by
  cases h with
  |nil X hs h=>exact EE hn (h.mem_iff.2 (by simp[hx]))
  |box j ks junk X hk h=>exact EE hn (h.mem_iff.2 (by simp[hx]))
theorem PS.top{p:JPsr}{i:Nat}{m0 m:MS}{st:List ApiValue}{v:ApiValue} (h:PS p i m0 m) (hs:p.stack=st++[v]): ∃j k pre junk rest,pre.length=st.length * 5∧m.Perm ((i,pc (.gsl 5 j (st.length+1)) p)::(j,pre++lvl v k++junk)::ANk v k::rest)∧
    (∀(p':JPsr) v' m',p'.stack=st++[v']→m'.Perm ((i,pc (.gsl 5 j (st.length+1)) p')::(j,pre++lvl v' k++junk)::ANk v' k::rest)→PS p' i m0 m')∧
    ∀(p':JPsr) junk' m',p'.stack=st→m'.Perm ((i,pc (.gsl 5 j st.length) p')::(j,pre++junk')::ANk v k::rest)→PS p' i m0 m':=by
  cases h with
  |nil X hn h=>rw[hn]at hs;simp at hs
  | box j ks junk X hk h=>
    rw[hs]at hk h
    obtain⟨ks',k,rfl⟩: ∃ks' k,ks=ks'++[k]:=by
      rcases List.eq_nil_or_concat ks with rfl|⟨a,b,rfl⟩
      · simp at hk
      · exact⟨a,b,by simp⟩
    have hk':ks'.length=st.length:=by simpa using hk
    rw[QV hk',QL hk',List.length_append,List.length_cons,List.length_nil]at h
    have mid: ∀(a b:Nat×List AVal) (e:Nat×List AVal) (l:MS),(a::b::(maps st ks'++[e]++l)).Perm (a::b::e::(maps st ks'++l)):=fun a b e l=>by
      refine List.Perm.cons _ (List.Perm.cons _ ?_)
      simp
    refine⟨j,k,SN st ks',junk,maps st ks'++(X++m0),SX hk',h.trans (mid _ _ _ _),fun p' v' m' e hp=>?_,fun p' junk' m' e hp=>?_⟩
    · refine .box j (ks'++[k]) junk X (by simp[e,hk']) ?_
      rw[e,QV hk',QL hk',List.length_append,List.length_cons,List.length_nil]
      exact hp.trans (mid _ _ _ _).symm
    · refine .box j ks' junk' (ANk v k::X) (by rw[e];exact hk') ?_
      rw[e]
      refine hp.trans (List.Perm.cons _ (List.Perm.cons _ ?_))
      simpa using(List.perm_middle (a:=ANk v k) (l₁:=maps st ks') (l₂:=X++m0)).symm
theorem J3{l:List ApiValue}:l=[]∨ ∃st v,l=st++[v]:=by
  rcases List.eq_nil_or_concat l with h|⟨a,b,h⟩
  · exact .inl h
  · exact .inr ⟨a,b,by simpa using h⟩
theorem nd3{a b c:Nat×List AVal}{r m:MS} (hn:(m.map (·.1)).Nodup) (h:m.Perm (a::b::c::r)):b.1≠a.1∧c.1≠a.1∧c.1≠b.1:=by
  have h2:=RG h hn
  simp only[List.map_cons,List.nodup_cons,List.mem_cons,not_or]at h2
  exact⟨Ne.symm h2.1.1,Ne.symm h2.1.2.1,Ne.symm h2.2.1.1⟩
theorem AMi{p:JPsr}{i:Nat}{m0:MS}{s:List UInt8}{q:JPsr×Int} (hp:PS p i m0 m) (h:VS p s=some q) (hlen:p.stack.length≤Bf) (hb: ∀v,v∈p.stack→v.keys.length≤1099511627776) (ha:args=[.ptr i 0,.str s])
    (hQ: ∀n' m',n≤n'→PS q.1 i m0 m'→Gl (Q (.int .i64 q.2) ⟨m',n'⟩)):ACall vE 391 args ⟨m,n⟩ Q:=by
  refine ACall.nodup fun hn=>?_
  rcases J3 (l:=p.stack)with hs|⟨st,v,hs⟩
  · simp[VS,hs]at h
  · obtain⟨j,k,pre,junk,rest,h1,h2,h3,h4⟩:=hp.top hs
    have hd:=nd3 hn h2
    have hl:0<st.length+1∧st.length+1≤Bf:=⟨by omega,by rw[hs]at hlen;simpa using hlen⟩
    have hvb:=hb v (by rw[hs];simp)
    refine ACall.perm h2 ?_
    simp only[VS,hs,List.getLast?_append,List.getLast?_singleton,Option.or_some,Option.some_or]at h
    by_cases hin:s∈v.keys
    · rw[if_pos hin]at h
      cases h
      refine AUv (hd:=hd) (hp:=by simpa using h1) hl ha hin fun n' hn'=>hQ _ _ hn' ?_
      exact h3 p v _ hs (List.Perm.refl _)
    · rw[if_neg hin]at h
      cases h
      refine ASl (hd:=hd) (hp:=by simpa using h1) hl ha hin hvb fun n' hn'=>hQ _ _ hn' ?_
      exact h3 _ {v with keys:=v.keys++[s]} _ (by simp) (List.Perm.refl _)
theorem Y2{p:JPsr}{i:Nat}{m0:MS}{v:ApiValue} (hp:PS p i m0 m) (hlen:p.stack.length≤Bf) (hb: ∀v,v∈p.stack→v.items.length≤1099511627776) (ha:args=[.ptr i 0,AB v])
    (hQ: ∀n' m',n≤n'→PS (KH p v) i m0 m'→Gl (Q (.tuple []) ⟨m',n'⟩)):ACall vE 441 args ⟨m,n⟩ Q:=by
  refine ACall.nodup fun hn=>?_
  rcases J3 (l:=p.stack)with hs|⟨st,v',hs⟩
  · have e:KH p v= {p with out:=v,want:=6}:=by simp[KH,hs]
    rw[e]at hQ
    cases hp with
    | nil X hz h=>
      refine ACall.perm h ?_
      refine ANc ha fun n' hn'=>hQ _ _ hn' (.nil X hs (List.Perm.refl _))
    | box j ks junk X hk h=>
      refine ACall.perm h ?_
      rw[hs]
      refine Ww ha fun n' hn'=>hQ _ _ hn' ?_
      refine .box j ks junk X hk ?_
      rw[hs];exact List.Perm.refl _
  · obtain⟨j,k,pre,junk,rest,h1,h2,h3,h4⟩:=hp.top hs
    have hd:=nd3 hn h2
    have hl:0<st.length+1∧st.length+1≤Bf:=⟨by omega,by rw[hs]at hlen;simpa using hlen⟩
    have hvb:=hb v' (by rw[hs];simp)
    have e:KH p v= {p with stack:=p.stack.dropLast++[{v' with items:=v'.items++[v]}],want:=5}:=by simp[KH,hs]
    rw[e]at hQ
    refine ACall.perm h2 ?_
    refine AMa hd.1 (by simpa using h1) hl hvb ha fun n' hn'=>hQ _ _ hn' ?_
    exact h3 _ {v' with items:=v'.items++[v]} _ (by simp[hs]) (List.Perm.refl _)
theorem V4{sv:AVal}{st:List ApiValue} (h:sv=.slice 5 [] true∧st=[]∨ ∃j,sv=.gsl 5 j st.length):Nf vE 328 sv=some (.int .i64 (st.length:Int))∧sv.strip=(match sv with|.slice w l _=>.slice w l false|x=>x)∧Nf vE 328 sv.strip=some (.int .i64 (st.length:Int))∧AV sv=[sv]∧Bo sv=true∧JA sv=false:=by
  rcases h with⟨rfl,rfl⟩|⟨j,rfl⟩
  · exact⟨by simp[Nf,Cu],rfl,by simp[Nf,Cu,AVal.strip],rfl,rfl,rfl⟩
  · exact⟨JX Cu,rfl,JX Cu,rfl,rfl,rfl⟩
theorem Z9{p:JPsr}{i:Nat}{m0:MS}{kd want:Int}{sv:AVal} (hm:Ab m i=some (pc sv p)) (hsv:Nf vE 328 sv.strip=some (.int .i64 (p.stack.length:Int))∧AV sv=[sv]) (hl:64≤p.stack.length) (ha:args=[.ptr i 0,.int .i64 kd,.int .i64 want])
    (hQ: ∀n',n≤n'→Gl (Q (.int .i64 141) ⟨m,n'⟩)):ACall vE 440 args ⟨m,n⟩ Q:=by
 have h:True∧True:=⟨trivial,trivial⟩
 subst ha
 refine ent hQ Tryz.func440 rfl Tryz.ntmps440 Tryz.results440 (.q (.r []) (.q (.q (.r []) (.c (.q (.r []) .z) .z)) (.q (.q (.r []) (.q (.r []) (.c (.q (.r []) .z) .z))) (.q (.r [29]) (.q (.r []) (.q (.r []) .z)))))) fun R hR=>?_
 have hc1:decide ((64:Int)≤p.stack.length)=true:=by simp;omega
 simp(disch:=omega) only[vm,seval,h.1,hm,pc,hsv,hc1]
 refine⟨(hR _ _ _ _ _ _ (by simp(disch:=omega) only[vm,seval,h.1];rfl) slr ?_ (by omega) ?_).1⟩<;>first|(simp(disch:=omega) only[vm,seval,h.1];done)|rfl
theorem AIg{nodes:Int} (hn:0≤nodes∧nodes≤30000):wr .i64 (nodes+1)=nodes+1:=by
  obtain⟨q,rfl⟩: ∃q:Nat,nodes=q:=⟨nodes.toNat,by omega⟩
  exact Y5 (by simp[Bf];omega)
theorem AE4{p:JPsr}{i:Nat}{m0:MS}{kd want:Int}{sv:AVal} (hm:Ab m i=some (pc sv p)) (hsv:Nf vE 328 sv.strip=some (.int .i64 (p.stack.length:Int))∧AV sv=[sv]) (hl:p.stack.length<64) (hn:0≤p.nodes∧p.nodes≤20000∧20000<p.nodes+1) (ha:args=[.ptr i 0,.int .i64 kd,.int .i64 want])
    (hQ: ∀n',n≤n'→Gl (Q (.int .i64 142) ⟨Ak m i (pc sv {p with nodes:=p.nodes+1}),n'⟩)):ACall vE 440 args ⟨m,n⟩ Q:=by
 have h:True∧True:=⟨trivial,trivial⟩
 subst ha
 refine ent hQ Tryz.func440 rfl Tryz.ntmps440 Tryz.results440 (.q (.r []) (.q (.q (.r []) (.c (.q (.r []) .z) .z)) (.q (.q (.r []) (.q (.r []) (.c (.q (.r []) .z) .z))) (.q (.r [29]) (.q (.r []) (.q (.r []) .z)))))) fun R hR=>?_
 have hc1:decide ((64:Int)≤p.stack.length)=false:=by simp;omega
 have hc2:decide ((20000:Int)<p.nodes+1)=true:=by simp;omega
 have hw:wr .i64 (p.nodes+1)=p.nodes+1:=AIg ⟨hn.1,by omega⟩
 have hms: ∀x,Ab (Ak m i x) i=some x:=fun x=>Eu hm
 simp(disch:=omega) only[vm,seval,h.1,hm,pc,hsv,hc1,hc2,hw,hms]
 refine⟨(hR _ _ _ _ _ _ (by simp(disch:=omega) only[vm,seval,h.1];rfl) slr ?_ (by omega) ?_).1⟩<;>first|(simp(disch:=omega) only[vm,seval,h.1];done)|rfl
theorem AON{i:Nat}{kd want nodes:Int}{wt o1 o2 o3 o4:AVal} (hn:0≤nodes∧nodes+1≤20000) (ha:args=[.ptr i 0,.int .i64 kd,.int .i64 want])
    (hQ: ∀n' j' k',n≤n'→n≤j'→n≤k'→k'≠j'→Gl (Q (.int .i64 0) ⟨(j',[.int .i64 kd,.str [],.slice 1 [] true,.slice 4 [] true,.sh k'])::(k',[.map [] []])::(i,[.gsl 5 j' 1,.int .i64 want,.int .i64 (nodes+1),o1,o2,o3,o4])::m,n'⟩)):
    ACall vE 440 args ⟨(i,[.slice 5 [] true,wt,.int .i64 nodes,o1,o2,o3,o4])::m,n⟩ Q:=by
 refine ACall.known fun _ hkn=>?_
 have h:True∧True:=⟨trivial,trivial⟩
 have hi:i<n:=by
   rcases Nat.lt_or_ge i n with h|h
   · exact h
   · have:=hkn i h;simp[Ab]at this
 subst ha
 refine UN Tryz.func440 rfl Tryz.ntmps440 Tryz.results440 (.q (.r []) (.q (.q (.r []) (.c (.q (.r []) .z) .z)) (.q (.q (.r []) (.q (.r []) (.c (.q (.r []) .z) .z))) (.q (.r [29,34]) (.q (.r []) (.q (.r []) .z)))))) fun R hR=>?_
 have hc1:decide ((64:Int)≤(0:Nat))=false:=by simp
 have hc2:decide ((20000:Int)<nodes+1)=false:=by simp;omega
 have hw:wr .i64 (nodes+1)=nodes+1:=AIg ⟨hn.1,by omega⟩
 simp(disch:=omega) only[vm,seval,h.1,JX Cu,K9,M3,hc1,hc2,hw,UO,V5,Fy]
 have happ:ANx vE 328 328 (AVal.slice 5 [] true) (AVal.gsl 5 (n+1) 1) {m:=(n+1,List.flatMap (fun p=>AV p.snd) [((0:Nat),AVal.agg [AVal.int IntKind.i64 kd,AVal.str [],AVal.slice 1 [] true,AVal.slice 4 [] true,AVal.sh n])])::(n,[AVal.map [] []])::(i,[AVal.slice 5 [] false,wt,AVal.int IntKind.i64 (nodes+1),o1,o2,o3,o4])::m,next:=n+2}
   =some (5,1,[.int .i64 kd,.str [],.slice 1 [] true,.slice 4 [] true,.sh n],(n,[AVal.map [] []])::(i,[AVal.slice 5 [] false,wt,AVal.int IntKind.i64 (nodes+1),o1,o2,o3,o4])::m,none):=by
   simp[ANx,Ab,Ce,Vp,Vu,Rj,AV,Bf]
 rw[happ]
 constructor
 intro j' hj'
 have hj1:j'=n+2:=by
   rcases hj' with hj'|hj'
   · exact hj'
   · cases hj'
 subst hj1
 have hin:i≠n:=by omega
 refine Gl.go ?_
 simp(disch:=omega) only[vm,seval,h.1,K9,M3,QK,QT]
 refine⟨(hR _ _ _ _ _ _ (by simp(disch:=omega) only[vm,seval,h.1];rfl) slr (by omega) ?_).1⟩
 exact(hQ _ (n+2) n (by omega) (by omega) (by omega) (by omega)).go
theorem YX{p:JPsr}{i:Nat}{m0:MS}{kd want:Int} (hp:PS p i m0 m) (hn:0≤p.nodes∧p.nodes≤20000) (ha:args=[.ptr i 0,.int .i64 kd,.int .i64 want])
    (hQ: ∀n' m',n≤n'→PS (I6 p kd want).1 i m0 m'→Gl (Q (.int .i64 (I6 p kd want).2) ⟨m',n'⟩)):ACall vE 440 args ⟨m,n⟩ Q:=by
  refine ACall.nodup fun hnd=>?_
  obtain⟨sv,hg,hsv,hput⟩:=hp.put hnd
  have hl:=V4 hsv
  by_cases h1:p.stack.length≥64
  · have e:I6 p kd want=(p,141):=by simp[I6,h1]
    rw[e]at hQ
    exact Z9 (m0:=m0) hg ⟨hl.2.2.1,hl.2.2.2.1⟩ h1 ha fun n' hn'=>hQ _ _ hn' hp
  · by_cases h2:p.nodes+1>20000
    · have e:I6 p kd want=({p with nodes:=p.nodes+1},142):=by simp[I6,h1,h2]
      rw[e]at hQ
      exact AE4 (m0:=m0) hg ⟨hl.2.2.1,hl.2.2.2.1⟩ (by omega) ⟨hn.1,hn.2,h2⟩ ha fun n' hn'=>hQ _ _ hn' (hput _ rfl)
    · have e:I6 p kd want=({p with stack:=p.stack++[⟨kd,[],[],[]⟩],nodes:=p.nodes+1,want:=want},0):=by simp[I6,h1,h2]
      rw[e]at hQ
      cases hp with
      | nil X hs h=>
        refine ACall.perm h ?_
        refine AON ⟨hn.1,by omega⟩ ha fun n' j' k' h3 h4 h5 h6=>hQ _ _ h3 ?_
        refine .box j' [k'] [] X (by simp[hs]) ?_
        simp only[hs,List.nil_append,SN,maps,lvl,ANk,List.map_nil,List.append_nil,List.length_cons,List.length_nil,pc,List.cons_append]
        exact((List.Perm.swap _ _ _).cons _).trans (List.Perm.swap _ _ _)|>.trans (List.Perm.cons _ (List.Perm.refl _))
      | box j ks junk X hk h=>
        have hd:j≠i:=by
          have h2:=RG h hnd
          simp only[List.map_cons,List.nodup_cons,List.mem_cons,not_or]at h2
          exact Ne.symm h2.1.1
        refine ACall.perm h ?_
        refine APU hd (by rw[List.length_append,SX hk];omega) (by omega) ⟨hn.1,by omega⟩ ha fun n' j' k' h3 h4 h5 h6=>hQ _ _ h3 ?_
        refine .box j' (ks++[k']) [] X (by simp[hk]) ?_
        have e1:(SN p.stack ks++junk).take (p.stack.length * 5)=SN p.stack ks:=by rw[←SX hk,List.take_left]
        rw[e1,QV hk,QL hk,List.append_nil,List.length_append]
        have mid: ∀(e:Nat×List AVal) (l:MS),(e::(maps p.stack ks++l)).Perm (maps p.stack ks++[e]++l):=fun e l=>by
          simpa using(List.perm_middle (a:=e) (l₁:=maps p.stack ks) (l₂:=l)).symm
        refine((List.Perm.swap _ _ _).cons _).trans ((List.Perm.swap _ _ _).trans (List.Perm.cons _ (List.Perm.cons _ ?_)))
        exact mid (k',[.map [] []]) _
def AaN (p:JPsr) (t:ApiToken) (cl:List UInt8):Bool:=
  if p.want==0 then LZ t else if p.want==1 then LZ t||(t.kind==2&&t.text==cl)else if p.want==2 then t.kind==3 else if p.want==3 then t.kind==3||(t.kind==2&&t.text==cl)
  else if p.want==4 then t.kind==2&&t.text==[58]else if p.want==5 then t.kind==2&&t.text==[44]||(t.kind==2&&t.text==cl)else t.kind==1
theorem Ac5{q:Nat}{a:AVal}{pre l junk:List AVal} (h:pre.length=q):(pre++a::l++junk)[q]?=some a:=by subst h;simp
theorem Abb (t:ApiToken):JR N t=some (LZ t):=by
  unfold JR LZ
  simp only[AA]
  cases t.kind==3<;>cases t.kind==4<;>cases t.kind==5<;>cases t.kind==2<;>cases t.text==[91]<;>simp
theorem AY7{p:JPsr}{i:Nat}{m0:MS}{t:ApiToken} (hp:PS p i m0 m) (hlen:p.stack.length≤Bf) (ha:args=[.ptr i 0,Cm t])
    (hQ: ∀n',n≤n'→Gl (Q (.bool (QS p t)) ⟨m,n'⟩)):ACall vE 389 args ⟨m,n⟩ Q:=by
 refine ACall.nodup fun hnd=>ACall.known fun _ hkn=>?_
 obtain⟨sv,hg,hsv,hput⟩:=hp.put hnd
 have hl:=(V4 hsv).2.2
 have hi:i<n:=by
   rcases Nat.lt_or_ge i n with h|h
   · exact h
   · have:=hkn i h;rw[hg]at this;cases this
 have h:True∧AA (fun cl=>some (AaN p t cl)) (fun k=>k (Iu p))=some (QS p t):=⟨trivial,by simp only[AA];first|done|rfl⟩
 subst ha
 refine ent hQ Tryz.func389 rfl Tryz.ntmps389 Tryz.results389 (.q (.r []) (.q (.r []) .z)) fun R hR=>?_
 have hin:i≠n:=by omega
 simp(disch:=omega) only[vm,seval,h.1]
 refine⟨QD (γ:=Unit) h [7,8,9,10,11,12,13,14,15,16,17,18,19] [5] (fun cl g=>[.str cl]) (fun cl g=>(n,[.int .i64 t.kind,.str t.text,.int .i64 t.at_])::m) (.q (.r []) (.c (.q (.r []) (.q (.r []) (.c (.r []) .z))) .z)) ?_ ?_⟩<;>clear h
 · rintro cl _ n4 hnn4 _ _ h
   have h2:AaN p t cl=QS p t:=by simpa using h
   clear h
   have hin4:i≠n:=by omega
   refine Cv (.q (.r []) (.q (.q (.r []) (.q (.r []) (.c (.q (.r []) .z) (.q (.r []) (.c (.q (.r []) .z) (.q (.r []) (.c (.q (.r []) .z) (.q (.r []) (.c (.q (.r []) .z) (.q (.r []) (.c (.q (.r []) .z) (.q (.r []) (.c (.q (.r []) .z) .z))))))))))))) (.q (.r []) .z))) ?_
   unfold AaN at h2
   have ow: ∀ {n5:Nat}{m5:MS}{Q5:PQ}{args5:List AVal},args5=[Cm t]→(∀n',n5≤n'→Gl (Q5 (.bool (LZ t)) ⟨m5,n'⟩))→ACall vE 439 args5 ⟨m5,n5⟩ Q5:=fun ha hq=>Um (N:=0) (Abb t) ha hq
   generalize QS p t=r at h2 hR
   cases hk2:t.kind==2<;>cases hw0:p.want==0<;>cases hw1:p.want==1<;>cases hw2:p.want==2<;>cases hw3:p.want==3<;>cases hw4:p.want==4<;>cases hw5:p.want==5
   all_goals
     try (exfalso;simp only[beq_iff_eq,beq_eq_false_iff_ne]at hw0 hw1 hw2 hw3 hw4 hw5;omega)
   all_goals
     simp(disch:=omega) only[hw0,hw1,hw2,hw3,hw4,hw5,hk2,if_true,if_false,Bool.false_eq_true,Bool.true_and,Bool.false_and,Bool.or_false]at h2
     simp(disch:=omega) only[vm,seval,hk2,hg,pc,hl,hw0,hw1,hw2,hw3,hw4,hw5]
   all_goals first
     |((refine⟨(hR _ _ _ _ _ _ (by simp(disch:=omega) only[vm,seval,hk2];rfl) (.cons _ slr) rfl (by omega) ?_).1⟩<;>first|rfl|(simp(disch:=omega) only[vm,seval,hk2];done)|(subst h2;rfl));done)
     |(cases hk3:t.kind==3<;>simp(disch:=omega) only[hk3,Bool.true_or,Bool.false_or]at h2<;>simp(disch:=omega) only[vm,seval,hk2,hk3]<;>(refine⟨(hR _ _ _ _ _ _ (by simp(disch:=omega) only[vm,seval,hk2];rfl) (.cons _ slr) rfl (by omega) ?_).1⟩<;>first|rfl|(simp(disch:=omega) only[vm,seval,hk2];done)|(subst h2;rfl));done)
     |(cases hk3:t.text==[44]<;>simp(disch:=omega) only[hk3,Bool.true_or,Bool.false_or]at h2<;>simp(disch:=omega) only[vm,seval,hk2,hk3]<;>(refine⟨(hR _ _ _ _ _ _ (by simp(disch:=omega) only[vm,seval,hk2];rfl) (.cons _ slr) rfl (by omega) ?_).1⟩<;>first|rfl|(simp(disch:=omega) only[vm,seval,hk2];done)|(subst h2;rfl));done)
     |(refine⟨ow (by first|(simp(disch:=omega) only[vm,seval,hk2];done)|rfl) fun n5 hn5=>?_⟩;simp(disch:=omega) only[vm,seval,hk2];(refine⟨(hR _ _ _ _ _ _ (by simp(disch:=omega) only[vm,seval,hk2];rfl) (.cons _ slr) rfl (by omega) ?_).1⟩<;>first|rfl|(simp(disch:=omega) only[vm,seval,hk2];done)|(subst h2;rfl));done)
     |(refine⟨ow (by first|(simp(disch:=omega) only[vm,seval,hk2];done)|rfl) fun n5 hn5=>?_⟩;cases hk3:LZ t<;>simp(disch:=omega) only[hk3,Bool.true_or,Bool.false_or]at h2<;>simp(disch:=omega) only[vm,seval,hk2,hk3]<;>(refine⟨(hR _ _ _ _ _ _ (by simp(disch:=omega) only[vm,seval,hk2];rfl) (.cons _ slr) rfl (by omega) ?_).1⟩<;>first|rfl|(simp(disch:=omega) only[vm,seval,hk2];done)|(subst h2;rfl));done)
 · intro k Jk hk h
   rcases J3 (l:=p.stack)with hs|⟨st,v,hs⟩
   · have hc:decide ((p.stack.length:Int)>0)=false:=by simp[hs]
     have e:Iu p=[]:=by simp[Iu,hs]
     simp(disch:=omega) only[vm,seval,h.1,hg,pc,hl,hc]
     refine⟨hk (Iu p) () _ _ _ _ h.2 slr ?_ ?_ ?_ (by omega)⟩<;>first|(simp(disch:=omega) only[vm,seval,h.1,e];done)|rfl
   · obtain⟨j,ky,pre,junk,rest,h1,h2,h3,h4⟩:=hp.top hs
     have hc:decide ((p.stack.length:Int)>0)=true:=by simp[hs]
     have hg2:Ab m i=some (pc (.gsl 5 j (st.length+1)) p):=EE hnd (h2.mem_iff.2 (by simp))
     have hg3:Ab m j=some (pre++lvl v ky++junk):=EE hnd (h2.mem_iff.2 (by simp))
     have hj:j<n:=by
       rcases Nat.lt_or_ge j n with h|h
       · exact h
       · have:=hkn j h;rw[hg3]at this;cases this
     have hjn:j≠n:=by omega
     have hl2:0<st.length+1∧st.length+1≤Bf:=⟨by omega,by rw[hs]at hlen;simpa using hlen⟩
     have hpr:pre.length=(st.length+1-1) * 5:=by simpa using h1
     simp(disch:=omega) only[vm,seval,h.1,hg,pc,hl,hc]
     refine⟨Sc (i:=i) (j:=j) (len:=st.length+1) (pc:=_) (by rw[Sv (by omega)];exact hg2) hl2 tD fun n2 hn2=>?_⟩
     simp(disch:=omega) only[vm,seval,h.1,hg3,lvl,drop_at hpr]
     have e:Iu p=if(v.kind==7)=true then [125]else [93]:=by simp[Iu,hs]
     have hp5:pre.length=st.length * 5:=h1
     cases hk7:v.kind==7
     all_goals
       rw[hk7]at e
       simp(disch:=omega) only[vm,seval,h.1,Ac5 hp5,hk7]
       refine⟨hk (Iu p) () _ _ _ _ h.2 slr ?_ ?_ ?_ (by omega)⟩<;>first|(simp(disch:=omega) only[vm,seval,h.1,e];done)|rfl
theorem ARU:(Oy vE.P 432).map (Bb vE.P)=some (some (.int .i64 0)):=by kernel_rfl
theorem UL: ∃e,Oy vE.P 432=some e∧Bb vE.P e=some (.int .i64 0):=by
  have h:=ARU
  cases he:Oy vE.P 432 with
  |none=>rw[he]at h;cases h
  |some e=>rw[he]at h;simp only[Option.map_some,Option.some.injEq]at h;exact⟨e,rfl,h⟩
theorem AVN:(Oy vE.P 432).isSome=true:=by
  obtain⟨e,h1,h2⟩:=UL
  rw[h1];rfl
theorem AR6{k q:Nat}{s:List UInt8}:Mh vE 432 (.sh k) (.str s) false ⟨(k,[.map (EQ (EQ (EQ [] [110,117,108,108]) [102,97,108,115,101]) [116,114,117,101]) (Ic (EQ (EQ [] [110,117,108,108]) [102,97,108,115,101]) (Ic (EQ [] [110,117,108,108]) (Ic [] [] [110,117,108,108] (.int .i64 1)) [102,97,108,115,101] (.int .i64 2)) [116,114,117,101] (.int .i64 3))])::m,q⟩=some (.int .i64 (SK s)):=by
  obtain⟨e,h1,h2⟩:=UL
  have e1:(EQ (EQ (EQ [] [110,117,108,108]) [102,97,108,115,101]) [116,114,117,101])=([[110,117,108,108],[102,97,108,115,101],[116,114,117,101]]:List (List UInt8)):=by decide
  have e2:(Ic (EQ (EQ [] [110,117,108,108]) [102,97,108,115,101]) (Ic (EQ [] [110,117,108,108]) (Ic [] [] [110,117,108,108] (.int .i64 1)) [102,97,108,115,101] (.int .i64 2)) [116,114,117,101] (.int .i64 3))=([.int .i64 1,.int .i64 2,.int .i64 3]:List AVal):=by rfl
  rw[e1,e2]
  simp only[Mh,h1,h2,Qk,Ab,if_true,Im,AVal.strip,SK,Bool.false_eq_true,if_false]
  by_cases a:s=[110,117,108,108]
  · subst a;rfl
  · by_cases b:s=[102,97,108,115,101]
    · subst b;rfl
    · by_cases c:s=[116,114,117,101]
      · subst c;rfl
      · simp[a,b,c]
theorem Aco{s:List UInt8}:lkR ((Oy vE.P 432).bind (Bb vE.P)) (some [.map (EQ (EQ (EQ [] [110,117,108,108]) [102,97,108,115,101]) [116,114,117,101]) (Ic (EQ (EQ [] [110,117,108,108]) [102,97,108,115,101]) (Ic (EQ [] [110,117,108,108]) (Ic [] [] [110,117,108,108] (.int .i64 1)) [102,97,108,115,101] (.int .i64 2)) [116,114,117,101] (.int .i64 3))]) s=some (.int .i64 (SK s)):=(Aj4 (E:=vE) (t:=432) (i:=0) (st:=⟨[(0,_)],0⟩)).symm.trans (AR6 (m:=[]) (k:=0) (q:=0))
theorem ASQ{p:JPsr}{i:Nat}{m0:MS}{t:ApiToken}{q:JPsr×Int} (tokNum: ∀ {n:Nat}{m:MS}{Q:PQ}{args:List AVal} {a0 r},FZ N a0=some r→args=[.str a0]→(∀n',n≤n'→Gl (Q (.tuple [.str r.1,.int .i64 r.2]) ⟨m,n'⟩))→ACall vE 442 args ⟨m,n⟩ Q)
    (hp:PS p i m0 m) (hq:Sq N p t=some q) (hnd:0≤p.nodes∧p.nodes≤20000) (hlen:p.stack.length≤Bf) (hb: ∀v,v∈p.stack→v.items.length≤1099511627776) (ha:args=[.ptr i 0,Cm t])
    (hQ: ∀n' m',n≤n'→PS q.1 i m0 m'→Gl (Q (.int .i64 q.2) ⟨m',n'⟩)):ACall vE 392 args ⟨m,n⟩ Q:=by
 refine ACall.nodup fun hnn=>ACall.known fun _ hkn=>?_
 obtain⟨sv,hg,hsv,hput⟩:=hp.put hnn
 have hl:=(V4 hsv).2.2
 have hi:i<n:=by
   rcases Nat.lt_or_ge i n with h|h
   · exact h
   · have:=hkn i h;rw[hg]at this;cases this
 have h:True∧AA (fun v=>some (Nu p v)) (fun k=>if(t.kind==4)=true then Option.bind (FZ N t.text) fun y=>if(y.2 !=0)=true then some (p,144)else k ⟨4,y.1,[],[]⟩else if(t.kind==5)=true then k ⟨SK t.text,[],[],[]⟩else k ⟨5,t.text,[],[]⟩)=some q:=by
   refine⟨trivial,hq.symm▸?_⟩
   unfold Sq AA
   rfl
 subst ha
 refine UN Tryz.func392 rfl Tryz.ntmps392 Tryz.results392 (.q (.r []) (.q (.r []) .z)) fun R hR=>?_
 have hin:i≠n:=by omega
 simp(disch:=omega) only[vm,seval,h.1]
 refine⟨QD (γ:=Bool×Bool) h [6,7,11,12,13,14,15,16,17,18,19,20,21,22,23,24,25,26,27,28,29,30,31,32,33,34] [] (fun v g=>[]) (fun v g=>(n+1,[.int .i64 v.kind,.str v.text,.slice 1 (v.keys.map AVal.str) g.1,.slice 4 (v.items.map AB) g.2])::(n,[.int .i64 t.kind,.str t.text,.int .i64 t.at_])::m) (.q (.r []) (.c (.q (.r []) (.q (.q (.r []) (.c (.q (.r []) .z) .z)) (.r []))) (.q (.r []) (.c (.r []) .z)))) ?_ ?_⟩<;>clear h
 · rintro v g n4 hnn4 _ _ h
   have h2:Nu p v=q:=by simpa using h.2
   have hms: ∀x,Ab (Ak m i x) i=some x:=fun x=>Eu hg
   have hin4:i≠n+1:=by omega
   have hw:wr .i64 (p.nodes+1)=p.nodes+1:=AIg ⟨hnd.1,by omega⟩
   refine Cv (.q (.q (.r []) (.q (.r []) (.c (.q (.r []) .z) .z))) (.q (.r []) (.q (.r []) .z))) ?_
   unfold Nu at h2
   by_cases hc:p.nodes+1>20000
   · rw[if_pos hc]at h2
     subst h2
     have hc2:decide ((20000:Int)<p.nodes+1)=true:=by simpa using hc
     simp(disch:=omega) only[vm,seval,hg,pc,hl,hms,hw,hc2]
     refine⟨(hR _ _ _ _ _ _ (by simp(disch:=omega) only[vm,seval];rfl) (.cons _ (.cons _ slr)) (by omega) ?_).1⟩
     exact(hQ _ _ (by omega) (hput {p with nodes:=p.nodes+1} rfl)).go
   · rw[if_neg hc]at h2
     subst h2
     have hc2:decide ((20000:Int)<p.nodes+1)=false:=by simpa using hc
     simp(disch:=omega) only[vm,seval,hg,pc,hl,hms,hw,hc2]
     have hps:PS {p with nodes:=p.nodes+1} i ((n+1,[.int .i64 v.kind,.str v.text,.slice 1 (v.keys.map AVal.str) g.1,.slice 4 (v.items.map AB) g.2])::(n,[.int .i64 t.kind,.str t.text,.int .i64 t.at_])::m0) _:=((hput {p with nodes:=p.nodes+1} rfl).more _).more _
     refine⟨Y2 (v:=v) hps hlen hb (by first|(simp(disch:=omega) only[vm,seval];done)|rfl) fun n5 m5 hn5 h5=>?_⟩
     simp(disch:=omega) only[vm,seval]
     refine⟨(hR _ _ _ _ _ _ (by simp(disch:=omega) only[vm,seval];rfl) slr (by omega) ?_).1⟩
     exact(hQ _ _ (by omega) h5.less.less).go
 · intro k Jk hk h
   cases h4:t.kind==4
   · cases h5:t.kind==5
     · simp only[h4,h5,Bool.false_eq_true,if_false]at h
       simp(disch:=omega) only[vm,seval,h4,h5]
       refine⟨hk _ (true,true) _ _ _ _ h.2 slr ?_ ?_ ?_ (by omega)⟩<;>first|(simp(disch:=omega) only[vm,seval];done)|rfl
     · simp only[h4,h5,Bool.false_eq_true,if_false,if_true]at h
       simp(disch:=omega) only[vm,seval,h4,h5,AVN,Aco]
       refine⟨hk _ (true,true) _ _ _ _ h.2 (.cons _ slr) ?_ ?_ ?_ (by omega)⟩<;>first|(simp(disch:=omega) only[vm,seval];done)|rfl
   · simp only[h4,if_true]at h
     obtain⟨y,h6,h7⟩:=bind_some h.2
     simp(disch:=omega) only[vm,seval,h4]
     refine⟨tokNum h6 (by first|(simp(disch:=omega) only[vm,seval];done)|rfl) fun n5 hn5=>?_⟩
     cases h8:y.2 !=0
     · simp only[h8,Bool.false_eq_true,if_false]at h7
       simp(disch:=omega) only[vm,seval,h8]
       refine⟨hk _ (true,true) _ _ _ _ h7 slr ?_ ?_ ?_ (by omega)⟩<;>first|(simp(disch:=omega) only[vm,seval];done)|rfl
     · simp only[h8,if_true,Option.some.injEq]at h7
       subst h7
       simp(disch:=omega) only[vm,seval,h8]
       refine⟨(hR _ _ _ _ _ _ (by simp(disch:=omega) only[vm,seval];rfl) (.cons _ (.cons _ slr)) (by omega) ?_).1⟩
       exact(hQ _ _ (by omega) hp).go
theorem Ak4{q:Nat}{pre l junk:List AVal} (h:pre.length=q):List.drop q (pre++l++junk)=l++junk:=by subst h;simp
theorem Bi{w i l h:Nat} (hi:BB vE.P 328=some w) (hl:h≤l):Dw vE 328 (.gsl w i l) none (some (h:Int)) none=some (.gsl w i h):=by
  have:(h:Int)≤l:=by omega
  simp[Dw,hi,this]
theorem ARj {p:JPsr}{i:Nat}{m0:MS}{c:List UInt8}{q:JPsr×Int}
    (hp:PS p i m0 m) (hq:R5 p c=some q) (hnd:0≤p.nodes∧p.nodes≤20000) (hlen:p.stack.length≤Bf) (hb: ∀v,v∈p.stack→v.items.length≤1099511627776) (ha:args=[.ptr i 0,.str c])
    (hQ: ∀n' m',n≤n'→PS q.1 i m0 m'→Gl (Q (.int .i64 q.2) ⟨m',n'⟩)):ACall vE 390 args ⟨m,n⟩ Q:=by
 refine ACall.nodup fun hnn=>ACall.known fun _ hkn=>?_
 obtain⟨sv,hg,hsv,hput⟩:=hp.put hnn
 have hl:=(V4 hsv).2.2
 have hi:i<n:=by
   rcases Nat.lt_or_ge i n with h|h
   · exact h
   · have:=hkn i h;rw[hg]at this;cases this
 have hms: ∀x,Ab (Ak m i x) i=some x:=fun x=>Eu hg
 unfold R5 at hq
 subst ha
 refine UN Tryz.func390 rfl Tryz.ntmps390 Tryz.results390 (.q (.r []) (.q (.q (.r []) (.q (.r []) (.c (.q (.r []) .z) (.q (.r []) (.c (.q (.r []) .z) (.q (.r []) (.c (.r []) (.q (.r []) (.c (.q (.r []) (.q (.r []) (.c (.r []) .z))) (.q (.r []) (.q .z (.r [])))))))))))) (.q (.r []) .z))) fun R hR=>?_
 cases h1:c==[91]
 · cases h2:c==[123]
   · cases h3:c==[58]
     · simp only[h1,h2,h3,Bool.false_eq_true,if_false]at hq
       rcases J3 (l:=p.stack)with hs|⟨st,v,hs⟩
       · simp[hs]at hq
       · simp only[hs,List.getLast?_append,List.getLast?_singleton,Option.or_some,Option.some_or]at hq
         obtain⟨j,ky,pre,junk,rest,g1,g2,g3,g4⟩:=hp.top hs
         have hg2:Ab m i=some (pc (.gsl 5 j (st.length+1)) p):=EE hnn (g2.mem_iff.2 (by simp))
         have hg3:Ab m j=some (pre++lvl v ky++junk):=EE hnn (g2.mem_iff.2 (by simp))
         have hd:=nd3 hnn g2
         have hij:j≠i:=hd.1
         have hj:j<n:=by
           rcases Nat.lt_or_ge j n with h|h
           · exact h
           · have:=hkn j h;rw[hg3]at this;cases this
         have hl2:0<st.length+1∧st.length+1≤Bf:=⟨by omega,by rw[hs]at hlen;simpa using hlen⟩
         have hpr:pre.length=(st.length+1-1) * 5:=by simpa using g1
         have hp5:pre.length=st.length * 5:=g1
         cases h4:c==[44]
         · simp only[h4,Bool.false_eq_true,if_false,Option.some.injEq]at hq
           simp(disch:=omega) only[vm,seval,h1,h2,h3,h4]
           refine⟨Sc (i:=i) (j:=j) (len:=st.length+1) (pc:=_) (by exact hg2) hl2 (by first|(simp(disch:=omega) only[vm,seval];done)|rfl) fun n2 hn2=>?_⟩
           have hw2:wr .i64 (((st.length+1:Nat):Int)-1)=((st.length:Nat):Int):=by
             have:(((st.length+1:Nat):Int)-1)=((st.length:Nat):Int):=by omega
             rw[this];exact ALK (by have:=hl2.2;simp[Bf]at this;omega)
           have hin2:i≠n2:=by omega
           simp(disch:=omega) only[vm,seval,hg3,lvl,drop_at hpr,Ac5 hp5,Ak4 hp5]
           refine⟨L6 [] (.take 0 (.take 1 (.take 2 (.take 3 (.take 4 (.take 5 (.take 6 (.take 7 (.take 8 (.take 9 (.take 10 (.take 11 (.take 12 (.take 13 (.alt 14 [12] (.done) (.stop)))))))))))))))) JY (by kernel_rfl) ?_⟩
           simp(disch:=omega) only[vm,seval,hg2,pc,JX Cu,K9,M3,QK,QT,hw2,Bi RS (Nat.le_succ st.length)]
           have hps0:PS ⟨st,p.want,p.nodes,p.out⟩ i m0 (Ak m i (pc (.gsl 5 j st.length) ⟨st,p.want,p.nodes,p.out⟩)):=by
             refine g4 _ (lvl v ky++junk) _ rfl ?_
             have:=Q9 (x:=pc (.gsl 5 j st.length) ⟨st,p.want,p.nodes,p.out⟩) hnn g2
             rw[List.append_assoc]at this
             exact this
           have hps:=hps0.more (n2,[.int .i64 v.kind,.str v.text,.slice 1 (v.keys.map AVal.str) false,.slice 4 (v.items.map AB) false])
           refine⟨Y2 (v:=v) hps (by simp only[];omega) (fun x hx=>hb x (by rw[hs];simp[hx])) (by first|(simp(disch:=omega) only[vm,seval];done)|rfl) fun n5 m5 hn5 h5=>?_⟩
           simp(disch:=omega) only[vm,seval]
           refine⟨(hR _ _ _ _ _ _ (by simp(disch:=omega) only[vm,seval];rfl) slr (by omega) ?_).1⟩
           have e:KH {p with stack:=(st++[v]).dropLast} v=KH ⟨st,p.want,p.nodes,p.out⟩ v:=by rw[List.dropLast_concat]
           rw[e]at hq
           subst hq
           exact(hQ _ _ (by omega) h5.less).go
         · simp only[h4,if_true,Option.some.injEq]at hq
           have hms2: ∀x,Ab (Ak m i x) j=some (pre++lvl v ky++junk):=fun x=>by
             rw[Lp hij];exact hg3
           subst hq
           simp(disch:=omega) only[vm,seval,h1,h2,h3,h4,hg,pc]
           refine⟨Sc (i:=i) (j:=j) (len:=st.length+1) (pc:=[.int .i64 0,.int .i64 p.nodes,.int .i64 p.out.kind,.str p.out.text,.slice 1 (p.out.keys.map AVal.str) false,.slice 4 (p.out.items.map AB) false]) (by have e:=hg2.symm.trans hg;simp only[pc,Option.some.injEq,List.cons.injEq]at e;rw[hms,←e.1]) hl2 (by first|(simp(disch:=omega) only[vm,seval];done)|rfl) fun n2 hn2=>?_⟩
           simp(disch:=omega) only[vm,seval,hms2,lvl,drop_at hpr,Ac5 hp5]
           cases h7:v.kind==7
           · simp(disch:=omega) only[vm,seval,h7]
             refine⟨(hR _ _ _ _ _ _ (by simp(disch:=omega) only[vm,seval];rfl) slr (by omega) ?_).1⟩
             exact(hQ _ _ (by omega) (by simp only[h7,Bool.false_eq_true,if_false];exact hput ⟨st++[v],0,p.nodes,p.out⟩ hs.symm)).go
           · simp(disch:=omega) only[vm,seval,h7,hms]
             refine⟨(hR _ _ _ _ _ _ (by simp(disch:=omega) only[vm,seval];rfl) slr (by omega) ?_).1⟩
             exact(hQ _ _ (by omega) (by simp only[h7,if_true];exact hput ⟨st++[v],2,p.nodes,p.out⟩ hs.symm)).go
     · simp only[h1,h2,h3,Bool.false_eq_true,if_false,if_true,Option.some.injEq]at hq
       subst hq
       simp(disch:=omega) only[vm,seval,h1,h2,h3,hg,pc,hl]
       refine⟨(hR _ _ _ _ _ _ (by simp(disch:=omega) only[vm,seval];rfl) slr (by omega) ?_).1⟩
       exact(hQ _ _ (by omega) (hput {p with want:=0} rfl)).go
   · simp only[h1,h2,Bool.false_eq_true,if_false,if_true,Option.some.injEq]at hq
     subst hq
     simp(disch:=omega) only[vm,seval,h1,h2]
     refine⟨YX hp hnd (by first|(simp(disch:=omega) only[vm,seval];done)|rfl) fun n5 m5 hn5 h5=>?_⟩
     simp(disch:=omega) only[vm,seval]
     refine⟨(hR _ _ _ _ _ _ (by simp(disch:=omega) only[vm,seval];rfl) slr (by omega) ?_).1⟩
     exact(hQ _ _ (by omega) h5).go
 · simp only[h1,if_true,Option.some.injEq]at hq
   subst hq
   simp(disch:=omega) only[vm,seval,h1]
   refine⟨YX hp hnd (by first|(simp(disch:=omega) only[vm,seval];done)|rfl) fun n5 m5 hn5 h5=>?_⟩
   simp(disch:=omega) only[vm,seval]
   refine⟨(hR _ _ _ _ _ _ (by simp(disch:=omega) only[vm,seval];rfl) slr (by omega) ?_).1⟩
   exact(hQ _ _ (by omega) h5).go
theorem AYA{p:JPsr}{i:Nat}{m0:MS}{t:ApiToken}{q:JPsr×Int} (tokNum: ∀ {n:Nat}{m:MS}{Q:PQ}{args:List AVal} {a0 r},FZ N a0=some r→args=[.str a0]→(∀n',n≤n'→Gl (Q (.tuple [.str r.1,.int .i64 r.2]) ⟨m,n'⟩))→ACall vE 442 args ⟨m,n⟩ Q)
    (hp:PS p i m0 m) (hq:SF N p t=some q) (hnd:0≤p.nodes∧p.nodes≤20000) (hlen:p.stack.length≤Bf) (hb: ∀v,v∈p.stack→v.keys.length≤1099511627776∧v.items.length≤1099511627776) (ha:args=[.ptr i 0,Cm t])
    (hQ: ∀n' m',n≤n'→PS q.1 i m0 m'→Gl (Q (.int .i64 q.2) ⟨m',n'⟩)):ACall vE 301 args ⟨m,n⟩ Q:=by
 refine ACall.nodup fun hnn=>ACall.known fun _ hkn=>?_
 obtain⟨sv,hg,hsv,hput⟩:=hp.put hnn
 have hl:=(V4 hsv).2.2
 have hi:i<n:=by
   rcases Nat.lt_or_ge i n with h|h
   · exact h
   · have:=hkn i h;rw[hg]at this;cases this
 have hin:i≠n:=by omega
 unfold SF at hq
 subst ha
 refine UN Tryz.func301 rfl Tryz.ntmps301 Tryz.results301 (.q (.r []) (.q (.q (.r []) (.c (.q (.r []) .z) (.q (.r []) (.c (.q (.r []) .z) (.q (.r []) (.c (.q (.r []) .z) (.q (.r []) (.c (.q (.r []) .z) .z)))))))) (.q (.r []) .z))) fun R hR=>?_
 simp(disch:=omega) only[vm,seval]
 refine⟨AY7 (m0:=(n,[.int .i64 t.kind,.str t.text,.int .i64 t.at_])::m0) (p:=p) (i:=i) (t:=t) (hp.more _) hlen (by first|(simp(disch:=omega) only[vm,seval];done)|rfl) fun n2 hn2=>?_⟩
 cases h0:QS p t
 · simp only[h0,if_true,Option.some.injEq]at hq
   subst hq
   simp(disch:=omega) only[vm,seval]
   refine⟨(hR _ _ _ _ _ _ (by simp(disch:=omega) only[vm,seval];rfl) (.cons _ slr) (by omega) ?_).1⟩
   exact(hQ _ _ (by omega) hp).go
 · simp only[h0,Bool.true_eq_false,if_false]at hq
   have hps:=hp.more (n,[.int .i64 t.kind,.str t.text,.int .i64 t.at_])
   cases h1:t.kind==2
   · simp only[h1,Bool.false_eq_true,if_false]at hq
     cases h2:p.want==2||p.want==3
     · simp only[h2,Bool.false_eq_true,if_false]at hq
       obtain⟨h3,h4⟩:=Bool.or_eq_false_iff.1 h2
       cases h5:t.kind==1
       · simp only[h5,Bool.false_eq_true,if_false]at hq
         simp(disch:=omega) only[vm,seval,h1,h3,h4,h5,hg,pc,hl]
         refine⟨ASQ (i:=i) (t:=t) tokNum hps hq hnd hlen (fun v hv=>(hb v hv).2) (by first|(simp(disch:=omega) only[vm,seval];done)|rfl) fun n5 m5 hn5 h6=>?_⟩
         simp(disch:=omega) only[vm,seval]
         refine⟨(hR _ _ _ _ _ _ (by simp(disch:=omega) only[vm,seval];rfl) slr (by omega) ?_).1⟩
         exact(hQ _ _ (by omega) h6.less).go
       · simp only[h5,if_true,Option.some.injEq]at hq
         subst hq
         simp(disch:=omega) only[vm,seval,h1,h3,h4,h5,hg,pc,hl]
         refine⟨(hR _ _ _ _ _ _ (by simp(disch:=omega) only[vm,seval];rfl) (.cons _ slr) (by omega) ?_).1⟩
         exact(hQ _ _ (by omega) hp).go
     · simp only[h2,if_true]at hq
       cases h3:p.want==2
       · have h4:(p.want==3)=true:=by simpa[h3]using h2
         simp(disch:=omega) only[vm,seval,h1,h3,h4,hg,pc,hl]
         refine⟨AMi (i:=i) hps hq hlen (fun v hv=>(hb v hv).1) (by first|(simp(disch:=omega) only[vm,seval];done)|rfl) fun n5 m5 hn5 h6=>?_⟩
         simp(disch:=omega) only[vm,seval]
         refine⟨(hR _ _ _ _ _ _ (by simp(disch:=omega) only[vm,seval];rfl) slr (by omega) ?_).1⟩
         exact(hQ _ _ (by omega) h6.less).go
       · simp(disch:=omega) only[vm,seval,h1,h3,hg,pc,hl]
         refine⟨AMi (i:=i) hps hq hlen (fun v hv=>(hb v hv).1) (by first|(simp(disch:=omega) only[vm,seval];done)|rfl) fun n5 m5 hn5 h6=>?_⟩
         simp(disch:=omega) only[vm,seval]
         refine⟨(hR _ _ _ _ _ _ (by simp(disch:=omega) only[vm,seval];rfl) slr (by omega) ?_).1⟩
         exact(hQ _ _ (by omega) h6.less).go
   · simp only[h1,if_true]at hq
     simp(disch:=omega) only[vm,seval,h1]
     refine⟨ARj (i:=i) hps hq hnd hlen (fun v hv=>(hb v hv).2) (by first|(simp(disch:=omega) only[vm,seval];done)|rfl) fun n5 m5 hn5 h6=>?_⟩
     simp(disch:=omega) only[vm,seval]
     refine⟨(hR _ _ _ _ _ _ (by simp(disch:=omega) only[vm,seval];rfl) slr (by omega) ?_).1⟩
     exact(hQ _ _ (by omega) h6.less).go
section cells
variable{E:Env}{F:Nat→Nat}{Γ:Ghost}{w:World}{a:Act}{af:List AVal}{st:St}
theorem ML (b:Nat): ∀(xs:List AVal) (vs:List Value) (i:Nat),AP b (xs.set i (xs.getD i .any).strip) vs≤AP b xs vs
  |[],_,_=>by simp[AP]
  |x::xs,[],i=>by cases i<;>simp[AP]
  | x::xs,v::vs,0=>by
    have:=FM b x v
    simp only[List.getD_cons_zero,List.set_cons_zero,AP];omega
  | x::xs,v::vs,i+1=>by
    have:=ML b xs vs i
    simp only[List.getD_cons_succ,List.set_cons_succ,AP];omega
theorem Sim.stripCell{i:Nat}{cs:List AVal} (p:Nat) (hs:Sim E F Γ st w af a.tmps.toList) (hg:Ab st.m i=some cs):Sim E F Γ {st with m:=Ak st.m i (cs.set p (cs.getD p .any).strip)} w af a.tmps.toList:=by
  rcases hs.box_ok _ (Ip hg)with⟨b,arr,e,hb⟩|⟨v,hv⟩
  rotate_left
  · exact hs.setSh hg hv (hv.rep.setStrip p) (hv.own.setStrip p) fun n=>by have:=ML n cs [v] p;have h2:=hs.tok n;omega
  obtain⟨lo,hi,hh,hf⟩:=hb.heap
  exact(hs.setBox (w':=w) (cs':=cs.set p (cs.getD p .any).strip) (arr':=arr) (lo:=lo) (hi:=hi) hg hb hh hf (fun _ _=>rfl) rfl rfl rfl rfl (by rw[List.length_set];exact hb.rep.setStrip p) (hb.own.setStrip p) (by rw[List.length_set];exact hb.one)
          (fun n=>by have:=ML n cs arr.toList p;have h2:=hs.tok n;omega)).1
theorem Qj{c:Code}{Q:APost}{i:Nat}{cs:List AVal} (p:Nat) (hg:Ab st.m i=some cs) (h:AWp E c Q af {st with m:=Ak st.m i (cs.set p (cs.getD p .any).strip)}):AWp E c Q af st:=
  ⟨fun F Γ w a hd hs=>h.go F Γ w a hd (Sim.stripCell p hs hg)⟩
end cells
def BD (p:JPsr) (k:Nat):Prop:=k≤1099511627776∧0≤p.nodes∧p.nodes≤20000∧p.stack.length≤64∧ ∀v,v∈p.stack→v.keys.length+k≤1099511627776∧v.items.length+k≤1099511627776
instance (p:JPsr) (k:Nat):Decidable (BD p k):=by unfold BD;exact inferInstance
theorem PS.all{p:JPsr}{i x:Nat}{c:List AVal}{m0 m:MS} (h:PS p i ((x,c)::m0) m): ∃Y:MS,m.Perm ((x,c)::(Y++m0)):=by
  cases h with
  |nil X hs h=>exact⟨(i,pc (.slice 5 [] true) p)::X,h.trans (by simpa using List.perm_middle (a:=(x,c)) (l₁:=(i,pc (.slice 5 [] true) p)::X) (l₂:=m0))⟩
  |box j ks junk X hk h=>exact⟨(i,pc (.gsl 5 j p.stack.length) p)::(j,SN p.stack ks++junk)::(maps p.stack ks++X),h.trans (by simpa using List.perm_middle (a:=(x,c)) (l₁:=(i,pc (.gsl 5 j p.stack.length) p)::(j,SN p.stack ks++junk)::(maps p.stack ks++X)) (l₂:=m0))⟩
theorem BD.put{p:JPsr}{v:ApiValue}{k:Nat} (h:BD p (k+1)) (h2:(Nu p v).2=0):BD (Nu p v).1 k:=by
  obtain⟨hk,h3,h4,h5,h6⟩:=h
  unfold Nu at h2⊢
  by_cases hc:p.nodes+1>20000
  · rw[if_pos hc]at h2;cases h2
  · rw[if_neg hc]
    unfold KH
    rcases J3 (l:=p.stack)with hs|⟨st,w,hs⟩
    · simp only[hs,List.getLast?_nil]
      exact⟨by omega,by simp only[];omega,by simp only[];omega,by simp,by simp⟩
    · simp only[hs,List.getLast?_append,List.getLast?_singleton,Option.or_some,Option.some_or,List.dropLast_concat]
      rw[hs]at h5 h6
      refine⟨by omega,by simp only[];omega,by simp only[];omega,by simpa using h5,fun x hx=>?_⟩
      simp only[List.mem_append,List.mem_singleton]at hx
      rcases hx with hx|rfl
      · have:=h6 x (by simp[hx]);omega
      · have:=h6 w (by simp);simp only[List.length_append,List.length_cons,List.length_nil];omega
theorem BD.take{p:JPsr}{t:ApiToken}{q:JPsr×Int}{k:Nat} (h:BD p (k+1)) (hq:SF N p t=some q) (h2:q.2=0):BD q.1 k:=by
  have less:BD p k:=⟨by have:=h.1;omega,h.2.1,h.2.2.1,h.2.2.2.1,fun v hv=>by have:=h.2.2.2.2 v hv;omega⟩
  obtain⟨hk,h3,h4,h5,h6⟩:=h
  have opn: ∀kd w,(I6 p kd w).2=0→BD (I6 p kd w).1 k:=by
    intro kd w h
    unfold I6 at h⊢
    by_cases a:p.stack.length≥64
    · rw[if_pos a]at h;cases h
    · rw[if_neg a]at h⊢
      by_cases b:p.nodes+1>20000
      · rw[if_pos b]at h;cases h
      · rw[if_neg b]
        refine⟨by omega,by simp only[];omega,by simp only[];omega,by simp only[List.length_append,List.length_cons,List.length_nil];omega,fun x hx=>?_⟩
        simp only[List.mem_append,List.mem_singleton]at hx
        rcases hx with hx|rfl
        · have:=h6 x hx;omega
        · simp only[List.length_nil];omega
  unfold SF at hq
  split at hq
  · cases hq;cases h2
  · split at hq
    · unfold R5 at hq
      split at hq
      · cases hq;exact opn _ _ h2
      · split at hq
        · cases hq;exact opn _ _ h2
        · split at hq
          · cases hq;exact less
          · rcases J3 (l:=p.stack)with hs|⟨st,w,hs⟩
            · simp[hs]at hq
            · simp only[hs,List.getLast?_append,List.getLast?_singleton,Option.or_some,Option.some_or,List.dropLast_concat]at hq
              split at hq
              · cases hq
                exact⟨less.1,less.2.1,less.2.2.1,by rw[←hs];exact less.2.2.2.1,fun v hv=>less.2.2.2.2 v (by rw[hs];exact hv)⟩
              · cases hq
                rw[hs]at h5 h6
                unfold KH
                rcases J3 (l:=st)with hs2|⟨st2,w2,hs2⟩
                · simp only[hs2,List.getLast?_nil]
                  exact⟨less.1,less.2.1,less.2.2.1,by simp,by simp⟩
                · simp only[hs2,List.getLast?_append,List.getLast?_singleton,Option.or_some,Option.some_or,List.dropLast_concat]
                  rw[hs2]at h5 h6
                  refine⟨less.1,less.2.1,less.2.2.1,by simp at h5⊢;omega,fun x hx=>?_⟩
                  simp only[List.mem_append,List.mem_singleton]at hx
                  rcases hx with hx|rfl
                  · have:=h6 x (by simp[hx]);omega
                  · have:=h6 w2 (by simp);simp only[List.length_append,List.length_cons,List.length_nil];omega
    · split at hq
      · unfold VS at hq
        rcases J3 (l:=p.stack)with hs|⟨st,w,hs⟩
        · simp[hs]at hq
        · simp only[hs,List.getLast?_append,List.getLast?_singleton,Option.or_some,Option.some_or,List.dropLast_concat]at hq
          split at hq
          · cases hq;cases h2
          · cases hq
            rw[hs]at h5 h6
            refine⟨less.1,less.2.1,less.2.2.1,by simpa using h5,fun x hx=>?_⟩
            simp only[List.mem_append,List.mem_singleton]at hx
            rcases hx with hx|rfl
            · have:=h6 x (by simp[hx]);omega
            · have:=h6 w (by simp);simp only[List.length_append,List.length_cons,List.length_nil];omega
      · split at hq
        · cases hq;exact less
        · unfold Sq at hq
          split at hq
          · obtain⟨y,h7,h8⟩:=bind_some hq
            split at h8
            · cases h8;cases h2
            · cases h8;exact BD.put ⟨hk,h3,h4,h5,h6⟩ h2
          · split at hq
            · cases hq;exact BD.put ⟨hk,h3,h4,h5,h6⟩ h2
            · cases hq;exact BD.put ⟨hk,h3,h4,h5,h6⟩ h2
def JS (i:Nat) (m0:MS):Type:= {x:Int×JPsr×MS // PS x.2.1 i m0 x.2.2}
def JG (N:Nat) (a0:List UInt8){i:Nat}{m0:MS} (k:Nat) (x:JS i m0):Option (ApiValue×Int×Int):=grd (BD x.1.2.1 k) (Sb N a0 k x.1.1 x.1.2.1)
theorem JG0{a0:List UInt8}{i:Nat}{m0:MS}{x:JS i m0}:JG N a0 0 x=none:=by
  unfold JG grd;split<;>rfl
theorem ARz{a0:List UInt8}{r:ApiValue×Int×Int} (tokNum: ∀ {n:Nat}{m:MS}{Q:PQ}{args:List AVal} {a0 r},FZ N a0=some r→args=[.str a0]→(∀n',n≤n'→Gl (Q (.tuple [.str r.1,.int .i64 r.2]) ⟨m,n'⟩))→ACall vE 442 args ⟨m,n⟩ Q)
    (tokNext: ∀ {n:Nat}{m:MS}{Q:PQ}{args:List AVal} {a0 a1 r},MZ N a0 a1=some r→args=[.str a0,.int .i64 a1]→(∀n',n≤n'→Gl (Q (.tuple [Cm r.1,.int .i64 r.2.1,.int .i64 r.2.2]) ⟨m,n'⟩))→ACall vE 300 args ⟨m,n⟩ Q)
    (h:Ho N a0=some r) (ha:args=[.str a0]) (hQ: ∀n',n≤n'→Gl (Q (.tuple [AB r.1,.int .i64 r.2.1,.int .i64 r.2.2]) ⟨m,n'⟩)):ACall vE 210 args ⟨m,n⟩ Q:=by
 unfold Ho at h
 by_cases hN:N>1099511627776
 · rw[if_pos hN]at h;cases h
 rw[if_neg hN]at h
 subst ha
 refine AnQ hQ Tryz.func210 rfl Tryz.ntmps210 Tryz.results210 (.q (.r []) (.q (.q (.r []) (.c (.q (.r []) .z) .z)) (.q (.r []) (.q (.r []) .z)))) fun R hR=>?_
 by_cases hl:a0.length>1048576
 · rw[if_pos hl]at h
   cases h
   have hc:decide ((1048576:Int)<(a0.length:Int))=true:=by simp;omega
   simp(disch:=omega) only[vm,seval,hc]
   refine⟨(hR _ _ _ _ _ _ (by simp(disch:=omega) only[vm,seval];rfl) (.cons _ slr) rfl (by omega) ?_).1⟩
   simp(disch:=omega) only[vm,seval,HY,En]
 · rw [if_neg hl]at h
   have hc:decide ((1048576:Int)<(a0.length:Int))=false:=by simp;omega
   simp(disch:=omega) only[vm,seval,hc]
   have hnn:n+1≠n:=by omega
   refine⟨Qj (i:=n+1) 5 AA8 (Qj (i:=n+1) 6 (by simp only[vm];rfl) ?_)⟩
   simp(disch:=omega) only[vm,seval]
   generalize hcell:([.int .i64 0,.str [],.slice 1 [] true,.slice 4 [] true]:List AVal)=cell
   have hcl:cell.length=4:=by subst hcell;rfl
   have s0:PS ⟨[],0,0,HY⟩ (n+1) ((n,cell)::m) ((n+1,pc (.slice 5 [] true) ⟨[],0,0,HY⟩)::(n,cell)::m):=.nil [] rfl (List.Perm.refl _)
   have hG:True∧JG N a0 N (⟨(0,⟨[],0,0,HY⟩,(n+1,pc (.slice 5 [] true) ⟨[],0,0,HY⟩)::(n,cell)::m),s0⟩:JS (n+1) ((n,cell)::m))=some r:=by
     refine⟨trivial,?_⟩
     have:BD ⟨[],0,0,HY⟩ N:=⟨Nat.not_lt.1 hN,by simp,by simp,by simp,by simp⟩
     simp only[JG,grd,if_pos this]
     exact h
   refine Aet (σ:=JS (n+1) ((n,cell)::m)) (γ:=Unit) (JG N a0) (fun x _=>[.int .i64 x.1.1]) (fun x _=>x.1.2.2) [7,8,9,10,15,16,17,18,19,20,21,22,23,24,25,26,27,28,29,30,31,32,33,34,35,36,37,38,39,40,41,42] [6] ⟨(0,⟨[],0,0,HY⟩,(n+1,pc (.slice 5 [] true) ⟨[],0,0,HY⟩)::(n,cell)::m),s0⟩ () hG (fun x=>JG0) ?_ ?_ ?_
   · simp only[pc,HY,List.map_nil]
   · simp(disch:=omega) only[vm,seval]
   rintro k ⟨⟨at_,p,m1⟩,hps⟩ _ n1 hn1 hk1 h1 Jk hJ
   simp only at hps hk1 h1 hJ
   refine AWp.nodup fun hnd=>?_
   refine Cv (.q (.r []) (.q (.q (.r []) (.c .z .z)) (.q (.q (.r []) (.q (.r []) (.c .z .z))) .z))) ?_
   obtain⟨hbd,h2⟩:=VQ (show grd (BD p (k+1)) (Sb N a0 (k+1) at_ p)=some r from h1.2)
   rw[Sb]at h2
   obtain⟨y,h3,h4⟩:=bind_some h2
   simp(disch:=omega) only[vm,seval]
   refine⟨tokNext h3 (by first|(simp(disch:=omega) only[vm,seval];done)|rfl) fun n2 hn2=>?_⟩
   have hn12:n<n1:=by omega
   have hfin: ∀(x:ApiValue) (a b:Int),True:=fun _ _ _=>trivial
   subst hcell
   have hnp:n+1<n1:=by
     rcases Nat.lt_or_ge (n+1) n1 with h|h
     · exact h
     · obtain⟨sv,hg,_⟩:=hps.put hnd
       have:=hk1 (n+1) h;rw[hg]at this;cases this
   have hn_2:n≠n2:=by omega
   have hp_2:n+1≠n2:=by omega
   cases h5:y.2.2 !=0
   · simp only[h5,Bool.false_eq_true,if_false]at h4
     obtain⟨q,h6,h7⟩:=bind_some h4
     simp(disch:=omega) only[vm,seval,h5]
     have hps2:=hps.more (n2,[.int .i64 y.1.kind,.str y.1.text,.int .i64 y.1.at_])
     refine⟨AYA (i:=n+1) tokNum hps2 h6 ⟨hbd.2.1,hbd.2.2.1⟩ (by have:=hbd.2.2.2.1;simp[Bf];omega) (fun v hv=>by have:=hbd.2.2.2.2 v hv;omega) (by first|(simp(disch:=omega) only[vm,seval];done)|rfl) fun n5 m5 hn5 h8=>?_⟩
     have hln: ∀x c,(x,c)∈(n2,[.int .i64 y.1.kind,.str y.1.text,.int .i64 y.1.at_])::(n,[.int .i64 0,.str [],.slice 1 [] true,.slice 4 [] true])::m→(m5.map (·.1)).Nodup→Ab m5 x=some c:=fun x c hx hd=>h8.get hd hx
     have hpm: ∃Y:MS,m5.Perm ((n,[.int .i64 0,.str [],.slice 1 [] true,.slice 4 [] true])::(n2,[.int .i64 y.1.kind,.str y.1.text,.int .i64 y.1.at_])::(Y++m)):=by
       obtain⟨Y,hY⟩:=h8.all
       refine⟨Y,hY.trans ?_⟩
       refine(List.Perm.cons _ ?_).trans (List.Perm.swap _ _ _)
       simp
     cases h9:q.2 !=0
     · simp only[h9,Bool.false_eq_true,if_false]at h7
       simp(disch:=omega) only[vm,seval,h9]
       refine⟨AWp.nodup fun hd5=>?_⟩
       have ht5:=hln n2 _ List.mem_cons_self hd5
       obtain⟨sv,hg5,hsv5,_⟩:=h8.put hd5
       refine Cv (.q (.q (.r []) (.c .z .z)) (.r [])) ?_
       cases h10:y.1.kind==1
       · simp only[h10,Bool.false_eq_true,if_false]at h7
         simp(disch:=omega) only[vm,seval,ht5,h10]
         have hps5:PS q.1 (n+1) ((n,[.int .i64 0,.str [],.slice 1 [] true,.slice 4 [] true])::m) m5:=h8.less
         have hb5:BD q.1 k:=BD.take hbd h6 (by simpa using h9)
         have hg:JG N a0 k (⟨(y.2.1,q.1,m5),hps5⟩:JS (n+1) ((n,[.int .i64 0,.str [],.slice 1 [] true,.slice 4 [] true])::m))=some r:=by
           simp only[JG,grd,if_pos hb5];exact h7
         refine⟨hJ _ () _ _ _ _ hg slr rfl ?_ ?_ (by omega)⟩<;>first|(simp(disch:=omega) only[vm,seval];done)|rfl
       · simp only[h10,if_true,Option.some.injEq]at h7
         subst h7
         simp(disch:=omega) only[vm,seval,ht5,h10]
         obtain⟨Y,hY⟩:=hpm
         have hgp:Ab ((n,[.int .i64 0,.str [],.slice 1 [] true,.slice 4 [] true])::(n2,[.int .i64 y.1.kind,.str y.1.text,.int .i64 y.1.at_])::(Y++m)) (n+1)=some (pc sv q.1):=by
           refine EE (RG hY hd5) (hY.mem_iff.1 ?_)
           exact Ip hg5
         have hgp2:Ab (Y++m) (n+1)=some (pc sv q.1):=by
           rw[Sv (by omega),Sv (by omega)]at hgp;exact hgp
         refine⟨VP hY ?_⟩
         refine Cv (.q (.r []) .z) ?_
         simp(disch:=omega) only[vm,seval,hgp2,pc]
         refine⟨(hR _ _ _ _ _ _ (by simp(disch:=omega) only[vm,seval];rfl) (.cons _ (.cons _ (List.sublist_append_right Y m))) rfl (by omega) ?_).1⟩
         simp(disch:=omega) only[vm,seval,En]
     · simp only[h9,if_true,Option.some.injEq]at h7
       subst h7
       simp(disch:=omega) only[vm,seval,h9]
       obtain⟨Y,hY⟩:=hpm
       refine⟨VP hY ?_⟩
       refine Cv (.q .z .z) ?_
       simp(disch:=omega) only[vm,seval]
       refine⟨L6 [] (.take 1 (.take 2 (.take 3 (.alt 0 [3,2,1] (.alt 4 [3,2,1] (.alt 5 [3] (.alt 6 [] (.done) (.stop)) (.stop)) (.stop)) (.stop))))) JY (by kernel_rfl) ?_⟩
       simp(disch:=omega) only[vm,seval]
       refine⟨(hR _ _ _ _ _ _ (by simp(disch:=omega) only[vm,seval];rfl) (.cons _ (.cons _ (List.sublist_append_right Y m))) rfl (by omega) ?_).1⟩
       simp(disch:=omega) only[vm,seval,HY,En]
   · simp only[h5,if_true,Option.some.injEq]at h4
     subst h4
     simp(disch:=omega) only[vm,seval,h5]
     obtain⟨Y,hY⟩:=hps.all
     refine⟨VP ((hY.cons _).trans (List.Perm.swap _ _ _)) ?_⟩
     refine Cv (.q (.r []) .z) ?_
     simp(disch:=omega) only[vm,seval]
     refine⟨(hR _ _ _ _ _ _ (by simp(disch:=omega) only[vm,seval];rfl) (.cons _ (.cons _ (List.sublist_append_right Y m))) rfl (by omega) ?_).1⟩
     simp(disch:=omega) only[vm,seval,HY,En]
theorem U3 {a0 r} (h:Ho N a0=some r) (ha:args=[.str a0]) (hQ: ∀n',n≤n'→Gl (Q (.tuple [AB r.1,.int .i64 r.2.1,.int .i64 r.2.2]) ⟨m,n'⟩)):ACall vE 210 args ⟨m,n⟩ Q:=ARz (fun h ha hq=>WI h ha hq) (fun h ha hq=>AB6 h ha hq) h ha hQ
instance AZa {a0}:CF vE (Ho N a0) 210 [.str a0] (fun r=>.tuple [AB r.1,.int .i64 r.2.1,.int .i64 r.2.2]):=⟨fun h hQ=>U3 h rfl hQ⟩
end Go.Proofs.YtfknikagmmfakaaGreatDoor
