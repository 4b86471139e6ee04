import Derived.Test.YtgfgogdgnkaedaaGreatDoorW18
set_option linter.unusedVariables false
set_option linter.unusedSimpArgs false
set_option maxHeartbeats 4000000
set_option maxRecDepth 100000
set_option linter.defProp false
namespace Go.Proofs.YtgfgogdgnkaedaaGreatDoor
open Go.VM
attribute [local irreducible] AA grd letL
variable{N n:Nat}{m:MS}{Q:PQ}{args:List AVal}
theorem LJ{t:TypeId}{w i l:Nat} (h:BL vE.P t=true):QG vE t (.gsl w i l)=some (.int .i64 l):=by simp[QG,h]
theorem Nk{w i l:Nat}:(AVal.gsl w i l).strip=.gsl w i l:=rfl
theorem Ph{w i l:Nat}:AX (.gsl w i l)=[.gsl w i l]:=rfl
theorem TY{w i l:Nat}:CV (.gsl w i l)=true:=rfl
theorem Sy{w i l:Nat}:Km (.gsl w i l)=false:=rfl
theorem AWU{i l:Nat} (h:0<l∧l≤CP):C9 vE 205 (.gsl 5 i l) (.int .i64 (wr .i64 ((l:Int)-1)))=some (.ptr i ((l-1) * 5)):=by
 have e:wr .i64 ((l:Int)-1)=((l-1:Nat):Int):=by have h2:=h.2;have h1:((l:Int)-1)=((l-1:Nat):Int):=ff;rw[h1];exact APZ ff
 rw[e];have h3:l-1<l:=ff;simp[C9,UN,h3]
theorem AON{i j len:Nat}{pc:List AVal} (hl:0<len∧len≤CP) (ha:args=[.ptr i 0]) (hQ: ∀n',n≤n'→Gl (Q (.ptr j ((len-1)*5)) ⟨(i,.gsl 5 j len::pc)::m,n'⟩)):ACall vE 245 args ⟨(i,.gsl 5 j len::pc)::m,n⟩ Q:=by have h:True∧True:=⟨trivial,trivial⟩;subst ha;refine ent hQ Tryz.func245 rfl Tryz.ntmps245 Tryz.results245 (.q (.r []) (.q .z .z)) fun R hR=>?_;simp(disch:= omega) only[vm,seval,h.1];refine⟨Og [] (.take 0 (.take 1 (.take 2 (.take 3 (.take 4 (.take 5 (.take 6 (.take 7 (.take 8 (.take 9 (.take 10 (.alt 11 [] (.done) (.stop))))))))))))) Lc (by kernel_rfl) ?_⟩;simp(disch:= omega) only[vm,seval,h.1,LJ Dt,Nk,AWU hl];refine⟨(hR _ _ _ _ _ _ (by simp(disch:= omega) only[vm,seval,h.1];rfl) slr ?_ ff ?_).1⟩<;>first| (simp(disch:= omega) only[vm,seval,h.1];done)| rfl
theorem WK{i j len:Nat}{pc:List AVal} (hm:Ae m i=some (.gsl 5 j len::pc)) (hl:0<len∧len≤CP) (ha:args=[.ptr i 0]) (hQ: ∀n',n≤n'→Gl (Q (.ptr j ((len-1)*5)) ⟨m,n'⟩)):ACall vE 245 args ⟨m,n⟩ Q:=by have h:True∧True:=⟨trivial,trivial⟩;subst ha;refine ent hQ Tryz.func245 rfl Tryz.ntmps245 Tryz.results245 (.q (.r []) (.q .z .z)) fun R hR=>?_;simp(disch:= omega) only[vm,seval,h.1,hm];refine⟨Og [] (.take 0 (.take 1 (.take 2 (.take 3 (.take 4 (.take 5 (.take 6 (.take 7 (.take 8 (.take 9 (.take 10 (.alt 11 [] (.done) (.stop))))))))))))) Lc (by kernel_rfl) ?_⟩;simp(disch:= omega) only[vm,seval,h.1,LJ Dt,Nk,AWU hl,hm];refine⟨(hR _ _ _ _ _ _ (by simp(disch:= omega) only[vm,seval,h.1,hm];rfl) slr ?_ ff ?_).1⟩<;>first| (simp(disch:= omega) only[vm,seval,h.1,hm];done)| rfl
theorem ASa:(Rc vE.P 305).map (Cg vE.P)=some (some (.bool false)):=by kernel_rfl
theorem SY: ∃e,Rc vE.P 305=some e∧Cg vE.P e=some (.bool false):=by have h:=ASa;cases he:Rc vE.P 305 with |none=>rw[he]at h;cases h|some e=>rw[he]at h;simp only[aI,ae]at h;exact⟨e,rfl,h⟩
theorem AMl{s:List UInt8}: ∀ {keys:List (List UInt8)},s∈keys→KP keys (keys.map fun _=>AVal.bool true) s=some (.bool true)
 | k::ks,h=>by
  simp only[aE,KP];split;·rfl
  ·rename_i hn;rcases aO.1 h with h|h;·exact absurd h hn
   ·exact AMl h
theorem ACe{s:List UInt8}: ∀ {keys:List (List UInt8)},s∉keys→KP keys (keys.map fun _=>AVal.bool true) s=none |[],_=>rfl| k::ks,h=>by simp only[aO,not_or]at h;simp only[aE,KP];rw[aj h.1];exact ACe h.2
theorem AOO{s:List UInt8}{x:AVal}: ∀ {keys:List (List UInt8)}{vs:List AVal},s∉keys→vs.length=keys.length→Gc keys s=keys++[s]∧KD keys vs s x=vs++[x] |[],[],_,_=>⟨rfl,rfl⟩|[],_::_,_,h=>by simp at h|k::ks,[],_,h=>by simp at h| k::ks,v::vs,h,hl=>by simp only[aO,not_or]at h;obtain⟨h1,h2⟩:=AOO (x:=x) h.2 (by simpa using hl:vs.length=ks.length);simp only[Gc,KD,aj h.1,h1,h2,bA,and_self]
theorem Amt{k:Nat}{s:List UInt8}{keys:List (List UInt8)}{st:St} (hm:Ae st.m k=some [.map keys (keys.map fun _=>.bool true)]) (hin:s∈keys):PO vE 305 (.sh k) (.str s) false st=some (.bool true):=by obtain⟨e,h1,h2⟩:=SY;simp[PO,h1,h2,UI,hm,AMl hin,AVal.strip]
theorem Ads{k:Nat}{s:List UInt8}{keys:List (List UInt8)}{st:St} (hm:Ae st.m k=some [.map keys (keys.map fun _=>.bool true)]) (hin:s∉keys):PO vE 305 (.sh k) (.str s) false st=some (.bool false):=by obtain⟨e,h1,h2⟩:=SY;simp[PO,h1,h2,UI,hm,ACe hin,AVal.strip]
theorem Ako{k:Nat}{s:List UInt8}{keys:List (List UInt8)}{st:St} (hm:Ae st.m k=some [.map keys (keys.map fun _=>.bool true)]) (hin:s∉keys):AAJ vE 305 (.sh k) (.str s) (.bool true) st=some {st with m:=Ar st.m k [.map (keys++[s]) ((keys++[s]).map fun _=>.bool true)]}:=by obtain⟨e,h1,h2⟩:=SY;obtain⟨h3,h4⟩:=AOO (x:=AVal.bool true) (vs:=keys.map fun _=>AVal.bool true) hin fg;simp[AAJ,h1,UI,hm,h3,h4]
theorem drop_at{q c:Nat}{pre l junk:List AVal} (h:pre.length=q):List.drop (q+c) (pre++l++junk)=List.drop c (l++junk):=by subst h;rw[aL,cb];simp
theorem get_at{q c:Nat}{pre l junk:List AVal} (h:pre.length=q):(pre++l++junk)[q+c]?=(l++junk)[c]?:=by subst h;rw[aL,d7 ff];congr 1;omega
theorem Adc{q c:Nat}{x:AVal}{pre l junk:List AVal} (h:pre.length=q) (hc:decide (c<l.length)=true):(pre++l++junk).set (q+c) x=pre++l.set c x++junk:=by
 subst h;have hc:c<l.length:=by simpa using hc
 rw[aL,cY _ _ ff,List.set_append_left _ _ ff,aL];congr 2;congr 1;omega
theorem AsO{q:Nat}{a b c d e x:AVal}{pre junk:List AVal} (h:pre.length=q):(pre++[a,b,c,d,e]++junk).set (q+2) x=pre++[a,b,x,d,e]++junk:=Adc h rfl
theorem AoX{q:Nat}{a b c d e x:AVal}{pre junk:List AVal} (h:pre.length=q):(pre++[a,b,c,d,e]++junk).set (q+3) x=pre++[a,b,c,x,e]++junk:=Adc h rfl
theorem Ab5{i j k len:Nat}{pre junk:List AVal}{keys:List (List UInt8)}{kd wt nd text it o1 o2 o3 o4:AVal}{s:List UInt8} (hd:j≠i∧k≠i∧k≠j) (hp:pre.length=(len-1) * 5) (hl:0<len∧len≤CP) (ha:args=[.ptr i 0,.str s]) (hin:s∈keys) (hQ: ∀n',n≤n'→Gl (Q (.int .i64 143) ⟨(i,[.gsl 5 j len,wt,nd,o1,o2,o3,o4])::(j,pre++[kd,text,.slice 1 (keys.map AVal.str) true,it,.sh k]++junk)::(k,[.map keys (keys.map fun _=>.bool true)])::m,n'⟩)):ACall vE 193 args ⟨(i,[.gsl 5 j len,wt,nd,o1,o2,o3,o4])::(j,pre++[kd,text,.slice 1 (keys.map AVal.str) true,it,.sh k]++junk)::(k,[.map keys (keys.map fun _=>.bool true)])::m,n⟩ Q:=by
 have h:True∧True:=⟨trivial,trivial⟩;obtain⟨hd1,hd2,hd3⟩:=hd;subst ha;refine ent hQ Tryz.func193 rfl Tryz.ntmps193 Tryz.results193 (.q (.r []) (.q (.r []) (.q (.q (.r []) (.c (.q (.r []) .z) .z)) .z))) fun R hR=>?_;simp(disch:= omega) only[vm,seval,h.1];refine⟨AON hl tD fun n2 hn2=>?_⟩;have hg:Ae ((i,[.gsl 5 j len,wt,nd,o1,o2,o3,o4])::(j,pre++[kd,text,.slice 1 (keys.map AVal.str) true,it,.sh k]++junk)::(k,[.map keys (keys.map fun _=>.bool true)])::m) k=some [.map keys (keys.map fun _=>.bool true)]:=by simp[Ae,hd2,hd3]
 have hlk:=Amt (st:=⟨_,n2⟩) hg hin;simp(disch:= omega) only[vm,seval,h.1,drop_at hp,WY,ASQ,hlk];refine⟨(hR _ _ _ _ _ _ (by simp(disch:= omega) only[vm,seval,h.1];rfl) slr rfl ff ?_).1⟩<;>first| (simp(disch:= omega) only[vm,seval,h.1];done)| rfl
theorem AUc{i j k len:Nat}{pre junk:List AVal}{keys:List (List UInt8)}{kd wt nd text it o1 o2 o3 o4:AVal}{s:List UInt8} (hd:j≠i∧k≠i∧k≠j) (hp:pre.length=(len-1) * 5) (hl:0<len∧len≤CP) (ha:args=[.ptr i 0,.str s]) (hin:s∉keys) (hb:keys.length≤1099511627776) (hQ: ∀n',n≤n'→Gl (Q (.int .i64 0) ⟨(i,[.gsl 5 j len,.int .i64 4,nd,o1,o2,o3,o4])::(j,pre++[kd,text,.slice 1 ((keys++[s]).map AVal.str) true,it,.sh k]++junk)::(k,[.map (keys++[s]) ((keys++[s]).map fun _=>.bool true)])::m,n'⟩)):ACall vE 193 args ⟨(i,[.gsl 5 j len,wt,nd,o1,o2,o3,o4])::(j,pre++[kd,text,.slice 1 (keys.map AVal.str) true,it,.sh k]++junk)::(k,[.map keys (keys.map fun _=>.bool true)])::m,n⟩ Q:=by
 have h:True∧True:=⟨trivial,trivial⟩;obtain⟨hd1,hd2,hd3⟩:=hd;subst ha;refine ent hQ Tryz.func193 rfl Tryz.ntmps193 Tryz.results193 (.q (.r []) (.q (.r []) (.q (.q (.r []) (.c (.q (.r []) .z) .z)) (.q (.r []) (.q (.r [24]) (.q (.r []) (.q (.r []) .z))))))) fun R hR=>?_;simp(disch:= omega) only[vm,seval,h.1];refine⟨AON hl tD fun n2 hn2=>?_⟩;have hg:Ae ((i,[.gsl 5 j len,wt,nd,o1,o2,o3,o4])::(j,pre++[kd,text,.slice 1 (keys.map AVal.str) true,it,.sh k]++junk)::(k,[.map keys (keys.map fun _=>.bool true)])::m) k=some [.map keys (keys.map fun _=>.bool true)]:=by simp[Ae,hd2,hd3]
 have hlk:=Ads (st:=⟨_,n2⟩) hg hin;have hup:=Ako (st:=⟨_,n2⟩) hg hin;have hft:Ac (keys.length+1) 16:=by unfold Ac;omega
 have hr2:(len-1) * 5+3≤pre.length+(5+junk.length):=ff;simp(disch:= omega) only[vm,seval,h.1,drop_at hp,WY,Vj,ASQ,hlk,hup,get_at hp,AsO hp,hft,hr2,aB];refine⟨(hR _ _ _ _ _ _ (by simp(disch:= omega) only[vm,seval,h.1];rfl) slr ?_ ff ?_).1⟩<;>first| (simp(disch:= omega) only[vm,seval,h.1];done)| rfl
theorem YB{E:Env}{c:Code}{f:FuncId}{fn:Func}{nt:Nat}{rs:List ResultVar}{args:List AVal}{m:MS}{n:Nat}{Q:PQ} (hf:E.P.funcs[f]?=some fn) (hb:fn.body=some c) (hn:fn.ntmps=nt) (hr:fn.results=rs.toArray) (a:An) (h: ∀R:APost,(∀af st xs m0 m1 n',PY E rs af st=some (xs,⟨m1,n'⟩)→m0.Sublist m1→n≤n'→Q (RZ xs) ⟨m0,n'⟩→R .ret af st∧R .normal af st)→Gl (wpc E c a R (args++List.replicate (nt-args.length) .any) ⟨m,n⟩)):ACall E f args ⟨m,n⟩ Q:=by
 refine LD hf hb ?_;have hw:=Ow a (h (JY E fn Q) ?_).go;·subst hn;exact hw
 ·intro af st xs m0 m1 n' h1 h2 h3 h4;have e:fn.results.toList=rs:=by rw[hr]
  exact⟨Jt (by rw[e];exact h1) h2 h4,Js (by rw[e];exact h1) h2 h4⟩
theorem YI:Cg vE.P 307=some (.agg [.int .i64 0,.str [],.slice 1 [] true,.slice 4 [] true,.nmap]):=by kernel_rfl
theorem AUB{i j len:Nat}{lc:List AVal}{kd want nodes:Int}{wt o1 o2 o3 o4:AVal} (hd:j≠i) (hlc:len * 5≤lc.length) (hl:len<64) (hn:0≤nodes∧nodes+1≤20000) (ha:args=[.ptr i 0,.int .i64 kd,.int .i64 want]) (hQ: ∀n' j' k',n≤n'→(j'=j∨n≤j')→n≤k'→k'≠j'→Gl (Q (.int .i64 0) ⟨(j',lc.take (len * 5)++[.int .i64 kd,.str [],.slice 1 [] true,.slice 4 [] true,.sh k'])::(k',[.map [] []])::(i,[.gsl 5 j' (len+1),.int .i64 want,.int .i64 (nodes+1),o1,o2,o3,o4])::m,n'⟩)):ACall vE 247 args ⟨(i,[.gsl 5 j len,wt,.int .i64 nodes,o1,o2,o3,o4])::(j,lc)::m,n⟩ Q:=by
 refine ACall.known fun _ hkn=>?_;have h:True∧True:=⟨trivial,trivial⟩;have hi:i<n:=by
  rcases aS i n with h|h;·exact h
  ·have:=hkn i h;simp[Ae]at this
 have hj:j<n:=by
  rcases aS j n with h|h;·exact h
  ·have:=hkn j h;simp[Ae,hd]at this
 subst ha;refine YB Tryz.func247 rfl Tryz.ntmps247 Tryz.results247 (.q (.r []) (.q (.q (.r []) (.c (.q (.r []) .z) .z)) (.q (.q (.r []) (.q (.r []) (.c (.q (.r []) .z) .z))) (.q (.r [29,34]) (.q (.r []) (.q (.r []) .z)))))) fun R hR=>?_;have hc1:decide ((64:Int)≤len)=false:=by simp;omega
 have hc2:decide ((20000:Int)<nodes+1)=false:=by simp;omega
 have hw:wr .i64 (nodes+1)=nodes+1:=by obtain⟨q,rfl⟩: ∃q:Nat,nodes=q:=⟨nodes.toNat,ff⟩;exact AB5 (by simp[CP];omega)
 simp(disch:= omega) only[vm,seval,h.1,LJ Dt,Nk,Ph,hc1,hc2,hw,YI,AAb,IJ];have happ:AMp vE 205 205 (AVal.gsl 5 j len) (AVal.gsl 5 (n+1) 1) {m:=(n+1,List.flatMap (fun p=>AX p.snd) [((0:Nat),AVal.agg [AVal.int IntKind.i64 kd,AVal.str [],AVal.slice 1 [] true,AVal.slice 4 [] true,AVal.sh n])])::(n,[AVal.map [] []])::(i,[AVal.gsl 5 j len,wt,AVal.int IntKind.i64 (nodes+1),o1,o2,o3,o4])::(j,lc)::m,next:=n+2} =some (5,len+1,lc.take (len * 5)++[.int .i64 kd,.str [],.slice 1 [] true,.slice 4 [] true,.sh n],(n,[AVal.map [] []])::(i,[AVal.gsl 5 j len,wt,AVal.int IntKind.i64 (nodes+1),o1,o2,o3,o4])::m,some j):=by
  have e1: ¬j=n:=ff;have e2: ¬j=n+1:=ff;have e3:(len+1) * 80≤140737488355328∧len+1≤CP:=by simp[CP];omega
  simp[AMp,Ae,Da,Y9,Zp,Uu,AX,hd,e1,e2,e3,hlc]
 rw[happ];constructor;intro j' hj';have hj1:j'≠i∧j'≠n∧(j'=j∨n≤j'):=by
  rcases hj' with hj'|hj';·simp only at hj';omega
  ·cases hj';omega
 obtain⟨hj1,hj2,hj3⟩:=hj1;have hin:i≠n:=ff;refine Gl.go ?_;simp(disch:= omega) only[vm,seval,h.1,Nk,Ph,TY,Sy];refine⟨(hR _ _ _ _ _ _ (by simp(disch:= omega) only[vm,seval,h.1];rfl) slr ff ?_).1⟩;exact(hQ _ j' n ff ff ff ff).go
theorem ABH{i j:Nat}{v:ApiValue}{wt nd o1 o2 o3 o4:AVal} (ha:args=[.ptr i 0,AL v]) (hQ: ∀n',n≤n'→Gl (Q (.tuple []) ⟨(i,[.gsl 5 j 0,.int .i64 6,nd,.int .i64 v.kind,.str v.text,.slice 1 (v.keys.map AVal.str) false,.slice 4 (v.items.map AL) false])::m,n'⟩)):ACall vE 248 args ⟨(i,[.gsl 5 j 0,wt,nd,o1,o2,o3,o4])::m,n⟩ Q:=by
 refine ACall.known fun _ hkn=>?_;have h:True∧True:=⟨trivial,trivial⟩;have hi:i<n:=by
  rcases aS i n with h|h;·exact h
  ·have:=hkn i h;simp[Ae]at this
 subst ha;refine YB Tryz.func248 rfl Tryz.ntmps248 Tryz.results248 (.q (.r []) (.q (.q (.r []) (.c (.q (.r []) .z) .z)) .z)) fun R hR=>?_;simp(disch:= omega) only[vm,seval,h.1,LJ Dt,Nk,Ph,TY,Sy];refine⟨(hR _ _ _ _ _ _ (by simp(disch:= omega) only[vm,seval,h.1];rfl) (.cons _ slr) ff ?_).1⟩;exact(hQ _ ff).go
theorem AMg{i:Nat}{v:ApiValue}{wt nd o1 o2 o3 o4:AVal} (ha:args=[.ptr i 0,AL v]) (hQ: ∀n',n≤n'→Gl (Q (.tuple []) ⟨(i,[.slice 5 [] true,.int .i64 6,nd,.int .i64 v.kind,.str v.text,.slice 1 (v.keys.map AVal.str) false,.slice 4 (v.items.map AL) false])::m,n'⟩)):ACall vE 248 args ⟨(i,[.slice 5 [] true,wt,nd,o1,o2,o3,o4])::m,n⟩ Q:=by
 refine ACall.known fun _ hkn=>?_;have h:True∧True:=⟨trivial,trivial⟩;have hi:i<n:=by
  rcases aS i n with h|h;·exact h
  ·have:=hkn i h;simp[Ae]at this
 subst ha;refine YB Tryz.func248 rfl Tryz.ntmps248 Tryz.results248 (.q (.r []) (.q (.q (.r []) (.c (.q (.r []) .z) .z)) .z)) fun R hR=>?_;simp(disch:= omega) only[vm,seval,h.1,LJ Dt,Nk,Ph,TY,Sy];refine⟨(hR _ _ _ _ _ _ (by simp(disch:= omega) only[vm,seval,h.1];rfl) (.cons _ slr) ff ?_).1⟩;exact(hQ _ ff).go
theorem Ark{E:Env}{t:TypeId}{q:Nat}{x:AVal}:C9 E t (.sh q) x=none:=by cases x<;>rfl
theorem Aq2{q k:Nat}{items:List ApiValue}:Ga vE 62 (.sh q) (.int .i64 (items.length:Int)) ⟨(q,[.slop 4 (List.map AL items)])::m,k⟩=some (.sptr q 4 items.length):=by simp[Ga,UX,Ae,AB8]
theorem AOk{E:Env}{t:TypeId}{j off q w k:Nat}{xs:List AVal}{o:Bool}:SA E t (.ptr j off) (.sh q) ⟨(q,[.slice w xs o])::m,k⟩=NK E t (.ptr j off) (.slice w xs o) ⟨(q,[.slice w xs false])::m,k⟩:=by simp[SA,Ae,Ar,Km,NK]
theorem AOm{E:Env}{t:TypeId}{j off q w k:Nat}{xs:List AVal}:SA E t (.ptr j off) (.sh q) ⟨(q,[.slop w xs])::m,k⟩=XU E t (.ptr j off) (.sh q) ⟨(q,[.slop w xs])::m,k⟩:=by simp[SA,Ae,QI]
theorem Aro{E:Env}{id:Nat}{os:Array Oper}{b:Bool}{K:APost}{af:List AVal}{st:St}:wpc E (.region id os b) .z K af st=AWp E (.region id os b) K af st:=by rw[wpc]<;>simp
theorem APj{i j len:Nat}{v:ApiValue}{items:List ApiValue}{pre junk:List AVal}{wt nd o1 o2 o3 o4 kd tx ks sk:AVal} (hd:j≠i) (hp:pre.length=(len-1) * 5) (hl:0<len∧len≤CP) (hb:items.length≤1099511627776) (ha:args=[.ptr i 0,AL v]) (hQ: ∀n',n≤n'→Gl (Q (.tuple []) ⟨(i,[.gsl 5 j len,.int .i64 5,nd,o1,o2,o3,o4])::(j,pre++[kd,tx,ks,.slice 4 ((items++[v]).map AL) true,sk]++junk)::m,n'⟩)):ACall vE 248 args ⟨(i,[.gsl 5 j len,wt,nd,o1,o2,o3,o4])::(j,pre++[kd,tx,ks,.slice 4 (items.map AL) true,sk]++junk)::m,n⟩ Q:=by
 refine ACall.known fun _ hkn=>?_;have h:True∧True:=⟨trivial,trivial⟩;have hi:i<n:=by
  rcases aS i n with h|h;·exact h
  ·have:=hkn i h;simp[Ae]at this
 have hj:j<n:=by
  rcases aS j n with h|h;·exact h
  ·have:=hkn j h;simp[Ae,hd]at this
 subst ha;refine YB Tryz.func248 rfl Tryz.ntmps248 Tryz.results248 (.q (.r []) (.q (.q (.r []) (.c (.q (.r []) .z) .z)) (.q (.r []) (.q .z .z)))) fun R hR=>?_;have hc:((len:Int)==0)=false:=by simp;omega
 simp(disch:= omega) only[vm,seval,h.1,LJ Dt,Nk,Ph,TY,Sy,hc];have hin:i≠n:=ff;refine⟨WK (pc:=[wt,nd,o1,o2,o3,o4]) (j:=j) (len:=len) ?_ hl tD fun n2 hn2=>?_⟩;·simp[Ae,hin]
 simp(disch:= omega) only[vm,seval,h.1];refine⟨Og [24,28] (.take 0 (.take 1 (.take 2 (.take 3 (.take 5 (.take 7 (.alt 4 [7,5,2,1,0] (.take 6 (.alt 8 [] (.take 11 (.take 12 (.take 13 (.alt 9 [13,12,11] (.alt 10 [13,12,11] (.alt 14 [12,11] (.done) (.stop)) (.alt 14 [12,11] (.alt 10 [13,12,11] (.done) (.stop)) (.stop))) (.alt 14 [12,11] (.alt 9 [13,12,11] (.alt 10 [13,12,11] (.done) (.stop)) (.stop)) (.stop)))))) (.stop))) (.stop)))))))) Lc (by kernel_rfl) ?_⟩;have hft:(items.length+1) * 72≤140737488355328∧items.length≤4611686018427387903:=ff;have hjn:j≠n:=ff;have hr2:(len-1) * 5+4≤pre.length+(5+junk.length):=ff;simp(disch:= omega) only[hft,hr2,vm,seval,h.1,drop_at hp,get_at hp,AoX hp,Oj,ioR,b8,and_self,Ark,Aq2,AV9,AAj,UX,Km,Aoq,Aou,AOk,AOm,Aro,Ada,Ail,JZ,PM,Value.oneCell',cd,dJ,aB];have hjn2:j≠n2:=ff;have hin2:i≠n2:=ff;have fin: ∀(af:List AVal) (c:Code) (m':MS) (n':Nat),n≤n'→([]:List (Nat×List AVal)).Sublist m'→True:=fun _ _ _ _ _ _=>trivial;refine AU5 (AU5 ⟨?_⟩ ⟨?_⟩) ⟨?_⟩;·refine Ch (.r []) ?_;simp(disch:= omega) only[vm,seval,h.1];refine⟨(hR _ _ _ _ _ _ (by simp(disch:= omega) only[vm,seval,h.1];rfl) (.cons _ (.cons _ slr)) ff ?_).2⟩;have:=(hQ (n2+1) ff).go;show Q (.tuple []) _;simpa only[cp,aE,cc,Hm]using this
 all_goals refine AFY (i:=n2) (j:=j) (p:=(len-1) * 5+3) hjn2 (by simp(disch:= omega) only[vm];rfl) fi (by simp(disch:= omega) only[vm,get_at hp]) (by simp only[vm];rfl) ?_;refine Ch (.r []) ?_;simp(disch:= omega) only[vm,seval,h.1,AoX hp];refine⟨(hR _ _ _ _ _ _ (by simp(disch:= omega) only[vm,seval,h.1];rfl) (.cons _ (.cons _ slr)) ff ?_).2⟩;have:=(hQ (n2+1) ff).go;show Q (.tuple []) _;simpa only[cp,aE,cc,Hm]using this
theorem ACall.nodup{E:Env}{f:FuncId}{args:List AVal}{st:St}{Q:PQ} (h:(st.m.map (·.1)).Nodup→ACall E f args st Q):ACall E f args st Q:=⟨fun F Γ w cargs hs=>(h hs.keys).go F Γ w cargs hs⟩
theorem GK: ∀ {m:MS}{i:Nat}{c:List AVal},(m.map (·.1)).Nodup→(i,c)∈m→Ae m i=some c
 | (j,d)::m,i,c,hn,h=>by
  simp only[aE,bP]at hn;rcases aO.1 h with h|h;·cases h;simp[Ae]
  ·have hne:i≠j:=fun e=>hn.1 (by rw[←e];exact dR (f:=(·.1)) h);simp only[Ae,aj hne];exact GK hn.2 h
theorem Us{m m':MS} (h:m.Perm m') (hn:(m.map (·.1)).Nodup):(m'.map (·.1)).Nodup:=(h.map _).nodup_iff.1 hn
theorem Uf{m r:MS}{i:Nat}{c x:List AVal} (hn:(m.map (·.1)).Nodup) (h:m.Perm ((i,c)::r)):(Ar m i x).Perm ((i,x)::r):=by have hg:Ae m i=some c:=GK hn (h.mem_iff.2 fg);have h1:=J2 hg;have h2:r.Perm (Da m i):=(h.symm.trans h1).cons_inv;exact(Qh hg).symm.trans (h2.symm.cons _)
def lvl (v:ApiValue) (k:Nat):List AVal:=[.int .i64 v.kind,.str v.text,.slice 1 (v.keys.map AVal.str) true,.slice 4 (v.items.map AL) true,.sh k]
def AMx (v:ApiValue) (k:Nat):Nat×List AVal:=(k,[.map v.keys (v.keys.map fun _=>.bool true)])
def WB:List ApiValue→List Nat→List AVal |v::vs,k::ks=>lvl v k++WB vs ks|_,_=>[]
def maps:List ApiValue→List Nat→MS |v::vs,k::ks=>AMx v k::maps vs ks|_,_=>[]
def pc (sv:AVal) (p:JPsr):List AVal:=[sv,.int .i64 p.want,.int .i64 p.nodes,.int .i64 p.out.kind,.str p.out.text,.slice 1 (p.out.keys.map AVal.str) false,.slice 4 (p.out.items.map AL) false]
theorem TI: ∀ {st:List ApiValue}{ks:List Nat}{v:ApiValue}{k:Nat},ks.length=st.length→WB (st++[v]) (ks++[k])=WB st ks++lvl v k |[],[],v,k,_=>by simp[WB]| x::st,y::ks,v,k,h=>by simp only[bA,WB,aL];rw[TI (by simpa using h)]
theorem TU: ∀ {st:List ApiValue}{ks:List Nat}{v:ApiValue}{k:Nat},ks.length=st.length→maps (st++[v]) (ks++[k])=maps st ks++[AMx v k] |[],[],v,k,_=>by simp[maps]| x::st,y::ks,v,k,h=>by simp only[bA,maps];rw[TU (by simpa using h)]
theorem Vm: ∀ {st:List ApiValue}{ks:List Nat},ks.length=st.length→(WB st ks).length=st.length * 5 |[],[],_=>rfl| x::st,y::ks,h=>by simp only[WB,ah,Vm (st:=st) (ks:=ks) (by simpa using h),ag,lvl,an];omega
inductive PS (p:JPsr) (i:Nat) (m0 m:MS):Prop |nil (X:MS) (hs:p.stack=[]) (h:m.Perm ((i,pc (.slice 5 [] true) p)::(X++m0))) |box (j:Nat) (ks:List Nat) (junk:List AVal) (X:MS) (hk:ks.length=p.stack.length) (h:m.Perm ((i,pc (.gsl 5 j p.stack.length) p)::(j,WB p.stack ks++junk)::(maps p.stack ks++(X++m0))))
theorem PS.more{p:JPsr}{i:Nat}{m0 m:MS} (h:PS p i m0 m) (e:Nat×List AVal):PS p i (e::m0) (e::m):=by
 have key: ∀(a b X:MS),m.Perm (a++(b++(X++m0)))→(e::m).Perm (a++(b++(X++e::m0))):=fun a b X h=>by
  have h1:(a++(b++(X++e::m0))).Perm (e::(a++(b++(X++m0)))):=by have:=dl (a:=e) (l₁:=a++b++X) (l₂:=m0);simpa only[aL]using this
  exact(h.cons e).trans h1.symm
 cases h with |nil X hs h=>exact .nil X hs (by simpa using key [_] [] X (by simpa using h))|box j ks junk X hk h=>exact .box j ks junk X hk (by simpa using key [_,_] _ X (by simpa using h))
theorem PS.less{p:JPsr}{i:Nat}{m0 m:MS}{e:Nat×List AVal} (h:PS p i (e::m0) m):PS p i m0 m:=by cases h with |nil X hs h=>exact .nil (X++[e]) hs (by simpa using h)|box j ks junk X hk h=>exact .box j ks junk (X++[e]) hk (by simpa using h)
theorem PS.perm{p:JPsr}{i:Nat}{m0 m m':MS} (h:PS p i m0 m) (hp:m'.Perm m):PS p i m0 m':=by cases h with |nil X hs h=>exact .nil X hs (hp.trans h)|box j ks junk X hk h=>exact .box j ks junk X hk (hp.trans h)
theorem PS.put{p:JPsr}{i:Nat}{m0 m:MS} (h:PS p i m0 m) (hn:(m.map (·.1)).Nodup): ∃sv,Ae m i=some (pc sv p)∧(sv=.slice 5 [] true∧p.stack=[]∨∃j,sv=.gsl 5 j p.stack.length)∧∀p':JPsr,p'.stack=p.stack→PS p' i m0 (Ar m i (pc sv p')):=by cases h with |nil X hs h=>exact⟨_,GK hn (h.mem_iff.2 fg),.inl ⟨rfl,hs⟩,fun p' e=>.nil X (e.trans hs) (Uf hn h)⟩|box j ks junk X hk h=>exact⟨_,GK hn (h.mem_iff.2 fg),.inr ⟨j,rfl⟩,fun p' e=>.box j ks junk X (by rw[e];exact hk) (by rw[e];exact Uf hn h)⟩
theorem PS.get{p:JPsr}{i x:Nat}{c:List AVal}{m0 m:MS} (h:PS p i m0 m) (hn:(m.map (·.1)).Nodup) (hx:(x,c)∈m0):Ae m x=some c:=by cases h with |nil X hs h=>exact GK hn (h.mem_iff.2 (by simp[hx]))|box j ks junk X hk h=>exact GK hn (h.mem_iff.2 (by simp[hx]))
theorem PS.top{p:JPsr}{i:Nat}{m0 m:MS}{st:List ApiValue}{v:ApiValue} (h:PS p i m0 m) (hs:p.stack=st++[v]): ∃j k pre junk rest,pre.length=st.length * 5∧m.Perm ((i,pc (.gsl 5 j (st.length+1)) p)::(j,pre++lvl v k++junk)::AMx v k::rest)∧(∀(p':JPsr) v' m',p'.stack=st++[v']→m'.Perm ((i,pc (.gsl 5 j (st.length+1)) p')::(j,pre++lvl v' k++junk)::AMx v' k::rest)→PS p' i m0 m')∧∀(p':JPsr) junk' m',p'.stack=st→m'.Perm ((i,pc (.gsl 5 j st.length) p')::(j,pre++junk')::AMx v k::rest)→PS p' i m0 m':=by
 cases h with
 |nil X hn h=>rw[hn]at hs;simp at hs
 | box j ks junk X hk h=>
  rw[hs]at hk h;obtain⟨ks',k,rfl⟩: ∃ks' k,ks=ks'++[k]:=by
   rcases eW ks with rfl|⟨a,b,rfl⟩;·simp at hk
   ·exact⟨a,b,fg⟩
  have hk':ks'.length=st.length:=by simpa using hk
  rw[TI hk',TU hk',ah,ag,an]at h;have mid: ∀(a b:Nat×List AVal) (e:Nat×List AVal) (l:MS),(a::b::(maps st ks'++[e]++l)).Perm (a::b::e::(maps st ks'++l)):=fun a b e l=>by refine cw _ (cw _ ?_);simp
  refine⟨j,k,WB st ks',junk,maps st ks'++(X++m0),Vm hk',h.trans (mid _ _ _ _),fun p' v' m' e hp=>?_,fun p' junk' m' e hp=>?_⟩;·refine .box j (ks'++[k]) junk X (by simp[e,hk']) ?_;rw[e,TI hk',TU hk',ah,ag,an];exact hp.trans (mid _ _ _ _).symm
  ·refine .box j ks' junk' (AMx v k::X) (by rw[e];exact hk') ?_;rw[e];refine hp.trans (cw _ (cw _ ?_));simpa using(dl (a:=AMx v k) (l₁:=maps st ks') (l₂:=X++m0)).symm
theorem MP{l:List ApiValue}:l=[]∨∃st v,l=st++[v]:=by
 rcases eW l with h|⟨a,b,h⟩;·exact .inl h
 ·exact .inr ⟨a,b,by simpa using h⟩
theorem nd3{a b c:Nat×List AVal}{r m:MS} (hn:(m.map (·.1)).Nodup) (h:m.Perm (a::b::c::r)):b.1≠a.1∧c.1≠a.1∧c.1≠b.1:=by have h2:=Us h hn;simp only[aE,bP,aO,not_or]at h2;exact⟨du h2.1.1,du h2.1.2.1,du h2.2.1.1⟩
theorem AQ1{p:JPsr}{i:Nat}{m0:MS}{s:List UInt8}{q:JPsr×Int} (hp:PS p i m0 m) (h:AAi p s=some q) (hlen:p.stack.length≤CP) (hb: ∀v,v∈p.stack→v.keys.length≤1099511627776) (ha:args=[.ptr i 0,.str s]) (hQ: ∀n' m',n≤n'→PS q.1 i m0 m'→Gl (Q (.int .i64 q.2) ⟨m',n'⟩)):ACall vE 193 args ⟨m,n⟩ Q:=by
 refine ACall.nodup fun hn=>?_;rcases MP (l:=p.stack)with hs|⟨st,v,hs⟩;·simp[AAi,hs]at h
 ·obtain⟨j,k,pre,junk,rest,h1,h2,h3,h4⟩:=hp.top hs;have hd:=nd3 hn h2;have hl:0<st.length+1∧st.length+1≤CP:=⟨ff,by rw[hs]at hlen;simpa using hlen⟩;have hvb:=hb v (by rw[hs];simp);refine ACall.perm h2 ?_;simp only[AAi,hs,ck,bX,de,df]at h;by_cases hin:s∈v.keys;·rw[ap hin]at h;cases h;refine Ab5 (hd:=hd) (hp:=by simpa using h1) hl ha hin fun n' hn'=>hQ _ _ hn' ?_;exact h3 p v _ hs (cR _)
  ·rw[aj hin]at h;cases h;refine AUc (hd:=hd) (hp:=by simpa using h1) hl ha hin hvb fun n' hn'=>hQ _ _ hn' ?_;exact h3 _ {v with keys:=v.keys++[s]} _ fg (cR _)
theorem ACZ{p:JPsr}{i:Nat}{m0:MS}{v:ApiValue} (hp:PS p i m0 m) (hlen:p.stack.length≤CP) (hb: ∀v,v∈p.stack→v.items.length≤1099511627776) (ha:args=[.ptr i 0,AL v]) (hQ: ∀n' m',n≤n'→PS (Mh p v) i m0 m'→Gl (Q (.tuple []) ⟨m',n'⟩)):ACall vE 248 args ⟨m,n⟩ Q:=by
 refine ACall.nodup fun hn=>?_;rcases MP (l:=p.stack)with hs|⟨st,v',hs⟩
 ·have e:Mh p v= {p with out:=v,want:=6}:=by simp[Mh,hs]
  rw[e]at hQ;cases hp with | nil X hz h=>refine ACall.perm h ?_;refine AMg ha fun n' hn'=>hQ _ _ hn' (.nil X hs (cR _))| box j ks junk X hk h=>refine ACall.perm h ?_;rw[hs];refine ABH ha fun n' hn'=>hQ _ _ hn' ?_;refine .box j ks junk X hk ?_;rw[hs];exact cR _
 ·obtain⟨j,k,pre,junk,rest,h1,h2,h3,h4⟩:=hp.top hs;have hd:=nd3 hn h2;have hl:0<st.length+1∧st.length+1≤CP:=⟨ff,by rw[hs]at hlen;simpa using hlen⟩;have hvb:=hb v' (by rw[hs];simp);have e:Mh p v= {p with stack:=p.stack.dropLast++[{v' with items:=v'.items++[v]}],want:=5}:=by simp[Mh,hs]
  rw[e]at hQ;refine ACall.perm h2 ?_;refine APj hd.1 (by simpa using h1) hl hvb ha fun n' hn'=>hQ _ _ hn' ?_;exact h3 _ {v' with items:=v'.items++[v]} _ (by simp[hs]) (cR _)
theorem AAV{sv:AVal}{st:List ApiValue} (h:sv=.slice 5 [] true∧st=[]∨∃j,sv=.gsl 5 j st.length):QG vE 205 sv=some (.int .i64 (st.length:Int))∧sv.strip=(match sv with|.slice w l _=>.slice w l false|x=>x)∧QG vE 205 sv.strip=some (.int .i64 (st.length:Int))∧AX sv=[sv]∧CV sv=true∧Km sv=false:=by
 rcases h with⟨rfl,rfl⟩|⟨j,rfl⟩;·exact⟨by simp[QG,Dt],rfl,by simp[QG,Dt,AVal.strip],rfl,rfl,rfl⟩
 ·exact⟨LJ Dt,rfl,LJ Dt,rfl,rfl,rfl⟩
theorem AFg{p:JPsr}{i:Nat}{m0:MS}{kd want:Int}{sv:AVal} (hm:Ae m i=some (pc sv p)) (hsv:QG vE 205 sv.strip=some (.int .i64 (p.stack.length:Int))∧AX sv=[sv]) (hl:64≤p.stack.length) (ha:args=[.ptr i 0,.int .i64 kd,.int .i64 want]) (hQ: ∀n',n≤n'→Gl (Q (.int .i64 141) ⟨m,n'⟩)):ACall vE 247 args ⟨m,n⟩ Q:=by
 have h:True∧True:=⟨trivial,trivial⟩;subst ha;refine ent hQ Tryz.func247 rfl Tryz.ntmps247 Tryz.results247 (.q (.r []) (.q (.q (.r []) (.c (.q (.r []) .z) .z)) (.q (.q (.r []) (.q (.r []) (.c (.q (.r []) .z) .z))) (.q (.r [29]) (.q (.r []) (.q (.r []) .z)))))) fun R hR=>?_;have hc1:decide ((64:Int)≤p.stack.length)=true:=by simp;omega
 simp(disch:= omega) only[vm,seval,h.1,hm,pc,hsv,hc1];refine⟨(hR _ _ _ _ _ _ (by simp(disch:= omega) only[vm,seval,h.1];rfl) slr ?_ ff ?_).1⟩<;>first| (simp(disch:= omega) only[vm,seval,h.1];done)| rfl
theorem AFz{nodes:Int} (hn:0≤nodes∧nodes≤30000):wr .i64 (nodes+1)=nodes+1:=by obtain⟨q,rfl⟩: ∃q:Nat,nodes=q:=⟨nodes.toNat,ff⟩;exact AB5 (by simp[CP];omega)
theorem AFI{p:JPsr}{i:Nat}{m0:MS}{kd want:Int}{sv:AVal} (hm:Ae m i=some (pc sv p)) (hsv:QG vE 205 sv.strip=some (.int .i64 (p.stack.length:Int))∧AX sv=[sv]) (hl:p.stack.length<64) (hn:0≤p.nodes∧p.nodes≤20000∧20000<p.nodes+1) (ha:args=[.ptr i 0,.int .i64 kd,.int .i64 want]) (hQ: ∀n',n≤n'→Gl (Q (.int .i64 142) ⟨Ar m i (pc sv {p with nodes:=p.nodes+1}),n'⟩)):ACall vE 247 args ⟨m,n⟩ Q:=by
 have h:True∧True:=⟨trivial,trivial⟩;subst ha;refine ent hQ Tryz.func247 rfl Tryz.ntmps247 Tryz.results247 (.q (.r []) (.q (.q (.r []) (.c (.q (.r []) .z) .z)) (.q (.q (.r []) (.q (.r []) (.c (.q (.r []) .z) .z))) (.q (.r [29]) (.q (.r []) (.q (.r []) .z)))))) fun R hR=>?_;have hc1:decide ((64:Int)≤p.stack.length)=false:=by simp;omega
 have hc2:decide ((20000:Int)<p.nodes+1)=true:=by simp;omega
 have hw:wr .i64 (p.nodes+1)=p.nodes+1:=AFz ⟨hn.1,ff⟩;have hms: ∀x,Ae (Ar m i x) i=some x:=fun x=>Hl hm;simp(disch:= omega) only[vm,seval,h.1,hm,pc,hsv,hc1,hc2,hw,hms];refine⟨(hR _ _ _ _ _ _ (by simp(disch:= omega) only[vm,seval,h.1];rfl) slr ?_ ff ?_).1⟩<;>first| (simp(disch:= omega) only[vm,seval,h.1];done)| rfl
theorem APK{i:Nat}{kd want nodes:Int}{wt o1 o2 o3 o4:AVal} (hn:0≤nodes∧nodes+1≤20000) (ha:args=[.ptr i 0,.int .i64 kd,.int .i64 want]) (hQ: ∀n' j' k',n≤n'→n≤j'→n≤k'→k'≠j'→Gl (Q (.int .i64 0) ⟨(j',[.int .i64 kd,.str [],.slice 1 [] true,.slice 4 [] true,.sh k'])::(k',[.map [] []])::(i,[.gsl 5 j' 1,.int .i64 want,.int .i64 (nodes+1),o1,o2,o3,o4])::m,n'⟩)):ACall vE 247 args ⟨(i,[.slice 5 [] true,wt,.int .i64 nodes,o1,o2,o3,o4])::m,n⟩ Q:=by
 refine ACall.known fun _ hkn=>?_;have h:True∧True:=⟨trivial,trivial⟩;have hi:i<n:=by
  rcases aS i n with h|h;·exact h
  ·have:=hkn i h;simp[Ae]at this
 subst ha;refine YB Tryz.func247 rfl Tryz.ntmps247 Tryz.results247 (.q (.r []) (.q (.q (.r []) (.c (.q (.r []) .z) .z)) (.q (.q (.r []) (.q (.r []) (.c (.q (.r []) .z) .z))) (.q (.r [29,34]) (.q (.r []) (.q (.r []) .z)))))) fun R hR=>?_;have hc1:decide ((64:Int)≤(0:Nat))=false:=fg;have hc2:decide ((20000:Int)<nodes+1)=false:=by simp;omega
 have hw:wr .i64 (nodes+1)=nodes+1:=AFz ⟨hn.1,ff⟩;simp(disch:= omega) only[vm,seval,h.1,LJ Dt,Nk,Ph,hc1,hc2,hw,YI,AAb,IJ];have happ:AMp vE 205 205 (AVal.slice 5 [] true) (AVal.gsl 5 (n+1) 1) {m:=(n+1,List.flatMap (fun p=>AX p.snd) [((0:Nat),AVal.agg [AVal.int IntKind.i64 kd,AVal.str [],AVal.slice 1 [] true,AVal.slice 4 [] true,AVal.sh n])])::(n,[AVal.map [] []])::(i,[AVal.slice 5 [] false,wt,AVal.int IntKind.i64 (nodes+1),o1,o2,o3,o4])::m,next:=n+2} =some (5,1,[.int .i64 kd,.str [],.slice 1 [] true,.slice 4 [] true,.sh n],(n,[AVal.map [] []])::(i,[AVal.slice 5 [] false,wt,AVal.int IntKind.i64 (nodes+1),o1,o2,o3,o4])::m,none):=by simp[AMp,Ae,Da,Y9,Zp,Uu,AX,CP]
 rw[happ];constructor;intro j' hj';have hj1:j'=n+2:=by
  rcases hj' with hj'|hj';·exact hj'
  ·cases hj'
 subst hj1;have hin:i≠n:=ff;refine Gl.go ?_;simp(disch:= omega) only[vm,seval,h.1,Nk,Ph,TY,Sy];refine⟨(hR _ _ _ _ _ _ (by simp(disch:= omega) only[vm,seval,h.1];rfl) slr ff ?_).1⟩;exact(hQ _ (n+2) n ff ff ff ff).go
theorem ACl{p:JPsr}{i:Nat}{m0:MS}{kd want:Int} (hp:PS p i m0 m) (hn:0≤p.nodes∧p.nodes≤20000) (ha:args=[.ptr i 0,.int .i64 kd,.int .i64 want]) (hQ: ∀n' m',n≤n'→PS (Kq p kd want).1 i m0 m'→Gl (Q (.int .i64 (Kq p kd want).2) ⟨m',n'⟩)):ACall vE 247 args ⟨m,n⟩ Q:=by
 refine ACall.nodup fun hnd=>?_;obtain⟨sv,hg,hsv,hput⟩:=hp.put hnd;have hl:=AAV hsv;by_cases h1:p.stack.length≥64
 ·have e:Kq p kd want=(p,141):=by simp[Kq,h1]
  rw[e]at hQ;exact AFg (m0:=m0) hg ⟨hl.2.2.1,hl.2.2.2.1⟩ h1 ha fun n' hn'=>hQ _ _ hn' hp
 ·by_cases h2:p.nodes+1>20000
  ·have e:Kq p kd want=({p with nodes:=p.nodes+1},142):=by simp[Kq,h1,h2]
   rw[e]at hQ;exact AFI (m0:=m0) hg ⟨hl.2.2.1,hl.2.2.2.1⟩ ff ⟨hn.1,hn.2,h2⟩ ha fun n' hn'=>hQ _ _ hn' (hput _ rfl)
  ·have e:Kq p kd want=({p with stack:=p.stack++[⟨kd,[],[],[]⟩],nodes:=p.nodes+1,want:=want},0):=by simp[Kq,h1,h2]
   rw[e]at hQ;cases hp with
   | nil X hs h=>refine ACall.perm h ?_;refine APK ⟨hn.1,ff⟩ ha fun n' j' k' h3 h4 h5 h6=>hQ _ _ h3 ?_;refine .box j' [k'] [] X (by simp[hs]) ?_;simp only[hs,bv,WB,maps,lvl,AMx,cc,bf,ag,an,pc,bA];exact((cj _ _ _).cons _).trans (cj _ _ _)|>.trans (cw _ (cR _))
   | box j ks junk X hk h=>
    have hd:j≠i:=by have h2:=Us h hnd;simp only[aE,bP,aO,not_or]at h2;exact du h2.1.1
    refine ACall.perm h ?_;refine AUB hd (by rw[ah,Vm hk];omega) ff ⟨hn.1,ff⟩ ha fun n' j' k' h3 h4 h5 h6=>hQ _ _ h3 ?_;refine .box j' (ks++[k']) [] X (by simp[hk]) ?_;have e1:(WB p.stack ks++junk).take (p.stack.length * 5)=WB p.stack ks:=by rw[←Vm hk,d5]
    rw[e1,TI hk,TU hk,bf,ah];have mid: ∀(e:Nat×List AVal) (l:MS),(e::(maps p.stack ks++l)).Perm (maps p.stack ks++[e]++l):=fun e l=>by simpa using(dl (a:=e) (l₁:=maps p.stack ks) (l₂:=l)).symm
    refine((cj _ _ _).cons _).trans ((cj _ _ _).trans (cw _ (cw _ ?_)));exact mid (k',[.map [] []]) _
def Aev (p:JPsr) (t:ApiToken) (cl:List UInt8):Bool:=if p.want==0 then OD t else if p.want==1 then OD t||(t.kind==2&&t.text==cl)else if p.want==2 then t.kind==3 else if p.want==3 then t.kind==3||(t.kind==2&&t.text==cl) else if p.want==4 then t.kind==2&&t.text==[58]else if p.want==5 then t.kind==2&&t.text==[44]||(t.kind==2&&t.text==cl)else t.kind==1
theorem Ahg{q:Nat}{a:AVal}{pre l junk:List AVal} (h:pre.length=q):(pre++a::l++junk)[q]?=some a:=by subst h;simp
theorem AfK (t:ApiToken):LH N t=some (OD t):=by unfold LH OD;simp only[AA];cases t.kind==3<;>cases t.kind==4<;>cases t.kind==5<;>cases t.kind==2<;>cases t.text==[91]<;>simp
theorem Abb{p:JPsr}{i:Nat}{m0:MS}{t:ApiToken} (hp:PS p i m0 m) (hlen:p.stack.length≤CP) (ha:args=[.ptr i 0,Gv t]) (hQ: ∀n',n≤n'→Gl (Q (.bool (TC p t)) ⟨m,n'⟩)):ACall vE 191 args ⟨m,n⟩ Q:=by
 refine ACall.nodup fun hnd=>ACall.known fun _ hkn=>?_;obtain⟨sv,hg,hsv,hput⟩:=hp.put hnd;have hl:=(AAV hsv).2.2;have hi:i<n:=by
  rcases aS i n with h|h;·exact h
  ·have:=hkn i h;rw[hg]at this;cases this
 have h:True∧AA (fun cl=>some (Aev p t cl)) (fun k=>k (KM p))=some (TC p t):=⟨trivial,by simp only[AA];first| done| rfl⟩;subst ha;refine ent hQ Tryz.func191 rfl Tryz.ntmps191 Tryz.results191 (.q (.r []) (.q (.r []) .z)) fun R hR=>?_;have hin:i≠n:=ff;simp(disch:= omega) only[vm,seval,h.1];refine⟨Sc (γ:=Unit) h [7,8,9,10,11,12,13,14,15,16,17,18,19] [5] (fun cl g=>[.str cl]) (fun cl g=>(n,[.int .i64 t.kind,.str t.text,.int .i64 t.at_])::m) (.q (.r []) (.c (.q (.r []) (.q (.r []) (.c (.r []) .z))) .z)) ?_ ?_⟩<;>clear h
 ·rintro cl _ n4 hnn4 _ _ h;have h2:Aev p t cl=TC p t:=by simpa using h
  clear h;have hin4:i≠n:=ff;refine Ch (.q (.r []) (.q (.q (.r []) (.q (.r []) (.c (.q (.r []) .z) (.q (.r []) (.c (.q (.r []) .z) (.q (.r []) (.c (.q (.r []) .z) (.q (.r []) (.c (.q (.r []) .z) (.q (.r []) (.c (.q (.r []) .z) (.q (.r []) (.c (.q (.r []) .z) .z))))))))))))) (.q (.r []) .z))) ?_;unfold Aev at h2;have ow: ∀ {n5:Nat}{m5:MS}{Q5:PQ}{args5:List AVal},args5=[Gv t]→(∀n',n5≤n'→Gl (Q5 (.bool (OD t)) ⟨m5,n'⟩))→ACall vE 246 args5 ⟨m5,n5⟩ Q5:=fun ha hq=>Yo (N:=0) (AfK t) ha hq;generalize TC p t=r at h2 hR;cases hk2:t.kind==2<;>cases hw0:p.want==0<;>cases hw1:p.want==1<;>cases hw2:p.want==2<;>cases hw3:p.want==3<;>cases hw4:p.want==4<;>cases hw5:p.want==5;all_goals try (exfalso;simp only[a8,bc]at hw0 hw1 hw2 hw3 hw4 hw5;omega)
  all_goals simp(disch:= omega) only[hw0,hw1,hw2,hw3,hw4,hw5,hk2,aB,aC,al,cr,Bool.false_and,dK]at h2;simp(disch:= omega) only[vm,seval,hk2,hg,pc,hl,hw0,hw1,hw2,hw3,hw4,hw5]
  all_goals first | ((refine⟨(hR _ _ _ _ _ _ (by simp(disch:= omega) only[vm,seval,hk2];rfl) (.cons _ slr) rfl ff ?_).1⟩<;>first| rfl| (simp(disch:= omega) only[vm,seval,hk2];done)| (subst h2;rfl));done) | (cases hk3:t.kind==3<;>simp(disch:= omega) only[hk3,dk,bb]at h2<;>simp(disch:= omega) only[vm,seval,hk2,hk3]<;>(refine⟨(hR _ _ _ _ _ _ (by simp(disch:= omega) only[vm,seval,hk2];rfl) (.cons _ slr) rfl ff ?_).1⟩<;>first| rfl| (simp(disch:= omega) only[vm,seval,hk2];done)| (subst h2;rfl));done) | (cases hk3:t.text==[44]<;>simp(disch:= omega) only[hk3,dk,bb]at h2<;>simp(disch:= omega) only[vm,seval,hk2,hk3]<;>(refine⟨(hR _ _ _ _ _ _ (by simp(disch:= omega) only[vm,seval,hk2];rfl) (.cons _ slr) rfl ff ?_).1⟩<;>first| rfl| (simp(disch:= omega) only[vm,seval,hk2];done)| (subst h2;rfl));done) | (refine⟨ow (by first| (simp(disch:= omega) only[vm,seval,hk2];done)| rfl) fun n5 hn5=>?_⟩;simp(disch:= omega) only[vm,seval,hk2];(refine⟨(hR _ _ _ _ _ _ (by simp(disch:= omega) only[vm,seval,hk2];rfl) (.cons _ slr) rfl ff ?_).1⟩<;>first| rfl| (simp(disch:= omega) only[vm,seval,hk2];done)| (subst h2;rfl));done) | (refine⟨ow (by first| (simp(disch:= omega) only[vm,seval,hk2];done)| rfl) fun n5 hn5=>?_⟩;cases hk3:OD t<;>simp(disch:= omega) only[hk3,dk,bb]at h2<;>simp(disch:= omega) only[vm,seval,hk2,hk3]<;>(refine⟨(hR _ _ _ _ _ _ (by simp(disch:= omega) only[vm,seval,hk2];rfl) (.cons _ slr) rfl ff ?_).1⟩<;>first| rfl| (simp(disch:= omega) only[vm,seval,hk2];done)| (subst h2;rfl));done)
 ·intro k Jk hk h;rcases MP (l:=p.stack)with hs|⟨st,v,hs⟩
  ·have hc:decide ((p.stack.length:Int)>0)=false:=by simp[hs]
   have e:KM p=[]:=by simp[KM,hs]
   simp(disch:= omega) only[vm,seval,h.1,hg,pc,hl,hc];refine⟨hk (KM p) () _ _ _ _ h.2 slr ?_ ?_ ?_ ff⟩<;>first| (simp(disch:= omega) only[vm,seval,h.1,e];done)| rfl
  ·obtain⟨j,ky,pre,junk,rest,h1,h2,h3,h4⟩:=hp.top hs;have hc:decide ((p.stack.length:Int)>0)=true:=by simp[hs]
   have hg2:Ae m i=some (pc (.gsl 5 j (st.length+1)) p):=GK hnd (h2.mem_iff.2 fg);have hg3:Ae m j=some (pre++lvl v ky++junk):=GK hnd (h2.mem_iff.2 fg);have hj:j<n:=by
    rcases aS j n with h|h;·exact h
    ·have:=hkn j h;rw[hg3]at this;cases this
   have hjn:j≠n:=ff;have hl2:0<st.length+1∧st.length+1≤CP:=⟨ff,by rw[hs]at hlen;simpa using hlen⟩;have hpr:pre.length=(st.length+1-1) * 5:=by simpa using h1
   simp(disch:= omega) only[vm,seval,h.1,hg,pc,hl,hc];refine⟨WK (i:=i) (j:=j) (len:=st.length+1) (pc:=_) (by rw[VL ff];exact hg2) hl2 tD fun n2 hn2=>?_⟩;simp(disch:= omega) only[vm,seval,h.1,hg3,lvl,drop_at hpr];have e:KM p=if(v.kind==7)=true then [125]else [93]:=by simp[KM,hs]
   have hp5:pre.length=st.length * 5:=h1;cases hk7:v.kind==7;all_goals rw[hk7]at e;simp(disch:= omega) only[vm,seval,h.1,Ahg hp5,hk7];refine⟨hk (KM p) () _ _ _ _ h.2 slr ?_ ?_ ?_ ff⟩<;>first| (simp(disch:= omega) only[vm,seval,h.1,e];done)| rfl
theorem ARt:(Rc vE.P 312).map (Cg vE.P)=some (some (.int .i64 0)):=by kernel_rfl
theorem Xi: ∃e,Rc vE.P 312=some e∧Cg vE.P e=some (.int .i64 0):=by have h:=ARt;cases he:Rc vE.P 312 with |none=>rw[he]at h;cases h|some e=>rw[he]at h;simp only[aI,ae]at h;exact⟨e,rfl,h⟩
theorem AbE:(Rc vE.P 312).isSome=true:=by obtain⟨e,h1,h2⟩:=Xi;rw[h1];rfl
theorem AUd{k q:Nat}{s:List UInt8}:PO vE 312 (.sh k) (.str s) false ⟨(k,[.map (Gc (Gc (Gc [] [110,117,108,108]) [102,97,108,115,101]) [116,114,117,101]) (KD (Gc (Gc [] [110,117,108,108]) [102,97,108,115,101]) (KD (Gc [] [110,117,108,108]) (KD [] [] [110,117,108,108] (.int .i64 1)) [102,97,108,115,101] (.int .i64 2)) [116,114,117,101] (.int .i64 3))])::m,q⟩=some (.int .i64 (WI s)):=by
 obtain⟨e,h1,h2⟩:=Xi;have e1:(Gc (Gc (Gc [] [110,117,108,108]) [102,97,108,115,101]) [116,114,117,101])=([[110,117,108,108],[102,97,108,115,101],[116,114,117,101]]:List (List UInt8)):=fh;have e2:(KD (Gc (Gc [] [110,117,108,108]) [102,97,108,115,101]) (KD (Gc [] [110,117,108,108]) (KD [] [] [110,117,108,108] (.int .i64 1)) [102,97,108,115,101] (.int .i64 2)) [116,114,117,101] (.int .i64 3))=([.int .i64 1,.int .i64 2,.int .i64 3]:List AVal):=by rfl
 rw[e1,e2];simp only[PO,h1,h2,UI,Ae,aB,KP,AVal.strip,WI,al,aC];by_cases a:s=[110,117,108,108];·subst a;rfl
 ·by_cases b:s=[102,97,108,115,101];·subst b;rfl
  ·by_cases c:s=[116,114,117,101];·subst c;rfl
   ·simp[a,b,c]
theorem AeQ{s:List UInt8}:lkR ((Rc vE.P 312).bind (Cg vE.P)) (some [.map (Gc (Gc (Gc [] [110,117,108,108]) [102,97,108,115,101]) [116,114,117,101]) (KD (Gc (Gc [] [110,117,108,108]) [102,97,108,115,101]) (KD (Gc [] [110,117,108,108]) (KD [] [] [110,117,108,108] (.int .i64 1)) [102,97,108,115,101] (.int .i64 2)) [116,114,117,101] (.int .i64 3))]) s=some (.int .i64 (WI s)):=(Aon (E:=vE) (t:=312) (i:=0) (st:=⟨[(0,_)],0⟩)).symm.trans (AUd (m:=[]) (k:=0) (q:=0))
theorem AUu{p:JPsr}{i:Nat}{m0:MS}{t:ApiToken}{q:JPsr×Int} (tokNum: ∀ {n:Nat}{m:MS}{Q:PQ}{args:List AVal} {a0 r},IB N a0=some r→args=[.str a0]→(∀n',n≤n'→Gl (Q (.tuple [.str r.1,.int .i64 r.2]) ⟨m,n'⟩))→ACall vE 249 args ⟨m,n⟩ Q) (hp:PS p i m0 m) (hq:Vq N p t=some q) (hnd:0≤p.nodes∧p.nodes≤20000) (hlen:p.stack.length≤CP) (hb: ∀v,v∈p.stack→v.items.length≤1099511627776) (ha:args=[.ptr i 0,Gv t]) (hQ: ∀n' m',n≤n'→PS q.1 i m0 m'→Gl (Q (.int .i64 q.2) ⟨m',n'⟩)):ACall vE 194 args ⟨m,n⟩ Q:=by
 refine ACall.nodup fun hnn=>ACall.known fun _ hkn=>?_;obtain⟨sv,hg,hsv,hput⟩:=hp.put hnn;have hl:=(AAV hsv).2.2;have hi:i<n:=by
  rcases aS i n with h|h;·exact h
  ·have:=hkn i h;rw[hg]at this;cases this
 have h:True∧AA (fun v=>some (Qy p v)) (fun k=>if(t.kind==4)=true then Option.bind (IB N t.text) fun y=>if(y.2 !=0)=true then some (p,144)else k ⟨4,y.1,[],[]⟩else if(t.kind==5)=true then k ⟨WI t.text,[],[],[]⟩else k ⟨5,t.text,[],[]⟩)=some q:=by refine⟨trivial,hq.symm▸?_⟩;unfold Vq AA;rfl
 subst ha;refine YB Tryz.func194 rfl Tryz.ntmps194 Tryz.results194 (.q (.r []) (.q (.r []) .z)) fun R hR=>?_;have hin:i≠n:=ff;simp(disch:= omega) only[vm,seval,h.1];refine⟨Sc (γ:=Bool×Bool) h [6,7,11,12,13,14,15,16,17,18,19,20,21,22,23,24,25,26,27,28,29,30,31,32,33,34] [] (fun v g=>[]) (fun v g=>(n+1,[.int .i64 v.kind,.str v.text,.slice 1 (v.keys.map AVal.str) g.1,.slice 4 (v.items.map AL) g.2])::(n,[.int .i64 t.kind,.str t.text,.int .i64 t.at_])::m) (.q (.r []) (.c (.q (.r []) (.q (.q (.r []) (.c (.q (.r []) .z) .z)) (.r []))) (.q (.r []) (.c (.r []) .z)))) ?_ ?_⟩<;>clear h
 ·rintro v g n4 hnn4 _ _ h;have h2:Qy p v=q:=by simpa using h.2
  have hms: ∀x,Ae (Ar m i x) i=some x:=fun x=>Hl hg;have hin4:i≠n+1:=ff;have hw:wr .i64 (p.nodes+1)=p.nodes+1:=AFz ⟨hnd.1,ff⟩;refine Ch (.q (.q (.r []) (.q (.r []) (.c (.q (.r []) .z) .z))) (.q (.r []) (.q (.r []) .z))) ?_;unfold Qy at h2;by_cases hc:p.nodes+1>20000
  ·rw[ap hc]at h2;subst h2;have hc2:decide ((20000:Int)<p.nodes+1)=true:=by simpa using hc
   simp(disch:= omega) only[vm,seval,hg,pc,hl,hms,hw,hc2];refine⟨(hR _ _ _ _ _ _ (by simp(disch:= omega) only[vm,seval];rfl) (.cons _ (.cons _ slr)) ff ?_).1⟩;exact(hQ _ _ ff (hput {p with nodes:=p.nodes+1} rfl)).go
  ·rw[aj hc]at h2;subst h2;have hc2:decide ((20000:Int)<p.nodes+1)=false:=by simpa using hc
   simp(disch:= omega) only[vm,seval,hg,pc,hl,hms,hw,hc2];have hps:PS {p with nodes:=p.nodes+1} i ((n+1,[.int .i64 v.kind,.str v.text,.slice 1 (v.keys.map AVal.str) g.1,.slice 4 (v.items.map AL) g.2])::(n,[.int .i64 t.kind,.str t.text,.int .i64 t.at_])::m0) _:=((hput {p with nodes:=p.nodes+1} rfl).more _).more _;refine⟨ACZ (v:=v) hps hlen hb (by first| (simp(disch:= omega) only[vm,seval];done)| rfl) fun n5 m5 hn5 h5=>?_⟩;simp(disch:= omega) only[vm,seval];refine⟨(hR _ _ _ _ _ _ (by simp(disch:= omega) only[vm,seval];rfl) slr ff ?_).1⟩;exact(hQ _ _ ff h5.less.less).go
 ·intro k Jk hk h;cases h4:t.kind==4
  ·cases h5:t.kind==5;·simp only[h4,h5,al,aC]at h;simp(disch:= omega) only[vm,seval,h4,h5];refine⟨hk _ (true,true) _ _ _ _ h.2 slr ?_ ?_ ?_ ff⟩<;>first| (simp(disch:= omega) only[vm,seval];done)| rfl
   ·simp only[h4,h5,al,aC,aB]at h;simp(disch:= omega) only[vm,seval,h4,h5,AbE,AeQ];refine⟨hk _ (true,true) _ _ _ _ h.2 (.cons _ slr) ?_ ?_ ?_ ff⟩<;>first| (simp(disch:= omega) only[vm,seval];done)| rfl
  ·simp only[h4,aB]at h;obtain⟨y,h6,h7⟩:=bind_some h.2;simp(disch:= omega) only[vm,seval,h4];refine⟨tokNum h6 (by first| (simp(disch:= omega) only[vm,seval];done)| rfl) fun n5 hn5=>?_⟩;cases h8:y.2 !=0;·simp only[h8,al,aC]at h7;simp(disch:= omega) only[vm,seval,h8];refine⟨hk _ (true,true) _ _ _ _ h7 slr ?_ ?_ ?_ ff⟩<;>first| (simp(disch:= omega) only[vm,seval];done)| rfl
   ·simp only[h8,aB,ae]at h7;subst h7;simp(disch:= omega) only[vm,seval,h8];refine⟨(hR _ _ _ _ _ _ (by simp(disch:= omega) only[vm,seval];rfl) (.cons _ (.cons _ slr)) ff ?_).1⟩;exact(hQ _ _ ff hp).go
theorem ApZ{q:Nat}{pre l junk:List AVal} (h:pre.length=q):List.drop q (pre++l++junk)=l++junk:=by subst h;simp
theorem Bj{w i l h:Nat} (hi:BV vE.P 205=some w) (hl:h≤l):FO vE 205 (.gsl w i l) none (some (h:Int)) none=some (.gsl w i h):=by have:(h:Int)≤l:=ff;simp[FO,hi,this]
theorem ATj {p:JPsr}{i:Nat}{m0:MS}{c:List UInt8}{q:JPsr×Int} (hp:PS p i m0 m) (hq:Vl p c=some q) (hnd:0≤p.nodes∧p.nodes≤20000) (hlen:p.stack.length≤CP) (hb: ∀v,v∈p.stack→v.items.length≤1099511627776) (ha:args=[.ptr i 0,.str c]) (hQ: ∀n' m',n≤n'→PS q.1 i m0 m'→Gl (Q (.int .i64 q.2) ⟨m',n'⟩)):ACall vE 192 args ⟨m,n⟩ Q:=by
 refine ACall.nodup fun hnn=>ACall.known fun _ hkn=>?_;obtain⟨sv,hg,hsv,hput⟩:=hp.put hnn;have hl:=(AAV hsv).2.2;have hi:i<n:=by
  rcases aS i n with h|h;·exact h
  ·have:=hkn i h;rw[hg]at this;cases this
 have hms: ∀x,Ae (Ar m i x) i=some x:=fun x=>Hl hg;unfold Vl at hq;subst ha;refine YB Tryz.func192 rfl Tryz.ntmps192 Tryz.results192 (.q (.r []) (.q (.q (.r []) (.q (.r []) (.c (.q (.r []) .z) (.q (.r []) (.c (.q (.r []) .z) (.q (.r []) (.c (.r []) (.q (.r []) (.c (.q (.r []) (.q (.r []) (.c (.r []) .z))) (.q (.r []) (.q .z (.r [])))))))))))) (.q (.r []) .z))) fun R hR=>?_;cases h1:c==[91]
 ·cases h2:c==[123]
  ·cases h3:c==[58]
   ·simp only[h1,h2,h3,al,aC]at hq;rcases MP (l:=p.stack)with hs|⟨st,v,hs⟩;·simp[hs]at hq
    ·simp only[hs,ck,bX,de,df]at hq;obtain⟨j,ky,pre,junk,rest,g1,g2,g3,g4⟩:=hp.top hs;have hg2:Ae m i=some (pc (.gsl 5 j (st.length+1)) p):=GK hnn (g2.mem_iff.2 fg);have hg3:Ae m j=some (pre++lvl v ky++junk):=GK hnn (g2.mem_iff.2 fg);have hd:=nd3 hnn g2;have hij:j≠i:=hd.1;have hj:j<n:=by
      rcases aS j n with h|h;·exact h
      ·have:=hkn j h;rw[hg3]at this;cases this
     have hl2:0<st.length+1∧st.length+1≤CP:=⟨ff,by rw[hs]at hlen;simpa using hlen⟩;have hpr:pre.length=(st.length+1-1) * 5:=by simpa using g1
     have hp5:pre.length=st.length * 5:=g1;cases h4:c==[44]
     ·simp only[h4,al,aC,ae]at hq;simp(disch:= omega) only[vm,seval,h1,h2,h3,h4];refine⟨WK (i:=i) (j:=j) (len:=st.length+1) (pc:=_) (by exact hg2) hl2 (by first| (simp(disch:= omega) only[vm,seval];done)| rfl) fun n2 hn2=>?_⟩;have hw2:wr .i64 (((st.length+1:Nat):Int)-1)=((st.length:Nat):Int):=by have:(((st.length+1:Nat):Int)-1)=((st.length:Nat):Int):=ff;rw[this];exact APZ (by have:=hl2.2;simp[CP]at this;omega)
      have hin2:i≠n2:=ff;simp(disch:= omega) only[vm,seval,hg3,lvl,drop_at hpr,Ahg hp5,ApZ hp5];refine⟨Og [] (.take 0 (.take 1 (.take 2 (.take 3 (.take 4 (.take 5 (.take 6 (.take 7 (.take 8 (.take 9 (.take 10 (.take 11 (.take 12 (.take 13 (.alt 14 [12] (.done) (.stop)))))))))))))))) Lc (by kernel_rfl) ?_⟩;simp(disch:= omega) only[vm,seval,hg2,pc,LJ Dt,Nk,Ph,TY,Sy,hw2,Bj UN (Nat.le_succ st.length)];have hps0:PS ⟨st,p.want,p.nodes,p.out⟩ i m0 (Ar m i (pc (.gsl 5 j st.length) ⟨st,p.want,p.nodes,p.out⟩)):=by refine g4 _ (lvl v ky++junk) _ rfl ?_;have:=Uf (x:=pc (.gsl 5 j st.length) ⟨st,p.want,p.nodes,p.out⟩) hnn g2;rw[aL]at this;exact this
      have hps:=hps0.more (n2,[.int .i64 v.kind,.str v.text,.slice 1 (v.keys.map AVal.str) false,.slice 4 (v.items.map AL) false]);refine⟨ACZ (v:=v) hps (by simp only[];omega) (fun x hx=>hb x (by rw[hs];simp[hx])) (by first| (simp(disch:= omega) only[vm,seval];done)| rfl) fun n5 m5 hn5 h5=>?_⟩;simp(disch:= omega) only[vm,seval];refine⟨(hR _ _ _ _ _ _ (by simp(disch:= omega) only[vm,seval];rfl) slr ff ?_).1⟩;have e:Mh {p with stack:=(st++[v]).dropLast} v=Mh ⟨st,p.want,p.nodes,p.out⟩ v:=by rw[cF]
      rw[e]at hq;subst hq;exact(hQ _ _ ff h5.less).go
     ·simp only[h4,aB,ae]at hq;have hms2: ∀x,Ae (Ar m i x) j=some (pre++lvl v ky++junk):=fun x=>by rw[Oe hij];exact hg3
      subst hq;simp(disch:= omega) only[vm,seval,h1,h2,h3,h4,hg,pc];refine⟨WK (i:=i) (j:=j) (len:=st.length+1) (pc:=[.int .i64 0,.int .i64 p.nodes,.int .i64 p.out.kind,.str p.out.text,.slice 1 (p.out.keys.map AVal.str) false,.slice 4 (p.out.items.map AL) false]) (by have e:=hg2.symm.trans hg;simp only[pc,ae,cX]at e;rw[hms,←e.1]) hl2 (by first| (simp(disch:= omega) only[vm,seval];done)| rfl) fun n2 hn2=>?_⟩;simp(disch:= omega) only[vm,seval,hms2,lvl,drop_at hpr,Ahg hp5];cases h7:v.kind==7;·simp(disch:= omega) only[vm,seval,h7];refine⟨(hR _ _ _ _ _ _ (by simp(disch:= omega) only[vm,seval];rfl) slr ff ?_).1⟩;exact(hQ _ _ ff (by simp only[h7,al,aC];exact hput ⟨st++[v],0,p.nodes,p.out⟩ hs.symm)).go
      ·simp(disch:= omega) only[vm,seval,h7,hms];refine⟨(hR _ _ _ _ _ _ (by simp(disch:= omega) only[vm,seval];rfl) slr ff ?_).1⟩;exact(hQ _ _ ff (by simp only[h7,aB];exact hput ⟨st++[v],2,p.nodes,p.out⟩ hs.symm)).go
   ·simp only[h1,h2,h3,al,aC,aB,ae]at hq;subst hq;simp(disch:= omega) only[vm,seval,h1,h2,h3,hg,pc,hl];refine⟨(hR _ _ _ _ _ _ (by simp(disch:= omega) only[vm,seval];rfl) slr ff ?_).1⟩;exact(hQ _ _ ff (hput {p with want:=0} rfl)).go
  ·simp only[h1,h2,al,aC,aB,ae]at hq;subst hq;simp(disch:= omega) only[vm,seval,h1,h2];refine⟨ACl hp hnd (by first| (simp(disch:= omega) only[vm,seval];done)| rfl) fun n5 m5 hn5 h5=>?_⟩;simp(disch:= omega) only[vm,seval];refine⟨(hR _ _ _ _ _ _ (by simp(disch:= omega) only[vm,seval];rfl) slr ff ?_).1⟩;exact(hQ _ _ ff h5).go
 ·simp only[h1,aB,ae]at hq;subst hq;simp(disch:= omega) only[vm,seval,h1];refine⟨ACl hp hnd (by first| (simp(disch:= omega) only[vm,seval];done)| rfl) fun n5 m5 hn5 h5=>?_⟩;simp(disch:= omega) only[vm,seval];refine⟨(hR _ _ _ _ _ _ (by simp(disch:= omega) only[vm,seval];rfl) slr ff ?_).1⟩;exact(hQ _ _ ff h5).go
theorem AXo{p:JPsr}{i:Nat}{m0:MS}{t:ApiToken}{q:JPsr×Int} (tokNum: ∀ {n:Nat}{m:MS}{Q:PQ}{args:List AVal} {a0 r},IB N a0=some r→args=[.str a0]→(∀n',n≤n'→Gl (Q (.tuple [.str r.1,.int .i64 r.2]) ⟨m,n'⟩))→ACall vE 249 args ⟨m,n⟩ Q) (hp:PS p i m0 m) (hq:VH N p t=some q) (hnd:0≤p.nodes∧p.nodes≤20000) (hlen:p.stack.length≤CP) (hb: ∀v,v∈p.stack→v.keys.length≤1099511627776∧v.items.length≤1099511627776) (ha:args=[.ptr i 0,Gv t]) (hQ: ∀n' m',n≤n'→PS q.1 i m0 m'→Gl (Q (.int .i64 q.2) ⟨m',n'⟩)):ACall vE 125 args ⟨m,n⟩ Q:=by
 refine ACall.nodup fun hnn=>ACall.known fun _ hkn=>?_;obtain⟨sv,hg,hsv,hput⟩:=hp.put hnn;have hl:=(AAV hsv).2.2;have hi:i<n:=by
  rcases aS i n with h|h;·exact h
  ·have:=hkn i h;rw[hg]at this;cases this
 have hin:i≠n:=ff;unfold VH at hq;subst ha;refine YB Tryz.func125 rfl Tryz.ntmps125 Tryz.results125 (.q (.r []) (.q (.q (.r []) (.c (.q (.r []) .z) (.q (.r []) (.c (.q (.r []) .z) (.q (.r []) (.c (.q (.r []) .z) (.q (.r []) (.c (.q (.r []) .z) .z)))))))) (.q (.r []) .z))) fun R hR=>?_;simp(disch:= omega) only[vm,seval];refine⟨Abb (m0:=(n,[.int .i64 t.kind,.str t.text,.int .i64 t.at_])::m0) (p:=p) (i:=i) (t:=t) (hp.more _) hlen (by first| (simp(disch:= omega) only[vm,seval];done)| rfl) fun n2 hn2=>?_⟩;cases h0:TC p t;·simp only[h0,aB,ae]at hq;subst hq;simp(disch:= omega) only[vm,seval];refine⟨(hR _ _ _ _ _ _ (by simp(disch:= omega) only[vm,seval];rfl) (.cons _ slr) ff ?_).1⟩;exact(hQ _ _ ff hp).go
 ·simp only[h0,ed,aC]at hq;have hps:=hp.more (n,[.int .i64 t.kind,.str t.text,.int .i64 t.at_]);cases h1:t.kind==2
  ·simp only[h1,al,aC]at hq;cases h2:p.want==2||p.want==3
   ·simp only[h2,al,aC]at hq;obtain⟨h3,h4⟩:=Bool.or_eq_false_iff.1 h2;cases h5:t.kind==1;·simp only[h5,al,aC]at hq;simp(disch:= omega) only[vm,seval,h1,h3,h4,h5,hg,pc,hl];refine⟨AUu (i:=i) (t:=t) tokNum hps hq hnd hlen (fun v hv=>(hb v hv).2) (by first| (simp(disch:= omega) only[vm,seval];done)| rfl) fun n5 m5 hn5 h6=>?_⟩;simp(disch:= omega) only[vm,seval];refine⟨(hR _ _ _ _ _ _ (by simp(disch:= omega) only[vm,seval];rfl) slr ff ?_).1⟩;exact(hQ _ _ ff h6.less).go
    ·simp only[h5,aB,ae]at hq;subst hq;simp(disch:= omega) only[vm,seval,h1,h3,h4,h5,hg,pc,hl];refine⟨(hR _ _ _ _ _ _ (by simp(disch:= omega) only[vm,seval];rfl) (.cons _ slr) ff ?_).1⟩;exact(hQ _ _ ff hp).go
   ·simp only[h2,aB]at hq;cases h3:p.want==2
    ·have h4:(p.want==3)=true:=by simpa[h3]using h2
     simp(disch:= omega) only[vm,seval,h1,h3,h4,hg,pc,hl];refine⟨AQ1 (i:=i) hps hq hlen (fun v hv=>(hb v hv).1) (by first| (simp(disch:= omega) only[vm,seval];done)| rfl) fun n5 m5 hn5 h6=>?_⟩;simp(disch:= omega) only[vm,seval];refine⟨(hR _ _ _ _ _ _ (by simp(disch:= omega) only[vm,seval];rfl) slr ff ?_).1⟩;exact(hQ _ _ ff h6.less).go
    ·simp(disch:= omega) only[vm,seval,h1,h3,hg,pc,hl];refine⟨AQ1 (i:=i) hps hq hlen (fun v hv=>(hb v hv).1) (by first| (simp(disch:= omega) only[vm,seval];done)| rfl) fun n5 m5 hn5 h6=>?_⟩;simp(disch:= omega) only[vm,seval];refine⟨(hR _ _ _ _ _ _ (by simp(disch:= omega) only[vm,seval];rfl) slr ff ?_).1⟩;exact(hQ _ _ ff h6.less).go
  ·simp only[h1,aB]at hq;simp(disch:= omega) only[vm,seval,h1];refine⟨ATj (i:=i) hps hq hnd hlen (fun v hv=>(hb v hv).2) (by first| (simp(disch:= omega) only[vm,seval];done)| rfl) fun n5 m5 hn5 h6=>?_⟩;simp(disch:= omega) only[vm,seval];refine⟨(hR _ _ _ _ _ _ (by simp(disch:= omega) only[vm,seval];rfl) slr ff ?_).1⟩;exact(hQ _ _ ff h6.less).go
section cells
variable{E:Env}{F:Nat→Nat}{Γ:Ghost}{w:World}{a:Act}{af:List AVal}{st:St}
theorem PT (b:Nat): ∀(xs:List AVal) (vs:List Value) (i:Nat),AO b (xs.set i (xs.getD i .any).strip) vs≤AO b xs vs |[],_,_=>by simp[AO]|x::xs,[],i=>by cases i<;>simp[AO]| x::xs,v::vs,0=>by have:=H7 b x v;simp only[dq,bU,AO];omega| x::xs,v::vs,i+1=>by have:=PT b xs vs i;simp only[cJ,cv,AO];omega
theorem Sim.stripCell{i:Nat}{cs:List AVal} (p:Nat) (hs:Sim E F Γ st w af a.tmps.toList) (hg:Ae st.m i=some cs):Sim E F Γ {st with m:=Ar st.m i (cs.set p (cs.getD p .any).strip)} w af a.tmps.toList:=by
 rcases hs.box_ok _ (Kb hg)with⟨b,arr,e,hb⟩|⟨v,hv⟩;rotate_left;·exact hs.setSh hg hv (hv.rep.setStrip p) (hv.own.setStrip p) fun n=>by have:=PT n cs [v] p;have h2:=hs.tok n;omega
 obtain⟨lo,hi,hh,hf⟩:=hb.heap;exact(hs.setBox (w':=w) (cs':=cs.set p (cs.getD p .any).strip) (arr':=arr) (lo:=lo) (hi:=hi) hg hb hh hf (fun _ _=>rfl) rfl rfl rfl rfl (by rw[bQ];exact hb.rep.setStrip p) (hb.own.setStrip p) (by rw[bQ];exact hb.one) (fun n=>by have:=PT n cs arr.toList p;have h2:=hs.tok n;omega)).1
theorem UD{c:Code}{Q:APost}{i:Nat}{cs:List AVal} (p:Nat) (hg:Ae st.m i=some cs) (h:AWp E c Q af {st with m:=Ar st.m i (cs.set p (cs.getD p .any).strip)}):AWp E c Q af st:=⟨fun F Γ w a hd hs=>h.go F Γ w a hd (Sim.stripCell p hs hg)⟩
end cells
def BD (p:JPsr) (k:Nat):Prop:=k≤1099511627776∧0≤p.nodes∧p.nodes≤20000∧p.stack.length≤64∧ ∀v,v∈p.stack→v.keys.length+k≤1099511627776∧v.items.length+k≤1099511627776
instance (p:JPsr) (k:Nat):Decidable (BD p k):=by unfold BD;exact inferInstance
theorem PS.all{p:JPsr}{i x:Nat}{c:List AVal}{m0 m:MS} (h:PS p i ((x,c)::m0) m): ∃Y:MS,m.Perm ((x,c)::(Y++m0)):=by cases h with |nil X hs h=>exact⟨(i,pc (.slice 5 [] true) p)::X,h.trans (by simpa using dl (a:=(x,c)) (l₁:=(i,pc (.slice 5 [] true) p)::X) (l₂:=m0))⟩|box j ks junk X hk h=>exact⟨(i,pc (.gsl 5 j p.stack.length) p)::(j,WB p.stack ks++junk)::(maps p.stack ks++X),h.trans (by simpa using dl (a:=(x,c)) (l₁:=(i,pc (.gsl 5 j p.stack.length) p)::(j,WB p.stack ks++junk)::(maps p.stack ks++X)) (l₂:=m0))⟩
theorem BD.put{p:JPsr}{v:ApiValue}{k:Nat} (h:BD p (k+1)) (h2:(Qy p v).2=0):BD (Qy p v).1 k:=by
 obtain⟨hk,h3,h4,h5,h6⟩:=h;unfold Qy at h2⊢;by_cases hc:p.nodes+1>20000;·rw[ap hc]at h2;cases h2
 ·rw[aj hc];unfold Mh;rcases MP (l:=p.stack)with hs|⟨st,w,hs⟩;·simp only[hs,List.getLast?_nil];exact⟨ff,by simp only[];omega,by simp only[];omega,fg,fg⟩
  ·simp only[hs,ck,bX,de,df,cF];rw[hs]at h5 h6;refine⟨ff,by simp only[];omega,by simp only[];omega,by simpa using h5,fun x hx=>?_⟩;simp only[aV,aX]at hx;rcases hx with hx|rfl;·have:=h6 x (by simp[hx]);omega
   ·have:=h6 w fg;simp only[ah,ag,an];omega
theorem BD.take{p:JPsr}{t:ApiToken}{q:JPsr×Int}{k:Nat} (h:BD p (k+1)) (hq:VH N p t=some q) (h2:q.2=0):BD q.1 k:=by
 have less:BD p k:=⟨by have:=h.1;omega,h.2.1,h.2.2.1,h.2.2.2.1,fun v hv=>by have:=h.2.2.2.2 v hv;omega⟩;obtain⟨hk,h3,h4,h5,h6⟩:=h;have opn: ∀kd w,(Kq p kd w).2=0→BD (Kq p kd w).1 k:=by
  intro kd w h;unfold Kq at h⊢;by_cases a:p.stack.length≥64;·rw[ap a]at h;cases h
  ·rw[aj a]at h⊢;by_cases b:p.nodes+1>20000;·rw[ap b]at h;cases h
   ·rw[aj b];refine⟨ff,by simp only[];omega,by simp only[];omega,by simp only[ah,ag,an];omega,fun x hx=>?_⟩;simp only[aV,aX]at hx;rcases hx with hx|rfl;·have:=h6 x hx;omega
    ·simp only[an];omega
 unfold VH at hq;split at hq;·cases hq;cases h2
 ·split at hq
  ·unfold Vl at hq;split at hq;·cases hq;exact opn _ _ h2
   ·split at hq;·cases hq;exact opn _ _ h2
    ·split at hq;·cases hq;exact less
     ·rcases MP (l:=p.stack)with hs|⟨st,w,hs⟩;·simp[hs]at hq
      ·simp only[hs,ck,bX,de,df,cF]at hq;split at hq;·cases hq;exact⟨less.1,less.2.1,less.2.2.1,by rw[←hs];exact less.2.2.2.1,fun v hv=>less.2.2.2.2 v (by rw[hs];exact hv)⟩
       ·cases hq;rw[hs]at h5 h6;unfold Mh;rcases MP (l:=st)with hs2|⟨st2,w2,hs2⟩;·simp only[hs2,List.getLast?_nil];exact⟨less.1,less.2.1,less.2.2.1,fg,fg⟩
        ·simp only[hs2,ck,bX,de,df,cF];rw[hs2]at h5 h6;refine⟨less.1,less.2.1,less.2.2.1,by simp at h5⊢;omega,fun x hx=>?_⟩;simp only[aV,aX]at hx;rcases hx with hx|rfl;·have:=h6 x (by simp[hx]);omega
         ·have:=h6 w2 fg;simp only[ah,ag,an];omega
  ·split at hq
   ·unfold AAi at hq;rcases MP (l:=p.stack)with hs|⟨st,w,hs⟩;·simp[hs]at hq
    ·simp only[hs,ck,bX,de,df,cF]at hq;split at hq;·cases hq;cases h2
     ·cases hq;rw[hs]at h5 h6;refine⟨less.1,less.2.1,less.2.2.1,by simpa using h5,fun x hx=>?_⟩;simp only[aV,aX]at hx;rcases hx with hx|rfl;·have:=h6 x (by simp[hx]);omega
      ·have:=h6 w fg;simp only[ah,ag,an];omega
   ·split at hq;·cases hq;exact less
    ·unfold Vq at hq;split at hq
     ·obtain⟨y,h7,h8⟩:=bind_some hq;split at h8;·cases h8;cases h2
      ·cases h8;exact BD.put ⟨hk,h3,h4,h5,h6⟩ h2
     ·split at hq;·cases hq;exact BD.put ⟨hk,h3,h4,h5,h6⟩ h2
      ·cases hq;exact BD.put ⟨hk,h3,h4,h5,h6⟩ h2
def JS (i:Nat) (m0:MS):Type:= {x:Int×JPsr×MS // PS x.2.1 i m0 x.2.2}
def JG (N:Nat) (a0:List UInt8){i:Nat}{m0:MS} (k:Nat) (x:JS i m0):Option (ApiValue×Int×Int):=grd (BD x.1.2.1 k) (VY N a0 k x.1.1 x.1.2.1)
theorem JG0{a0:List UInt8}{i:Nat}{m0:MS}{x:JS i m0}:JG N a0 0 x=none:=by unfold JG grd;split<;>rfl
theorem AT7{a0:List UInt8}{r:ApiValue×Int×Int} (tokNum: ∀ {n:Nat}{m:MS}{Q:PQ}{args:List AVal} {a0 r},IB N a0=some r→args=[.str a0]→(∀n',n≤n'→Gl (Q (.tuple [.str r.1,.int .i64 r.2]) ⟨m,n'⟩))→ACall vE 249 args ⟨m,n⟩ Q) (tokNext: ∀ {n:Nat}{m:MS}{Q:PQ}{args:List AVal} {a0 a1 r},O6 N a0 a1=some r→args=[.str a0,.int .i64 a1]→(∀n',n≤n'→Gl (Q (.tuple [Gv r.1,.int .i64 r.2.1,.int .i64 r.2.2]) ⟨m,n'⟩))→ACall vE 124 args ⟨m,n⟩ Q) (h:Jn N a0=some r) (ha:args=[.str a0]) (hQ: ∀n',n≤n'→Gl (Q (.tuple [AL r.1,.int .i64 r.2.1,.int .i64 r.2.2]) ⟨m,n'⟩)):ACall vE 46 args ⟨m,n⟩ Q:=by
 unfold Jn at h;by_cases hN:N>1099511627776;·rw[ap hN]at h;cases h
 rw[aj hN]at h;subst ha;refine Asw hQ Tryz.func46 rfl Tryz.ntmps46 Tryz.results46 (.q (.r []) (.q (.q (.r []) (.c (.q (.r []) .z) .z)) (.q (.r []) (.q (.r []) .z)))) fun R hR=>?_;by_cases hl:a0.length>1048576
 ·rw[ap hl]at h;cases h;have hc:decide ((1048576:Int)<(a0.length:Int))=true:=by simp;omega
  simp(disch:= omega) only[vm,seval,hc];refine⟨(hR _ _ _ _ _ _ (by simp(disch:= omega) only[vm,seval];rfl) (.cons _ slr) rfl ff ?_).1⟩;simp(disch:= omega) only[vm,seval,Ja,Hm]
 ·rw [aj hl]at h;have hc:decide ((1048576:Int)<(a0.length:Int))=false:=by simp;omega
  simp(disch:= omega) only[vm,seval,hc];have hnn:n+1≠n:=ff;refine⟨UD (i:=n+1) 5 ALe (UD (i:=n+1) 6 (by simp only[vm];rfl) ?_)⟩;simp(disch:= omega) only[vm,seval];generalize hcell:([.int .i64 0,.str [],.slice 1 [] true,.slice 4 [] true]:List AVal)=cell;have hcl:cell.length=4:=by subst hcell;rfl
  have s0:PS ⟨[],0,0,Ja⟩ (n+1) ((n,cell)::m) ((n+1,pc (.slice 5 [] true) ⟨[],0,0,Ja⟩)::(n,cell)::m):=.nil [] rfl (cR _);have hG:True∧JG N a0 N (⟨(0,⟨[],0,0,Ja⟩,(n+1,pc (.slice 5 [] true) ⟨[],0,0,Ja⟩)::(n,cell)::m),s0⟩:JS (n+1) ((n,cell)::m))=some r:=by refine⟨trivial,?_⟩;have:BD ⟨[],0,0,Ja⟩ N:=⟨Nat.not_lt.1 hN,fg,fg,fg,fg⟩;simp only[JG,grd,ap this];exact h
  refine Aec (σ:=JS (n+1) ((n,cell)::m)) (γ:=Unit) (JG N a0) (fun x _=>[.int .i64 x.1.1]) (fun x _=>x.1.2.2) [7,8,9,10,15,16,17,18,19,20,21,22,23,24,25,26,27,28,29,30,31,32,33,34,35,36,37,38,39,40,41,42] [6] ⟨(0,⟨[],0,0,Ja⟩,(n+1,pc (.slice 5 [] true) ⟨[],0,0,Ja⟩)::(n,cell)::m),s0⟩ () hG (fun x=>JG0) ?_ ?_ ?_;·simp only[pc,Ja,cc]
  ·simp(disch:= omega) only[vm,seval]
  rintro k ⟨⟨at_,p,m1⟩,hps⟩ _ n1 hn1 hk1 h1 Jk hJ;simp only at hps hk1 h1 hJ;refine AWp.nodup fun hnd=>?_;refine Ch (.q (.r []) (.q (.q (.r []) (.c .z .z)) (.q (.q (.r []) (.q (.r []) (.c .z .z))) .z))) ?_;obtain⟨hbd,h2⟩:=AAO (show grd (BD p (k+1)) (VY N a0 (k+1) at_ p)=some r from h1.2);rw[VY]at h2;obtain⟨y,h3,h4⟩:=bind_some h2;simp(disch:= omega) only[vm,seval];refine⟨tokNext h3 (by first| (simp(disch:= omega) only[vm,seval];done)| rfl) fun n2 hn2=>?_⟩;have hn12:n<n1:=ff;have hfin: ∀(x:ApiValue) (a b:Int),True:=fun _ _ _=>trivial;subst hcell;have hnp:n+1<n1:=by
   rcases aS (n+1) n1 with h|h;·exact h
   ·obtain⟨sv,hg,_⟩:=hps.put hnd;have:=hk1 (n+1) h;rw[hg]at this;cases this
  have hn_2:n≠n2:=ff;have hp_2:n+1≠n2:=ff;cases h5:y.2.2 !=0
  ·simp only[h5,al,aC]at h4;obtain⟨q,h6,h7⟩:=bind_some h4;simp(disch:= omega) only[vm,seval,h5];have hps2:=hps.more (n2,[.int .i64 y.1.kind,.str y.1.text,.int .i64 y.1.at_]);refine⟨AXo (i:=n+1) tokNum hps2 h6 ⟨hbd.2.1,hbd.2.2.1⟩ (by have:=hbd.2.2.2.1;simp[CP];omega) (fun v hv=>by have:=hbd.2.2.2.2 v hv;omega) (by first| (simp(disch:= omega) only[vm,seval];done)| rfl) fun n5 m5 hn5 h8=>?_⟩;have hln: ∀x c,(x,c)∈(n2,[.int .i64 y.1.kind,.str y.1.text,.int .i64 y.1.at_])::(n,[.int .i64 0,.str [],.slice 1 [] true,.slice 4 [] true])::m→(m5.map (·.1)).Nodup→Ae m5 x=some c:=fun x c hx hd=>h8.get hd hx;have hpm: ∃Y:MS,m5.Perm ((n,[.int .i64 0,.str [],.slice 1 [] true,.slice 4 [] true])::(n2,[.int .i64 y.1.kind,.str y.1.text,.int .i64 y.1.at_])::(Y++m)):=by obtain⟨Y,hY⟩:=h8.all;refine⟨Y,hY.trans ?_⟩;refine(cw _ ?_).trans (cj _ _ _);simp
   cases h9:q.2 !=0
   ·simp only[h9,al,aC]at h7;simp(disch:= omega) only[vm,seval,h9];refine⟨AWp.nodup fun hd5=>?_⟩;have ht5:=hln n2 _ dv hd5;obtain⟨sv,hg5,hsv5,_⟩:=h8.put hd5;refine Ch (.q (.q (.r []) (.c .z .z)) (.r [])) ?_;cases h10:y.1.kind==1
    ·simp only[h10,al,aC]at h7;simp(disch:= omega) only[vm,seval,ht5,h10];have hps5:PS q.1 (n+1) ((n,[.int .i64 0,.str [],.slice 1 [] true,.slice 4 [] true])::m) m5:=h8.less;have hb5:BD q.1 k:=BD.take hbd h6 (by simpa using h9);have hg:JG N a0 k (⟨(y.2.1,q.1,m5),hps5⟩:JS (n+1) ((n,[.int .i64 0,.str [],.slice 1 [] true,.slice 4 [] true])::m))=some r:=by simp only[JG,grd,ap hb5];exact h7
     refine⟨hJ _ () _ _ _ _ hg slr rfl ?_ ?_ ff⟩<;>first| (simp(disch:= omega) only[vm,seval];done)| rfl
    ·simp only[h10,aB,ae]at h7;subst h7;simp(disch:= omega) only[vm,seval,ht5,h10];obtain⟨Y,hY⟩:=hpm;have hgp:Ae ((n,[.int .i64 0,.str [],.slice 1 [] true,.slice 4 [] true])::(n2,[.int .i64 y.1.kind,.str y.1.text,.int .i64 y.1.at_])::(Y++m)) (n+1)=some (pc sv q.1):=by refine GK (Us hY hd5) (hY.mem_iff.1 ?_);exact Kb hg5
     have hgp2:Ae (Y++m) (n+1)=some (pc sv q.1):=by rw[VL ff,VL ff]at hgp;exact hgp
     refine⟨ZQ hY ?_⟩;refine Ch (.q (.r []) .z) ?_;simp(disch:= omega) only[vm,seval,hgp2,pc];refine⟨(hR _ _ _ _ _ _ (by simp(disch:= omega) only[vm,seval];rfl) (.cons _ (.cons _ (cA Y m))) rfl ff ?_).1⟩;simp(disch:= omega) only[vm,seval,Hm]
   ·simp only[h9,aB,ae]at h7;subst h7;simp(disch:= omega) only[vm,seval,h9];obtain⟨Y,hY⟩:=hpm;refine⟨ZQ hY ?_⟩;refine Ch (.q .z .z) ?_;simp(disch:= omega) only[vm,seval];refine⟨Og [] (.take 1 (.take 2 (.take 3 (.alt 0 [3,2,1] (.alt 4 [3,2,1] (.alt 5 [3] (.alt 6 [] (.done) (.stop)) (.stop)) (.stop)) (.stop))))) Lc (by kernel_rfl) ?_⟩;simp(disch:= omega) only[vm,seval];refine⟨(hR _ _ _ _ _ _ (by simp(disch:= omega) only[vm,seval];rfl) (.cons _ (.cons _ (cA Y m))) rfl ff ?_).1⟩;simp(disch:= omega) only[vm,seval,Ja,Hm]
  ·simp only[h5,aB,ae]at h4;subst h4;simp(disch:= omega) only[vm,seval,h5];obtain⟨Y,hY⟩:=hps.all;refine⟨ZQ ((hY.cons _).trans (cj _ _ _)) ?_⟩;refine Ch (.q (.r []) .z) ?_;simp(disch:= omega) only[vm,seval];refine⟨(hR _ _ _ _ _ _ (by simp(disch:= omega) only[vm,seval];rfl) (.cons _ (.cons _ (cA Y m))) rfl ff ?_).1⟩;simp(disch:= omega) only[vm,seval,Ja,Hm]
theorem Ya {a0 r} (h:Jn N a0=some r) (ha:args=[.str a0]) (hQ: ∀n',n≤n'→Gl (Q (.tuple [AL r.1,.int .i64 r.2.1,.int .i64 r.2.2]) ⟨m,n'⟩)):ACall vE 46 args ⟨m,n⟩ Q:=AT7 (fun h ha hq=>AAQ h ha hq) (fun h ha hq=>AHp h ha hq) h ha hQ
instance AcK {a0}:CF vE (Jn N a0) 46 [.str a0] (fun r=>.tuple [AL r.1,.int .i64 r.2.1,.int .i64 r.2.2]):=⟨fun h hQ=>Ya h rfl hQ⟩
end Go.Proofs.YtgfgogdgnkaedaaGreatDoor
