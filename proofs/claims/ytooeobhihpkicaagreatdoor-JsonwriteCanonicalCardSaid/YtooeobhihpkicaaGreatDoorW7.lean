import Derived.Test.YtooeobhihpkicaaGreatDoorVmFacts
import Derived.Test.YtooeobhihpkicaaGreatDoorDefs
import Derived.Test.YtooeobhihpkicaaGreatDoorVM2
import Derived.Test.YtooeobhihpkicaaGreatDoorW2
import Derived.Test.YtooeobhihpkicaaGreatDoorW4
import Derived.Test.YtooeobhihpkicaaGreatDoorW5
import Derived.Test.YtooeobhihpkicaaGreatDoorVM5
set_option linter.unusedVariables false
set_option linter.unusedSimpArgs false
set_option maxHeartbeats 4000000
set_option maxRecDepth 100000
set_option linter.defProp false
namespace Go.Proofs.YtooeobhihpkicaaGreatDoor
open Go.VM
variable{N n:Nat}{m:MS}{Q:PQ}{args:List AVal}
theorem NR {a0 a1 r} (h:G6 N a0 a1=some r) (ha:args=[.str a0,.int .i64 a1]) (hQ: ∀n',n≤n'→Gl (Q (.tuple [.int .i64 r.1,.bool r.2]) ⟨m,n'⟩)):ACall vE 84 args ⟨m,n⟩ Q:=by
 rw[G6]at h
 subst ha
 refine ent hQ Tryz.func84 rfl Tryz.ntmps84 Tryz.results84 (.q (.r []) (.q .z (.q (.r []) (.q (.r []) .z)))) fun R hR=>?_
 replace h:=And.intro trivial h
 simp(disch:=omega) only[vm,seval,h.1]
 refine⟨Ad (γ:=Unit) h [8,9,10,11,12,13,14,15,16,17,18,19,20,21,22,23,24] [25] (fun j1 g=>[.bool j1]) (fun j1 g=>m) (.r []) ?_ ?_⟩<;>clear h
 rintro j1 _ n4 hnn4 _ _ h
 refine AB (.c (.q (.r []) .z) .z) ?_
 replace h:=AC h
 rcases h with h|h
 obtain⟨H,h⟩:=h
 cases h
 simp(disch:=omega) only[vm,seval,H]
 refine⟨(hR _ _ _ _ _ _ (by simp(disch:=omega) only[vm,seval,H];rfl) slr ?_ (by omega) ?_).1⟩<;>first|(simp(disch:=omega) only[vm,seval,H];done)|rfl
 replace h:=AA h
 obtain⟨x7,h⟩:=h
 replace h:=AA h
 obtain⟨y8,h⟩:=h
 simp(disch:=omega) only[vm,seval,h.1]
 refine⟨Z8 h.1.1 (by first|(simp(disch:=omega) only[vm,seval,h.1];done)|rfl) fun n9 hn9=>?_⟩
 obtain⟨H,h⟩:=h
 cases h
 simp(disch:=omega) only[vm,seval,H]
 refine⟨(hR _ _ _ _ _ _ (by simp(disch:=omega) only[vm,seval,H];rfl) slr ?_ (by omega) ?_).1⟩<;>first|(simp(disch:=omega) only[vm,seval,H];done)|rfl
 intro k2 Jk2 hk2 h
 replace h:=AC h
 rcases h with h|h
 simp(disch:=omega) only[vm,seval,h.1]
 refine⟨hk2 true () _ _ _ _ h.2 slr ?_ ?_ ?_ (by omega)⟩<;>first|(simp(disch:=omega) only[vm,seval,h.1];done)|rfl
 replace h:=AA h
 obtain⟨x5,h⟩:=h
 replace h:=AC h
 rcases h with h|h
 simp(disch:=omega) only[vm,seval,h.1]
 refine⟨hk2 true () _ _ _ _ h.2 slr ?_ ?_ ?_ (by omega)⟩<;>first|(simp(disch:=omega) only[vm,seval,h.1];done)|rfl
 replace h:=AA h
 obtain⟨x6,h⟩:=h
 simp(disch:=omega) only[vm,seval,h.1]
 refine⟨hk2 ((Am x6) !=117) () _ _ _ _ h.2 slr ?_ ?_ ?_ (by omega)⟩<;>first|(simp(disch:=omega) only[vm,seval,h.1];done)|rfl
theorem Ju {a0 a1 r} (h:Fz N a0 a1=some r) (ha:args=[.str a0,.str a1]) (hQ: ∀n',n≤n'→Gl (Q (.str r) ⟨m,n'⟩)):ACall vE 96 args ⟨m,n⟩ Q:=by
 rw[Fz]at h
 subst ha
 refine ent hQ Tryz.func96 rfl Tryz.ntmps96 Tryz.results96 (.q (.r []) .z) fun R hR=>?_
 replace h:=And.intro trivial h
 simp(disch:=omega) only[vm,seval,h.1]
 refine⟨Ad (γ:=Unit) h [5,6,7,8,9,10,11,12,13,14,15,16,17,18,19,20,21] [0] (fun j1 g=>[.str j1]) (fun j1 g=>m) .z ?_ ?_⟩<;>clear h
 rintro j1 _ n4 hnn4 _ _ h
 refine AB (.q (.r []) .z) ?_
 obtain⟨H,h⟩:=h
 cases h
 simp(disch:=omega) only[vm,seval,H]
 refine⟨(hR _ _ _ _ _ _ (by simp(disch:=omega) only[vm,seval,H];rfl) slr ?_ (by omega) ?_).1⟩<;>first|(simp(disch:=omega) only[vm,seval,H];done)|rfl
 intro k2 Jk2 hk2 h
 simp(disch:=omega) only[vm,seval,h.1]
 refine⟨D7 (σ:=(List UInt8)) (γ:=Unit) (fun k s=>DU N a1 k2 k s) (fun s g=>[.str s]) (fun s g=>m) [5,6,7,8,9,10,11,12,13,14,15,16,17,18,19,20,21] [0] a0 () h (fun _=>rfl) (by first|(simp(disch:=omega) only[vm,seval,h.1];done)|rfl) (by first|(simp(disch:=omega) only[vm,seval,h.1];done)|rfl) ?_⟩
 clear h
 rintro k5 s0 _ nL0_1 hnL0_1 _ h Jk5 hk5
 change _∧DU N a1 k2 (k5+1) s0=_ at h
 rw[DU]at h
 refine AB (.q (.q (.r []) (.c .z .z)) (.q (.r []) (.q (.q (.r []) (.c .z .z)) (.r [])))) ?_
 replace h:=AC h
 rcases h with h|h
 replace h:=AA h
 obtain⟨y6,h⟩:=h
 simp(disch:=omega) only[vm,seval,h.1]
 refine⟨FI h.1.1 (by first|(simp(disch:=omega) only[vm,seval,h.1];done)|rfl) fun n7 hn7=>?_⟩
 replace h:=AA h
 obtain⟨y8,h⟩:=h
 simp(disch:=omega) only[vm,seval,h.1]
 refine⟨IP h.1.1 (by first|(simp(disch:=omega) only[vm,seval,h.1];done)|rfl) fun n9 hn9=>?_⟩
 replace h:=AC h
 rcases h with h|h
 replace h:=AA h
 obtain⟨x10,h⟩:=h
 simp(disch:=omega) only[vm,seval,h.1]
 refine⟨hk5 x10 () _ _ _ _ h.2 slr ?_ ?_ ?_ (by omega)⟩<;>first|(simp(disch:=omega) only[vm,seval,h.1];done)|rfl
 simp(disch:=omega) only[vm,seval,h.1]
 refine⟨hk2 s0 () _ _ _ _ h.2 slr ?_ ?_ ?_ (by omega)⟩<;>first|(simp(disch:=omega) only[vm,seval,h.1];done)|rfl
 simp(disch:=omega) only[vm,seval,h.1]
 refine⟨hk2 s0 () _ _ _ _ h.2 slr ?_ ?_ ?_ (by omega)⟩<;>first|(simp(disch:=omega) only[vm,seval,h.1];done)|rfl
theorem Jg {a0 a1 r} (h:Fs N a0 a1=some r) (ha:args=[.str a0,.str a1]) (hQ: ∀n',n≤n'→Gl (Q (.str r) ⟨m,n'⟩)):ACall vE 99 args ⟨m,n⟩ Q:=by
 rw[Fs]at h
 subst ha
 refine ent hQ Tryz.func99 rfl Tryz.ntmps99 Tryz.results99 (.q (.r []) .z) fun R hR=>?_
 replace h:=And.intro trivial h
 simp(disch:=omega) only[vm,seval,h.1]
 refine⟨Ad (γ:=Unit) h [5,6,7,8,9,10,11,12,13,14,15,16,17,18,19,20,21,22,23,24,25,26,27,28,29,30,31,32] [0] (fun j1 g=>[.str j1]) (fun j1 g=>m) .z ?_ ?_⟩<;>clear h
 rintro j1 _ n4 hnn4 _ _ h
 refine AB (.q (.r []) .z) ?_
 obtain⟨H,h⟩:=h
 cases h
 simp(disch:=omega) only[vm,seval,H]
 refine⟨(hR _ _ _ _ _ _ (by simp(disch:=omega) only[vm,seval,H];rfl) slr ?_ (by omega) ?_).1⟩<;>first|(simp(disch:=omega) only[vm,seval,H];done)|rfl
 intro k2 Jk2 hk2 h
 simp(disch:=omega) only[vm,seval,h.1]
 refine⟨D7 (σ:=(List UInt8)) (γ:=Unit) (fun k s=>DF N a1 k2 k s) (fun s g=>[.str s]) (fun s g=>m) [5,6,7,8,9,10,11,12,13,14,15,16,17,18,19,20,21,22,23,24,25,26,27,28,29,30,31,32] [0] a0 () h (fun _=>rfl) (by first|(simp(disch:=omega) only[vm,seval,h.1];done)|rfl) (by first|(simp(disch:=omega) only[vm,seval,h.1];done)|rfl) ?_⟩
 clear h
 rintro k5 s0 _ nL0_1 hnL0_1 _ h Jk5 hk5
 change _∧DF N a1 k2 (k5+1) s0=_ at h
 rw[DF]at h
 refine AB (.q (.q (.r []) (.c .z .z)) (.q (.r []) .z)) ?_
 replace h:=AC h
 rcases h with h|h
 replace h:=AA h
 obtain⟨x6,h⟩:=h
 simp(disch:=omega) only[vm,seval,h.1]
 refine⟨Ad (γ:=Unit) h [16,17,18,19,20,21,22] [5,6] (fun j7 g=>[.int .i32 j7.1,.int .i64 j7.2]) (fun j7 g=>m) (.q (.r []) (.c (.r []) .z)) ?_ ?_⟩<;>clear h
 rintro j7 _ n10 hnn10 _ _ h
 refine AB (.q (.q (.r []) (.c .z .z)) (.r [])) ?_
 replace h:=AA h
 obtain⟨y13,h⟩:=h
 simp(disch:=omega) only[vm,seval,h.1]
 refine⟨IP h.1.1 (by first|(simp(disch:=omega) only[vm,seval,h.1];done)|rfl) fun n14 hn14=>?_⟩
 replace h:=AC h
 rcases h with h|h
 replace h:=AA h
 obtain⟨x15,h⟩:=h
 simp(disch:=omega) only[vm,seval,h.1]
 refine⟨hk5 x15 () _ _ _ _ h.2 slr ?_ ?_ ?_ (by omega)⟩<;>first|(simp(disch:=omega) only[vm,seval,h.1];done)|rfl
 simp(disch:=omega) only[vm,seval,h.1]
 refine⟨hk2 s0 () _ _ _ _ h.2 slr ?_ ?_ ?_ (by omega)⟩<;>first|(simp(disch:=omega) only[vm,seval,h.1];done)|rfl
 intro k8 Jk8 hk8 h
 replace h:=AC h
 rcases h with h|h
 replace h:=AA h
 obtain⟨y11,h⟩:=h
 simp(disch:=omega) only[vm,seval,h.1]
 refine⟨HV h.1.1 (by first|(simp(disch:=omega) only[vm,seval,h.1];done)|rfl) fun n12 hn12=>?_⟩
 simp(disch:=omega) only[vm,seval,h.1]
 refine⟨hk8 (y11.1,y11.2) () _ _ _ _ h.2 slr ?_ ?_ ?_ (by omega)⟩<;>first|(simp(disch:=omega) only[vm,seval,h.1];done)|rfl
 simp(disch:=omega) only[vm,seval,h.1]
 refine⟨hk8 ((wr .i32 (Am x6)),1) () _ _ _ _ h.2 slr ?_ ?_ ?_ (by omega)⟩<;>first|(simp(disch:=omega) only[vm,seval,h.1];done)|rfl
 simp(disch:=omega) only[vm,seval,h.1]
 refine⟨hk2 s0 () _ _ _ _ h.2 slr ?_ ?_ ?_ (by omega)⟩<;>first|(simp(disch:=omega) only[vm,seval,h.1];done)|rfl
theorem AIu:(AAe vE.P 89).map (Im vE.P)=some (some (.bool false)):=by kernel_rfl
theorem Rx: ∃e,AAe vE.P 89=some e∧Im vE.P e=some (.bool false):=by
  have h:=AIu
  cases he:AAe vE.P 89 with
  |none=>rw[he]at h;cases h
  |some e=>rw[he]at h;simp only[Option.map_some,Option.some.injEq]at h;exact⟨e,rfl,h⟩
theorem Ph{s:List UInt8}: ∀ {keys:List (List UInt8)},s∈keys→Ii keys (keys.map fun _=>AVal.bool true) s=some (.bool true)
  | k::ks,h=>by
    simp only[List.map_cons,Ii]
    split
    · rfl
    · rename_i hn
      rcases List.mem_cons.1 h with h|h
      · exact absurd h hn
      · exact Ph h
theorem Na{s:List UInt8}: ∀ {keys:List (List UInt8)},s∉keys→Ii keys (keys.map fun _=>AVal.bool true) s=none
  |[],_=>rfl
  | k::ks,h=>by
    simp only[List.mem_cons,not_or]at h
    simp only[List.map_cons,Ii]
    rw[if_neg h.1]
    exact Na h.2
theorem ABy{s:List UInt8}{x:AVal}: ∀ {keys:List (List UInt8)}{vs:List AVal},s∉keys→vs.length=keys.length→LQ keys s=keys++[s]∧LV keys vs s x=vs++[x]
  |[],[],_,_=>⟨rfl,rfl⟩
  |[],_::_,_,h=>by simp at h
  |k::ks,[],_,h=>by simp at h
  | k::ks,v::vs,h,hl=>by
    simp only[List.mem_cons,not_or]at h
    obtain⟨h1,h2⟩:=ABy (x:=x) h.2 (by simpa using hl:vs.length=ks.length)
    simp only[LQ,LV,if_neg h.1,h1,h2,List.cons_append,and_self]
theorem AMa{k:Nat}{s:List UInt8}{keys:List (List UInt8)}{st:St} (hm:Bi st.m k=some [.map keys (keys.map fun _=>.bool true)]) (hin:s∈keys):MH vE 89 (.sh k) (.str s) false st=some (.bool true):=by
  obtain⟨e,h1,h2⟩:=Rx
  simp[MH,h1,h2,Qo,hm,Ph hin,AVal.strip]
theorem ALk{k:Nat}{s:List UInt8}{keys:List (List UInt8)}{st:St} (hm:Bi st.m k=some [.map keys (keys.map fun _=>.bool true)]) (hin:s∉keys):MH vE 89 (.sh k) (.str s) false st=some (.bool false):=by
  obtain⟨e,h1,h2⟩:=Rx
  simp[MH,h1,h2,Qo,hm,Na hin,AVal.strip]
theorem ALj{k:Nat}{s:List UInt8}{keys:List (List UInt8)}{st:St} (hm:Bi st.m k=some [.map keys (keys.map fun _=>.bool true)]) (hin:s∉keys):Ng vE 89 (.sh k) (.str s) (.bool true) st=some {st with m:=Br st.m k [.map (keys++[s]) ((keys++[s]).map fun _=>.bool true)]}:=by
  obtain⟨e,h1,h2⟩:=Rx
  obtain⟨h3,h4⟩:=ABy (x:=AVal.bool true) (vs:=keys.map fun _=>AVal.bool true) hin (by simp)
  simp[Ng,h1,Qo,hm,h3,h4]
theorem AGD{i:Nat}:(AVal.sh i).strip=.sh i:=rfl
theorem Ob {a0 r} (h:Gx N a0=some r) (ha:args=[.slice 1 (List.map AVal.str a0) false]) (hQ: ∀n',n≤n'→Gl (Q (.bool r) ⟨m,n'⟩)):ACall vE 46 args ⟨m,n⟩ Q:=by
 rw[Gx]at h
 subst ha
 refine ent hQ Tryz.func46 rfl Tryz.ntmps46 Tryz.results46 (.q (.r []) (.q (.r []) (.q (.q (.r []) .z) (.q (.r []) .z)))) fun R hR=>?_
 replace h:=And.intro trivial h
 replace h:=Ag h
 obtain⟨hfk,h⟩:=h
 simp(disch:=omega) only[vm,seval,h.1]
 refine⟨Hl (σ:=List (List UInt8)) (γ:=Unit) a0 hfk (fun xs i s=>I7 N xs s) (fun i s g=>[.int .i64 i]) (fun i s g=>(n,[.map s (s.map fun _=>.bool true)])::m) [2,5,10,11,12,13,14,15,16,17,18,19,20,21,22,23] [9] [] () h (by simp only[List.map_nil]) (by first|(simp(disch:=omega) only[vm,seval,h.1];done)|rfl) ?_ ?_⟩<;>clear h
 · rintro i seen _ n4 hn4 _ h
   change _∧I7 N [] seen=_ at h
   rw[I7]at h
   refine AB (.q (.r []) (.q (.c .z .z) .z)) ?_
   obtain⟨H,h⟩:=h
   cases h
   simp(disch:=omega) only[vm,seval,H]
   refine⟨(hR _ _ _ _ _ _ (by simp(disch:=omega) only[vm,seval,H];rfl) (.cons _ slr) ?_ (by omega) ?_).1⟩<;>first|(simp(disch:=omega) only[vm,seval,H];done)|rfl
 · rintro x xs i seen _ n4 hn4 _ h Jk hJ
   change _∧I7 N (x::xs) seen=_ at h
   rw[I7]at h
   refine AB (.q (.r []) (.q (.c .z .z) (.q (.q (.r []) (.q (.q (.r []) (.c (.q (.r []) .z) .z)) (.r []))) (.r [])))) ?_
   have hg: ∀nx,Bi (⟨(n,[.map seen (seen.map fun _=>.bool true)])::m,nx⟩:St).m n=some [.map seen (seen.map fun _=>.bool true)]:=fun _=>by simp[Bi]
   by_cases hin:x∈seen
   · rw[if_pos hin]at h
     obtain⟨H,h⟩:=h
     cases h
     have hlk:=AMa (st:=⟨_,n4⟩) (hg n4) hin
     simp(disch:=omega) only[vm,seval,H,Oz,AGD,hlk]
     refine⟨(hR _ _ _ _ _ _ (by simp(disch:=omega) only[vm,seval,H];rfl) (.cons _ slr) ?_ (by omega) ?_).1⟩<;>first|(simp(disch:=omega) only[vm,seval,H];done)|rfl
   · rw[if_neg hin]at h
     replace h:=AA h
     obtain⟨y,h⟩:=h
     have hlk:=ALk (st:=⟨_,n4⟩) (hg n4) hin
     simp(disch:=omega) only[vm,seval,h.1,Oz,AGD,hlk]
     refine⟨I4 h.1.1 (by first|(simp(disch:=omega) only[vm,seval,h.1];done)|rfl) fun n6 hn6=>?_⟩
     replace h:=AC h
     rcases h with h|h
     · have hup:=fun nx=>ALj (st:=⟨_,nx⟩) (hg nx) hin
       simp(disch:=omega) only[vm,seval,h.1,Ns,AGD,hup]
       refine⟨hJ (seen++[x]) () _ _ _ _ h.2 slr ?_ ?_ ?_ (by omega)⟩<;>first|(simp(disch:=omega) only[vm,seval,h.1];done)|rfl
     · obtain⟨H,h⟩:=h
       cases h
       simp(disch:=omega) only[vm,seval,H]
       refine⟨(hR _ _ _ _ _ _ (by simp(disch:=omega) only[vm,seval,H];rfl) (.cons _ slr) ?_ (by omega) ?_).1⟩<;>first|(simp(disch:=omega) only[vm,seval,H];done)|rfl
theorem Sg {a0 r} (h:JF N a0=some r) (ha:args=[.str a0]) (hQ: ∀n',n≤n'→Gl (Q (.tuple [.str r.1,.int .i64 r.2]) ⟨m,n'⟩)):ACall vE 61 args ⟨m,n⟩ Q:=by
 rw[JF]at h
 subst ha
 refine ent hQ Tryz.func61 rfl Tryz.ntmps61 Tryz.results61 (.q (.r []) (.q (.q (.r []) (.c (.q (.r []) .z) .z)) (.q (.q (.r []) (.c (.q (.r []) .z) .z)) (.q (.r []) .z)))) fun R hR=>?_
 replace h:=And.intro trivial h
 replace h:=AC h
 rcases h with h|h
 obtain⟨H,h⟩:=h
 cases h
 simp(disch:=omega) only[vm,seval,H]
 refine⟨(hR _ _ _ _ _ _ (by simp(disch:=omega) only[vm,seval,H];rfl) slr ?_ (by omega) ?_).1⟩<;>first|(simp(disch:=omega) only[vm,seval,H];done)|rfl
 replace h:=AA h
 obtain⟨y1,h⟩:=h
 simp(disch:=omega) only[vm,seval,h.1]
 refine⟨I4 h.1.1 (by first|(simp(disch:=omega) only[vm,seval,h.1];done)|rfl) fun n2 hn2=>?_⟩
 replace h:=AC h
 rcases h with h|h
 simp(disch:=omega) only[vm,seval,h.1]
 refine⟨Ad (γ:=Unit) h [5,6,7,15,16,17,18,19,20,21,22,23,24,25,26,27,28,29,30,31,32,33,34,35,36,37,38,39,40,41,42,43,44,45,46,47,48,49] [4] (fun j3 g=>[.slice 1 (List.map (AVal.int .u8) j3) true]) (fun j3 g=>m) (.q (.r []) .z) ?_ ?_⟩<;>clear h
 rintro j3 _ n6 hnn6 _ _ h
 refine AB (.q (.r [50]) .z) ?_
 replace h:=Ag h
 obtain⟨c,h⟩:=h
 try simp only[liE,seval]at c
 replace h:=Aa c h
 obtain⟨H,h⟩:=h
 cases h
 simp(disch:=omega) only[vm,seval,H]
 refine⟨(hR _ _ _ _ _ _ (by simp(disch:=omega) only[vm,seval,H];rfl) slr ?_ (by omega) ?_).1⟩<;>first|(simp(disch:=omega) only[vm,seval,H];done)|rfl
 intro k4 Jk4 hk4 h
 replace h:=Ag h
 obtain⟨hfk7,h⟩:=h
 simp(disch:=omega) only[vm,seval,h.1]
 refine⟨Hl (σ:=(List Int)) (γ:=Unit) a0 hfk7 (fun xs i s=>Cy N k4 xs s) (fun i s g=>[.slice 1 (List.map (AVal.int .u8) s) true,.int .i64 i]) (fun i s g=>m) [5,6,7,18,19,20,21,22,23,24,25,26,27,28,29,30,31,32,33,34,35,36,37,38,39,40,41,42,43,44,45,46,47,48,49] [4,17] [34] () h (by first|(simp(disch:=omega) only[vm,seval,h.1];done)|rfl) (by first|(simp(disch:=omega) only[vm,seval,h.1];done)|rfl) ?_ ?_⟩<;>clear h
 rintro s17 s4 _ nL0_1 hnL0_1 _ h
 change _∧Cy N k4 [] s4=_ at h
 rw[Cy]at h
 refine AB (.q (.r []) (.q (.c .z .z) .z)) ?_
 simp(disch:=omega) only[vm,seval,h.1]
 refine⟨hk4 s4 () _ _ _ _ h.2 slr ?_ ?_ ?_ (by omega)⟩<;>first|(simp(disch:=omega) only[vm,seval,h.1];done)|rfl
 rintro xk7 xsk7 s17 s4 _ nL0_1 hnL0_1 _ h Jk7 hk7
 change _∧Cy N k4 (xk7::xsk7) s4=_ at h
 rw[Cy]at h
 refine AB (.q (.r []) (.q (.c .z .z) .z)) ?_
 simp(disch:=omega) only[vm,seval,h.1]
 refine⟨Ad (γ:=Unit) h [5,6,7,19,20,21,22,23,24,25,26,27,28,29,30,31,32,33,34,35,36,37,38,39,40,41,42,43,44,45,46,47,48] [4] (fun j8 g=>[.slice 1 (List.map (AVal.int .u8) j8) true]) (fun j8 g=>m) (.q (.r []) (.q (.r []) (.q (.r []) (.q (.r []) (.c (.r [32]) (.q (.r []) (.c .z (.r [25])))))))) ?_ ?_⟩<;>clear h
 rintro j8 _ n11 hnn11 _ _ h
 refine AB (.r []) ?_
 simp(disch:=omega) only[vm,seval,h.1]
 refine⟨hk7 j8 () _ _ _ _ h.2 slr ?_ ?_ ?_ (by omega)⟩<;>first|(simp(disch:=omega) only[vm,seval,h.1];done)|rfl
 intro k9 Jk9 hk9 h
 replace h:=AA h
 obtain⟨y12,h⟩:=h
 simp(disch:=omega) only[vm,seval,h.1]
 refine⟨Hg h.1.1 (by first|(simp(disch:=omega) only[vm,seval,h.1];done)|rfl) fun n13 hn13=>?_⟩
 replace h:=AC h
 rcases h with h|h
 replace h:=AA h
 obtain⟨x14,h⟩:=h
 replace h:=Ag h
 obtain⟨c,h⟩:=h
 try simp only[liE,seval]at c
 replace h:=Aa c h
 simp(disch:=omega) only[vm,seval,h.1]
 refine⟨hk9 (s4++[92,(Am x14)]) () _ _ _ _ h.2 slr ?_ ?_ ?_ (by omega)⟩<;>first|(simp(disch:=omega) only[vm,seval,h.1];done)|rfl
 replace h:=AC h
 rcases h with h|h
 replace h:=AA h
 obtain⟨x15,h⟩:=h
 replace h:=AA h
 obtain⟨x16,h⟩:=h
 replace h:=Ag h
 obtain⟨c,h⟩:=h
 try simp only[liE,seval]at c
 replace h:=Aa c h
 simp(disch:=omega) only[vm,seval,h.1]
 refine⟨BB [40] (.take 1 (.take 2 (.take 3 (.take 4 (.take 5 (.take 6 (.take 7 (.alt 0 [7,6,5,4,3,2,1] (.alt 8 [6,5,4,3,2,1] (.alt 9 [] (.done) (.stop)) (.stop)) (.stop))))))))) Av (by kernel_rfl) ?_⟩
 simp(disch:=omega) only[vm,seval,h.1]
 refine⟨hk9 (s4++[92,117,48,48,(Am x15),(Am x16)]) () _ _ _ _ h.2 slr ?_ ?_ ?_ (by omega)⟩<;>first|(simp(disch:=omega) only[vm,seval,h.1];done)|rfl
 replace h:=Ag h
 obtain⟨c,h⟩:=h
 try simp only[liE,seval]at c
 replace h:=Aa c h
 simp(disch:=omega) only[vm,seval,h.1]
 refine⟨hk9 (s4++[(Am xk7)]) () _ _ _ _ h.2 slr ?_ ?_ ?_ (by omega)⟩<;>first|(simp(disch:=omega) only[vm,seval,h.1];done)|rfl
 obtain⟨H,h⟩:=h
 cases h
 simp(disch:=omega) only[vm,seval,H]
 refine⟨(hR _ _ _ _ _ _ (by simp(disch:=omega) only[vm,seval,H];rfl) slr ?_ (by omega) ?_).1⟩<;>first|(simp(disch:=omega) only[vm,seval,H];done)|rfl
theorem FT {l0 a0 a1 a2 c3_0 r}{i0:Nat} (h:Bd N l0 a0 a1 a2 c3_0=some r) (ha:args=[.bsl 1 i0 0 l0,.int .i64 a1,.int .i64 a2,.fn (.func 66) [] [.cptr [.int .i64 c3_0.kind,.str c3_0.text,.slice 1 (List.map AVal.str c3_0.keys) false,.slice 4 (List.map AJ c3_0.items) false]]]) (hi0:Bi m i0=some (List.map (AVal.int .i64) a0)) (hQ: ∀n',n≤n'→Gl (Q (.tuple []) ⟨Br m i0 (List.map (AVal.int .i64) r),n'⟩)):ACall vE 104 args ⟨m,n⟩ Q:=by
 rw[Bd]at h
 subst ha
 refine ACall.front hi0 fun hin=>ent (fun n' k=>⟨_,rfl,(hQ n' k).go⟩) Tryz.func104 rfl Tryz.ntmps104 Tryz.results104 (.q (.r []) (.q (.r []) (.q (.r []) .z))) fun R hR=>?_
 replace h:=And.intro trivial h
 simp(disch:=omega) only[vm,seval,h.1]
 refine⟨Ad (γ:=Unit) h [11,17,18,19,20,21,22,23,24,25,26,27,28,29] [] (fun j1 g=>[]) (fun j1 g=>(i0,List.map (AVal.int .i64) j1)::BP m i0) (.q (.r []) .z) ?_ ?_⟩<;>clear h
 rintro j1 _ n4 hnn4 _ _ h
 refine AB (.q (.r []) .z) ?_
 simp(disch:=omega) only[vm,seval,h.1]
 refine⟨D7 (σ:=Int×(List Int)) (γ:=Unit) (fun k s=>Aq N l0 a1 c3_0 k s.1 s.2) (fun s g=>[.int .i64 s.1]) (fun s g=>(i0,List.map (AVal.int .i64) s.2)::BP m i0) [32,33,34,35,36,37,38,39,40,41,42,43,44,45,46,47,48,49,50,51,52,53,54,55,56,57,58,59] [12] ((wr .i64 ((wr .i64 (a2-a1))-1)),j1) () h (fun _=>rfl) (by first|(simp(disch:=omega) only[vm,seval,h.1];done)|rfl) (by first|(simp(disch:=omega) only[vm,seval,h.1];done)|rfl) ?_⟩
 clear h
 rintro k8 ⟨s12_1,bi0_1⟩ _ nL1_1 hnL1_1 _ h Jk8 hk8
 change _∧Aq N l0 a1 c3_0 (k8+1) s12_1 bi0_1=_ at h
 rw[Aq]at h
 refine AB (.q (.q (.r []) (.c .z .z)) (.q (.q .z (.r [])) (.r []))) ?_
 replace h:=AC h
 rcases h with h|h
 replace h:=Ag h
 obtain⟨c,h⟩:=h
 try simp only[liE,seval]at c
 replace h:=Aa c h
 replace h:=AA h
 obtain⟨x9,h⟩:=h
 replace h:=Ag h
 obtain⟨c,h⟩:=h
 try simp only[liE,seval]at c
 replace h:=Aa c h
 replace h:=AA h
 obtain⟨x10,h⟩:=h
 replace h:=Ag h
 obtain⟨c,h⟩:=h
 try simp only[liE,seval]at c
 replace h:=Aa c h
 replace h:=Ag h
 obtain⟨c,h⟩:=h
 try simp only[liE,seval]at c
 replace h:=Aa c h
 simp(disch:=omega) only[vm,seval,h.1]
 refine⟨BB [] (.take 0 (.take 1 (.take 2 (.take 3 (.take 4 (.take 5 (.take 6 (.take 7 (.take 8 (.take 9 (.take 10 (.take 11 (.take 12 (.take 13 (.take 14 (.take 15 (.take 16 (.alt 17 [14,13,12,5,4,3,2] (.take 18 (.alt 19 [] (.done) (.stop))) (.stop))))))))))))))))))) Av (by kernel_rfl) ?_⟩
 replace h:=AA h
 obtain⟨y11,h⟩:=h
 simp(disch:=omega) only[vm,seval,h.1]
 refine⟨Df h.1.1 (by first|(simp(disch:=omega) only[vm,seval,h.1];done)|rfl) (i0:=i0) (by simp(disch:=omega) only[vm,seval,h.1]) fun n12 hn12=>?_⟩
 simp(disch:=omega) only[vm,seval,h.1]
 refine⟨hk8 ((wr .i64 (s12_1-1)),y11) () _ _ _ _ h.2 slr ?_ ?_ ?_ (by omega)⟩<;>first|(simp(disch:=omega) only[vm,seval,h.1];done)|rfl
 obtain⟨H,h⟩:=h
 cases h
 simp(disch:=omega) only[vm,seval,H]
 refine⟨(hR _ _ _ _ _ _ (by simp(disch:=omega) only[vm,seval,H];rfl) slr ?_ (by omega) ?_).2⟩<;>first|(simp(disch:=omega) only[vm,seval,H];done)|rfl
 intro k2 Jk2 hk2 h
 simp(disch:=omega) only[vm,seval,h.1]
 refine⟨D7 (σ:=Int×(List Int)) (γ:=Unit) (fun k s=>Ap N l0 a1 a2 c3_0 k2 k s.1 s.2) (fun s g=>[.int .i64 s.1]) (fun s g=>(i0,List.map (AVal.int .i64) s.2)::BP m i0) [20,21,22,23,24,25,26,27,28,29] [11] ((wr .i64 ((wr .i64 ((wr .i64 (a2-a1))-1)).tdiv 2)),a0) () h (fun _=>rfl) (by first|(simp(disch:=omega) only[vm,seval,h.1];done)|rfl) (by first|(simp(disch:=omega) only[vm,seval,h.1];done)|rfl) ?_⟩
 clear h
 rintro k5 ⟨s11_0,bi0_0⟩ _ nL0_1 hnL0_1 _ h Jk5 hk5
 change _∧Ap N l0 a1 a2 c3_0 k2 (k5+1) s11_0 bi0_0=_ at h
 rw[Ap]at h
 refine AB (.q (.q (.r []) (.c .z .z)) (.q (.r []) (.r []))) ?_
 replace h:=AC h
 rcases h with h|h
 replace h:=AA h
 obtain⟨y6,h⟩:=h
 simp(disch:=omega) only[vm,seval,h.1]
 refine⟨Df h.1.1 (by first|(simp(disch:=omega) only[vm,seval,h.1];done)|rfl) (i0:=i0) (by simp(disch:=omega) only[vm,seval,h.1]) fun n7 hn7=>?_⟩
 simp(disch:=omega) only[vm,seval,h.1]
 refine⟨hk5 ((wr .i64 (s11_0-1)),y6) () _ _ _ _ h.2 slr ?_ ?_ ?_ (by omega)⟩<;>first|(simp(disch:=omega) only[vm,seval,h.1];done)|rfl
 simp(disch:=omega) only[vm,seval,h.1]
 refine⟨hk2 bi0_0 () _ _ _ _ h.2 slr ?_ ?_ ?_ (by omega)⟩<;>first|(simp(disch:=omega) only[vm,seval,h.1];done)|rfl
theorem Dt {l0 a0 a1 a2 a3 a4 c5_0 r}{i0:Nat}{i4:Nat} (h:BD N l0 a0 a1 a2 a3 a4 c5_0=some r) (ha:args=[.bsl 1 i0 0 l0,.int .i64 a1,.int .i64 a2,.int .i64 a3,.ptr i4 0,.fn (.func 66) [] [.cptr [.int .i64 c5_0.kind,.str c5_0.text,.slice 1 (List.map AVal.str c5_0.keys) false,.slice 4 (List.map AJ c5_0.items) false]]]) (hi0:Bi m i0=some (List.map (AVal.int .i64) a0)) (hi4:Bi m i4=some ([.int .i64 a4])) (hne:i0≠i4) (hQ: ∀n',n≤n'→Gl (Q (.int .i64 r.1) ⟨Br (Br m i0 (List.map (AVal.int .i64) r.2.1)) i4 ([.int .i64 r.2.2]),n'⟩)):ACall vE 128 args ⟨m,n⟩ Q:=by
 rw[BD]at h
 subst ha
 refine ACall.front2 hi0 hi4 hne fun hin hin2=>ent (fun n' k=>⟨_,_,rfl,(hQ n' k).go⟩) Tryz.func128 rfl Tryz.ntmps128 Tryz.results128 (.q (.r []) (.q (.r []) (.q (.r []) (.q (.r []) (.q (.r []) .z))))) fun R hR=>?_
 replace h:=And.intro trivial h
 replace h:=AA h
 obtain⟨y1,h⟩:=h
 simp(disch:=omega) only[vm,seval,h.1]
 refine⟨Ci h.1.1 (by first|(simp(disch:=omega) only[vm,seval,h.1];done)|rfl) (i0:=i0) (by simp(disch:=omega) only[vm,seval,h.1]) (i3:=i4) (by simp(disch:=omega) only[vm,seval,h.1]) (by omega) fun n2 hn2=>?_⟩
 replace h:=AA h
 obtain⟨y3,h⟩:=h
 simp(disch:=omega) only[vm,seval,h.1]
 refine⟨Ci h.1.1 (by first|(simp(disch:=omega) only[vm,seval,h.1];done)|rfl) (i0:=i0) (by simp(disch:=omega) only[vm,seval,h.1]) (i3:=i4) (by simp(disch:=omega) only[vm,seval,h.1]) (by omega) fun n4 hn4=>?_⟩
 replace h:=AA h
 obtain⟨y5,h⟩:=h
 simp(disch:=omega) only[vm,seval,h.1]
 refine⟨Ci h.1.1 (by first|(simp(disch:=omega) only[vm,seval,h.1];done)|rfl) (i0:=i0) (by simp(disch:=omega) only[vm,seval,h.1]) (i3:=i4) (by simp(disch:=omega) only[vm,seval,h.1]) (by omega) fun n6 hn6=>?_⟩
 obtain⟨H,h⟩:=h
 cases h
 simp(disch:=omega) only[vm,seval,H]
 refine⟨(hR _ _ _ _ _ _ (by simp(disch:=omega) only[vm,seval,H];rfl) slr ?_ (by omega) ?_).1⟩<;>first|(simp(disch:=omega) only[vm,seval,H];done)|rfl
end Go.Proofs.YtooeobhihpkicaaGreatDoor
