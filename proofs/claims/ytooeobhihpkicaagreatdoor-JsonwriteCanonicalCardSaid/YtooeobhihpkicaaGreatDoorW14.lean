import Derived.Test.YtooeobhihpkicaaGreatDoorVmFacts
import Derived.Test.YtooeobhihpkicaaGreatDoorDefs
import Derived.Test.YtooeobhihpkicaaGreatDoorVM2
import Derived.Test.YtooeobhihpkicaaGreatDoorW0
import Derived.Test.YtooeobhihpkicaaGreatDoorW1
import Derived.Test.YtooeobhihpkicaaGreatDoorW2
import Derived.Test.YtooeobhihpkicaaGreatDoorW8
import Derived.Test.YtooeobhihpkicaaGreatDoorW11
import Derived.Test.YtooeobhihpkicaaGreatDoorW12
import Derived.Test.YtooeobhihpkicaaGreatDoorW13
set_option linter.unusedVariables false
set_option linter.unusedSimpArgs false
set_option maxHeartbeats 4000000
set_option maxRecDepth 100000
set_option linter.defProp false
namespace Go.Proofs.YtooeobhihpkicaaGreatDoor
open Go.VM
variable{N n:Nat}{m:MS}{Q:PQ}{args:List AVal}
theorem KN {a0 r} (h:Fh N a0=some r) (ha:args=[.str a0]) (hQ: ∀n',n≤n'→Gl (Q (.tuple [AJ r.1,.int .i64 r.2.1,.int .i64 r.2.2]) ⟨m,n'⟩)):ACall vE 9 args ⟨m,n⟩ Q:=by
 rw[Fh]at h
 subst ha
 refine Mr hQ Tryz.func9 rfl Tryz.ntmps9 Tryz.results9 (.q (.r []) (.q (.q (.r []) (.c (.q (.r []) .z) .z)) (.q (.r []) (.q (.r []) .z)))) fun R hR=>?_
 replace h:=And.intro trivial h
 replace h:=AC h
 rcases h with h|h
 obtain⟨H,h⟩:=h
 cases h
 simp(disch:=omega) only[vm,seval,H]
 refine⟨(hR _ _ _ _ _ _ (by simp(disch:=omega) only[vm,seval,H];rfl) (.cons _ slr) ?_ (by omega) ?_).1⟩<;>first|(simp(disch:=omega) only[vm,seval,H];done)|rfl
 replace h:=AA h
 obtain⟨y1,h⟩:=h
 simp(disch:=omega) only[vm,seval,h.1]
 refine⟨Cb h.1.1 (by first|(simp(disch:=omega) only[vm,seval,h.1];done)|rfl) (i0:=(n+1)) (by simp(disch:=omega) only[vm,seval,h.1]) fun n2 hn2=>?_⟩
 replace h:=AA h
 obtain⟨y3,h⟩:=h
 simp(disch:=omega) only[vm,seval,h.1]
 refine⟨Lf h.1.1 (by first|(simp(disch:=omega) only[vm,seval,h.1];done)|rfl) (i0:=(n+1)) (by simp(disch:=omega) only[vm,seval,h.1]) fun n4 hn4=>?_⟩
 simp(disch:=omega) only[vm,seval,h.1]
 refine⟨Ad (γ:=Unit) h [7,19,20,21,22,23,24,25,26,27,28,29,30,31,32,33,34] [] (fun j5 g=>[]) (fun j5 g=>(n4,[.int .i64 y3.1.kind,.str y3.1.text,.slice 1 (List.map AVal.str y3.1.keys) false,.slice 4 (List.map AJ y3.1.items) false])::((n+1),[.str j5.s,.int .i64 j5.at_,.int .i64 j5.nodes,.int .i64 j5.fail,.int .i64 j5.where_])::(n,[.int .i64 0,.str [],.slice 1 (List.map AVal.str []) true,.slice 4 (List.map AJ []) true])::m) (.q (.r []) .z) ?_ ?_⟩<;>clear h
 rintro j5 _ n8 hnn8 _ _ h
 refine AB (.q (.q (.r []) (.c (.q .z .z) .z)) (.q (.r []) .z)) ?_
 replace h:=AC h
 rcases h with h|h
 simp(disch:=omega) only[vm,seval,h.1]
 refine⟨BB [] (.take 1 (.take 2 (.take 3 (.take 4 (.take 5 (.take 6 (.take 7 (.take 8 (.alt 0 [8,7,6,5,4,3,2,1] (.alt 9 [8,7,6,5,4,3,2,1] (.alt 10 [8,7,6,5] (.alt 11 [] (.done) (.stop)) (.stop)) (.stop)) (.stop)))))))))) Av (by kernel_rfl) ?_⟩
 obtain⟨H,h⟩:=h
 cases h
 simp(disch:=omega) only[vm,seval,H]
 refine⟨(hR _ _ _ _ _ _ (by simp(disch:=omega) only[vm,seval,H];rfl) (.cons _ (.cons _ (.cons _ slr))) ?_ (by omega) ?_).1⟩<;>first|(simp(disch:=omega) only[vm,seval,H];done)|rfl
 obtain⟨H,h⟩:=h
 cases h
 simp(disch:=omega) only[vm,seval,H]
 refine⟨(hR _ _ _ _ _ _ (by simp(disch:=omega) only[vm,seval,H];rfl) (.cons _ (.cons _ (.cons _ slr))) ?_ (by omega) ?_).1⟩<;>first|(simp(disch:=omega) only[vm,seval,H];done)|rfl
 intro k6 Jk6 hk6 h
 replace h:=AA h
 obtain⟨y9,h⟩:=h
 simp(disch:=omega) only[vm,seval,h.1]
 refine⟨Cb h.1.1 (by first|(simp(disch:=omega) only[vm,seval,h.1];done)|rfl) (i0:=(n+1)) (by simp(disch:=omega) only[vm,seval,h.1]) fun n10 hn10=>?_⟩
 simp(disch:=omega) only[vm,seval,h.1]
 refine⟨Ad (γ:=Unit) h [21,22,23,24,25,26,27,28,29] [30] (fun j11 g=>[.bool j11]) (fun j11 g=>(n10,[.int .i64 y9.1.kind,.str y9.1.text,.int .i64 y9.1.at_])::(n4,[.int .i64 y3.1.kind,.str y3.1.text,.slice 1 (List.map AVal.str y3.1.keys) false,.slice 4 (List.map AJ y3.1.items) false])::((n+1),[.str y9.2.s,.int .i64 y9.2.at_,.int .i64 y9.2.nodes,.int .i64 y9.2.fail,.int .i64 y9.2.where_])::(n,[.int .i64 0,.str [],.slice 1 (List.map AVal.str []) true,.slice 4 (List.map AJ []) true])::m) (.r []) ?_ ?_⟩<;>clear h
 rintro j11 _ n14 hnn14 _ _ h
 refine AB (.c (.r []) .z) ?_
 replace h:=AC h
 rcases h with h|h
 replace h:=AA h
 obtain⟨y15,h⟩:=h
 simp(disch:=omega) only[vm,seval,h.1]
 refine⟨CF h.1.1 (by first|(simp(disch:=omega) only[vm,seval,h.1];done)|rfl) (i0:=(n+1)) (by simp(disch:=omega) only[vm,seval,h.1]) fun n16 hn16=>?_⟩
 simp(disch:=omega) only[vm,seval,h.1]
 refine⟨hk6 y15 () _ _ _ _ h.2 (.cons _ slr) ?_ ?_ ?_ (by omega)⟩<;>first|(simp(disch:=omega) only[vm,seval,h.1];done)|rfl
 simp(disch:=omega) only[vm,seval,h.1]
 refine⟨hk6 y9.2 () _ _ _ _ h.2 (.cons _ slr) ?_ ?_ ?_ (by omega)⟩<;>first|(simp(disch:=omega) only[vm,seval,h.1];done)|rfl
 intro k12 Jk12 hk12 h
 replace h:=AC h
 rcases h with h|h
 simp(disch:=omega) only[vm,seval,h.1]
 refine⟨hk12 (y9.1.kind !=1) () _ _ _ _ h.2 slr ?_ ?_ ?_ (by omega)⟩<;>first|(simp(disch:=omega) only[vm,seval,h.1];done)|rfl
 simp(disch:=omega) only[vm,seval,h.1]
 refine⟨hk12 false () _ _ _ _ h.2 slr ?_ ?_ ?_ (by omega)⟩<;>first|(simp(disch:=omega) only[vm,seval,h.1];done)|rfl
theorem Ig {a0 r} (h:Ed N a0=some r) (ha:args=[AJ a0]) (hQ: ∀n',n≤n'→Gl (Q (.bool r) ⟨m,n'⟩)):ACall vE 14 args ⟨m,n⟩ Q:=by
 rw[Ed]at h
 subst ha
 refine ent hQ Tryz.func14 rfl Tryz.ntmps14 Tryz.results14 (.q (.r []) (.q (.r []) (.q (.r []) .z))) fun R hR=>?_
 replace h:=And.intro trivial h
 replace h:=AA h
 obtain⟨y1,h⟩:=h
 simp(disch:=omega) only[vm,seval,h.1]
 refine⟨Jv h.1.1 (by first|(simp(disch:=omega) only[vm,seval,h.1];done)|rfl) (i0:=(n+1)) (by simp(disch:=omega) only[vm,seval,h.1]) fun n2 hn2=>?_⟩
 obtain⟨H,h⟩:=h
 cases h
 simp(disch:=omega) only[vm,seval,H]
 refine⟨(hR _ _ _ _ _ _ (by simp(disch:=omega) only[vm,seval,H];rfl) (.cons _ (.cons _ slr)) ?_ (by omega) ?_).1⟩<;>first|(simp(disch:=omega) only[vm,seval,H];done)|rfl
theorem Jy (N:Nat): ∀D:Nat,(∀ {a0:JsonwriteWriter}{a1:ApiValue}{a2:(List UInt8)}{a3:(List UInt8)}{r:JsonwriteWriter} (h:CW N D a0 a1 a2 a3=some r){args:List AVal}{n:Nat}{m:MS}{i0:Nat} (ha:args=[.ptr i0 0,AJ a1,.str a2,.str a3]) (hi0:Bi m i0=some ([Fb i0 51 2 a0.builder.addr,.buf 5 a0.builder.buf true])){Q:PQ} (hQ: ∀n',n≤n'→Gl (Q (.tuple []) ⟨Br m i0 ([Fb i0 51 2 r.builder.addr,.buf 5 r.builder.buf true]),n'⟩)),ACall vE 42 args ⟨m,n⟩ Q)∧(∀ {a0:JsonwriteWriter}{a1:ApiValue}{r:JsonwriteWriter} (h:Bc N D a0 a1=some r){args:List AVal}{n:Nat}{m:MS}{i0:Nat} (ha:args=[.ptr i0 0,AJ a1]) (hi0:Bi m i0=some ([Fb i0 51 2 a0.builder.addr,.buf 5 a0.builder.buf true])){Q:PQ} (hQ: ∀n',n≤n'→Gl (Q (.tuple []) ⟨Br m i0 ([Fb i0 51 2 r.builder.addr,.buf 5 r.builder.buf true]),n'⟩)),ACall vE 22 args ⟨m,n⟩ Q):=by
 intro D
 induction D with
 |zero=>
  refine⟨?_,?_⟩
  · intro a0 a1 a2 a3 r h
    simp only[CW,reduceCtorEq]at h
  · intro a0 a1 r h
    simp only[Bc,reduceCtorEq]at h
 |succ D ih=>
  obtain⟨ih_jsonwrite_writer_list,ih_jsonwrite_writer_value⟩:=ih
  refine⟨?_,?_⟩
  · intro a0 a1 a2 a3 r h args n m i0 ha hi0 Q hQ
    rw[CW]at h
    subst ha
    refine ACall.front hi0 fun hin=>Mr (fun n' k=>⟨_,rfl,(hQ n' k).go⟩) Tryz.func42 rfl Tryz.ntmps42 Tryz.results42 (.q (.r []) (.q (.r []) .z)) fun R hR=>?_
    replace h:=And.intro trivial h
    replace h:=AA h
    obtain⟨y1,h⟩:=h
    simp(disch:=omega) only[vm,seval,h.1]
    refine⟨Ae h.1.1 (by first|(simp(disch:=omega) only[vm,seval,h.1];done)|rfl) (i0:=i0) (by simp(disch:=omega) only[vm,seval,h.1]) fun n2 hn2=>?_⟩
    simp(disch:=omega) only[vm,seval,h.1]
    refine⟨Ad (γ:=Unit) h [8,9,15,16,17,18,19,20,21,22,23,24,25,26,27,28,29,30,31,32,33,34,35,36,37,38,39,40,41,42,43,44,45,46,47,48,49,50] [] (fun j3 g=>[]) (fun j3 g=>(n,[.int .i64 a1.kind,.str a1.text,.slice 1 (List.map AVal.str a1.keys) false,.slice 4 (List.map AJ a1.items) false])::(i0,[Fb i0 51 2 j3.builder.addr,.buf 5 j3.builder.buf true])::BP m i0) (.q (.r []) .z) ?_ ?_⟩<;>clear h
    rintro j3 _ n6 hnn6 _ _ h
    refine AB (.r []) ?_
    replace h:=AA h
    obtain⟨y28,h⟩:=h
    simp(disch:=omega) only[vm,seval,h.1]
    refine⟨Ae h.1.1 (by first|(simp(disch:=omega) only[vm,seval,h.1];done)|rfl) (i0:=i0) (by simp(disch:=omega) only[vm,seval,h.1]) fun n29 hn29=>?_⟩
    obtain⟨H,h⟩:=h
    cases h
    simp(disch:=omega) only[vm,seval,H]
    refine⟨(hR _ _ _ _ _ _ (by simp(disch:=omega) only[vm,seval,H];rfl) (.cons _ slr) ?_ (by omega) ?_).2⟩<;>first|(simp(disch:=omega) only[vm,seval,H];done)|rfl
    intro k4 Jk4 hk4 h
    replace h:=AA h
    obtain⟨y7,h⟩:=h
    simp(disch:=omega) only[vm,seval,h.1]
    refine⟨Nt h.1.1 (by first|(simp(disch:=omega) only[vm,seval,h.1];done)|rfl) fun n8 hn8=>?_⟩
    replace h:=Ag h
    obtain⟨hfk9,h⟩:=h
    simp(disch:=omega) only[vm,seval,h.1]
    refine⟨Hl (σ:=JsonwriteWriter) (γ:=Unit) y7 hfk9 (fun xs i s=>Bj N a1 (Bc N D) k4 xs i s) (fun i s g=>[.int .i64 i]) (fun i s g=>(n,[.int .i64 a1.kind,.str a1.text,.slice 1 (List.map AVal.str a1.keys) false,.slice 4 (List.map AJ a1.items) false])::(i0,[Fb i0 51 2 s.builder.addr,.buf 5 s.builder.buf true])::BP m i0) [8,9,19,20,21,22,23,24,25,26,27,28,29,30,31,32,33,34,35,36,37,38,39,40,41,42,43,44,45,46,47,48,49,50] [18] y1.2.2 () h (by first|(simp(disch:=omega) only[vm,seval,h.1];done)|rfl) (by first|(simp(disch:=omega) only[vm,seval,h.1];done)|rfl) ?_ ?_⟩<;>clear h
    rintro s18 bi0 _ nL0_1 hnL0_1 _ h
    change _∧Bj N a1 (Bc N D) k4 [] s18 bi0=_ at h
    rw[Bj]at h
    refine AB (.q (.r []) (.q (.c .z .z) (.q (.q (.r []) .z) (.r [])))) ?_
    simp(disch:=omega) only[vm,seval,h.1]
    refine⟨hk4 bi0 () _ _ _ _ h.2 slr ?_ ?_ ?_ (by omega)⟩<;>first|(simp(disch:=omega) only[vm,seval,h.1];done)|rfl
    rintro xk9 xsk9 s18 bi0 _ nL0_1 hnL0_1 _ h Jk9 hk9
    change _∧Bj N a1 (Bc N D) k4 (xk9::xsk9) s18 bi0=_ at h
    rw[Bj]at h
    refine AB (.q (.r []) (.q (.c .z .z) (.q (.q (.r []) .z) (.r [])))) ?_
    simp(disch:=omega) only[vm,seval,h.1]
    refine⟨Ad (γ:=Unit) h [23,24,25,26,27,28] [] (fun j10 g=>[]) (fun j10 g=>(n,[.int .i64 a1.kind,.str a1.text,.slice 1 (List.map AVal.str a1.keys) false,.slice 4 (List.map AJ a1.items) false])::(i0,[Fb i0 51 2 j10.builder.addr,.buf 5 j10.builder.buf true])::BP m i0) (.q (.r []) (.c (.r []) .z)) ?_ ?_⟩<;>clear h
    rintro j10 _ n13 hnn13 _ _ h
    refine AB .z ?_
    simp(disch:=omega) only[vm,seval,h.1]
    refine⟨Ad (γ:=Unit) h [29,30,31,32,33,34,35,36,37,38,39,40,41,42] [] (fun j16 g=>[]) (fun j16 g=>(n,[.int .i64 a1.kind,.str a1.text,.slice 1 (List.map AVal.str a1.keys) false,.slice 4 (List.map AJ a1.items) false])::(i0,[Fb i0 51 2 j16.builder.addr,.buf 5 j16.builder.buf true])::BP m i0) (.q (.r []) (.c (.q (.r []) (.r [])) .z)) ?_ ?_⟩<;>clear h
    rintro j16 _ n19 hnn19 _ _ h
    refine AB (.r []) ?_
    replace h:=AA h
    obtain⟨x25,h⟩:=h
    replace h:=AA h
    obtain⟨y26,h⟩:=h
    simp(disch:=omega) only[vm,seval,h.1]
    refine⟨ih_jsonwrite_writer_value h.1.1 (by first|(simp(disch:=omega) only[vm,seval,h.1];done)|rfl) (i0:=i0) (by simp(disch:=omega) only[vm,seval,h.1]) fun n27 hn27=>?_⟩
    simp(disch:=omega) only[vm,seval,h.1]
    refine⟨hk9 y26 () _ _ _ _ h.2 slr ?_ ?_ ?_ (by omega)⟩<;>first|(simp(disch:=omega) only[vm,seval,h.1];done)|rfl
    intro k17 Jk17 hk17 h
    replace h:=AC h
    rcases h with h|h
    replace h:=AA h
    obtain⟨x20,h⟩:=h
    replace h:=AA h
    obtain⟨y21,h⟩:=h
    simp(disch:=omega) only[vm,seval,h.1]
    refine⟨He h.1.1 (by first|(simp(disch:=omega) only[vm,seval,h.1];done)|rfl) (i0:=i0) (by simp(disch:=omega) only[vm,seval,h.1]) fun n22 hn22=>?_⟩
    replace h:=AA h
    obtain⟨y23,h⟩:=h
    simp(disch:=omega) only[vm,seval,h.1]
    refine⟨Ae h.1.1 (by first|(simp(disch:=omega) only[vm,seval,h.1];done)|rfl) (i0:=i0) (by simp(disch:=omega) only[vm,seval,h.1]) fun n24 hn24=>?_⟩
    simp(disch:=omega) only[vm,seval,h.1]
    refine⟨hk17 y23.2.2 () _ _ _ _ h.2 slr ?_ ?_ ?_ (by omega)⟩<;>first|(simp(disch:=omega) only[vm,seval,h.1];done)|rfl
    simp(disch:=omega) only[vm,seval,h.1]
    refine⟨hk17 j10 () _ _ _ _ h.2 slr ?_ ?_ ?_ (by omega)⟩<;>first|(simp(disch:=omega) only[vm,seval,h.1];done)|rfl
    intro k11 Jk11 hk11 h
    replace h:=AC h
    rcases h with h|h
    replace h:=AA h
    obtain⟨y14,h⟩:=h
    simp(disch:=omega) only[vm,seval,h.1]
    refine⟨Ae h.1.1 (by first|(simp(disch:=omega) only[vm,seval,h.1];done)|rfl) (i0:=i0) (by simp(disch:=omega) only[vm,seval,h.1]) fun n15 hn15=>?_⟩
    simp(disch:=omega) only[vm,seval,h.1]
    refine⟨hk11 y14.2.2 () _ _ _ _ h.2 slr ?_ ?_ ?_ (by omega)⟩<;>first|(simp(disch:=omega) only[vm,seval,h.1];done)|rfl
    simp(disch:=omega) only[vm,seval,h.1]
    refine⟨hk11 bi0 () _ _ _ _ h.2 slr ?_ ?_ ?_ (by omega)⟩<;>first|(simp(disch:=omega) only[vm,seval,h.1];done)|rfl
  · intro a0 a1 r h args n m i0 ha hi0 Q hQ
    rw[Bc]at h
    subst ha
    refine ACall.front hi0 fun hin=>Mr (fun n' k=>⟨_,rfl,(hQ n' k).go⟩) Tryz.func22 rfl Tryz.ntmps22 Tryz.results22 (.q (.r []) (.q (.q (.r []) (.c .z .z)) (.q (.r []) (.q (.r []) (.c (.r []) (.q (.r []) (.c (.r []) (.q (.r []) (.c (.r []) (.q (.r []) (.c .z (.q (.r []) (.c (.r []) (.q (.r []) (.c (.r []) (.q (.r []) (.c (.r []) .z))))))))))))))))) fun R hR=>?_
    replace h:=And.intro trivial h
    replace h:=AA h
    obtain⟨y1,h⟩:=h
    simp(disch:=omega) only[vm,seval,h.1]
    refine⟨ES h.1.1 (by first|(simp(disch:=omega) only[vm,seval,h.1];done)|rfl) (i0:=i0) (by simp(disch:=omega) only[vm,seval,h.1]) fun n2 hn2=>?_⟩
    replace h:=AC h
    rcases h with h|h
    obtain⟨H,h⟩:=h
    cases h
    simp(disch:=omega) only[vm,seval,H]
    refine⟨(hR _ _ _ _ _ _ (by simp(disch:=omega) only[vm,seval,H];rfl) (.cons _ slr) ?_ (by omega) ?_).1⟩<;>first|(simp(disch:=omega) only[vm,seval,H];done)|rfl
    replace h:=AC h
    rcases h with h|h
    replace h:=AA h
    obtain⟨y3,h⟩:=h
    simp(disch:=omega) only[vm,seval,h.1]
    refine⟨Ae h.1.1 (by first|(simp(disch:=omega) only[vm,seval,h.1];done)|rfl) (i0:=i0) (by simp(disch:=omega) only[vm,seval,h.1]) fun n4 hn4=>?_⟩
    obtain⟨H,h⟩:=h
    cases h
    simp(disch:=omega) only[vm,seval,H]
    refine⟨(hR _ _ _ _ _ _ (by simp(disch:=omega) only[vm,seval,H];rfl) (.cons _ slr) ?_ (by omega) ?_).2⟩<;>first|(simp(disch:=omega) only[vm,seval,H];done)|rfl
    replace h:=AC h
    rcases h with h|h
    replace h:=AA h
    obtain⟨y5,h⟩:=h
    simp(disch:=omega) only[vm,seval,h.1]
    refine⟨Ae h.1.1 (by first|(simp(disch:=omega) only[vm,seval,h.1];done)|rfl) (i0:=i0) (by simp(disch:=omega) only[vm,seval,h.1]) fun n6 hn6=>?_⟩
    obtain⟨H,h⟩:=h
    cases h
    simp(disch:=omega) only[vm,seval,H]
    refine⟨(hR _ _ _ _ _ _ (by simp(disch:=omega) only[vm,seval,H];rfl) (.cons _ slr) ?_ (by omega) ?_).2⟩<;>first|(simp(disch:=omega) only[vm,seval,H];done)|rfl
    replace h:=AC h
    rcases h with h|h
    replace h:=AA h
    obtain⟨y7,h⟩:=h
    simp(disch:=omega) only[vm,seval,h.1]
    refine⟨Ae h.1.1 (by first|(simp(disch:=omega) only[vm,seval,h.1];done)|rfl) (i0:=i0) (by simp(disch:=omega) only[vm,seval,h.1]) fun n8 hn8=>?_⟩
    obtain⟨H,h⟩:=h
    cases h
    simp(disch:=omega) only[vm,seval,H]
    refine⟨(hR _ _ _ _ _ _ (by simp(disch:=omega) only[vm,seval,H];rfl) (.cons _ slr) ?_ (by omega) ?_).2⟩<;>first|(simp(disch:=omega) only[vm,seval,H];done)|rfl
    replace h:=AC h
    rcases h with h|h
    replace h:=AA h
    obtain⟨y9,h⟩:=h
    have cy9:=h.1.1
    simp(disch:=omega) only[vm,seval,h.1]
    refine⟨BB [] (.take 0 (.take 1 (.take 2 (.take 3 (.take 4 (.alt 5 [3,1,0] (.done) (.stop))))))) Av (by kernel_rfl) ?_⟩
    simp(disch:=omega) only[vm,seval,h.1]
    refine⟨Ae cy9 (by first|(simp(disch:=omega) only[vm,seval,h.1];done)|rfl) (i0:=i0) (by simp(disch:=omega) only[vm,seval,h.1]) fun n10 hn10=>?_⟩
    obtain⟨H,h⟩:=h
    cases h
    simp(disch:=omega) only[vm,seval,H]
    refine⟨(hR _ _ _ _ _ _ (by simp(disch:=omega) only[vm,seval,H];rfl) (.cons _ slr) ?_ (by omega) ?_).2⟩<;>first|(simp(disch:=omega) only[vm,seval,H];done)|rfl
    replace h:=AC h
    rcases h with h|h
    replace h:=AA h
    obtain⟨y11,h⟩:=h
    simp(disch:=omega) only[vm,seval,h.1]
    refine⟨He h.1.1 (by first|(simp(disch:=omega) only[vm,seval,h.1];done)|rfl) (i0:=i0) (by simp(disch:=omega) only[vm,seval,h.1]) fun n12 hn12=>?_⟩
    obtain⟨H,h⟩:=h
    cases h
    simp(disch:=omega) only[vm,seval,H]
    refine⟨(hR _ _ _ _ _ _ (by simp(disch:=omega) only[vm,seval,H];rfl) (.cons _ slr) ?_ (by omega) ?_).2⟩<;>first|(simp(disch:=omega) only[vm,seval,H];done)|rfl
    replace h:=AC h
    rcases h with h|h
    replace h:=AA h
    obtain⟨y13,h⟩:=h
    simp(disch:=omega) only[vm,seval,h.1]
    refine⟨ih_jsonwrite_writer_list h.1.1 (by first|(simp(disch:=omega) only[vm,seval,h.1];done)|rfl) (i0:=i0) (by simp(disch:=omega) only[vm,seval,h.1]) fun n14 hn14=>?_⟩
    obtain⟨H,h⟩:=h
    cases h
    simp(disch:=omega) only[vm,seval,H]
    refine⟨(hR _ _ _ _ _ _ (by simp(disch:=omega) only[vm,seval,H];rfl) (.cons _ slr) ?_ (by omega) ?_).2⟩<;>first|(simp(disch:=omega) only[vm,seval,H];done)|rfl
    replace h:=AC h
    rcases h with h|h
    replace h:=AA h
    obtain⟨y15,h⟩:=h
    simp(disch:=omega) only[vm,seval,h.1]
    refine⟨ih_jsonwrite_writer_list h.1.1 (by first|(simp(disch:=omega) only[vm,seval,h.1];done)|rfl) (i0:=i0) (by simp(disch:=omega) only[vm,seval,h.1]) fun n16 hn16=>?_⟩
    obtain⟨H,h⟩:=h
    cases h
    simp(disch:=omega) only[vm,seval,H]
    refine⟨(hR _ _ _ _ _ _ (by simp(disch:=omega) only[vm,seval,H];rfl) (.cons _ slr) ?_ (by omega) ?_).2⟩<;>first|(simp(disch:=omega) only[vm,seval,H];done)|rfl
    obtain⟨H,h⟩:=h
    cases h
    simp(disch:=omega) only[vm,seval,H]
    refine⟨(hR _ _ _ _ _ _ (by simp(disch:=omega) only[vm,seval,H];rfl) (.cons _ slr) ?_ (by omega) ?_).2⟩<;>first|(simp(disch:=omega) only[vm,seval,H];done)|rfl
theorem KT {a0 a1 r}{i0:Nat} (h:Bc N N a0 a1=some r) (ha:args=[.ptr i0 0,AJ a1]) (hi0:Bi m i0=some ([Fb i0 51 2 a0.builder.addr,.buf 5 a0.builder.buf true])) (hQ: ∀n',n≤n'→Gl (Q (.tuple []) ⟨Br m i0 ([Fb i0 51 2 r.builder.addr,.buf 5 r.builder.buf true]),n'⟩)):ACall vE 22 args ⟨m,n⟩ Q:=
 ((Jy N N).2 h ha hi0 hQ)
end Go.Proofs.YtooeobhihpkicaaGreatDoor
