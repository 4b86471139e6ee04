import Derived.Test.YtenhbiooanampaaGreatDoorVmFacts
import Derived.Test.YtenhbiooanampaaGreatDoorDefs
import Derived.Test.YtenhbiooanampaaGreatDoorVM7
set_option linter.unusedVariables false
set_option linter.unusedSimpArgs false
set_option maxHeartbeats 4000000
set_option maxRecDepth 100000
set_option linter.defProp false
namespace Go.Proofs.YtenhbiooanampaaGreatDoor
open Go.VM Tryz
attribute [local irreducible] AA grd letL
variable{N n:Nat}{m:MS}{Q:PQ}{args:List AVal}
abbrev Ama {k s0 s3}:=lf (λk (s:Int×B8)=>JQ N k s.1 s.2) k (s0,s3) [(2,1),(4,13)] [0,3] (λs=>[.int .i64 s.1,.str s.2]) (λs=>JQ.eq_1 ..) (λk s=>JQ.eq_2 ..) (X:=JQ N k s0 s3)
abbrev Aar {k s0 s3}:=lf (λk (s:Int×B8)=>F5 N k s.1 s.2) k (s0,s3) [(2,1),(4,13)] [0,3] (λs=>[.int .i64 s.1,.str s.2]) (λs=>F5.eq_1 ..) (λk s=>F5.eq_2 ..) (X:=F5 N k s0 s3)
abbrev AZn {a0 a1 k6 k s5}:=lf (λk (s:Int)=>F8 N a0 a1 k6 k s) k s5 [(4,1),(20,17)] [5] (λs=>[.int .i64 s]) (λs=>F8.eq_1 ..) (λk s=>F8.eq_2 ..)
abbrev Agt {k2 xs}:=lq (λxs i (s:Unit)=>Gi N k2 xs) xs () [(2,3),(8,16)] [7] (λi s=>Gi.eq_1 ..) (λx xs i s=>Gi.eq_2 ..)
abbrev XD {a1 k2 xs s8_0}:=lr (λxs i (s:Unit)=>Ba N a1 k2 xs i) xs s8_0 () [(4,2),(9,10)] [8] (λi s=>Ba.eq_1 ..) (λx xs i s=>Ba.eq_2 ..)
abbrev AhS {a0 a1 k2 k s5}:=lf (λk (s:Int)=>JR N a0 a1 k2 k s) k s5 [(4,1),(6,19)] [5] (λs=>[.int .i64 s]) (λs=>JR.eq_1 ..) (λk s=>JR.eq_2 ..)
abbrev Agz {a0 a1 k2 k s7}:=lc (λk i (s:Unit)=>H9 N a0 a1 k2 k i) k s7 () [(4,3),(9,30)] [7] (λi s=>H9.eq_1 ..) (λk i s=>H9.eq_2 ..)
abbrev AhV {a1 rec_ref14_Same k6 xs s40}:=lr (λxs i (s:Unit)=>M7 N a1 rec_ref14_Same k6 xs i) xs s40 () [(4,2),(41,15)] [40] (λi s=>M7.eq_1 ..) (λx xs i s=>M7.eq_2 ..)
abbrev Agw {a1 k14 xs s59}:=lr (λxs i (s:Unit)=>ND N a1 k14 xs i) xs s59 () [(4,1),(6,1),(60,14)] [59] (λi s=>ND.eq_1 ..) (λx xs i s=>ND.eq_2 ..)
abbrev APN {a1 k2 xs s13}:=lr (λxs i (s:Unit)=>ER N a1 k2 xs i) xs s13 () [(4,2),(14,12)] [13] (λi s=>ER.eq_1 ..) (λx xs i s=>ER.eq_2 ..)
abbrev AUA {a1 k2 xs s13}:=lr (λxs i (s:Unit)=>Eu N a1 k2 xs i) xs s13 () [(4,2),(14,12)] [13] (λi s=>Eu.eq_1 ..) (λx xs i s=>Eu.eq_2 ..)
attribute [instance] Ama Aar AZn Agt XD AhS Agz AhV Agw APN AUA
instance Asw {a0 a1 a2}:CF vE (Wz N a0 a1 a2) 76 [AC a0,.str a1,AC a2] (λr=>AC r):=AQ (Wz.eq_1 ..) func76 rfl ntmps76 results76 [(1,[],.tk 0 11 (.tk 12 11 (.al 11 [(22,11),(9,1),(7,8)] (.take 24 (.al 23 [(24,1),(21,1),(19,8),(10,11)] (.al 25 [(22,4),(16,1)] (.take 26 (.al 27 [] .done))))))))]
instance Arz {a0}:CF vE (La N a0) 79 [.str a0] (λr=>.agg [.int .i64 r.kind,.str r.text,.slice 1 (List.map AVal.str r.keys) true,.slice 4 (List.map AC r.items) true]):=AQ (La.eq_1 ..) func79 rfl ntmps79 results79
instance AjD:CF vE (Oq N) 140 [] (λr=>.agg [.int .i64 r.kind,.str r.text,.slice 1 (List.map AVal.str r.keys) true,.slice 4 (List.map AC r.items) true]):=AQ (Oq.eq_1 ..) func140 rfl ntmps140 results140
instance At3 {a0}:CF vE (Sm N a0) 142 [.int .i64 a0] (λr=>.str r):=AQ (Sm.eq_1 ..) func142 rfl ntmps142 results142
instance AkD {a0}:CF vE (EH N a0) 65 [.int .i64 a0] (λr=>.str r):=AQ (EH.eq_1 ..) func65 rfl ntmps65 results65
instance Aoa {a0}:CF vE (L8 N a0) 230 [.int .u8 a0] (λr=>.bool r):=AQ (L8.eq_1 ..) func230 rfl ntmps230 results230 [(1,[],.stop)]
instance Aax {a0}:CF vE (KO N a0) 231 [.int .u8 a0] (λr=>.bool r):=AQ (KO.eq_1 ..) func231 rfl ntmps231 results231 [(1,[],.stop)]
instance Alh {a0 a1}:CF vE (OJ N a0 a1) 234 [Ga a0,Ga a1] (λr=>.str r):=AQ (OJ.eq_1 ..) func234 rfl ntmps234 results234 [(1,[],.stop),(7,[],.tk 0 8 (.al 8 [] .done))]
instance Arf {a0}:CF vE (Qk N a0) 160 [Ga a0] (λr=>.str r):=AQ (Qk.eq_1 ..) func160 rfl ntmps160 results160
def O6 {a0 r} (h:DY N a0=some r) (ha:args=[.slice 7 (List.map Ad a0) false]) (hQ: ∀n',n<=n'->Gl (Q (.slice 7 (List.map Ad r) true) ⟨m,n'⟩)):ACall vE 248 args ⟨m,n⟩ Q:=by
 rw[DY]at h;subst ha;refine ent hQ func248 rfl ntmps248 results248 (.q (.r []) (.q (.q (.r []) .z) .z)) λR hR=>?_;replace h:=ac trivial h;obtain⟨c,h⟩:=Nk h;try simp only[liE,seval]at c
 replace h:=Kv c h;obtain⟨H,h⟩:=h;cases h;simp(disch:=omega) only[vm,seval,H];refine⟨λc hc=>?_⟩;cases c;·refine Cx (.c (.q (.r []) .z) .z) ?_;simp(disch:=omega) only[vm,seval,H];refine⟨Cx (.q (.r []) .z) ?_⟩;simp(disch:=omega) only[vm,seval,H];refine⟨(hR _ _ _ _ _ _ (by simp(disch:=omega) only[vm,seval,H];rfl) slr ?_ fH ?_).1⟩<;>first|(simp(disch:=omega) only[vm,seval,H];done)|rfl
 ·have e:a0=[]:=ev.1 (hc rfl);subst e;refine Cx (.c (.q (.r []) .z) .z) ?_;simp(disch:=omega) only[vm,seval,H];refine⟨(hR _ _ _ _ _ _ (by simp(disch:=omega) only[vm,seval,H];rfl) slr ?_ fH ?_).1⟩<;>first|(simp(disch:=omega) only[vm,seval,H];done)|rfl
instance ZC {a0}:CF vE (DY N a0) 248 [.slice 7 (List.map Ad a0) false] (λr=>.slice 7 (List.map Ad r) true):=⟨λh hQ=>O6 h rfl hQ⟩
def Ku {a0 r} (h:Bo N a0=some r) (ha:args=[.slice 9 (List.map BQ a0) false]) (hQ: ∀n',n<=n'->Gl (Q (.slice 9 (List.map BQ r) true) ⟨m,n'⟩)):ACall vE 249 args ⟨m,n⟩ Q:=by
 rw[Bo]at h;subst ha;refine ent hQ func249 rfl ntmps249 results249 (.q (.r []) (.q (.q (.r []) .z) .z)) λR hR=>?_;replace h:=ac trivial h;obtain⟨c,h⟩:=Nk h;try simp only[liE,seval]at c
 replace h:=Kv c h;obtain⟨H,h⟩:=h;cases h;simp(disch:=omega) only[vm,seval,H];refine⟨λc hc=>?_⟩;cases c;·refine Cx (.c (.q (.r []) .z) .z) ?_;simp(disch:=omega) only[vm,seval,H];refine⟨Cx (.q (.r []) .z) ?_⟩;simp(disch:=omega) only[vm,seval,H];refine⟨(hR _ _ _ _ _ _ (by simp(disch:=omega) only[vm,seval,H];rfl) slr ?_ fH ?_).1⟩<;>first|(simp(disch:=omega) only[vm,seval,H];done)|rfl
 ·have e:a0=[]:=ev.1 (hc rfl);subst e;refine Cx (.c (.q (.r []) .z) .z) ?_;simp(disch:=omega) only[vm,seval,H];refine⟨(hR _ _ _ _ _ _ (by simp(disch:=omega) only[vm,seval,H];rfl) slr ?_ fH ?_).1⟩<;>first|(simp(disch:=omega) only[vm,seval,H];done)|rfl
instance Tu {a0}:CF vE (Bo N a0) 249 [.slice 9 (List.map BQ a0) false] (λr=>.slice 9 (List.map BQ r) true):=⟨λh hQ=>Ku h rfl hQ⟩
def NN {a0 r} (h:Cm N a0=some r) (ha:args=[.slice 2 (List.map Am a0) false]) (hQ: ∀n',n<=n'->Gl (Q (.slice 2 (List.map Am r) true) ⟨m,n'⟩)):ACall vE 250 args ⟨m,n⟩ Q:=by
 rw[Cm]at h;subst ha;refine ent hQ func250 rfl ntmps250 results250 (.q (.r []) (.q (.q (.r []) .z) .z)) λR hR=>?_;replace h:=ac trivial h;obtain⟨c,h⟩:=Nk h;try simp only[liE,seval]at c
 replace h:=Kv c h;obtain⟨H,h⟩:=h;cases h;simp(disch:=omega) only[vm,seval,H];refine⟨λc hc=>?_⟩;cases c;·refine Cx (.c (.q (.r []) .z) .z) ?_;simp(disch:=omega) only[vm,seval,H];refine⟨Cx (.q (.r []) .z) ?_⟩;simp(disch:=omega) only[vm,seval,H];refine⟨(hR _ _ _ _ _ _ (by simp(disch:=omega) only[vm,seval,H];rfl) slr ?_ fH ?_).1⟩<;>first|(simp(disch:=omega) only[vm,seval,H];done)|rfl
 ·have e:a0=[]:=ev.1 (hc rfl);subst e;refine Cx (.c (.q (.r []) .z) .z) ?_;simp(disch:=omega) only[vm,seval,H];refine⟨(hR _ _ _ _ _ _ (by simp(disch:=omega) only[vm,seval,H];rfl) slr ?_ fH ?_).1⟩<;>first|(simp(disch:=omega) only[vm,seval,H];done)|rfl
instance WA {a0}:CF vE (Cm N a0) 250 [.slice 2 (List.map Am a0) false] (λr=>.slice 2 (List.map Am r) true):=⟨λh hQ=>NN h rfl hQ⟩
instance APQ {a0}:CF vE (Fq N a0) 174 [.int .i64 a0] (λr=>.bool r):=AQ (Fq.eq_1 ..) func174 rfl ntmps174 results174
instance Amn {a0}:CF vE (QT N a0) 368 [Bd a0] (λr=>D8 r):=AQ (QT.eq_1 ..) func368 rfl ntmps368 results368
instance ArT {a0}:CF vE (NQ N a0) 322 [.str a0] (λr=>.bool r):=AQ (NQ.eq_1 ..) func322 rfl ntmps322 results322 [(5,[],.stop)]
instance ApA {a0}:CF vE (Nf N a0) 369 [.int .u8 a0] (λr=>.bool r):=AQ (Nf.eq_1 ..) func369 rfl ntmps369 results369 [(1,[],.stop)]
instance APZ {a0}:CB vE (Jd N a0) 371 (λi0=>[.ptr i0 0]) (λi0=>[Gs i0 234 2 a0.addr,.buf 5 a0.buf true]) (λr=>.int .i64 r.1) (λi0 r=>[Gs i0 234 2 r.2.addr,.buf 5 r.2.buf true]):=Fb (Jd.eq_1 ..) func371 rfl ntmps371 results371
instance Y4 {a0 a1}:CF vE (Eo N a0 a1) 328 [.slice 7 (List.map Ad a0) false,Ad a1] (λr=>.int .i64 r):=AQ (Eo.eq_1 ..) func328 rfl ntmps328 results328 [(4,[],.tk 0 6 .done)]
instance Ary {a0}:CF vE (O5 N a0) 176 [Ad a0] (λr=>Ad r):=AQ (O5.eq_1 ..) func176 rfl ntmps176 results176
instance Ao9 {a0 a1 a2 a3}:CF vE (Jz N a0 a1 a2 a3) 178 [J2 a0,.int .i64 a1,.int .i64 a2,.int .i64 a3] (λr=>J2 r):=AQ (Jz.eq_1 ..) func178 rfl ntmps178 results178 [(1,[],.tk 0 16 (.al 16 [(12,13)] (.take 17 (.al 18 [(15,4),(10,11)] (.al 19 [(17,1),(15,16)] (.take 20 (.al 21 [] .done)))))))]
instance Aql {a0 a1}:CF vE (Ha N a0 a1) 257 [.str a0,.str a1] (λr=>.int .i64 r):=AQ (Ha.eq_1 ..) func257 rfl ntmps257 results257
instance AVt {a0}:CF vE (Gd N a0) 180 [.int .i64 a0] (λr=>.bool r):=AQ (Gd.eq_1 ..) func180 rfl ntmps180 results180 [(1,[],.stop)]
instance AqD {a0 a1}:CF vE (Ll N a0 a1) 333 [.str a0,.int .i64 a1] (λr=>.tuple [.str r.1,.int .i64 r.2.1,.int .i64 r.2.2]):=AQ (Ll.eq_1 ..) func333 rfl ntmps333 results333
instance AhP {a0}:CF vE (PV N a0) 183 [.int .i64 a0] (λr=>.int .i64 r):=AQ (PV.eq_1 ..) func183 rfl ntmps183 results183
instance AVQ {a0 a1 a2}:CB vE (Bu N a0 a1 a2) 188 (λi0=>[.ptr i0 0,.int .i64 a1,.int .i64 a2]) (λi0=>[.str a0.s,.int .i64 a0.at_,.int .i64 a0.nodes,.int .i64 a0.fail,.int .i64 a0.where_]) (λr=>.tuple []) (λi0 r=>[.str r.s,.int .i64 r.at_,.int .i64 r.nodes,.int .i64 r.fail,.int .i64 r.where_]):=Fb (Bu.eq_1 ..) func188 rfl ntmps188 results188
instance AuJ {a0 a1}:CF vE (Jo N a0 a1) 266 [Dz a0,.str a1] (λr=>.bool r):=AQ (Jo.eq_1 ..) func266 rfl ntmps266 results266 [(1,[],.stop)]
instance AVL {a0 a1}:CB vE (CR N a0 a1) 271 (λi0=>[.ptr i0 0,.int .i64 a1]) (λi0=>[.str a0.d.method,.str a0.d.iD,.int .i64 a0.fail]) (λr=>.tuple []) (λi0 r=>[.str r.d.method,.str r.d.iD,.int .i64 r.fail]):=Fb (CR.eq_1 ..) func271 rfl ntmps271 results271
theorem ACy (N:Nat): ∀D:Nat,(∀ {a0:ApiValue}{a1:ApiValue},CF vE (Ie N D a0 a1) 10 [AC a0,AC a1] (λr=>.bool r)):=by intro D;induction D with|zero=>exact⟨λh=>by rw[Ie.eq_1]at h;cases h⟩|succ D ih=>exact AQ (Ie.eq_2 ..) func10 rfl ntmps10 results10 [(1,[],.stop),(6,[],.tk 0 10 (.al 10 [(8,4),(3,4)] (.take 11 .done))),(12,[],.tk 0 11 .done)] true
instance ApS {a0 a1}:CF vE (Ie N N a0 a1) 10 [AC a0,AC a1] (λr=>.bool r):=ACy N N
instance AXj {a0 a1}:CF vE (MG N a0 a1) 104 [.slice 2 (List.map Am a0) false,.slice 2 (List.map Am a1) false] (λr=>.bool r):=AQ (MG.eq_1 ..) func104 rfl ntmps104 results104 [(6,[],.tk 0 9 .done)]
instance Aac {a0 a1}:CF vE (NI N a0 a1) 38 [.slice 9 (List.map BQ a0) false,.slice 9 (List.map BQ a1) false] (λr=>.bool r):=AQ (NI.eq_1 ..) func38 rfl ntmps38 results38 [(6,[],.tk 0 9 .done)]
end Go.Proofs.YtenhbiooanampaaGreatDoor
