import Derived.Test.YtenhbiooanampaaGreatDoorVmFacts
import Derived.Test.YtenhbiooanampaaGreatDoorDefs
import Derived.Test.YtenhbiooanampaaGreatDoorVM7
set_option linter.unusedVariables false
set_option linter.unusedSimpArgs false
set_option maxHeartbeats 4000000
set_option maxRecDepth 100000
set_option linter.defProp false
namespace Go.Proofs.YtenhbiooanampaaGreatDoor
open Go.VM Tryz
attribute [local irreducible] AA grd letL
variable{N n:Nat}{m:MS}{Q:PQ}{args:List AVal}
abbrev Tp {a0 a1 k2 k s5}:=lf (λk (s:Int)=>Al N a0 a1 k2 k s) k s5 [(4,1),(9,10)] [5] (λs=>[.int .i64 s]) (λs=>Al.eq_1 ..) (λk s=>Al.eq_2 ..)
abbrev Aom {a0 k2 xs}:=lq (λxs i (s:Unit)=>Ju N a0 k2 xs) xs () [(4,1),(6,11)] [5] (λi s=>Ju.eq_1 ..) (λx xs i s=>Ju.eq_2 ..)
abbrev Aex {a0 k2 xs s9 bn}:=lr (λxs i (s:(List Int))=>Gv N a0 k2 xs i s) xs s9 bn [(4,1),(10,21)] [9] (λi s=>Gv.eq_1 ..) (λx xs i s=>Gv.eq_2 ..) (Ms:=λi s=>[.s (List.map (AVal.int .u8) s)])
abbrev Abt {a0 a1 k2 xs s7 s5 s6}:=lr (λxs i (s:(List B8)×Int)=>Fa N a0 a1 k2 xs i s.1 s.2) xs s7 (s5,s6) [(8,20)] [5,6,7] (λi s=>Fa.eq_1 ..) (λx xs i s=>Fa.eq_2 ..) (V:=λi s=>[.vec 1 (List.map AVal.str s.1),.int .i64 s.2,.int .i64 i]) (X:=Fa N a0 a1 k2 xs s7 s5 s6)
abbrev Aab {k s0 s3}:=lf (λk (s:Int×B8)=>EC N k s.1 s.2) k (s0,s3) [(2,1),(4,13)] [0,3] (λs=>[.int .u64 s.1,.str s.2]) (λs=>EC.eq_1 ..) (λk s=>EC.eq_2 ..) (X:=EC N k s0 s3)
abbrev AVa {a0 k2 k s3}:=lf (λk (s:Int)=>Ez N a0 k2 k s) k s3 [(2,1),(7,11)] [3] (λs=>[.int .i64 s]) (λs=>Ez.eq_1 ..) (λk s=>Ez.eq_2 ..)
abbrev Abc {rec_ref15_count j1 k10 xs s6}:=lq (λxs i (s:Int)=>Lv N rec_ref15_count j1 k10 xs s) xs s6 [(4,1),(8,2),(27,14)] [6,26] (λi s=>Lv.eq_1 ..) (λx xs i s=>Lv.eq_2 ..) (V:=λi s=>[.int .i64 s,.int .i64 i])
abbrev Ack {a0 k4 k s4 s3}:=lc (λk i (s:Int)=>Ld N a0 k4 k i s) k s4 s3 [(20,14)] [3,4] (λi s=>Ld.eq_1 ..) (λk i s=>Ld.eq_2 ..) (V:=λi s=>[.int .i64 s,.int .i64 i])
abbrev AZ2 {k8 k s3 s4 s5}:=lf (λk (s:(List B8)×(List B8)×(List B8))=>G8 N k8 k s.1 s.2.1 s.2.2) k (s3,s4,s5) [(22,31)] [3,4,5] (λs=>[.slice 1 (List.map AVal.str s.1) false,.slice 1 (List.map AVal.str s.2.1) false,.slice 1 (List.map AVal.str s.2.2) true]) (λs=>G8.eq_1 ..) (λk s=>G8.eq_2 ..) (X:=G8 N k8 k s3 s4 s5)
abbrev AhL {k2 xs s3}:=lq (λxs i (s:Int)=>M8 N k2 xs s) xs s3 [(5,1),(15,8)] [3,14] (λi s=>M8.eq_1 ..) (λx xs i s=>M8.eq_2 ..) (V:=λi s=>[.int .i64 s,.int .i64 i])
abbrev AhE {rec_ref15_long k7 xs}:=lq (λxs i (s:Unit)=>Mk N rec_ref15_long k7 xs) xs () [(2,1),(7,1),(29,6)] [28] (λi s=>Mk.eq_1 ..) (λx xs i s=>Mk.eq_2 ..)
abbrev Amb {a0 a1 k2 xs s14}:=lr (λxs i (s:Unit)=>Oh N a0 a1 k2 xs i) xs s14 () [(5,2),(15,22)] [14] (λi s=>Oh.eq_1 ..) (λx xs i s=>Oh.eq_2 ..)
attribute [instance] Tp Aom Aex Abt Aab AVa Abc Ack AZ2 AhL AhE Amb
instance AA6 {a0}:CF vE (strings_shouldUseASCIISet N a0) 400 [.int .i64 a0] (λr=>.bool r):=AQ (strings_shouldUseASCIISet.eq_1 ..) func400 rfl ntmps400 results400
instance Agv {a0}:CF vE (KX N a0) 169 [Ad a0] (λr=>D8 r):=AQ (KX.eq_1 ..) func169 rfl ntmps169 results169
instance Ag2 {a0}:CF vE (Kl N a0) 170 [Ad a0] (λr=>.str r):=AQ (Kl.eq_1 ..) func170 rfl ntmps170 results170
instance Ux {a0 a1}:CF vE (Cw N a0 a1) 403 [.str a0,.int .u8 a1] (λr=>.int .i64 r):=AQ (Cw.eq_1 ..) func403 rfl ntmps403 results403
def ADN {r} (h:Po N=some r) (ha:args=[]) (hQ: ∀i n',n<=i->i<n'->Gl (Q (.sh i) ⟨(i,[.map [[97,99,99,116],[109,97,105,108,116,111],[104,116,116,112,115],[100,105,100]] [.fn (.func 293) [] [],.fn (.func 294) [] [],.fn (.func 295) [] [],.fn (.func 296) [] []]])::m,n'⟩)):ACall vE 216 args ⟨m,n⟩ Q:=by rw[Po]at h;subst ha;refine Aji func216 rfl ntmps216 results216 (.q (.r []) (.q (.r []) .z)) λR hR=>?_;replace h:=ac trivial h;obtain⟨H,h⟩:=h;cases h;simp(decide:=true) (disch:=omega) only[vm,seval,H,He,K3];refine⟨(hR _ _ [.sh n] ((n,[.map [[97,99,99,116],[109,97,105,108,116,111],[104,116,116,112,115],[100,105,100]] [.fn (.func 293) [] [],.fn (.func 294) [] [],.fn (.func 295) [] [],.fn (.func 296) [] []]])::m) _ (n+1) (by first|(simp(decide:=true) (disch:=omega) only[vm,seval,H,He,K3];done)|(simp(decide:=true) (disch:=omega) only[vm,seval,H,He,K3];rfl)) slr fH (hQ (n) (n+1) fH fH).go).1⟩
instance Aoq:CN vE (Po N) 216 [] (λi=>.sh i) (λr i=>[.map [[97,99,99,116],[109,97,105,108,116,111],[104,116,116,112,115],[100,105,100]] [.fn (.func 293) [] [],.fn (.func 294) [] [],.fn (.func 295) [] [],.fn (.func 296) [] []]]):=⟨λh hQ=>ADN h rfl hQ⟩
def AZA {a0 r} (h:Qh N a0=some r) (ha:args=[.slice 1 (List.map (AVal.int .u8) a0) false]) (hQ: ∀i n',n<=i->i<n'->Gl (Q (.ptr i 0) ⟨(i,[.slice 1 (List.map (AVal.int .u8) r.l) false])::m,n'⟩)):ACall vE 7 args ⟨m,n⟩ Q:=by rw[Qh]at h;subst ha;refine Aji func7 rfl ntmps7 results7 (.q (.r []) (.q (.r []) .z)) λR hR=>?_;replace h:=ac trivial h;obtain⟨x1,h⟩:=GI h;obtain⟨H,h⟩:=h;cases h;simp(disch:=omega) only[vm,seval,H];refine⟨(hR _ _ [.ptr n 0] ((n,[.slice 1 (List.map (AVal.int .u8) x1) false])::m) _ (n+1) (by first|(simp(disch:=omega) only[vm,seval,H];done)|(simp(disch:=omega) only[vm,seval,H];rfl)) slr fH (hQ (n) (n+1) fH fH).go).1⟩
instance AvT {a0}:CN vE (Qh N a0) 7 [.slice 1 (List.map (AVal.int .u8) a0) false] (λi=>.ptr i 0) (λr i=>[.slice 1 (List.map (AVal.int .u8) r.l) false]):=⟨λh hQ=>AZA h rfl hQ⟩
instance Ava {a0 a1}:CF vE (FW N a0 a1) 126 [.int .u8 a0,.str a1] (λr=>.bool r):=AQ (FW.eq_1 ..) func126 rfl ntmps126 results126
instance Aon {a0}:CF vE (EY N a0) 47 [.str a0] (λr=>.str r):=AQ (EY.eq_1 ..) func47 rfl ntmps47 results47 [(5,[],.stop)]
instance Agy {a0}:CF vE (CQ N a0) 135 [.int .u8 a0] (λr=>.bool r):=AQ (CQ.eq_1 ..) func135 rfl ntmps135 results135 [(1,[],.stop)]
instance Agl {a0}:CF vE (Ef N a0) 137 [.int .u8 a0] (λr=>.bool r):=AQ (Ef.eq_1 ..) func137 rfl ntmps137 results137 [(1,[],.stop)]
instance AoZ {a0}:CF vE (Na N a0) 222 [.int .u8 a0] (λr=>.int .u8 r):=AQ (Na.eq_1 ..) func222 rfl ntmps222 results222
instance AkG {a0}:CF vE (I8 N a0) 138 [.int .u8 a0] (λr=>.str r):=AQ (I8.eq_1 ..) func138 rfl ntmps138 results138 [(1,[],.tk 0 7 (.al 7 [(5,6)] (.al 8 [] .done)))]
instance ADM {a0 a1}:CF vE (AXr (EZ N a0 a1)) 57 [.str a0,.int .u8 a1] (λr=>.vec 1 (List.map AVal.str r)):=AQ (AIG.trans (EZ.eq_1 ..)) func57 rfl ntmps57 results57 [(0,[4],.done),(1,[5],.done),(7,[5,19],.done),(8,[4,28],.done)]
instance Ao5 {a0 a1}:CF vE (EZ N a0 a1) 57 [.str a0,.int .u8 a1] (λr=>.slice 1 (List.map AVal.str r) false):=CF.freeze ADM
instance AjM {a0}:CF vE (TD N a0) 49 [WS a0] (λr=>.str r):=AQ (TD.eq_1 ..) func49 rfl ntmps49 results49
instance An9 {a0}:CF vE (Hu N a0) 83 [Ad a0] (λr=>.str r):=AQ (Hu.eq_1 ..) func83 rfl ntmps83 results83
instance AoD {a0}:CF vE (Gn N a0) 223 [.int .u64 a0] (λr=>.str r):=AQ (Gn.eq_1 ..) func223 rfl ntmps223 results223
instance AjE {a0}:CF vE (QW N a0) 145 [Ad a0] (λr=>D8 r):=AQ (QW.eq_1 ..) func145 rfl ntmps145 results145
instance AiP {a0 a1}:CF vE (Er N a0 a1) 55 [.str a0,.str a1] (λr=>.bool r):=AQ (Er.eq_1 ..) func55 rfl ntmps55 results55 [(1,[],.stop)]
instance Ag6 {a0}:CF vE (Ka N a0) 229 [.str a0] (λr=>.str r):=AQ (Ka.eq_1 ..) func229 rfl ntmps229 results229
instance Aao {a0}:CF vE (CV N a0) 103 [CL a0] (λr=>.str r):=AQ (CV.eq_1 ..) func103 rfl ntmps103 results103
instance Aep {a0 a1}:CB vE (Aj N a0 a1) 19 (λi0=>[.ptr i0 0,.int .i64 a1]) (λi0=>[.slice 1 (List.map (AVal.int .u8) a0.l) false]) (λr=>.int .i64 r.1) (λi0 r=>[.slice 1 (List.map (AVal.int .u8) r.2.l) false]):=Fb (Aj.eq_1 ..) func19 rfl ntmps19 results19 [(1,[],.stop)]
theorem AAm (N:Nat): ∀D:Nat,(∀ {a0:ApiValue}{a1:Int},CF vE (Np N D a0 a1) 147 [AC a0,.int .i64 a1] (λr=>.int .i64 r)):=by intro D;induction D with|zero=>exact⟨λh=>by rw[Np.eq_1]at h;cases h⟩|succ D ih=>exact AQ (Np.eq_2 ..) func147 rfl ntmps147 results147 [(2,[],.stop)] true
instance Aou {a0 a1}:CF vE (Np N N a0 a1) 147 [AC a0,.int .i64 a1] (λr=>.int .i64 r):=AAm N N
instance AsR {a0 a1}:CF vE (Qt N a0 a1) 302 [.str a0,.int .i64 a1] (λr=>.str r):=AQ (Qt.eq_1 ..) func302 rfl ntmps302 results302
instance Ao7 {a0}:CF vE (Ut N a0) 394 [.str a0] (λr=>.int .i64 r):=AQ (Ut.eq_1 ..) func394 rfl ntmps394 results394 [(3,[],.tk 0 9 (.al 9 [] .done))]
instance Aor {a0}:CF vE (Uj N a0) 411 [.int .i64 a0] (λr=>.bool r):=AQ (Uj.eq_1 ..) func411 rfl ntmps411 results411 [(1,[],.stop)]
theorem ZZ (N:Nat): ∀D:Nat,(∀ {a0:(List B8)},CF vE (Iz N D a0) 150 [.slice 1 (List.map AVal.str a0) false] (λr=>.slice 1 (List.map AVal.str r) false)):=by intro D;induction D with|zero=>exact⟨λh=>by rw[Iz.eq_1]at h;cases h⟩|succ D ih=>exact AQ (Iz.eq_2 ..) func150 rfl ntmps150 results150 [(3,[],.tk 0 5 (.tk 6 5 (.al 5 [(10,5),(3,4)] (.al 11 [(9,4),(4,5)] (.al 12 [(10,5)] (.al 13 [] .done)))))),(5,[],.stop),(6,[],.tk 0 7 .done),(7,[37],.tk 1 4 (.tk 6 2 (.al 0 [(7,2),(4,4)] (.al 5 [(7,2),(3,3)] (.al 8 [(7,2)] (.al 9 [] .done)))))),(8,[45],.tk 1 4 (.tk 6 2 (.al 0 [(7,2),(4,4)] (.al 5 [(7,2),(3,3)] (.al 8 [(7,2)] (.al 9 [] .done)))))),(9,[53],.done)] true
instance Aha {a0}:CF vE (Iz N N a0) 150 [.slice 1 (List.map AVal.str a0) false] (λr=>.slice 1 (List.map AVal.str r) false):=ZZ N N
theorem ABx (N:Nat): ∀D:Nat,(∀ {a0:ApiValue},CF vE (PG N D a0) 72 [AC a0] (λr=>.bool r)):=by intro D;induction D with|zero=>exact⟨λh=>by rw[PG.eq_1]at h;cases h⟩|succ D ih=>exact AQ (PG.eq_2 ..) func72 rfl ntmps72 results72 [] true
instance ArU {a0}:CF vE (PG N N a0) 72 [AC a0] (λr=>.bool r):=ABx N N
instance AtS {a0 a1}:CF vE (MQ N a0 a1) 151 [AC a0,.str a1] (λr=>.tuple [AC r.1,.bool r.2]):=AQ (MQ.eq_1 ..) func151 rfl ntmps151 results151 [(6,[],.stop)] true
end Go.Proofs.YtenhbiooanampaaGreatDoor
