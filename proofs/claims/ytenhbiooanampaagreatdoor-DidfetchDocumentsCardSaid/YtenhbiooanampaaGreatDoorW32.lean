import Derived.Test.YtenhbiooanampaaGreatDoorW28
import Derived.Test.YtenhbiooanampaaGreatDoorW24
set_option linter.unusedVariables false
set_option linter.unusedSimpArgs false
set_option maxHeartbeats 4000000
set_option maxRecDepth 100000
set_option linter.defProp false
namespace Go.Proofs.YtenhbiooanampaaGreatDoor
open Go.VM Tryz
attribute [local irreducible] AA grd letL
variable{N n:Nat}{m:MS}{Q:PQ}{args:List AVal}
abbrev APb {k5 k bi2}:=lu (λk i (s:MadeDice)=>Dh N k5 k s) k bi2 [(6,4),(12,21)] [5] (λi s=>Dh.eq_1 ..) (λk i s=>Dh.eq_2 ..) (Ms:=λi s=>[.s ([.slice 1 (List.map (AVal.int .u8) s.l) false])])
abbrev AlC {a0 a1 k4 k bn2}:=lf (λk (s:ApiFetch)=>Hr N a0 a1 k4 k s) k bn2 [(11,7)] [] (λs=>[]) (λs=>Hr.eq_1 ..) (λk s=>Hr.eq_2 ..) (Ms:=λs=>[.s ([.str s.next.host,.int .i64 s.next.port,.str s.next.path,.str s.next.query,.str s.next.fragment,.bool s.next.hasQuery,.bool s.next.hasFrag,.int .i64 s.hops,.bool s.done,.int .i64 s.err,.str s.final.uRL.host,.int .i64 s.final.uRL.port,.str s.final.uRL.path,.str s.final.uRL.query,.str s.final.uRL.fragment,.bool s.final.uRL.hasQuery,.bool s.final.uRL.hasFrag,.int .i64 s.final.head.minor,.int .i64 s.final.head.status,.slice 2 (List.map Am s.final.head.fields) false,.str s.final.body,.slice 9 (List.map BQ s.final.trace) false,.slice 7 (List.map Ad s.seen) false])])
abbrev AAl {a3 y8 k11 xs}:=lq (λxs i (s:Unit)=>CY N a3 y8 k11 xs) xs () [(8,1),(13,7),(45,35)] [44] (λi s=>CY.eq_1 ..) (λx xs i s=>CY.eq_2 ..)
attribute [instance] APb AlC AAl
instance ApD {a0}:CF vE (LW N a0) 125 [.str a0] (λr=>.tuple [OV r.1,.int .i64 r.2]):=AQ (LW.eq_1 ..) func125 rfl ntmps125 results125 [(5,[],.stop)]
instance AY1 {a0}:CF vE (Jq N a0) 5 [.slice 1 (List.map (AVal.int .u8) a0) false] (λr=>.tuple [OV r.1,CL r.2]):=AQ (Jq.eq_1 ..) func5 rfl ntmps5 results5 [(8,[],.tk 0 2 (.al 2 [(1,1)] (.al 3 [] .done)))]
instance AuC {a0 a1 a2}:CF vE (PO N a0 a1 a2) 34 [.slice 7 (List.map Bd a0) false,.int .u64 a1,Ad a2] (λr=>.tuple [Eg r.1,.int .i64 r.2]):=AQ (PO.eq_1 ..) func34 rfl ntmps34 results34 [(4,[],.tk 0 4 (.al 4 [(3,2)] (.al 5 [] .done)))]
instance ArO {a0 a1}:CF vE (PL N a0 a1) 102 [.str a0,.str a1] (λr=>.bool r):=AQ (PL.eq_1 ..) func102 rfl ntmps102 results102 [(3,[],.stop)]
instance Aqb {a0 a1}:CF vE (O7 N a0 a1) 44 [.str a0,.str a1] (λr=>.bool r):=AQ (O7.eq_1 ..) func44 rfl ntmps44 results44 [(3,[],.stop)]
instance AsX {a0 a1}:CF vE (Oz N a0 a1) 36 [Eg a0,CL a1] (λr=>.tuple [AC r.1,.int .i64 r.2]):=AQ (Oz.eq_1 ..) func36 rfl ntmps36 results36 [(6,[],.stop),(14,[],.tk 0 3 (.al 3 [(1,2)] (.al 4 [(2,1),(0,1)] (.take 5 .done))))] true
instance Ag8 {a0 a1}:CF vE (IG N a0 a1) 12 [Eg a0,CL a1] (λr=>.tuple [AC r.1,.int .i64 r.2]):=AQ (IG.eq_1 ..) func12 rfl ntmps12 results12 [(9,[],.stop),(17,[],.tk 0 3 (.al 3 [(1,2)] (.al 4 [(2,1),(0,1)] (.take 5 .done))))] true
instance Abu {a0 a1 a2}:CF vE (LJ N a0 a1 a2) 9 [.slice 7 (List.map Bd a0) false,.int .u64 a1,CL a2] (λr=>.tuple [AC r.1,Eg r.2.1,.int .i64 r.2.2]):=AQ (LJ.eq_1 ..) func9 rfl ntmps9 results9 [(6,[],.tk 1 2 (.take 4 (.ar 0 [(4,1),(2,2)] (.ar 3 [(4,1),(1,1)] (.al 5 [(4,1),(2,2)] (.al 6 [(4,1)] (.al 7 [] .done))) (.al 5 [(4,1),(2,2)] (.al 3 [(4,1),(1,1)] (.al 6 [(4,1)] (.al 7 [] .done))))) (.al 3 [(4,1),(1,1)] (.al 0 [(4,1),(2,2)] (.al 5 [(4,1),(2,2)] (.al 6 [(4,1)] (.al 7 [] .done)))))))),(9,[],.tk 1 2 (.take 4 (.ar 0 [(4,1),(2,2)] (.ar 3 [(4,1),(1,1)] (.al 5 [(4,1),(2,2)] (.al 6 [(4,1)] (.al 7 [] .done))) (.al 5 [(4,1),(2,2)] (.al 3 [(4,1),(1,1)] (.al 6 [(4,1)] (.al 7 [] .done))))) (.al 3 [(4,1),(1,1)] (.al 0 [(4,1),(2,2)] (.al 5 [(4,1),(2,2)] (.al 6 [(4,1)] (.al 7 [] .done)))))))),(10,[],.tk 0 2 (.al 2 [(1,1)] (.al 3 [] (.al 4 [] .done))))] true
instance Asj:CF vE (TE N) 4 [] (λr=>.bool r):=AQ (TE.eq_1 ..) func4 rfl ntmps4 results4 [(5,[],.stop)]
instance AVW {a0 a1 a2}:CF vE (JI N a0 a1 a2) 8 [.slice 7 (List.map Bd a0) false,.int .u64 a1,CL a2] (λr=>.tuple [AC r.1,Eg r.2.1,.int .i64 r.2.2]):=AQ (JI.eq_1 ..) func8 rfl ntmps8 results8 [(6,[],.tk 1 2 (.take 4 (.ar 0 [(4,1),(2,2)] (.ar 3 [(4,1),(1,1)] (.al 5 [(4,1),(2,2)] (.al 6 [(4,1)] (.al 7 [] .done))) (.al 5 [(4,1),(2,2)] (.al 3 [(4,1),(1,1)] (.al 6 [(4,1)] (.al 7 [] .done))))) (.al 3 [(4,1),(1,1)] (.al 0 [(4,1),(2,2)] (.al 5 [(4,1),(2,2)] (.al 6 [(4,1)] (.al 7 [] .done)))))))),(9,[],.tk 1 2 (.take 4 (.ar 0 [(4,1),(2,2)] (.ar 3 [(4,1),(1,1)] (.al 5 [(4,1),(2,2)] (.al 6 [(4,1)] (.al 7 [] .done))) (.al 5 [(4,1),(2,2)] (.al 3 [(4,1),(1,1)] (.al 6 [(4,1)] (.al 7 [] .done))))) (.al 3 [(4,1),(1,1)] (.al 0 [(4,1),(2,2)] (.al 5 [(4,1),(2,2)] (.al 6 [(4,1)] (.al 7 [] .done)))))))),(10,[],.tk 0 2 (.al 2 [(1,1)] (.al 3 [] (.al 4 [] .done))))] true
instance RV {a0 a1 a2 a3}:CF vE (FE N a0 a1 a2 a3) 3 [.slice 1 (List.map (AVal.int .u8) a0) false,.slice 1 (List.map (AVal.int .u8) a1) false,CL a2,.int .u64 a3] (λr=>.bool r):=AQ (FE.eq_1 ..) func3 rfl ntmps3 results3 [(6,[],.take 0 (.tk 2 2 (.al 1 [(3,2)] (.al 4 [(0,1)] (.al 5 [] .done))))),(12,[],.stop)]
def RU {a0 a1 a2 a3 r} (h:FE N a0 a1 a2 a3=some r) (ha:args=[.slice 1 (List.map (AVal.int .u8) a0) false,.slice 1 (List.map (AVal.int .u8) a1) false,CL a2,.int .u64 a3]) (hQ: ∀n',n<=n'->Gl (Q (.bool r) ⟨m,n'⟩)):ACall vE 3 args ⟨m,n⟩ Q:=ha▸RV.go h hQ
end Go.Proofs.YtenhbiooanampaaGreatDoor
