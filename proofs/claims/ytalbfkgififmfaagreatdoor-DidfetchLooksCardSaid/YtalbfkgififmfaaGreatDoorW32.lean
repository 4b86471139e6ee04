import Derived.Test.YtalbfkgififmfaaGreatDoorW28
import Derived.Test.YtalbfkgififmfaaGreatDoorW24
set_option linter.unusedVariables false
set_option linter.unusedSimpArgs false
set_option maxHeartbeats 4000000
set_option maxRecDepth 100000
set_option linter.defProp false
namespace Go.Proofs.YtalbfkgififmfaaGreatDoor
open Go.VM Tryz
attribute [local irreducible] AA grd letL
variable{N n:Nat}{m:MS}{Q:PQ}{args:List AVal}
abbrev ART {e k a}:=lu (λk i (s:AI)=>Dq N e k s) k a [(6,4),(12,21)] [5] (λi s=>Dq.eq_1 ..) (λk i s=>Dq.eq_2 ..) (Ms:=λi s=>[.s ([.slice 1 (List.map (AVal.int .u8) s.l) false])])
abbrev Ana {e b d k a}:=lf (λk (s:BE)=>IQ N e b d k s) k a [(11,7)] [] (λs=>[]) (λs=>IQ.eq_1 ..) (λk s=>IQ.eq_2 ..) (Ms:=λs=>[.s ([.str s.next.d,.int .i64 s.next.g,.str s.next.c,.str s.next.h,.str s.next.a,.bool s.next.b,.bool s.next.f,.int .i64 s.x,.bool s.done,.int .i64 s.err,.str s.e.q.d,.int .i64 s.e.q.g,.str s.e.q.c,.str s.e.q.h,.str s.e.q.a,.bool s.e.q.b,.bool s.e.q.f,.int .i64 s.e.head.y,.int .i64 s.e.head.l,.slice 2 (List.map Ag s.e.head.m) false,.str s.e.body,.slice 9 (List.map BF s.e.r) false,.slice 7 (List.map Ad s.seen) false])])
abbrev Abc {e b a d}:=lq (λa i (s:Bool)=>FP N e b a s) a d [(12,1),(34,10)] [10,33] (λi s=>FP.eq_1 ..) (λx a i s=>FP.eq_2 ..) (V:=λi s=>[.bool s,.int .i64 i])
abbrev AZj {e b a d}:=lq (λa i (s:(List AD))=>FQ N e b a s) a d [(7,4),(12,1),(16,40)] [5,15] (λi s=>FQ.eq_1 ..) (λx a i s=>FQ.eq_2 ..) (V:=λi s=>[.slice 4 (List.map BA s) true,.int .i64 i])
abbrev Asg {b d f e a}:=lq (λe i (s:(List AD))=>Kn N b d f e s) e a [(11,3),(23,32)] [7,22] (λi s=>Kn.eq_1 ..) (λx e i s=>Kn.eq_2 ..) (V:=λi s=>[.slice 4 (List.map BA s) true,.int .i64 i])
abbrev Ark {e b d a f}:=lq (λa i (s:(List AD))=>Km N e b d a s) a f [(9,1),(11,3),(17,39)] [7,16] (λi s=>Km.eq_1 ..) (λx a i s=>Km.eq_2 ..) (V:=λi s=>[.slice 4 (List.map BA s) true,.int .i64 i])
abbrev AFa {d e b a}:=lq (λa i (s:Unit)=>Db N d e b a) a () [(10,1),(15,5),(48,27)] [47] (λi s=>Db.eq_1 ..) (λx a i s=>Db.eq_2 ..)
attribute [instance] ART Ana Abc AZj Asg Ark AFa
instance Arf {a}:CF vE (Jg N a) 97 [.str a] (λr=>.tuple [BA r.1,.int .i64 r.2]):=AO (Jg.eq_1 ..) func97 [(5,[],.stop)]
instance AbJ {a}:CF vE (KY N a) 7 [.slice 1 (List.map (AVal.int .u8) a) false] (λr=>.tuple [BA r.1,DC r.2]):=AO (KY.eq_1 ..) func7 [(8,[],.tk 0 2 (.al 2 [(1,1)] (.al 3 [] .done)))]
instance Ar7 {a}:CF vE (Q0 N a) 42 [BA a] .bool:=AO (Q0.eq_1 ..) func42 [(2,[],.stop)]
instance Ax5 {a e b}:CF vE (Pw N a e b) 104 [.slice 7 (List.map BR a) false,.int .u64 e,Ad b] (λr=>.tuple [Hm r.1,.int .i64 r.2]):=AO (Pw.eq_1 ..) func104 [(4,[],.tk 0 4 (.al 4 [(3,2)] (.al 5 [] .done)))]
instance Aj7 {a e}:CF vE (Nt N a e) 48 [.slice 1 (List.map AVal.str a) false,BA e] (λr=>.slice 4 (List.map BA r) false):=AO (Nt.eq_1 ..) func48 [(6,[],.stop),(10,[],.stop),(12,[],.stop),(13,[51],.done)]
instance Atu {a e}:CF vE (QJ N a e) 201 [.str a,.str e] .bool:=AO (QJ.eq_1 ..) func201 [(3,[],.stop)]
instance Au7 {a e}:CF vE (QN N a e) 53 [.str a,.str e] .bool:=AO (QN.eq_1 ..) func53 [(3,[],.stop)]
instance AzQ {a e b}:CF vE (WJ N a e b) 47 [BA a,.int .i64 e,.slice 1 (List.map (λl=>AVal.slice 1 (List.map AVal.str l) false) b) false] (λr=>.slice 4 (List.map BA r) false):=AO (WJ.eq_1 ..) func47 [(9,[],.stop),(10,[50],.done)]
instance AsL {a}:CF vE (Qp N a) 37 [BA a] .bool:=AO (Qp.eq_1 ..) func37 [(2,[],.stop)]
instance Asj {a e}:CF vE (Oj N a e) 15 [Li a,BA e] (λr=>.slice 4 (List.map BA r) false):=AO (Oj.eq_1 ..) func15
instance AvO {a e}:CF vE (QD N a e) 117 [Hm a,DC e] (λr=>.tuple [AC r.1,.int .i64 r.2]):=AO (QD.eq_1 ..) func117 [(6,[],.stop),(14,[],.tk 0 3 (.al 3 [(1,2)] (.al 4 [(2,1),(0,1)] (.take 5 .done))))] true
instance Ajl {a e}:CF vE (Ig N a e) 16 [Hm a,DC e] (λr=>.tuple [AC r.1,.int .i64 r.2]):=AO (Ig.eq_1 ..) func16 [(9,[],.stop),(17,[],.tk 0 3 (.al 3 [(1,2)] (.al 4 [(2,1),(0,1)] (.take 5 .done))))] true
instance Ael {a e}:CF vE (KT N a e) 14 [Li a,BA e] (λr=>.slice 4 (List.map BA r) false):=AO (KT.eq_1 ..) func14
instance Aia {a e b}:CF vE (Md N a e b) 43 [.slice 7 (List.map BR a) false,.int .u64 e,DC b] (λr=>.tuple [AC r.1,Hm r.2.1,.int .i64 r.2.2]):=AO (Md.eq_1 ..) func43 [(6,[],.tk 1 2 (.take 4 (.ar 0 [(4,1),(2,2)] (.ar 3 [(4,1),(1,1)] (.al 5 [(4,1),(2,2)] (.al 6 [(4,1)] (.al 7 [] .done))) (.al 5 [(4,1),(2,2)] (.al 3 [(4,1),(1,1)] (.al 6 [(4,1)] (.al 7 [] .done))))) (.al 3 [(4,1),(1,1)] (.al 0 [(4,1),(2,2)] (.al 5 [(4,1),(2,2)] (.al 6 [(4,1)] (.al 7 [] .done)))))))),(9,[],.tk 1 2 (.take 4 (.ar 0 [(4,1),(2,2)] (.ar 3 [(4,1),(1,1)] (.al 5 [(4,1),(2,2)] (.al 6 [(4,1)] (.al 7 [] .done))) (.al 5 [(4,1),(2,2)] (.al 3 [(4,1),(1,1)] (.al 6 [(4,1)] (.al 7 [] .done))))) (.al 3 [(4,1),(1,1)] (.al 0 [(4,1),(2,2)] (.al 5 [(4,1),(2,2)] (.al 6 [(4,1)] (.al 7 [] .done)))))))),(10,[],.tk 0 2 (.al 2 [(1,1)] (.al 3 [] (.al 4 [] .done))))] true
instance Av2:CF vE (Ut N) 4 [] .bool:=AO (Ut.eq_1 ..) func4 [(5,[],.stop)]
instance AXa {a e b}:CF vE (JZ N a e b) 39 [.slice 7 (List.map BR a) false,.int .u64 e,DC b] (λr=>.tuple [AC r.1,Hm r.2.1,.int .i64 r.2.2]):=AO (JZ.eq_1 ..) func39 [(6,[],.tk 1 2 (.take 4 (.ar 0 [(4,1),(2,2)] (.ar 3 [(4,1),(1,1)] (.al 5 [(4,1),(2,2)] (.al 6 [(4,1)] (.al 7 [] .done))) (.al 5 [(4,1),(2,2)] (.al 3 [(4,1),(1,1)] (.al 6 [(4,1)] (.al 7 [] .done))))) (.al 3 [(4,1),(1,1)] (.al 0 [(4,1),(2,2)] (.al 5 [(4,1),(2,2)] (.al 6 [(4,1)] (.al 7 [] .done)))))))),(9,[],.tk 1 2 (.take 4 (.ar 0 [(4,1),(2,2)] (.ar 3 [(4,1),(1,1)] (.al 5 [(4,1),(2,2)] (.al 6 [(4,1)] (.al 7 [] .done))) (.al 5 [(4,1),(2,2)] (.al 3 [(4,1),(1,1)] (.al 6 [(4,1)] (.al 7 [] .done))))) (.al 3 [(4,1),(1,1)] (.al 0 [(4,1),(2,2)] (.al 5 [(4,1),(2,2)] (.al 6 [(4,1)] (.al 7 [] .done)))))))),(10,[],.tk 0 2 (.al 2 [(1,1)] (.al 3 [] (.al 4 [] .done))))] true
instance AoG {a e b}:CF vE (PX N a e b) 11 [.slice 7 (List.map BR a) false,.int .u64 e,BA b] (λr=>.tuple [Nv r.1,.int .i64 r.2]):=AO (PX.eq_1 ..) func11 [(1,[],.stop),(8,[],.tk 0 3 (.tk 4 2 (.tk 7 2 (.al 3 [(8,2),(5,2),(0,1)] (.al 6 [(8,2),(4,1),(2,3)] (.al 9 [(7,1),(5,2),(2,2)] (.al 10 [] (.al 11 [] .done))))))))] true
instance Abp {a e b}:CF vE (LP N a e b) 10 [.slice 7 (List.map BR a) false,.int .u64 e,BA b] (λr=>.tuple [Nv r.1,.int .i64 r.2]):=AO (LP.eq_1 ..) func10 [(1,[],.stop),(8,[],.tk 0 3 (.tk 4 2 (.tk 7 2 (.al 3 [(8,2),(5,2),(0,1)] (.al 6 [(8,2),(4,1),(2,3)] (.al 9 [(7,1),(5,2),(2,2)] (.al 10 [] (.al 11 [] .done))))))))] true
instance U9 {a e b d f}:CF vE (IC N a e b d f) 3 [.slice 1 (List.map (AVal.int .u8) a) false,.slice 1 (List.map (AVal.int .u8) e) false,BA b,Li d,.int .u64 f] .bool:=AO (IC.eq_1 ..) func3 [(3,[],.stop),(6,[],.take 0 (.tk 2 4 (.al 1 [(5,4)] (.al 6 [(4,2),(0,1)] (.al 7 [] .done))))),(12,[],.stop),(15,[],.tk 0 2 (.tk 3 2 (.al 2 [(4,2)] (.al 5 [(1,2)] (.al 6 [(4,2),(1,2)] (.al 7 [] .done))))))]
def U8 {a e b d f r} (h:IC N a e b d f=some r) (ha:args=[.slice 1 (List.map (AVal.int .u8) a) false,.slice 1 (List.map (AVal.int .u8) e) false,BA b,Li d,.int .u64 f]) (hQ: ∀n',n<=n'->Gl (Q (.bool r) ⟨m,n'⟩)):AE vE 3 args ⟨m,n⟩ Q:=ha▸U9.go h hQ
end Go.Proofs.YtalbfkgififmfaaGreatDoor
