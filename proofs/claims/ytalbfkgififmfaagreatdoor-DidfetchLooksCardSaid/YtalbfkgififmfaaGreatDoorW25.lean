import Derived.Test.YtalbfkgififmfaaGreatDoorW21
set_option linter.unusedVariables false
set_option linter.unusedSimpArgs false
set_option maxHeartbeats 4000000
set_option maxRecDepth 100000
set_option linter.defProp false
namespace Go.Proofs.YtalbfkgififmfaaGreatDoor
open Go.VM Tryz
attribute [local irreducible] AA grd letL
variable{N n:Nat}{m:MS}{Q:PQ}{args:List AVal}
abbrev YP {g f a b d}:=lq (λf i (s:Bool×B8×BY)=>A8 N g f s.1 s.2.1 s.2.2) f (a,b,d) [(7,1),(11,8)] [10] (λi s=>A8.eq_1 ..) (λx f i s=>A8.eq_2 ..) (Ms:=λi s=>[.t (λq=>[Hd q 274 2 s.1,.buf 5 s.2.1 true]),.s ([.int .i64 s.2.2.e])]) (X:=A8 N g f a b d)
abbrev XL {g f a b d}:=lq (λf i (s:Bool×B8×BY)=>Au N g f s.1 s.2.1 s.2.2) f (a,b,d) [(7,1),(11,8)] [10] (λi s=>Au.eq_1 ..) (λx f i s=>Au.eq_2 ..) (Ms:=λi s=>[.t (λq=>[Hd q 274 2 s.1,.buf 5 s.2.1 true]),.s ([.int .i64 s.2.2.e])]) (X:=Au N g f a b d)
abbrev Air {e a k b}:=lc (λk i (s:Unit)=>HY N e a k i) k b () [(3,1),(41,18)] [5] (λi s=>HY.eq_1 ..) (λk i s=>HY.eq_2 ..)
abbrev Ahg {a b e}:=lq (λe i (s:Unit)=>MG N a b e) e () [(2,1),(6,1),(108,7)] [107] (λi s=>MG.eq_1 ..) (λx e i s=>MG.eq_2 ..)
abbrev Adh {d a f e b g}:=lr (λe i (s:(List Int))=>MQ N d a f e i s) e b g [(6,4),(35,31)] [5,34] (λi s=>MQ.eq_1 ..) (λx e i s=>MQ.eq_2 ..) (V:=λi s=>[.slice 1 (List.map (AVal.int .u8) s) true,.int .i64 i])
abbrev AjM {e k a b}:=lf (λk (s:(List AG)×Do)=>EP N e k s.1 s.2) k (a,b) [(3,2),(9,3),(45,39)] [] (λs=>[]) (λs=>EP.eq_1 ..) (λk s=>EP.eq_2 ..) (Ms:=λs=>[.p [.k,.k,.v (.slice 2 (List.map Ag s.1) true)],.s ([.str s.2.rest,.bool s.2.more])]) (X:=EP N e k a b)
abbrev AcP {f g k a e b d}:=lf (λk (s:B8×Int×Bool×B8)=>GQ N f g k s.1 s.2.1 s.2.2.1 s.2.2.2) k (a,e,b,d) [(4,2),(8,2),(15,65)] [] (λs=>[]) (λs=>GQ.eq_1 ..) (λk s=>GQ.eq_2 ..) (Ms:=λs=>[.s ([.str s.1,.int .u64 s.2.1]),.t (λq=>[Hd q 274 2 s.2.2.1,.buf 5 s.2.2.2 true])]) (X:=GQ N f g k a e b d)
abbrev Acm {e k a}:=lf (λk (s:CA)=>GX N e k s) k a [(4,2),(10,2),(80,13)] [] (λs=>[]) (λs=>GX.eq_1 ..) (λk s=>GX.eq_2 ..) (Ms:=λs=>[.s ([.str s.rest,.int .u64 s.size])])
abbrev AF1 {f a g k b e d}:=lf (λk (s:AN×(List Ax)×Bk)=>Ep N f a g k s.1 s.2.1 s.2.2) k (b,e,d) [(13,35)] [] (λs=>[]) (λs=>Ep.eq_1 ..) (λk s=>Ep.eq_2 ..) (Ms:=λs=>[.s ([.int .i64 s.1.kind,.str s.1.text,.int .i64 s.1.o]),.p [.k,.k,.k,.v (.slice 4 (List.map AC s.2.1) true)],.k,.s ([.str s.2.2.s,.int .i64 s.2.2.o,.int .i64 s.2.2.n,.int .i64 s.2.2.fail,.int .i64 s.2.2.z])]) (X:=Ep N f a g k b e d)
abbrev AEt {g a q k d b e f}:=lf (λk (s:AN×(List B8)×(List Ax)×Bk)=>EY N g a q k s.1 s.2.1 s.2.2.1 s.2.2.2) k (d,b,e,f) [(7,4),(17,80)] [] (λs=>[]) (λs=>EY.eq_1 ..) (λk s=>EY.eq_2 ..) (Ms:=λs=>[.s ([.int .i64 s.1.kind,.str s.1.text,.int .i64 s.1.o]),.p [.k,.k,.v (.slice 1 (List.map AVal.str s.2.1) true),.v (.slice 4 (List.map AC s.2.2.1) true)],.k,.s ([.str s.2.2.2.s,.int .i64 s.2.2.2.o,.int .i64 s.2.2.2.n,.int .i64 s.2.2.2.fail,.int .i64 s.2.2.2.z])]) (X:=EY N g a q k d b e f)
abbrev AiO {f e b k g a d}:=lf (λk (s:Bool×(List AG)×Bm)=>KW N f e b k s.1 s.2.1 s.2.2) k (g,a,d) [(3,1),(8,2),(37,40)] [7] (λs=>[.bool s.1]) (λs=>KW.eq_1 ..) (λk s=>KW.eq_2 ..) (Ms:=λs=>[.p [.k,.k,.v (.slice 2 (List.map Ag s.2.1) true)],.k,.s ([.str s.2.2.s,.int .i64 s.2.2.o])]) (X:=KW N f e b k g a d)
abbrev AkA {e a}:=lq (λa i (s:Unit)=>Il N e a) a () [(3,1),(7,2),(42,15)] [41] (λi s=>Il.eq_1 ..) (λx a i s=>Il.eq_2 ..)
abbrev ARG {k b e a}:=lf (λk (s:(List AG)×B8×Int)=>Ei N k s.1 s.2.1 s.2.2) k (b,e,a) [(2,2),(6,3),(12,44)] [4] (λs=>[.slice 2 (List.map Ag s.1) true]) (λs=>Ei.eq_1 ..) (λk s=>Ei.eq_2 ..) (Ms:=λs=>[.s ([.str s.2.1,.int .i64 s.2.2])]) (X:=Ei N k b e a)
abbrev Ae5 {e a b}:=lq (λa i (s:B8)=>G7 N e a s) a b [(3,1),(9,3),(27,25)] [7,26] (λi s=>G7.eq_1 ..) (λx a i s=>G7.eq_2 ..) (V:=λi s=>[.str s,.int .i64 i])
attribute [instance] YP XL Air Ahg Adh AjM AcP Acm AF1 AEt AiO AkA ARG Ae5
instance Axx {a}:CF vE (P7 N a) 319 [.str a] (λr=>.tuple [.str r.1,.int .i64 r.2]):=AO (P7.eq_1 ..) func319 [(5,[],.stop)]
instance Z6 {d b}:CB vE (DU N d b) 185 (λa=>[.slice 1 (List.map AVal.str d) false,.fn (.func 186) [.ptr a 0] []]) (λa=>[.int .i64 b.e]) (λr=>.str r.1) (λa r=>[.int .i64 r.2.e]):=Fh (DU.eq_1 ..) func185
instance YU {d b}:CB vE (CO N d b) 185 (λa=>[.slice 1 (List.map AVal.str d) false,.fn (.func 406) [.ptr a 0] []]) (λa=>[.int .i64 b.e]) (λr=>.str r.1) (λa r=>[.int .i64 r.2.e]):=Fh (CO.eq_1 ..) func185
instance AsZ {a}:CF vE (Qz N a) 57 [.str a] (λr=>.tuple [Sa r.1,.int .i64 r.2]):=AO (Qz.eq_1 ..) func57 [(3,[],.stop),(10,[],.stop)]
instance AsI {a}:CF vE (Qt N a) 59 [.str a] (λr=>.tuple [R7 r.1,.int .i64 r.2]):=AO (Qt.eq_1 ..) func59 [(3,[],.stop),(7,[],.stop),(12,[],.stop)]
instance Arc {a}:CF vE (Og N a) 157 [.str a] (λr=>.tuple [EJ r.1,.int .i64 r.2]):=AO (Og.eq_1 ..) func157
theorem AB7 (N:Nat): ∀D:Nat,(∀ {a0:Ax},CF vE (OT N D a0) 161 [AC a0] (λr=>.bool r)):=by intro D;induction D with|zero=>exact⟨λh=>by rw[OT.eq_1]at h;cases h⟩|succ D ih=>exact AO (OT.eq_2 ..) func161 [(6,[],.stop),(9,[],.stop),(11,[],.stop),(13,[],.stop),(16,[],.stop)] true
instance Arw {a}:CF vE (OT N N a) 161 [AC a] .bool:=AB7 N N
theorem ABt (N:Nat): ∀D:Nat,(∀ {a0:Ax},CF vE (Om N D a0) 82 [AC a0] (λr=>.str r)):=by intro D;induction D with|zero=>exact⟨λh=>by rw[Om.eq_1]at h;cases h⟩|succ D ih=>exact AO (Om.eq_2 ..) func82 [(18,[41],.done),(21,[56],.done),(22,[61],.done)] true
instance Ary {a}:CF vE (Om N N a) 82 [AC a] .str:=ABt N N
instance AtE {a}:CF vE (QH N a) 327 [.str a] (λr=>.tuple [Fy r.1,.int .i64 r.2.1,.int .i64 r.2.2]):=AO (QH.eq_1 ..) func327 [(2,[],.stop),(7,[36],.done),(14,[],.stop),(16,[75],.take 0 (.take 2 (.take 4 (.ar 1 [(4,1),(2,1)] (.al 3 [(4,1),(0,1)] (.al 5 [(2,1),(0,1)] (.al 6 [(4,1),(2,1),(0,1)] (.take 7 (.al 8 [(4,1),(2,1),(0,1)] (.take 9 (.al 10 [] .done))))))) (.al 3 [(4,1),(0,1)] (.ar 1 [(4,1),(2,1)] (.al 5 [(2,1),(0,1)] (.al 6 [(4,1),(2,1),(0,1)] (.take 7 (.al 8 [(4,1),(2,1),(0,1)] (.take 9 (.al 10 [] .done)))))) (.al 5 [(2,1),(0,1)] (.ar 1 [(4,1),(2,1)] (.al 6 [(4,1),(2,1),(0,1)] (.take 7 (.al 8 [(4,1),(2,1),(0,1)] (.take 9 (.al 10 [] .done))))) (.al 6 [(4,1),(2,1),(0,1)] (.take 7 (.al 1 [(7,1),(4,1),(2,1)] (.al 8 [(4,1),(2,1),(0,1)] (.take 9 (.al 10 [] .done))))))))))))))] true
instance Aqq {a e}:CF vE (PD N a e) 378 [.str a,.int .i64 e] (λr=>.tuple [.str r.1,.int .i64 r.2]):=AO (PD.eq_1 ..) func378 [(6,[],.tk 0 8 (.al 8 [(7,5),(1,2)] (.tk 9 4 (.al 13 [(11,3),(7,8)] .done)))),(9,[],.tk 0 11 (.al 11 [(9,10)] .done)),(11,[],.tk 0 9 (.al 9 [(7,8)] .done)),(12,[],.tk 0 12 (.al 12 [(10,1)] .done))]
instance AuM {a e b}:CF vE (H7 N a e b) 274 [Fy a,.str e,.int .i64 b] (λr=>.tuple [.str r.1,.int .i64 r.2]):=AO (H7.eq_1 ..) func274 [(3,[],.stop),(8,[],.stop)]
instance AjV {a e}:CF vE (TW N a e) 281 [DC a,.str e] (λr=>.tuple [Kw r.1,.int .i64 r.2]):=AO (TW.eq_1 ..) func281 [(3,[],.stop)]
theorem Kt (N:Nat): ∀D:Nat,(∀ {a0:Bk}{a1:Int},CB vE (JF N D a0 a1) 342 (λi0=>[.ptr i0 0,.int .i64 a1]) (λi0=>[.str a0.s,.int .i64 a0.o,.int .i64 a0.n,.int .i64 a0.fail,.int .i64 a0.z]) (λr=>AC r.1) (λi0 r=>[.str r.2.s,.int .i64 r.2.o,.int .i64 r.2.n,.int .i64 r.2.fail,.int .i64 r.2.z]))/\(∀ {a0:Bk}{a1:Int},CB vE (H8 N D a0 a1) 343 (λi0=>[.ptr i0 0,.int .i64 a1]) (λi0=>[.str a0.s,.int .i64 a0.o,.int .i64 a0.n,.int .i64 a0.fail,.int .i64 a0.z]) (λr=>AC r.1) (λi0 r=>[.str r.2.s,.int .i64 r.2.o,.int .i64 r.2.n,.int .i64 r.2.fail,.int .i64 r.2.z]))/\(∀ {a0:Bk}{a1:AN}{a2:Int},CB vE (FH N D a0 a1 a2) 278 (λi0=>[.ptr i0 0,ED a1,.int .i64 a2]) (λi0=>[.str a0.s,.int .i64 a0.o,.int .i64 a0.n,.int .i64 a0.fail,.int .i64 a0.z]) (λr=>AC r.1) (λi0 r=>[.str r.2.s,.int .i64 r.2.o,.int .i64 r.2.n,.int .i64 r.2.fail,.int .i64 r.2.z])):=by intro D;induction D with|zero=>exact⟨⟨λh=>by rw[JF.eq_1]at h;cases h⟩,⟨λh=>by rw[H8.eq_1]at h;cases h⟩,⟨λh=>by rw[FH.eq_1]at h;cases h⟩⟩|succ D ih=>obtain⟨i0_,i1_,i2_⟩:=ih;exact⟨Fh (JF.eq_2 ..) func342 [(6,[19],.take 0 (.tk 2 3 (.ar 1 [(4,3)] (.al 5 [(0,1)] (.take 6 (.al 7 [(4,3),(0,1)] (.take 8 (.al 9 [] .done))))) (.al 5 [(0,1)] (.take 6 (.al 1 [(6,1),(4,3)] (.al 7 [(4,3),(0,1)] (.take 8 (.al 9 [] .done))))))))),(10,[],.stop)] true,Fh (H8.eq_2 ..) func343 [(13,[],.stop),(16,[65,70],.take 0 (.tk 2 2 (.take 5 (.tk 7 2 (.ar 1 [(8,2),(5,1),(3,2)] (.ar 4 [(8,2),(5,1),(2,1),(0,1)] (.al 6 [(8,2),(3,2),(0,1)] (.take 10 (.al 9 [(10,1),(7,1),(5,1),(3,2),(0,1)] (.al 11 [(8,2)] (.take 12 (.al 13 [] .done)))))) (.al 6 [(8,2),(3,2),(0,1)] (.al 4 [(8,2),(5,1),(2,1),(0,1)] (.take 10 (.al 9 [(10,1),(7,1),(5,1),(3,2),(0,1)] (.al 11 [(8,2)] (.take 12 (.al 13 [] .done)))))))) (.al 6 [(8,2),(3,2),(0,1)] (.al 1 [(8,2),(5,1),(3,2)] (.al 4 [(8,2),(5,1),(2,1),(0,1)] (.take 10 (.al 9 [(10,1),(7,1),(5,1),(3,2),(0,1)] (.al 11 [(8,2)] (.take 12 (.al 13 [] .done))))))))))))),(20,[],.stop)] true,Fh (FH.eq_2 ..) func278 [(1,[],.stop),(7,[],.stop)] true⟩
instance AVZ {a b}:CB vE (JF N N a b) 342 (λe=>[.ptr e 0,.int .i64 b]) (λe=>[.str a.s,.int .i64 a.o,.int .i64 a.n,.int .i64 a.fail,.int .i64 a.z]) (λr=>AC r.1) (λe r=>[.str r.2.s,.int .i64 r.2.o,.int .i64 r.2.n,.int .i64 r.2.fail,.int .i64 r.2.z]):=(Kt N N).1
instance ARU {a b}:CB vE (H8 N N a b) 343 (λe=>[.ptr e 0,.int .i64 b]) (λe=>[.str a.s,.int .i64 a.o,.int .i64 a.n,.int .i64 a.fail,.int .i64 a.z]) (λr=>AC r.1) (λe r=>[.str r.2.s,.int .i64 r.2.o,.int .i64 r.2.n,.int .i64 r.2.fail,.int .i64 r.2.z]):=(Kt N N).2.1
instance ASi {a b d}:CB vE (FH N N a b d) 278 (λe=>[.ptr e 0,ED b,.int .i64 d]) (λe=>[.str a.s,.int .i64 a.o,.int .i64 a.n,.int .i64 a.fail,.int .i64 a.z]) (λr=>AC r.1) (λe r=>[.str r.2.s,.int .i64 r.2.o,.int .i64 r.2.n,.int .i64 r.2.fail,.int .i64 r.2.z]):=(Kt N N).2.2
instance Axz {a}:CF vE (WV N a) 266 [.str a] (λr=>.tuple [Kw r.1,.int .i64 r.2]):=AO (WV.eq_1 ..) func266 [(9,[],.tk 0 6 (.al 6 [(5,2)] (.take 7 (.al 8 [] .done))))]
instance Ar0 {a}:CF vE (Ql N a) 50 [.str a] (λr=>.tuple [Je r.1,.int .i64 r.2]):=AO (Ql.eq_1 ..) func50 [(7,[],.stop),(9,[],.stop),(18,[],.stop),(20,[],.stop),(21,[72],.done)] true
instance Auh {a}:CF vE (R6 N a) 305 [.str a] (λr=>.tuple [Sa r.1,.int .i64 r.2]):=AO (R6.eq_1 ..) func305 [(5,[],.stop)]
instance Auu {a}:CF vE (Sk N a) 307 [.str a] (λr=>.tuple [R7 r.1,.int .i64 r.2]):=AO (Sk.eq_1 ..) func307 [(3,[],.stop),(6,[],.stop),(12,[],.stop)]
instance Avl {a}:CF vE (QE N a) 254 [.str a] (λr=>.tuple [EJ r.1,.int .i64 r.2]):=AO (QE.eq_1 ..) func254
instance Arn {a}:CF vE (Ke N a) 91 [.str a] (λr=>.tuple [Ad r.1,.int .i64 r.2]):=AO (Ke.eq_1 ..) func91 [(6,[],.stop),(10,[],.tk 0 2 (.tk 3 3 (.al 2 [(5,3),(0,1)] (.take 6 (.al 7 [(5,3),(1,2)] .done)))))]
instance Asl {a}:CF vE (Oc N a) 75 [DC a] (λr=>.tuple [.slice 1 (List.map AVal.str r.1) false,EJ r.2.1,.int .i64 r.2.2]):=AO (Oc.eq_1 ..) func75 [(9,[],.tk 0 3 (.al 3 [(2,2)] (.al 4 [(2,1)] (.al 5 [] .done))))] true
instance AsA {a}:CF vE (VF N a) 80 [AC a] .bool:=AO (VF.eq_1 ..) func80 [(2,[],.stop)]
instance Axs {a e b}:CF vE (Ti N a e b) 328 [Fy a,.str e,.int .i64 b] (λr=>.tuple [.str r.1,.int .i64 r.2]):=AO (Ti.eq_1 ..) func328 [(5,[],.stop),(7,[],.stop)]
instance AZT {a}:CF vE (QM N a) 112 [.str a] (λr=>.tuple [.slice 2 (List.map Ag r.1) false,.bool r.2]):=AO (QM.eq_1 ..) func112 [(9,[],.stop),(12,[],.stop),(14,[52],.done)] true
instance Aca {a b}:CB vE (Q8 N a b) 203 (λe=>[.ptr e 0,AC b]) (λe=>[.str a.d.i,.str a.d.u,.int .i64 a.fail]) (λr=>.str r.1) (λe r=>[.str r.2.d.i,.str r.2.d.u,.int .i64 r.2.fail]):=Fh (Q8.eq_1 ..) func203
instance Art {a}:CF vE (Qh N a) 200 [.str a] (λr=>.tuple [AC r.1,.int .i64 r.2.1,.int .i64 r.2.2]):=AO (Qh.eq_1 ..) func200 [(6,[],.stop),(9,[],.tk 1 8 (.al 0 [(8,8)] (.al 9 [(8,8)] (.al 10 [(8,4)] (.al 11 [] .done)))))] true
instance AsB {a e}:CF vE (Vp N a e) 192 [DC a,.str e] (λr=>.tuple [Kw r.1,.int .i64 r.2]):=AO (Vp.eq_1 ..) func192 [(3,[],.stop)]
instance AXg {a}:CF vE (Jv N a) 242 [.str a] (λr=>.tuple [BA r.1,.int .i64 r.2]):=AO (Jv.eq_1 ..) func242 [(4,[],.take 0 (.tk 2 2 (.al 1 [(3,2)] (.al 4 [(2,1),(0,1)] (.al 5 [] (.al 6 [] .done))))))]
instance AXe {a}:CF vE (JY N a) 243 [.str a] (λr=>.tuple [BA r.1,.int .i64 r.2]):=AO (JY.eq_1 ..) func243 [(4,[],.take 0 (.tk 2 2 (.al 1 [(3,2)] (.al 4 [(2,1),(0,1)] (.al 5 [] (.al 6 [] .done))))))]
instance Aor {a}:CF vE (Jn N a) 309 [.str a] (λr=>.tuple [Ad r.1,.int .i64 r.2]):=AO (Jn.eq_1 ..) func309 [(6,[],.stop)]
instance Aa1 {a}:CF vE (Iw N a) 183 [DC a] (λr=>.tuple [EJ r.1,.int .i64 r.2]):=AO (Iw.eq_1 ..) func183
instance Ax6 {a}:CF vE (Tp N a) 61 [.str a] (λr=>.tuple [BA r.1,.int .i64 r.2]):=AO (Tp.eq_1 ..) func61 [(4,[],.take 0 (.tk 2 4 (.al 1 [(5,4)] (.al 6 [(4,1),(2,1),(0,1)] (.al 7 [] (.al 8 [] .done))))))]
instance AsD {a}:CF vE (Ic N a) 24 [DC a] (λr=>.tuple [Ad r.1,.int .i64 r.2]):=AO (Ic.eq_1 ..) func24 [(9,[],.stop)]
instance Arm {a}:CF vE (Kh N a) 171 [Ad a] .bool:=AO (Kh.eq_1 ..) func171 [(2,[],.stop)]
instance AcB {a}:CF vE (LM N a) 148 [DC a] (λr=>.tuple [EJ r.1,.int .i64 r.2]):=AO (LM.eq_1 ..) func148
instance Aru {a}:CF vE (Sz N a) 31 [AC a] (λr=>.tuple [.str r.1,.int .i64 r.2]):=AO (Sz.eq_1 ..) func31
instance Az7 {a}:CF vE (Rv N a) 41 [Fy a] (λr=>Vv r):=AO (Rv.eq_1 ..) func41 [(8,[],.stop),(10,[],.stop)]
instance AJX {a b}:CB vE (MH N a b) 123 (λe=>[.ptr e 0,AC b]) (λe=>[.str a.d.i,.str a.d.u,.int .i64 a.fail]) (λr=>CS r.1) (λe r=>[.str r.2.d.i,.str r.2.d.u,.int .i64 r.2.fail]):=Fh (MH.eq_1 ..) func123 [] true
end Go.Proofs.YtalbfkgififmfaaGreatDoor
