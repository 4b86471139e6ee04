import Derived.Test.YtalbfkgififmfaaGreatDoorW5
import Derived.Test.YtalbfkgififmfaaGreatDoorW8
set_option linter.unusedVariables false
set_option linter.unusedSimpArgs false
set_option maxHeartbeats 4000000
set_option maxRecDepth 100000
set_option linter.defProp false
namespace Go.Proofs.YtalbfkgififmfaaGreatDoor
open Go.VM Tryz
attribute [local irreducible] AA grd letL
variable{N n:Nat}{m:MS}{Q:PQ}{args:List AVal}
abbrev AnN {a e k b}:=lf (λk (s:Int)=>Pb N a e k s) k b [(4,12)] [3] (λs=>[.int .i64 s]) (λs=>Pb.eq_1 ..) (λk s=>Pb.eq_2 ..)
abbrev AXh {e a b}:=lq (λa i (s:Int)=>Jd N e a s) a b [(22,15)] [4,5] (λi s=>Jd.eq_1 ..) (λx a i s=>Jd.eq_2 ..) (V:=λi s=>[.int .i64 s,.int .i64 i])
abbrev AfW {a d b e}:=lq (λb i (s:(List Ax))=>MU N a d b s) b e [(5,1),(22,11)] [21] (λi s=>MU.eq_1 ..) (λx b i s=>MU.eq_2 ..) (Ms:=λi s=>[.p [.k,.k,.k,.v (.slice 4 (List.map AC s) true)]])
abbrev Ae0 {g a d f b e}:=lq (λf i (s:(List B8)×(List Ax))=>KQ N g a d f s.1 s.2) f (b,e) [(7,3),(39,23)] [38] (λi s=>KQ.eq_1 ..) (λx f i s=>KQ.eq_2 ..) (Ms:=λi s=>[.p [.k,.k,.v (.slice 1 (List.map AVal.str s.1) true),.v (.slice 4 (List.map AC s.2) true)]]) (X:=KQ N g a d f b e)
abbrev Ahf {b e a}:=lq (λe i (s:(List Ax))=>Mk N b e s) e a [(5,1),(10,11)] [9] (λi s=>Mk.eq_1 ..) (λx e i s=>Mk.eq_2 ..) (Ms:=λi s=>[.p [.k,.k,.k,.v (.slice 4 (List.map AC s) true)]])
abbrev Ac6 {a e k b d}:=lf (λk (s:B8×B8)=>GK N a e k s.1 s.2) k (b,d) [(6,21)] [0,5] (λs=>[.str s.1,.str s.2]) (λs=>GK.eq_1 ..) (λk s=>GK.eq_2 ..) (X:=GK N a e k b d)
abbrev Ajs {a e k b}:=lf (λk (s:Int)=>Nj N a e k s) k b [(5,12)] [1] (λs=>[.int .i64 s]) (λs=>Nj.eq_1 ..) (λk s=>Nj.eq_2 ..)
abbrev Ajz {a k e}:=lf (λk (s:B8)=>Ij N a k s) k e [(3,10)] [0] (λs=>[.str s]) (λs=>Ij.eq_1 ..) (λk s=>Ij.eq_2 ..)
abbrev Aja {a k e}:=lf (λk (s:B8)=>IZ N a k s) k e [(13,16)] [0] (λs=>[.str s]) (λs=>IZ.eq_1 ..) (λk s=>IZ.eq_2 ..)
abbrev ARO {e a}:=lq (λa i (s:Unit)=>Dp N e a) a () [(2,1),(4,11)] [3] (λi s=>Dp.eq_1 ..) (λx a i s=>Dp.eq_2 ..)
abbrev Ajv {a k e}:=lf (λk (s:B8)=>Im N a k s) k e [(3,10)] [0] (λs=>[.str s]) (λs=>Im.eq_1 ..) (λk s=>Im.eq_2 ..)
abbrev AjR {a k e}:=lf (λk (s:B8)=>IW N a k s) k e [(13,16)] [0] (λs=>[.str s]) (λs=>IW.eq_1 ..) (λk s=>IW.eq_2 ..)
abbrev AY4 {a k e}:=lf (λk (s:Int)=>Gr N a k s) k e [(4,19)] [1] (λs=>[.int .i64 s]) (λs=>Gr.eq_1 ..) (λk s=>Gr.eq_2 ..)
abbrev AES {a e b f}:=lq (λe i (s:(List B8)×By)=>D6 N a e s.1 s.2) e (b,f) [(13,1),(50,14)] [11,49] (λi s=>D6.eq_1 ..) (λx e i s=>D6.eq_2 ..) (V:=λi s=>[.slice 1 (List.map AVal.str s.1) true,.int .i64 i]) (Ms:=λi s=>[.k,.k,.s ([.str s.2.d.i,.str s.2.d.u,.int .i64 s.2.fail])]) (X:=D6 N a e b f)
abbrev AX1 {a k e b}:=lf (λk (s:B8×Int)=>I1 N a k s.1 s.2) k (e,b) [(4,1),(6,1),(20,14)] [0,5] (λs=>[.str s.1,.int .i64 s.2]) (λs=>I1.eq_1 ..) (λk s=>I1.eq_2 ..) (X:=I1 N a k e b)
abbrev Adr {e b a d}:=lq (λa i (s:(List B8))=>HZ N e b a s) a d [(7,1),(12,13)] [5,11] (λi s=>HZ.eq_1 ..) (λx a i s=>HZ.eq_2 ..) (V:=λi s=>[.slice 1 (List.map AVal.str s) true,.int .i64 i])
abbrev Ace {e a b}:=lq (λa i (s:Int)=>GN N e a s) a b [(7,1),(42,14)] [5,41] (λi s=>GN.eq_1 ..) (λx a i s=>GN.eq_2 ..) (V:=λi s=>[.int .i64 s,.int .i64 i])
abbrev AdJ {d b e a}:=lq (λe i (s:BT)=>GM N d b e s) e a [(10,1),(66,8)] [65] (λi s=>GM.eq_1 ..) (λx e i s=>GM.eq_2 ..) (Ms:=λi s=>[.t (λq=>[Hd q 274 2 s.addr,.buf 5 s.A true])])
abbrev Ajb {e a}:=lq (λa i (s:Unit)=>Nk N e a) a () [(2,1),(4,1),(9,13)] [8] (λi s=>Nk.eq_1 ..) (λx a i s=>Nk.eq_2 ..)
attribute [instance] AnN AXh AfW Ae0 Ahf Ac6 Ajs Ajz Aja ARO Ajv AjR AY4 AES AX1 Adr Ace AdJ Ajb
instance AxV {a}:CF vE (Te N a) 355 [.str a] (.int .i64):=AO (Te.eq_1 ..) func355 [(2,[],.stop)]
instance Aho {a}:CF vE (Sg N a) 302 [.str a] (.int .i64):=AO (Sg.eq_1 ..) func302 [(1,[],.stop),(2,[],.stop)]
instance Aoj {a}:CF vE (Ud N a) 400 [.int .i64 a] (λr=>.tuple [.str r.1,.int .i64 r.2]):=AO (Ud.eq_1 ..) func400
theorem ABr (N:Nat): ∀D:Nat,(∀ {a0:Ax},CF vE (Mi N D a0) 83 [AC a0] (λr=>AC r)):=by intro D;induction D with|zero=>exact⟨λh=>by rw[Mi.eq_1]at h;cases h⟩|succ D ih=>exact AO (Mi.eq_2 ..) func83 [(6,[26],.take 0 (.take 2 (.ar 1 [(2,1)] (.al 3 [(0,1)] (.take 4 (.al 5 [(2,1),(0,1)] (.take 6 (.al 7 [] .done))))) (.al 3 [(0,1)] (.take 4 (.al 1 [(4,1),(2,1)] (.al 5 [(2,1),(0,1)] (.take 6 (.al 7 [] .done))))))))),(13,[49,54],.take 0 (.tk 2 2 (.take 5 (.take 7 (.ar 1 [(7,1),(5,1),(3,2)] (.ar 4 [(7,1),(5,1),(2,1),(0,1)] (.ar 6 [(7,1),(3,2),(0,1)] (.take 11 (.al 8 [(11,1),(5,1),(3,2),(0,1)] (.take 9 (.al 10 [(11,1),(7,1),(5,1),(3,2),(0,1)] (.al 12 [(9,1),(7,1)] (.take 13 (.al 14 [] .done))))))) (.al 8 [(5,1),(3,2),(0,1)] (.take 9 (.al 6 [(9,1),(7,1),(3,2),(0,1)] (.take 11 (.al 10 [(11,1),(7,1),(5,1),(3,2),(0,1)] (.al 12 [(9,1),(7,1)] (.take 13 (.al 14 [] .done))))))))) (.al 6 [(7,1),(3,2),(0,1)] (.al 4 [(7,1),(5,1),(2,1),(0,1)] (.take 11 (.al 8 [(11,1),(5,1),(3,2),(0,1)] (.take 9 (.al 10 [(11,1),(7,1),(5,1),(3,2),(0,1)] (.al 12 [(9,1),(7,1)] (.take 13 (.al 14 [] .done)))))))))) (.al 6 [(7,1),(3,2),(0,1)] (.al 1 [(7,1),(5,1),(3,2)] (.al 4 [(7,1),(5,1),(2,1),(0,1)] (.take 11 (.al 8 [(11,1),(5,1),(3,2),(0,1)] (.take 9 (.al 10 [(11,1),(7,1),(5,1),(3,2),(0,1)] (.al 12 [(9,1),(7,1)] (.take 13 (.al 14 [] .done)))))))))))))))] true
instance Arl {a}:CF vE (Mi N N a) 83 [AC a] (λr=>AC r):=ABr N N
instance AsF {a}:CF vE (Ot N a) 86 [.slice 1 (List.map AVal.str a) false] (λr=>AC r):=AO (Ot.eq_1 ..) func86 [(5,[14],.take 0 (.take 2 (.ar 1 [(2,1)] (.al 3 [(0,1)] (.take 4 (.al 5 [(2,1),(0,1)] (.take 6 (.al 7 [] .done))))) (.al 3 [(0,1)] (.take 4 (.al 1 [(4,1),(2,1)] (.al 5 [(2,1),(0,1)] (.take 6 (.al 7 [] .done)))))))))]
instance Auf {a e b}:CF vE (Gq N a e b) 153 [AC a,.str e,AC b] (λr=>AC r):=AO (Gq.eq_1 ..) func153
instance AqM {a e}:CF vE (Gx N a e) 73 [.str a,.int .i64 e] .str:=AO (Gx.eq_1 ..) func73 [(4,[],.tk 0 2 (.tk 5 3 (.tk 10 3 (.al 2 [(12,3),(7,3),(0,1)] (.tk 3 2 (.tk 8 2 (.al 13 [(12,3)] (.al 14 [] .done))))))))]
instance AsH {a e}:CF vE (El N a e) 35 [Ad a,.str e] (λr=>BR r):=AO (El.eq_1 ..) func35 [(1,[],.tk 0 5 (.take 6 (.al 5 [(6,1),(3,4)] (.al 7 [(4,1),(2,1),(0,1)] (.al 8 [] .done)))))]
instance As5 {a e}:CF vE (OG N a e) 169 [.str a,.int .i64 e] (.int .i64):=AO (OG.eq_1 ..) func169 [(1,[],.stop)]
instance AjT {a}:CF vE (Lb N a) 283 [.int .u8 a] .bool:=AO (Lb.eq_1 ..) func283 [(1,[],.stop)]
instance Z7 {a e}:CF vE (DV N a e) 127 [.slice 4 (List.map BA a) false,BA e] .bool:=AO (DV.eq_1 ..) func127
instance Amd {a}:CF vE (Pn N a) 261 [Kc a] (λr=>.agg [.str r.next.d,.int .i64 r.next.g,.str r.next.c,.str r.next.h,.str r.next.a,.bool r.next.b,.bool r.next.f,.int .i64 r.x,.bool r.done,.int .i64 r.err,.str r.e.q.d,.int .i64 r.e.q.g,.str r.e.q.c,.str r.e.q.h,.str r.e.q.a,.bool r.e.q.b,.bool r.e.q.f,.int .i64 r.e.head.y,.int .i64 r.e.head.l,.slice 2 (List.map Ag r.e.head.m) true,.str r.e.body,.slice 9 (List.map BF r.e.r) true,.slice 7 (List.map Ad r.seen) true]):=AO (Pn.eq_1 ..) func261 [(4,[21],.done)]
instance AVh {a e}:CF vE (JB N a e) 372 [U0 a,BR e] .bool:=AO (JB.eq_1 ..) func372 [(1,[],.take 0 (.tk 2 2 (.al 1 [(3,2)] (.tk 4 27 (.al 31 [] .done)))))]
instance Au0 {a}:CF vE (OB N a) 377 [.str a] .str:=AO (OB.eq_1 ..) func377 [(1,[],.stop),(3,[],.stop)]
instance YZ {a e}:CF vE (Cv N a e) 330 [.slice 7 (List.map Ad a) false,Ad e] .bool:=AO (Cv.eq_1 ..) func330
instance AtO {a e b}:CF vE (Si N a e b) 332 [BR a,Ad e,.int .u64 b] .bool:=AO (Si.eq_1 ..) func332 [(1,[],.tk 0 16 (.al 16 [(14,2),(11,12)] (.tk 17 19 (.al 36 [] .done))))]
instance AYA {a}:CF vE (Gu N a) 336 [.str a] .bool:=AO (Gu.eq_1 ..) func336
instance AvJ {a}:CF vE (Pq N a) 337 [.str a] .str:=AO (Pq.eq_1 ..) func337 [(1,[],.stop),(3,[],.stop)]
instance Aj2 {a e}:CF vE (QQ N a e) 384 [.str a,.int .i64 e] (.int .i64):=AO (QQ.eq_1 ..) func384 [(2,[],.stop)]
instance AXq {a b f}:CB vE (L8 N a b f) 118 (λe=>[.ptr e 0,AC b,.str f]) (λe=>[.str a.d.i,.str a.d.u,.int .i64 a.fail]) (λr=>.str r.1) (λe r=>[.str r.2.d.i,.str r.2.d.u,.int .i64 r.2.fail]):=Fh (L8.eq_1 ..) func118
instance AMM {a b f g}:CB vE (FM N a b f g) 120 (λe=>[.ptr e 0,AC b,.str f,.bool g]) (λe=>[.str a.d.i,.str a.d.u,.int .i64 a.fail]) (λr=>.slice 1 (List.map AVal.str r.1) false) (λe r=>[.str r.2.d.i,.str r.2.d.u,.int .i64 r.2.fail]):=Fh (FM.eq_1 ..) func120 [(4,[],.stop),(18,[58],.done)] true
instance ANT {a b f}:CB vE (Jq N a b f) 121 (λe=>[.ptr e 0,AC b,.str f]) (λe=>[.str a.d.i,.str a.d.u,.int .i64 a.fail]) (λr=>.slice 4 (List.map AC r.1) false) (λe r=>[.str r.2.d.i,.str r.2.d.u,.int .i64 r.2.fail]):=Fh (Jq.eq_1 ..) func121 [] true
instance Alk {a}:CF vE (Uq N a) 282 [Kw a] .str:=AO (Uq.eq_1 ..) func282 [(1,[],.tk 0 2 (.tk 3 2 (.al 2 [(4,2),(0,1)] (.take 5 (.al 6 [] .done)))))]
instance Aj6 {a}:CF vE (Nn N a) 197 [.int .i64 a] (.int .i64):=AO (Nn.eq_1 ..) func197
instance Ar1 {a}:CF vE (WF N a) 386 [.int .u8 a] .bool:=AO (WF.eq_1 ..) func386
instance AwU {a e}:CF vE (SE N a e) 12 [Nv a,Nv e] .bool:=AO (SE.eq_1 ..) func12 [(1,[],.stop)]
instance AXo {a e}:CF vE (strings_CutPrefix N a e) 98 [.str a,.str e] (λr=>.tuple [.str r.1,.bool r.2]):=AO (strings_CutPrefix.eq_1 ..) func98
instance Arv {a e}:CF vE (strings_Cut N a e) 99 [.str a,.str e] (λr=>.tuple [.str r.1,.str r.2.1,.bool r.2.2]):=AO (strings_Cut.eq_1 ..) func99
instance Acc {a e}:CF vE (JV N a e) 248 [.str a,.int .i64 e] (λr=>.tuple [.int .u8 r.1,.bool r.2]):=AO (JV.eq_1 ..) func248 [(1,[],.stop),(3,[],.tk 0 4 (.tk 6 4 (.al 4 [(9,4),(2,3)] (.take 5 (.al 10 [(5,1),(8,3),(3,4)] (.take 11 (.al 12 [] (.al 13 [] .done))))))))]
instance Ar2 {a e}:CF vE (TD N a e) 289 [.int .u8 a,.str e] .bool:=AO (TD.eq_1 ..) func289
instance AaA {a e}:CF vE (strings_Contains N a e) 180 [.str a,.str e] .bool:=AO (strings_Contains.eq_1 ..) func180
instance AB6 {a e}:CF vE (strings_Count N a e) 317 [.str a,.str e] (.int .i64):=AO (strings_Count.eq_1 ..) func317
def AB1 {a e r} (h:strings_Count N a e=some r) (ha:args=[.str a,.str e]) (hQ: ∀n',n<=n'->Gl (Q (.int .i64 r) ⟨m,n'⟩)):AE vE 317 args ⟨m,n⟩ Q:=ha▸AB6.go h hQ
instance AGv {a d f}:CB vE (Er N a d f) 105 (λb=>[.ptr b 0,AC d,.str f]) (λb=>[.str a.did.i,.str a.did.u,.int .i64 a.e]) (λr=>.str r.1) (λb r=>[.str r.2.did.i,.str r.2.did.u,.int .i64 r.2.e]):=Fh (Er.eq_1 ..) func105
instance ARQ {a d f}:CB vE (IA N a d f) 107 (λb=>[.ptr b 0,AC d,.str f]) (λb=>[.str a.did.i,.str a.did.u,.int .i64 a.e]) (λr=>.slice 4 (List.map AC r.1) false) (λb r=>[.str r.2.did.i,.str r.2.did.u,.int .i64 r.2.e]):=Fh (IA.eq_1 ..) func107 [] true
instance ACj {a d}:CB vE (E5 N a d) 109 (λb=>[.ptr b 0,AC d]) (λb=>[.str a.did.i,.str a.did.u,.int .i64 a.e]) (λr=>.slice 1 (List.map AVal.str r.1) false) (λb r=>[.str r.2.did.i,.str r.2.did.u,.int .i64 r.2.e]):=Fh (E5.eq_1 ..) func109
instance Asi {a e}:CF vE (Ov N a e) 128 [Fy a,.str e] (λr=>.slice 1 (List.map AVal.str r) false):=AO (Ov.eq_1 ..) func128 [(6,[19],.done)]
instance AmN {a e}:CF vE (strings_Join N a e) 129 [.slice 1 (List.map AVal.str a) false,.str e] .str:=AO (strings_Join.eq_1 ..) func129 [(18,[8],.done)]
instance AHZ {a}:CB vE (EK N a) 133 (λe=>[.ptr e 0]) (λe=>[.str a.s,.int .i64 a.o]) (λr=>.tuple []) (λe r=>[.str r.s,.int .i64 r.o]):=Fh (EK.eq_1 ..) func133
instance Asz {a}:CF vE (YM N a) 216 [Je a] .bool:=AO (YM.eq_1 ..) func216 [(4,[],.stop)]
instance AXi {a}:CB vE (Pi N a) 348 (λe=>[.ptr e 0]) (λe=>[.str a.s,.int .i64 a.o]) (λr=>.tuple [.str r.1,.int .i64 r.2.1]) (λe r=>[.str r.2.2.s,.int .i64 r.2.2.o]):=Fh (Pi.eq_1 ..) func348 [(2,[],.tk 0 8 (.al 8 [(6,3),(2,3)] (.take 9 (.ar 10 [(7,8)] (.ar 11 [(7,8)] (.ar 12 [(7,8)] (.al 13 [] (.al 14 [] (.al 15 [] .done))) (.al 13 [] (.ar 12 [(7,8)] (.al 14 [] (.al 15 [] .done)) (.al 14 [] (.al 12 [(7,8)] (.al 15 [] .done)))))) (.ar 12 [(7,8)] (.ar 11 [(7,8)] (.al 13 [] (.al 14 [] (.al 15 [] .done))) (.al 13 [] (.al 11 [(7,8)] (.al 14 [] (.al 15 [] .done))))) (.al 13 [] (.ar 11 [(7,8)] (.ar 12 [(7,8)] (.al 14 [] (.al 15 [] .done)) (.al 14 [] (.al 12 [(7,8)] (.al 15 [] .done)))) (.al 12 [(7,8)] (.al 11 [(7,8)] (.al 14 [] (.al 15 [] .done)))))))) (.ar 11 [(7,8)] (.ar 10 [(7,8)] (.ar 12 [(7,8)] (.al 13 [] (.al 14 [] (.al 15 [] .done))) (.al 13 [] (.ar 12 [(7,8)] (.al 14 [] (.al 15 [] .done)) (.al 14 [] (.al 12 [(7,8)] (.al 15 [] .done)))))) (.al 12 [(7,8)] (.al 10 [(7,8)] (.al 13 [] (.al 14 [] (.al 15 [] .done)))))) (.al 12 [(7,8)] (.ar 10 [(7,8)] (.ar 11 [(7,8)] (.al 13 [] (.al 14 [] (.al 15 [] .done))) (.al 13 [] (.al 11 [(7,8)] (.al 14 [] (.al 15 [] .done))))) (.al 11 [(7,8)] (.al 10 [(7,8)] (.al 13 [] (.al 14 [] (.al 15 [] .done))))))))))))]
end Go.Proofs.YtalbfkgififmfaaGreatDoor
