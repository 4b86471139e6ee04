import Derived.Test.YtfbofngnmfcomaaGreatDoorW0
import Derived.Test.YtfbofngnmfcomaaGreatDoorW2
set_option linter.unusedVariables false
set_option linter.unusedSimpArgs false
set_option maxHeartbeats 4000000
set_option maxRecDepth 100000
set_option linter.defProp false
namespace Go.Proofs.YtfbofngnmfcomaaGreatDoor
open Go.VM
attribute [local irreducible] AA grd letL
variable{N n:Nat}{m:MS}{Q:PQ}{args:List AVal}
instance ANu {a0}:CF vE (Ex N a0) 266 [.int .i64 a0] (λr=>.bool r):=AQ (Ex.eq_1 ..) Tryz.func266 rfl Tryz.ntmps266 Tryz.results266
instance AlG {a0}:CF vE (PY N a0) 384 [Aw a0] (λr=>Da r):=AQ (PY.eq_1 ..) Tryz.func384 rfl Tryz.ntmps384 Tryz.results384
@[reducible,instance] def Aek {k2 xs}:=lq (λxs i (s:Unit)=>F7 N k2 xs) xs () [(2,3),(8,16)] [7] (λi s=>F7.eq_1 ..) (λx xs i s=>F7.eq_2 ..)
instance ApD {a0}:CF vE (Mo N a0) 362 [.str a0] (λr=>.bool r):=AQ (Mo.eq_1 ..) Tryz.func362 rfl Tryz.ntmps362 Tryz.results362 [(5,[],.stop)]
instance Amb {a0}:CF vE (M4 N a0) 385 [.int .u8 a0] (λr=>.bool r):=AQ (M4.eq_1 ..) Tryz.func385 rfl Tryz.ntmps385 Tryz.results385 [(1,[],.stop)]
instance ANp {a0}:CB vE (JB N a0) 387 (λi0=>[.ptr i0 0]) (λi0=>[GR i0 263 2 a0.addr,.buf 5 a0.buf true]) (λr=>.int .i64 r.1) (λi0 r=>[GR i0 263 2 r.2.addr,.buf 5 r.2.buf true]):=E8 (JB.eq_1 ..) Tryz.func387 rfl Tryz.ntmps387 Tryz.results387
@[reducible,instance] def Vv {a1 k2 xs s8_0}:=lr (λxs i (s:Unit)=>BN N a1 k2 xs i) xs s8_0 () [(4,2),(9,10)] [8] (λi s=>BN.eq_1 ..) (λx xs i s=>BN.eq_2 ..)
instance Xo {a0 a1}:CF vE (EL N a0 a1) 366 [.slice 7 (List.map Aa a0) false,Aa a1] (λr=>.int .i64 r):=AQ (EL.eq_1 ..) Tryz.func366 rfl Tryz.ntmps366 Tryz.results366 [(4,[],.tk 0 6 .done)]
instance ANx {a0}:CB vE (Ey N a0) 274 (λi0=>[.ptr i0 0]) (λi0=>[.str a0.s,.int .i64 a0.at_]) (λr=>.bool r.1) (λi0 r=>[.str r.2.s,.int .i64 r.2.at_]):=E8 (Ey.eq_1 ..) Tryz.func274 rfl Tryz.ntmps274 Tryz.results274 [(1,[],.tk 0 10 (.al 10 [] .done))]
instance ACN {a0}:CF vE (Jo N a0) 331 [.int .u8 a0] (λr=>.bool r):=AQ (Jo.eq_1 ..) Tryz.func331 rfl Tryz.ntmps331 Tryz.results331 [(1,[],.stop)]
instance AmU {a0}:CF vE (Tv N a0) 335 [.int .u8 a0] (λr=>.bool r):=AQ (Tv.eq_1 ..) Tryz.func335 rfl Tryz.ntmps335 Tryz.results335 [(1,[],.stop)]
instance Xu {a0}:CF vE (Nq N a0) 417 [.int .i64 a0] (λr=>.bool r):=AQ (Nq.eq_1 ..) Tryz.func417 rfl Tryz.ntmps417 Tryz.results417 [(1,[],.stop)]
def YC {a0 r} (h:Nq N a0=some r) (ha:args=[.int .i64 a0]) (hQ: ∀n',n<=n'->Gl (Q (.bool r) ⟨m,n'⟩)):ACall vE 417 args ⟨m,n⟩ Q:=ha▸Xu.go h hQ
instance ZG {a0}:CF vE (L8 N a0) 372 [Dc a0] (λr=>.bool r):=AQ (L8.eq_1 ..) Tryz.func372 rfl Tryz.ntmps372 Tryz.results372 [(6,[],.stop)]
def ZL {a0 r} (h:L8 N a0=some r) (ha:args=[Dc a0]) (hQ: ∀n',n<=n'->Gl (Q (.bool r) ⟨m,n'⟩)):ACall vE 372 args ⟨m,n⟩ Q:=ha▸ZG.go h hQ
@[reducible,instance] def ABV {a1 k2 k s0}:=lf (λk (s:B8)=>EW N a1 k2 k s) k s0 [(5,11)] [0] (λs=>[.str s]) (λs=>EW.eq_1 ..) (λk s=>EW.eq_2 ..)
instance AJx {a0 a1}:CF vE (strings_trimLeftByte N a0 a1) 408 [.str a0,.int .u8 a1] (λr=>.str r):=AQ (strings_trimLeftByte.eq_1 ..) Tryz.func408 rfl Tryz.ntmps408 Tryz.results408 [(1,[],.stop)]
@[reducible,instance] def AAM {a1 k2 k s0}:=lf (λk (s:B8)=>ED N a1 k2 k s) k s0 [(5,17)] [0] (λs=>[.str s]) (λs=>ED.eq_1 ..) (λk s=>ED.eq_2 ..)
instance AD0 {a0 a1}:CF vE (strings_trimRightByte N a0 a1) 411 [.str a0,.int .u8 a1] (λr=>.str r):=AQ (strings_trimRightByte.eq_1 ..) Tryz.func411 rfl Tryz.ntmps411 Tryz.results411 [(1,[],.stop)]
def ABx {r} (h:Qi N=some r) (ha:args=[]) (hQ: ∀i n',n<=i->i<n'->Gl (Q (.sh i) ⟨(i,[.map [[97,99,99,116],[109,97,105,108,116,111],[104,116,116,112,115],[100,105,100]] [.fn (.func 376) [] [],.fn (.func 377) [] [],.fn (.func 378) [] [],.fn (.func 379) [] []]])::m,n'⟩)):ACall vE 341 args ⟨m,n⟩ Q:=by rw[Qi]at h;subst ha;refine AhV Tryz.func341 rfl Tryz.ntmps341 Tryz.results341 (.q (.r []) (.q (.r []) .z)) λR hR=>?_;replace h:=ac trivial h;obtain⟨H,h⟩:=h;cases h;simp(decide:=true) (disch:=omega) only[vm,seval,H,Gq,Ka];refine⟨(hR _ _ [.sh n] ((n,[.map [[97,99,99,116],[109,97,105,108,116,111],[104,116,116,112,115],[100,105,100]] [.fn (.func 376) [] [],.fn (.func 377) [] [],.fn (.func 378) [] [],.fn (.func 379) [] []]])::m) _ (n+1) (by first|(simp(decide:=true) (disch:=omega) only[vm,seval,H,Gq,Ka];done)|(simp(decide:=true) (disch:=omega) only[vm,seval,H,Gq,Ka];rfl)) slr fx (hQ (n) (n+1) fx fx).go).1⟩
instance AmX:CN vE (Qi N) 341 [] (λi=>.sh i) (λr i=>[.map [[97,99,99,116],[109,97,105,108,116,111],[104,116,116,112,115],[100,105,100]] [.fn (.func 376) [] [],.fn (.func 377) [] [],.fn (.func 378) [] [],.fn (.func 379) [] []]]):=⟨λh hQ=>ABx h rfl hQ⟩
@[reducible,instance] def AXP {rec_diddoc_copied k2 xs bn2_items}:=lq (λxs i (s:(List ApiValue))=>JP N rec_diddoc_copied k2 xs s) xs bn2_items [(5,1),(18,11)] [17] (λi s=>JP.eq_1 ..) (λx xs i s=>JP.eq_2 ..) (Ms:=λi s=>[.p [.k,.k,.k,.v (.slice 4 (List.map AB s) true)]])
theorem WL (N:Nat): ∀D:Nat,(∀ {a0:ApiValue},CF vE (J8 N D a0) 191 [AB a0] (λr=>AB r)):=by intro D;induction D with|zero=>exact⟨λh=>by rw[J8.eq_1]at h;cases h⟩|succ D ih=>exact AQ (J8.eq_2 ..) Tryz.func191 rfl Tryz.ntmps191 Tryz.results191 [(1,[],.tk 0 6 (.ar 6 [(4,5)] (.ar 7 [(5,2),(2,1),(0,1)] (.al 8 [(5,6)] (.al 9 [] .done)) (.al 8 [(5,6)] (.al 7 [(5,2),(2,1),(0,1)] (.al 9 [] .done)))) (.al 8 [(5,6)] (.al 6 [(4,5)] (.al 7 [(5,2),(2,1),(0,1)] (.al 9 [] .done)))))),(5,[22],.take 0 (.take 2 (.ar 1 [(2,1)] (.al 3 [(0,1)] (.take 4 (.al 5 [(2,1),(0,1)] (.take 6 (.al 7 [] .done))))) (.al 3 [(0,1)] (.take 4 (.al 1 [(4,1),(2,1)] (.al 5 [(2,1),(0,1)] (.take 6 (.al 7 [] .done)))))))))] true
instance Aeh {a0}:CF vE (J8 N N a0) 191 [AB a0] (λr=>AB r):=WL N N
@[reducible,instance] def AfW {a1 rec_ref14_Same k6 xs s40}:=lr (λxs i (s:Unit)=>MN N a1 rec_ref14_Same k6 xs i) xs s40 () [(4,2),(41,15)] [40] (λi s=>MN.eq_1 ..) (λx xs i s=>MN.eq_2 ..)
@[reducible,instance] def Ae1 {a1 k14 xs s59}:=lr (λxs i (s:Unit)=>L6 N a1 k14 xs i) xs s59 () [(4,1),(6,1),(60,14)] [59] (λi s=>L6.eq_1 ..) (λx xs i s=>L6.eq_2 ..)
theorem Zm (N:Nat): ∀D:Nat,(∀ {a0:ApiValue}{a1:ApiValue},CF vE (Iz N D a0 a1) 8 [AB a0,AB a1] (λr=>.bool r)):=by intro D;induction D with|zero=>exact⟨λh=>by rw[Iz.eq_1]at h;cases h⟩|succ D ih=>exact AQ (Iz.eq_2 ..) Tryz.func8 rfl Tryz.ntmps8 Tryz.results8 [(1,[],.stop),(6,[],.tk 0 10 (.al 10 [(8,4),(3,4)] (.take 11 .done))),(12,[],.tk 0 11 .done)] true
instance Am9 {a0 a1}:CF vE (Iz N N a0 a1) 8 [AB a0,AB a1] (λr=>.bool r):=Zm N N
@[reducible,instance] def ASl {a1 k2 xs s13}:=lr (λxs i (s:Unit)=>EP N a1 k2 xs i) xs s13 () [(4,2),(14,12)] [13] (λi s=>EP.eq_1 ..) (λx xs i s=>EP.eq_2 ..)
instance AYk {a0 a1}:CF vE (IB N a0 a1) 9 [.slice 9 (List.map A7 a0) false,.slice 9 (List.map A7 a1) false] (λr=>.bool r):=AQ (IB.eq_1 ..) Tryz.func9 rfl Tryz.ntmps9 Tryz.results9 [(6,[],.tk 0 9 .done)]
@[reducible,instance] def AcX {a1 k2 xs s5}:=lr (λxs i (s:Unit)=>GI N a1 k2 xs i) xs s5 () [(4,1),(6,12)] [5] (λi s=>GI.eq_1 ..) (λx xs i s=>GI.eq_2 ..)
instance Amt {a0 a1}:CF vE (BQ N a0 a1) 37 [.str a0,.str a1] (λr=>.int .i64 r):=AQ (BQ.eq_1 ..) Tryz.func37 rfl Tryz.ntmps37 Tryz.results37
@[reducible,instance] def AgR {a0 k2 k s3}:=lf (λk (s:Int)=>NZ N a0 k2 k s) k s3 [(4,12)] [3] (λs=>[.int .i64 s]) (λs=>NZ.eq_1 ..) (λk s=>NZ.eq_2 ..)
instance ArD {a0}:CF vE (Rp N a0) 280 [.str a0] (λr=>.int .i64 r):=AQ (Rp.eq_1 ..) Tryz.func280 rfl Tryz.ntmps280 Tryz.results280 [(2,[],.stop)]
@[reducible,instance] def ATT {k19 xs s4}:=lq (λxs i (s:Int)=>IR N k19 xs s) xs s4 [(22,15)] [4,5] (λi s=>IR.eq_1 ..) (λx xs i s=>IR.eq_2 ..) (V:=λi s=>[.int .i64 s,.int .i64 i])
instance Aar {a0}:CF vE (P9 N a0) 193 [.str a0] (λr=>.int .i64 r):=AQ (P9.eq_1 ..) Tryz.func193 rfl Tryz.ntmps193 Tryz.results193 [(1,[],.stop),(2,[],.stop)]
instance Amz {a0}:CF vE (TQ N a0) 197 [.int .u8 a0] (λr=>.bool r):=AQ (TQ.eq_1 ..) Tryz.func197 rfl Tryz.ntmps197 Tryz.results197
instance Amd {a0}:CF vE (Ic N a0) 241 [.int .u8 a0] (λr=>.bool r):=AQ (Ic.eq_1 ..) Tryz.func241 rfl Tryz.ntmps241 Tryz.results241 [(1,[],.stop)]
instance AhW {a0}:CF vE (SS N a0) 343 [.int .i64 a0] (λr=>.tuple [.str r.1,.int .i64 r.2]):=AQ (SS.eq_1 ..) Tryz.func343 rfl Tryz.ntmps343 Tryz.results343
instance ABK {a0 a1}:CF vE (EI N a0 a1) 109 [.str a0,.str a1] (λr=>.tuple [.str r.1,.str r.2.1,.bool r.2.2]):=AQ (EI.eq_1 ..) Tryz.func109 rfl Tryz.ntmps109 Tryz.results109 [(3,[],.tk 0 9 (.al 9 [(8,6)] (.al 10 [] (.al 11 [] .done))))]
instance V3 {a0 a1}:CF vE (Dw N a0 a1) 256 [.str a0,.str a1] (λr=>.tuple [.str r.1,.bool r.2]):=AQ (Dw.eq_1 ..) Tryz.func256 rfl Tryz.ntmps256 Tryz.results256
@[reducible,instance] def Aez {k2 xs}:=lq (λxs i (s:Unit)=>MZ N k2 xs) xs () [(2,2),(7,20)] [6] (λi s=>MZ.eq_1 ..) (λx xs i s=>MZ.eq_2 ..)
instance AqA {a0}:CF vE (VK N a0) 172 [.str a0] (λr=>.bool r):=AQ (VK.eq_1 ..) Tryz.func172 rfl Tryz.ntmps172 Tryz.results172 [(4,[],.stop)]
instance Al3 {a0}:CF vE (JY N a0) 218 [.int .u8 a0] (λr=>.bool r):=AQ (JY.eq_1 ..) Tryz.func218 rfl Tryz.ntmps218 Tryz.results218 [(1,[],.stop)]
instance Aeu {a0}:CF vE (KG N a0) 219 [.int .u8 a0] (λr=>.int .u8 r):=AQ (KG.eq_1 ..) Tryz.func219 rfl Tryz.ntmps219 Tryz.results219
instance Ul {a0 a1}:CF vE (strings_IndexByte N a0 a1) 75 [.str a0,.int .u8 a1] (λr=>.int .i64 r):=AQ (strings_IndexByte.eq_1 ..) Tryz.func75 rfl Tryz.ntmps75 Tryz.results75
def Um {a0 a1 r} (h:strings_IndexByte N a0 a1=some r) (ha:args=[.str a0,.int .u8 a1]) (hQ: ∀n',n<=n'->Gl (Q (.int .i64 r) ⟨m,n'⟩)):ACall vE 75 args ⟨m,n⟩ Q:=ha▸Ul.go h hQ
instance AmK {a0}:CF vE (Qf N a0) 260 [.int .u8 a0] (λr=>.bool r):=AQ (Qf.eq_1 ..) Tryz.func260 rfl Tryz.ntmps260 Tryz.results260 [(1,[],.stop)]
instance ZW {a0 a1}:CF vE (strings_Index N a0 a1) 207 [.str a0,.str a1] (λr=>.int .i64 r):=AQ (strings_Index.eq_1 ..) Tryz.func207 rfl Tryz.ntmps207 Tryz.results207
def Y5 {a0 a1 r} (h:strings_Index N a0 a1=some r) (ha:args=[.str a0,.str a1]) (hQ: ∀n',n<=n'->Gl (Q (.int .i64 r) ⟨m,n'⟩)):ACall vE 207 args ⟨m,n⟩ Q:=ha▸ZW.go h hQ
instance Y1 {a0 a1}:CB vE (AY N a0 a1) 215 (λi0=>[.ptr i0 0,.str a1]) (λi0=>[GR i0 263 2 a0.addr,.buf 5 a0.buf true]) (λr=>.tuple [.int .i64 r.1,.nilIface]) (λi0 r=>[GR i0 263 2 r.2.2.addr,.buf 5 r.2.2.buf true]):=E8 (AY.eq_1 ..) Tryz.func215 rfl Tryz.ntmps215 Tryz.results215 [(2,[12],.done)]
instance Vu {a0}:CF vE (DZ N a0) 354 [.str a0] (λr=>.tuple [.int .i32 r.1,.int .i64 r.2]):=AQ (DZ.eq_1 ..) Tryz.func354 rfl Tryz.ntmps354 Tryz.results354 [(1,[],.stop)]
instance ATP {a0 a1}:CF vE (strings_HasSuffix N a0 a1) 174 [.str a0,.str a1] (λr=>.bool r):=AQ (strings_HasSuffix.eq_1 ..) Tryz.func174 rfl Tryz.ntmps174 Tryz.results174
@[reducible,instance] def ABW {k2 xs s5 bi0}:=lq (λxs i (s:(List B8)×DiddocDecoder)=>DV N k2 xs s.1 s.2) xs (s5,bi0) [(7,1),(11,14)] [5,10] (λi s=>DV.eq_1 ..) (λx xs i s=>DV.eq_2 ..) (V:=λi s=>[.slice 1 (List.map AVal.str s.1) true,.int .i64 i]) (Ms:=λi s=>[.s ([.str s.2.did.method,.str s.2.did.iD,.int .i64 s.2.e])]) (X:=DV N k2 xs s5 bi0)
instance AMt {a0 a1}:CB vE (EU N a0 a1) 91 (λi0=>[.ptr i0 0,.slice 4 (List.map AB a1) false]) (λi0=>[.str a0.did.method,.str a0.did.iD,.int .i64 a0.e]) (λr=>.slice 1 (List.map AVal.str r.1) false) (λi0 r=>[.str r.2.did.method,.str r.2.did.iD,.int .i64 r.2.e]):=E8 (EU.eq_1 ..) Tryz.func91 rfl Tryz.ntmps91 Tryz.results91 [(7,[19],.done)]
instance AGk {a0 a1}:CB vE (Ib N a0 a1) 202 (λi0=>[.ptr i0 0,AB a1]) (λi0=>[.str a0.did.method,.str a0.did.iD,.int .i64 a0.e]) (λr=>.slice 4 (List.map AB r.1) false) (λi0 r=>[.str r.2.did.method,.str r.2.did.iD,.int .i64 r.2.e]):=E8 (Ib.eq_1 ..) Tryz.func202 rfl Tryz.ntmps202 Tryz.results202 [] true
instance AnT {a0}:CF vE (OD N a0) 83 [GA a0] (λr=>.str r):=AQ (OD.eq_1 ..) Tryz.func83 rfl Tryz.ntmps83 Tryz.results83 [(1,[],.tk 0 2 (.tk 3 2 (.al 2 [(4,2),(0,1)] (.take 5 (.al 6 [] .done)))))]
instance Uu {a0 a1}:CF vE (strings_HasPrefix N a0 a1) 210 [.str a0,.str a1] (λr=>.bool r):=AQ (strings_HasPrefix.eq_1 ..) Tryz.func210 rfl Tryz.ntmps210 Tryz.results210
def JC {a0 a1 r} (h:strings_HasPrefix N a0 a1=some r) (ha:args=[.str a0,.str a1]) (hQ: ∀n',n<=n'->Gl (Q (.bool r) ⟨m,n'⟩)):ACall vE 210 args ⟨m,n⟩ Q:=ha▸Uu.go h hQ
instance AmR {a0}:CF vE (Ox N a0) 105 [Da a0] (λr=>.str r):=AQ (Ox.eq_1 ..) Tryz.func105 rfl Tryz.ntmps105 Tryz.results105 [(4,[],.tk 0 7 (.al 7 [(5,6)] (.take 8 (.al 9 [] .done)))),(5,[],.tk 0 6 (.al 6 [(4,5)] (.take 7 (.al 8 [] .done))))]
instance AmM {a0 a1}:CF vE (JX N a0 a1) 98 [.str a0,.str a1] (λr=>.bool r):=AQ (JX.eq_1 ..) Tryz.func98 rfl Tryz.ntmps98 Tryz.results98
@[reducible,instance] def XU {k2 xs}:=lq (λxs i (s:Unit)=>BH N k2 xs) xs () [(4,2),(9,9)] [8] (λi s=>BH.eq_1 ..) (λx xs i s=>BH.eq_2 ..)
instance Y8 {a0}:CF vE (Et N a0) 381 [.str a0,.fn (.func 257) [] []] (λr=>.bool r):=AQ (Et.eq_1 ..) Tryz.func381 rfl Tryz.ntmps381 Tryz.results381
instance AiF {a0}:CF vE (LW N a0) 402 [.int .u8 a0] (λr=>.int .u64 r):=AQ (LW.eq_1 ..) Tryz.func402 rfl Tryz.ntmps402 Tryz.results402
@[reducible,instance] def Ae2 {k8 xs}:=lq (λxs i (s:Unit)=>Gx N k8 xs) xs () [(2,2),(27,21)] [26] (λi s=>Gx.eq_1 ..) (λx xs i s=>Gx.eq_2 ..)
instance An9 {a0}:CF vE (QE N a0) 346 [.str a0] (λr=>.bool r):=AQ (QE.eq_1 ..) Tryz.func346 rfl Tryz.ntmps346 Tryz.results346 [(1,[],.stop),(6,[],.stop)]
instance Vx {a0 a1}:CF vE (DY N a0 a1) 292 [.str a0,.str a1] (λr=>.str r):=AQ (DY.eq_1 ..) Tryz.func292 rfl Tryz.ntmps292 Tryz.results292
instance Rq {a0 a1}:CF vE (strings_LastIndexByte N a0 a1) 212 [.str a0,.int .u8 a1] (λr=>.int .i64 r):=AQ (strings_LastIndexByte.eq_1 ..) Tryz.func212 rfl Tryz.ntmps212 Tryz.results212
def Rs {a0 a1 r} (h:strings_LastIndexByte N a0 a1=some r) (ha:args=[.str a0,.int .u8 a1]) (hQ: ∀n',n<=n'->Gl (Q (.int .i64 r) ⟨m,n'⟩)):ACall vE 212 args ⟨m,n⟩ Q:=ha▸Rq.go h hQ
end Go.Proofs.YtfbofngnmfcomaaGreatDoor
