import Derived.Test.YtfknikagmmfakaaGreatDoorW2
set_option linter.unusedVariables false
set_option linter.unusedSimpArgs false
set_option maxHeartbeats 4000000
set_option maxRecDepth 100000
set_option linter.defProp false
namespace Go.Proofs.YtfknikagmmfakaaGreatDoor
open Go.VM
attribute [local irreducible] AA grd letL
variable{N n:Nat}{m:MS}{Q:PQ}{args:List AVal}
instance AgA {a0}:CF vE (NF N a0) 287 [.int .u8 a0] (fun r=>.bool r):=AR (NF.eq_1 ..) Tryz.func287 rfl Tryz.ntmps287 Tryz.results287 [(1,[],.stop)]
instance Afj {a0}:CF vE (Jw N a0) 290 [.int .u8 a0] (fun r=>.bool r):=AR (Jw.eq_1 ..) Tryz.func290 rfl Tryz.ntmps290 Tryz.results290 [(1,[],.stop)]
instance AZI {a0}:CF vE (LD N a0) 428 [.int .u8 a0] (fun r=>.int .u8 r):=AR (LD.eq_1 ..) Tryz.func428 rfl Tryz.ntmps428 Tryz.results428
instance Afk {a0 a1}:CF vE (Gy N a0 a1) 276 [.str a0,.str a1] (fun r=>.bool r):=AR (Gy.eq_1 ..) Tryz.func276 rfl Tryz.ntmps276 Tryz.results276
@[reducible, instance] def S9 {k2 xs} := LQ.mk (X := Bh N k2 xs) (G := fun xs i (s : Unit) => Bh N k2 xs) (s := ()) (js := [(4, 2), (9, 9)]) (cs := [8]) (V := fun i s => [.int .i64 i]) (Ms := fun i s => []) (fun _ => rfl) (fun i s => Bh.eq_1 ..) (fun x xs i s => Bh.eq_2 ..)
instance Ul {a0}:CF vE (Eo N a0) 297 [.str a0,.fn (.func 298) [] []] (fun r=>.bool r):=AR (Eo.eq_1 ..) Tryz.func297 rfl Tryz.ntmps297 Tryz.results297
instance Aci {a0}:CF vE (L9 N a0) 385 [.int .u8 a0] (fun r=>.int .u64 r):=AR (L9.eq_1 ..) Tryz.func385 rfl Tryz.ntmps385 Tryz.results385
instance Uq {a0 a1}:CF vE (strings_Index N a0 a1) 122 [.str a0,.str a1] (fun r=>.int .i64 r):=AR (strings_Index.eq_1 ..) Tryz.func122 rfl Tryz.ntmps122 Tryz.results122
theorem VA {a0 a1 r} (h:strings_Index N a0 a1=some r) (ha:args=[.str a0,.str a1]) (hQ: ∀n',n≤n'→Gl (Q (.int .i64 r) ⟨m,n'⟩)):ACall vE 122 args ⟨m,n⟩ Q:=
 ha▸Uq.go h hQ
instance Rp {a0}:CF vE (Cj N a0) 434 [.str a0] (fun r=>.tuple [.int .i32 r.1,.int .i64 r.2]):=AR (Cj.eq_1 ..) Tryz.func434 rfl Tryz.ntmps434 Tryz.results434 [(1,[],.stop)]
@[reducible, instance] def AZl {k8 xs} := LQ.mk (X := H5 N k8 xs) (G := fun xs i (s : Unit) => H5 N k8 xs) (s := ()) (js := [(2, 2), (27, 21)]) (cs := [26]) (V := fun i s => [.int .i64 i]) (Ms := fun i s => []) (fun _ => rfl) (fun i s => H5.eq_1 ..) (fun x xs i s => H5.eq_2 ..)
instance Aih {a0}:CF vE (RQ N a0) 454 [.str a0] (fun r=>.bool r):=AR (RQ.eq_1 ..) Tryz.func454 rfl Tryz.ntmps454 Tryz.results454 [(1,[],.stop),(6,[],.stop)]
instance AgZ {a0}:CF vE (P9 N a0) 281 [Ay a0] (fun r=>.str r):=AR (P9.eq_1 ..) Tryz.func281 rfl Tryz.ntmps281 Tryz.results281 [(4,[],.take 0 (.take 1 (.take 2 (.take 3 (.take 4 (.take 5 (.take 6 (.alt 7 [5,4,3,2,1,0] (.take 8 (.alt 9 [] (.done) (.stop))) (.stop))))))))),(5,[],.take 0 (.take 1 (.take 2 (.take 3 (.take 4 (.take 5 (.alt 6 [4,3,2,1,0] (.take 7 (.alt 8 [] (.done) (.stop))) (.stop))))))))]
instance R6 {a0 a1}:CF vE (D5 N a0 a1) 286 [.str a0,.str a1] (fun r=>.tuple [.str r.1,.bool r.2]):=AR (D5.eq_1 ..) Tryz.func286 rfl Tryz.ntmps286 Tryz.results286
instance Qa {a0 a1}:CF vE (strings_HasPrefix N a0 a1) 294 [.str a0,.str a1] (fun r=>.bool r):=AR (strings_HasPrefix.eq_1 ..) Tryz.func294 rfl Tryz.ntmps294 Tryz.results294
theorem GD {a0 a1 r} (h:strings_HasPrefix N a0 a1=some r) (ha:args=[.str a0,.str a1]) (hQ: ∀n',n≤n'→Gl (Q (.bool r) ⟨m,n'⟩)):ACall vE 294 args ⟨m,n⟩ Q:=
 ha▸Qa.go h hQ
instance UX {a0 a1}:CB vE (BG N a0 a1) 203 (fun i0=>[.ptr i0 0,.str a1]) (fun i0=>[F8 i0 274 2 a0.addr,.buf 5 a0.buf true]) (fun r=>.tuple [.int .i64 r.1,.nilIface]) (fun i0 r=>[F8 i0 274 2 r.2.2.addr,.buf 5 r.2.2.buf true]):=D9 (BG.eq_1 ..) Tryz.func203 rfl Tryz.ntmps203 Tryz.results203 [(2,[12],.done)]
instance AM2 {a0 a1}:CF vE (Jm N a0 a1) 121 [Ov a0,Ap a1] (fun r=>.bool r):=AR (Jm.eq_1 ..) Tryz.func121 rfl Tryz.ntmps121 Tryz.results121 [(1,[],.take 0 (.take 2 (.take 3 (.alt 1 [3,2] (.take 4 (.take 5 (.take 6 (.take 7 (.take 8 (.take 9 (.take 10 (.take 11 (.take 12 (.take 13 (.take 14 (.take 15 (.take 16 (.take 17 (.take 18 (.take 19 (.take 20 (.take 21 (.take 22 (.take 23 (.take 24 (.take 25 (.take 26 (.take 27 (.take 28 (.take 29 (.take 30 (.alt 31 [] (.done) (.stop))))))))))))))))))))))))))))) (.stop)))))]
end Go.Proofs.YtfknikagmmfakaaGreatDoor
