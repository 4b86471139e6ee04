import Derived.Test.YtcahkpfjpeomoaaGreatDoorW0
import Derived.Test.YtcahkpfjpeomoaaGreatDoorW2
set_option linter.unusedVariables false
set_option linter.unusedSimpArgs false
set_option maxHeartbeats 4000000
set_option maxRecDepth 100000
set_option linter.defProp false
namespace Go.Proofs.YtcahkpfjpeomoaaGreatDoor
open Go.VM
attribute [local irreducible] AA grd letL
variable{N n:Nat}{m:MS}{Q:PQ}{args:List AVal}
instance ATs {a0}:CF vE (NI N a0) 227 [.int .i32 a0] (fun r=>.bool r):=AP (NI.eq_1 ..) Tryz.func227 rfl Tryz.ntmps227 Tryz.results227 [(1,[],.stop)]
instance VG {a0 a1}:CF vE (GX N a0 a1) 130 [.str a0,.str a1] (fun r=>.tuple [.str r.1,.str r.2.1,.bool r.2.2]):=AP (GX.eq_1 ..) Tryz.func130 rfl Tryz.ntmps130 Tryz.results130 [(3,[],.take 0 (.take 1 (.take 2 (.take 3 (.take 4 (.take 5 (.take 6 (.take 7 (.take 8 (.alt 9 [8,7,6,5,4,3] (.alt 10 [] (.alt 11 [] (.done) (.stop)) (.stop)) (.stop)))))))))))]
instance AZ4 {a0}:CF vE (M7 N a0) 111 [.int .u8 a0] (fun r=>.bool r):=AP (M7.eq_1 ..) Tryz.func111 rfl Tryz.ntmps111 Tryz.results111 [(1,[],.stop)]
instance QP {a0 a1}:CF vE (strings_IndexByte N a0 a1) 65 [.str a0,.int .u8 a1] (fun r=>.int .i64 r):=AP (strings_IndexByte.eq_1 ..) Tryz.func65 rfl Tryz.ntmps65 Tryz.results65
theorem QJ {a0 a1 r} (h:strings_IndexByte N a0 a1=some r) (ha:args=[.str a0,.int .u8 a1]) (hQ: ∀n',n≤n'→Gl (Q (.int .i64 r) ⟨m,n'⟩)):ACall vE 65 args ⟨m,n⟩ Q:=
 ha▸QP.go h hQ
instance AZv {a0}:CF vE (Jw N a0) 265 [.int .u8 a0] (fun r=>.bool r):=AP (Jw.eq_1 ..) Tryz.func265 rfl Tryz.ntmps265 Tryz.results265 [(1,[],.stop)]
instance ATg {a0}:CF vE (Kn N a0) 266 [.int .u8 a0] (fun r=>.int .u8 r):=AP (Kn.eq_1 ..) Tryz.func266 rfl Tryz.ntmps266 Tryz.results266
instance Ug {a0 a1}:CF vE (strings_Index N a0 a1) 217 [.str a0,.str a1] (fun r=>.int .i64 r):=AP (strings_Index.eq_1 ..) Tryz.func217 rfl Tryz.ntmps217 Tryz.results217
theorem Ue {a0 a1 r} (h:strings_Index N a0 a1=some r) (ha:args=[.str a0,.str a1]) (hQ: ∀n',n≤n'→Gl (Q (.int .i64 r) ⟨m,n'⟩)):ACall vE 217 args ⟨m,n⟩ Q:=
 ha▸Ug.go h hQ
instance Rb {a0}:CF vE (Be N a0) 318 [.str a0] (fun r=>.tuple [.int .i32 r.1,.int .i64 r.2]):=AP (Be.eq_1 ..) Tryz.func318 rfl Tryz.ntmps318 Tryz.results318 [(1,[],.stop)]
instance AYy {a0}:CF vE (Lr N a0) 289 [.int .u8 a0] (fun r=>.int .u64 r):=AP (Lr.eq_1 ..) Tryz.func289 rfl Tryz.ntmps289 Tryz.results289
@[reducible, instance] def Sw {k2 xs} := LQ.mk (X := Bp N k2 xs) (G := fun xs i (s : Unit) => Bp N k2 xs) (s := ()) (js := [(4, 2), (9, 9)]) (cs := [8]) (V := fun i s => [.int .i64 i]) (Ms := fun i s => []) (fun _ => rfl) (fun i s => Bp.eq_1 ..) (fun x xs i s => Bp.eq_2 ..)
instance Uz {a0}:CF vE (FJ N a0) 320 [.str a0,.fn (.func 174) [] []] (fun r=>.bool r):=AP (FJ.eq_1 ..) Tryz.func320 rfl Tryz.ntmps320 Tryz.results320
@[reducible, instance] def ATv {k8 xs} := LQ.mk (X := IB N k8 xs) (G := fun xs i (s : Unit) => IB N k8 xs) (s := ()) (js := [(2, 2), (27, 21)]) (cs := [26]) (V := fun i s => [.int .i64 i]) (Ms := fun i s => []) (fun _ => rfl) (fun i s => IB.eq_1 ..) (fun x xs i s => IB.eq_2 ..)
instance Acf {a0}:CF vE (RI N a0) 299 [.str a0] (fun r=>.bool r):=AP (RI.eq_1 ..) Tryz.func299 rfl Tryz.ntmps299 Tryz.results299 [(1,[],.stop),(6,[],.stop)]
instance AZw {a0 a1}:CF vE (GA N a0 a1) 106 [.str a0,.str a1] (fun r=>.bool r):=AP (GA.eq_1 ..) Tryz.func106 rfl Tryz.ntmps106 Tryz.results106
instance AZN {a0}:CF vE (Ps N a0) 67 [Cw a0] (fun r=>.str r):=AP (Ps.eq_1 ..) Tryz.func67 rfl Tryz.ntmps67 Tryz.results67 [(4,[],.take 0 (.take 1 (.take 2 (.take 3 (.take 4 (.take 5 (.take 6 (.alt 7 [5,4,3,2,1,0] (.take 8 (.alt 9 [] (.done) (.stop))) (.stop))))))))),(5,[],.take 0 (.take 1 (.take 2 (.take 3 (.take 4 (.take 5 (.alt 6 [4,3,2,1,0] (.take 7 (.alt 8 [] (.done) (.stop))) (.stop))))))))]
instance Sa {a0 a1}:CF vE (EM N a0 a1) 232 [.str a0,.str a1] (fun r=>.tuple [.str r.1,.bool r.2]):=AP (EM.eq_1 ..) Tryz.func232 rfl Tryz.ntmps232 Tryz.results232
instance QL {a0 a1}:CF vE (strings_HasPrefix N a0 a1) 221 [.str a0,.str a1] (fun r=>.bool r):=AP (strings_HasPrefix.eq_1 ..) Tryz.func221 rfl Tryz.ntmps221 Tryz.results221
theorem Gh {a0 a1 r} (h:strings_HasPrefix N a0 a1=some r) (ha:args=[.str a0,.str a1]) (hQ: ∀n',n≤n'→Gl (Q (.bool r) ⟨m,n'⟩)):ACall vE 221 args ⟨m,n⟩ Q:=
 ha▸QL.go h hQ
instance Ra {a0 a1}:CF vE (EG N a0 a1) 268 [.str a0,.str a1] (fun r=>.str r):=AP (EG.eq_1 ..) Tryz.func268 rfl Tryz.ntmps268 Tryz.results268
instance Nc {a0 a1}:CF vE (strings_LastIndexByte N a0 a1) 223 [.str a0,.int .u8 a1] (fun r=>.int .i64 r):=AP (strings_LastIndexByte.eq_1 ..) Tryz.func223 rfl Tryz.ntmps223 Tryz.results223
theorem NT {a0 a1 r} (h:strings_LastIndexByte N a0 a1=some r) (ha:args=[.str a0,.int .u8 a1]) (hQ: ∀n',n≤n'→Gl (Q (.int .i64 r) ⟨m,n'⟩)):ACall vE 223 args ⟨m,n⟩ Q:=
 ha▸Nc.go h hQ
@[reducible, instance] def AT0 {k2 xs} := LQ.mk (X := IK N k2 xs) (G := fun xs i (s : Unit) => IK N k2 xs) (s := ()) (js := [(2, 2), (7, 20)]) (cs := [6]) (V := fun i s => [.int .i64 i]) (Ms := fun i s => []) (fun _ => rfl) (fun i s => IK.eq_1 ..) (fun x xs i s => IK.eq_2 ..)
instance Abx {a0}:CF vE (Qk N a0) 240 [.str a0] (fun r=>.bool r):=AP (Qk.eq_1 ..) Tryz.func240 rfl Tryz.ntmps240 Tryz.results240 [(4,[],.stop)]
instance Ua {a0 a1}:CB vE (AL N a0 a1) 155 (fun i0=>[.ptr i0 0,.str a1]) (fun i0=>[EE i0 222 2 a0.addr,.buf 5 a0.buf true]) (fun r=>.tuple [.int .i64 r.1,.nilIface]) (fun i0 r=>[EE i0 222 2 r.2.2.addr,.buf 5 r.2.2.buf true]):=ED (AL.eq_1 ..) Tryz.func155 rfl Tryz.ntmps155 Tryz.results155 [(2,[12],.done)]
instance AKR {a0 a1}:CF vE (strings_HasSuffix N a0 a1) 242 [.str a0,.str a1] (fun r=>.bool r):=AP (strings_HasSuffix.eq_1 ..) Tryz.func242 rfl Tryz.ntmps242 Tryz.results242
instance AT6 {a0}:CF vE (JN N a0) 49 [.int .i64 a0] (fun r=>.str r):=AP (JN.eq_1 ..) Tryz.func49 rfl Tryz.ntmps49 Tryz.results49
@[reducible, instance] def ARG {a1 k2 xs s5} := LR.mk (X := HV N a1 k2 xs s5) (G := fun xs i (s : Unit) => HV N a1 k2 xs i) (i := s5) (s := ()) (js := [(4, 1), (6, 12)]) (cs := [5]) (V := fun i s => [.int .i64 i]) (Ms := fun i s => []) rfl (fun i s => HV.eq_1 ..) (fun x xs i s => HV.eq_2 ..)
instance AZ2 {a0 a1}:CF vE (DX N a0 a1) 34 [.str a0,.str a1] (fun r=>.int .i64 r):=AP (DX.eq_1 ..) Tryz.func34 rfl Tryz.ntmps34 Tryz.results34
instance AZ1 {a0 a1}:CF vE (K5 N a0 a1) 70 [.str a0,.str a1] (fun r=>.bool r):=AP (K5.eq_1 ..) Tryz.func70 rfl Tryz.ntmps70 Tryz.results70
instance AIr {a0}:CF vE (Dk N a0) 46 [.int .u8 a0] (fun r=>.bool r):=AP (Dk.eq_1 ..) Tryz.func46 rfl Tryz.ntmps46 Tryz.results46 [(1,[],.stop)]
instance AZu {a0}:CF vE (Jt N a0) 176 [.int .u8 a0] (fun r=>.bool r):=AP (Jt.eq_1 ..) Tryz.func176 rfl Tryz.ntmps176 Tryz.results176 [(1,[],.stop)]
@[reducible, instance] def ASr {k2 xs} := LQ.mk (X := Hl N k2 xs) (G := fun xs i (s : Unit) => Hl N k2 xs) (s := ()) (js := [(2, 1), (4, 24)]) (cs := [3]) (V := fun i s => [.int .i64 i]) (Ms := fun i s => []) (fun _ => rfl) (fun i s => Hl.eq_1 ..) (fun x xs i s => Hl.eq_2 ..)
instance AaA {a0}:CF vE (Pi N a0) 178 [.str a0] (fun r=>.bool r):=AP (Pi.eq_1 ..) Tryz.func178 rfl Tryz.ntmps178 Tryz.results178 [(4,[],.stop),(6,[],.stop)]
@[reducible, instance] def AOM {k2 xs} := LQ.mk (X := Fb N k2 xs) (G := fun xs i (s : Unit) => Fb N k2 xs) (s := ()) (js := [(2, 1), (4, 11)]) (cs := [3]) (V := fun i s => [.int .i64 i]) (Ms := fun i s => []) (fun _ => rfl) (fun i s => Fb.eq_1 ..) (fun x xs i s => Fb.eq_2 ..)
instance AWP {a0}:CF vE (Np N a0) 179 [.str a0] (fun r=>.bool r):=AP (Np.eq_1 ..) Tryz.func179 rfl Tryz.ntmps179 Tryz.results179
instance Aak {a0}:CF vE (Ql N a0) 118 [.int .u8 a0] (fun r=>.bool r):=AP (Ql.eq_1 ..) Tryz.func118 rfl Tryz.ntmps118 Tryz.results118 [(1,[],.stop)]
@[reducible, instance] def AOE {k2 xs s3} := LR.mk (X := Fe N k2 xs s3) (G := fun xs i (s : Unit) => Fe N k2 xs i) (i := s3) (s := ()) (js := [(2, 1), (4, 29)]) (cs := [3]) (V := fun i s => [.int .i64 i]) (Ms := fun i s => []) rfl (fun i s => Fe.eq_1 ..) (fun x xs i s => Fe.eq_2 ..)
instance AYd {a0}:CF vE (N8 N a0) 181 [.str a0] (fun r=>.bool r):=AP (N8.eq_1 ..) Tryz.func181 rfl Tryz.ntmps181 Tryz.results181 [(4,[],.stop)]
end Go.Proofs.YtcahkpfjpeomoaaGreatDoor
