import Derived.Test.YtgfgogdgnkaedaaGreatDoorW0
set_option linter.unusedVariables false
set_option linter.unusedSimpArgs false
set_option maxHeartbeats 4000000
set_option maxRecDepth 100000
set_option linter.defProp false
namespace Go.Proofs.YtgfgogdgnkaedaaGreatDoor
open Go.VM
attribute [local irreducible] AA grd letL
variable{N n:Nat}{m:MS}{Q:PQ}{args:List AVal}
instance AlS {a0 a1 a2}:CF vE (Un N a0 a1 a2) 75 [AL a0,.str a1,AL a2] (fun r=>AL r):=AV (Un.eq_1 ..) Tryz.func75 rfl Tryz.ntmps75 Tryz.results75 [(1,[],.take 0 (.take 1 (.take 2 (.take 3 (.take 4 (.take 5 (.take 6 (.take 7 (.take 8 (.take 9 (.take 10 (.take 12 (.take 13 (.take 14 (.take 15 (.take 16 (.take 17 (.take 18 (.take 19 (.take 20 (.take 21 (.take 22 (.alt 11 [22,21,20,19,18,17,16,15,14,13,12,9,7,6,5,4,3,2,1,0] (.take 24 (.alt 23 [24,21,19,18,17,16,15,14,13,12,10,9,8,7,6,5,4,3,2,1,0] (.alt 25 [22,21,20,19,16] (.take 26 (.alt 27 [] (.done) (.stop))) (.stop)) (.stop))) (.stop))))))))))))))))))))))))]
instance AmU {a0}:CF vE (KJ N a0) 78 [.str a0] (fun r=>.agg [.int .i64 r.kind,.str r.text,.slice 1 (List.map AVal.str r.keys) true,.slice 4 (List.map AL r.items) true]):=AV (KJ.eq_1 ..) Tryz.func78 rfl Tryz.ntmps78 Tryz.results78
instance AiK:CF vE (Mv N) 136 [] (fun r=>.agg [.int .i64 r.kind,.str r.text,.slice 1 (List.map AVal.str r.keys) true,.slice 4 (List.map AL r.items) true]):=AV (Mv.eq_1 ..) Tryz.func136 rfl Tryz.ntmps136 Tryz.results136
@[reducible, instance] def Acw {k s0 s3} := LF.mk (X := IG N k s0 s3) (G := fun k (s : Int × (List UInt8)) => IG N k s.1 s.2) (s := (s0, s3)) (js := [(2, 1), (4, 13)]) (cs := [0, 3]) (V := fun s => [.int .i64 s.1, .str s.2]) (Ms := fun s => []) rfl (fun s => IG.eq_1 ..) (fun k s => IG.eq_2 ..)
instance AoR {a0}:CF vE (QR N a0) 138 [.int .i64 a0] (fun r=>.str r):=AV (QR.eq_1 ..) Tryz.func138 rfl Tryz.ntmps138 Tryz.results138
@[reducible, instance] def AVb {k s0 s3} := LF.mk (X := FK N k s0 s3) (G := fun k (s : Int × (List UInt8)) => FK N k s.1 s.2) (s := (s0, s3)) (js := [(2, 1), (4, 13)]) (cs := [0, 3]) (V := fun s => [.int .i64 s.1, .str s.2]) (Ms := fun s => []) rfl (fun s => FK.eq_1 ..) (fun k s => FK.eq_2 ..)
instance Ah6 {a0}:CF vE (Dv N a0) 67 [.int .i64 a0] (fun r=>.str r):=AV (Dv.eq_1 ..) Tryz.func67 rfl Tryz.ntmps67 Tryz.results67
instance Ajr {a0}:CF vE (L8 N a0) 205 [.int .u8 a0] (fun r=>.bool r):=AV (L8.eq_1 ..) Tryz.func205 rfl Tryz.ntmps205 Tryz.results205 [(1,[],.stop)]
instance AWQ {a0}:CF vE (Jd N a0) 206 [.int .u8 a0] (fun r=>.bool r):=AV (Jd.eq_1 ..) Tryz.func206 rfl Tryz.ntmps206 Tryz.results206 [(1,[],.stop)]
@[reducible, instance] def AVv {a0 a1 k6 k s5} := LF.mk (X := EJ N a0 a1 k6 k s5) (G := fun k (s : Int) => EJ N a0 a1 k6 k s) (s := s5) (js := [(4, 1), (20, 17)]) (cs := [5]) (V := fun s => [.int .i64 s]) (Ms := fun s => []) rfl (fun s => EJ.eq_1 ..) (fun k s => EJ.eq_2 ..)
instance Ain {a0 a1}:CF vE (ND N a0 a1) 209 [Fb a0,Fb a1] (fun r=>.str r):=AV (ND.eq_1 ..) Tryz.func209 rfl Tryz.ntmps209 Tryz.results209 [(1,[],.stop),(7,[],.take 0 (.take 1 (.take 2 (.take 3 (.take 4 (.take 5 (.take 6 (.take 7 (.alt 8 [] (.done) (.stop))))))))))]
instance Anq {a0}:CF vE (PW N a0) 153 [Fb a0] (fun r=>.str r):=AV (PW.eq_1 ..) Tryz.func153 rfl Tryz.ntmps153 Tryz.results153
theorem NV {a0 r} (h:DR N a0=some r) (ha:args=[.slice 7 (List.map Ah a0) false]) (hQ: ∀n',n≤n'→Gl (Q (.slice 7 (List.map Ah r) true) ⟨m,n'⟩)):ACall vE 277 args ⟨m,n⟩ Q:=by
 rw[DR]at h;subst ha;refine ent hQ Tryz.func277 rfl Tryz.ntmps277 Tryz.results277 (.q (.r []) (.q (.q (.r []) .z) .z)) fun R hR=>?_;replace h:=ac trivial h;obtain⟨c,h⟩:=MK h;try simp only[liE,seval]at c
 replace h:=J4 c h;obtain⟨H,h⟩:=h;cases h;simp(disch:= omega) only[vm,seval,H];refine⟨fun c hc=>?_⟩;cases c;·refine Ch (.c (.q (.r []) .z) .z) ?_;simp(disch:= omega) only[vm,seval,H];refine⟨Ch (.q (.r []) .z) ?_⟩;simp(disch:= omega) only[vm,seval,H];refine⟨(hR _ _ _ _ _ _ (by simp(disch:= omega) only[vm,seval,H];rfl) slr ?_ ff ?_).1⟩<;>first| (simp(disch:= omega) only[vm,seval,H];done)| rfl
 ·have e:a0=[]:=dS.1 (hc rfl);subst e;refine Ch (.c (.q (.r []) .z) .z) ?_;simp(disch:= omega) only[vm,seval,H];refine⟨(hR _ _ _ _ _ _ (by simp(disch:= omega) only[vm,seval,H];rfl) slr ?_ ff ?_).1⟩<;>first| (simp(disch:= omega) only[vm,seval,H];done)| rfl
instance XP {a0}:CF vE (DR N a0) 277 [.slice 7 (List.map Ah a0) false] (fun r=>.slice 7 (List.map Ah r) true):=⟨fun h hQ=>NV h rfl hQ⟩
theorem J9 {a0 r} (h:Bg N a0=some r) (ha:args=[.slice 9 (List.map Bi a0) false]) (hQ: ∀n',n≤n'→Gl (Q (.slice 9 (List.map Bi r) true) ⟨m,n'⟩)):ACall vE 278 args ⟨m,n⟩ Q:=by
 rw[Bg]at h;subst ha;refine ent hQ Tryz.func278 rfl Tryz.ntmps278 Tryz.results278 (.q (.r []) (.q (.q (.r []) .z) .z)) fun R hR=>?_;replace h:=ac trivial h;obtain⟨c,h⟩:=MK h;try simp only[liE,seval]at c
 replace h:=J4 c h;obtain⟨H,h⟩:=h;cases h;simp(disch:= omega) only[vm,seval,H];refine⟨fun c hc=>?_⟩;cases c;·refine Ch (.c (.q (.r []) .z) .z) ?_;simp(disch:= omega) only[vm,seval,H];refine⟨Ch (.q (.r []) .z) ?_⟩;simp(disch:= omega) only[vm,seval,H];refine⟨(hR _ _ _ _ _ _ (by simp(disch:= omega) only[vm,seval,H];rfl) slr ?_ ff ?_).1⟩<;>first| (simp(disch:= omega) only[vm,seval,H];done)| rfl
 ·have e:a0=[]:=dS.1 (hc rfl);subst e;refine Ch (.c (.q (.r []) .z) .z) ?_;simp(disch:= omega) only[vm,seval,H];refine⟨(hR _ _ _ _ _ _ (by simp(disch:= omega) only[vm,seval,H];rfl) slr ?_ ff ?_).1⟩<;>first| (simp(disch:= omega) only[vm,seval,H];done)| rfl
instance Rf {a0}:CF vE (Bg N a0) 278 [.slice 9 (List.map Bi a0) false] (fun r=>.slice 9 (List.map Bi r) true):=⟨fun h hQ=>J9 h rfl hQ⟩
theorem Lx {a0 r} (h:CY N a0=some r) (ha:args=[.slice 2 (List.map Aj a0) false]) (hQ: ∀n',n≤n'→Gl (Q (.slice 2 (List.map Aj r) true) ⟨m,n'⟩)):ACall vE 279 args ⟨m,n⟩ Q:=by
 rw[CY]at h;subst ha;refine ent hQ Tryz.func279 rfl Tryz.ntmps279 Tryz.results279 (.q (.r []) (.q (.q (.r []) .z) .z)) fun R hR=>?_;replace h:=ac trivial h;obtain⟨c,h⟩:=MK h;try simp only[liE,seval]at c
 replace h:=J4 c h;obtain⟨H,h⟩:=h;cases h;simp(disch:= omega) only[vm,seval,H];refine⟨fun c hc=>?_⟩;cases c;·refine Ch (.c (.q (.r []) .z) .z) ?_;simp(disch:= omega) only[vm,seval,H];refine⟨Ch (.q (.r []) .z) ?_⟩;simp(disch:= omega) only[vm,seval,H];refine⟨(hR _ _ _ _ _ _ (by simp(disch:= omega) only[vm,seval,H];rfl) slr ?_ ff ?_).1⟩<;>first| (simp(disch:= omega) only[vm,seval,H];done)| rfl
 ·have e:a0=[]:=dS.1 (hc rfl);subst e;refine Ch (.c (.q (.r []) .z) .z) ?_;simp(disch:= omega) only[vm,seval,H];refine⟨(hR _ _ _ _ _ _ (by simp(disch:= omega) only[vm,seval,H];rfl) slr ?_ ff ?_).1⟩<;>first| (simp(disch:= omega) only[vm,seval,H];done)| rfl
instance U0 {a0}:CF vE (CY N a0) 279 [.slice 2 (List.map Aj a0) false] (fun r=>.slice 2 (List.map Aj r) true):=⟨fun h hQ=>Lx h rfl hQ⟩
instance ALp {a0}:CF vE (FD N a0) 231 [.int .i64 a0] (fun r=>.bool r):=AV (FD.eq_1 ..) Tryz.func231 rfl Tryz.ntmps231 Tryz.results231
instance Ad7 {a0}:CF vE (OY N a0) 346 [CQ a0] (fun r=>DV r):=AV (OY.eq_1 ..) Tryz.func346 rfl Tryz.ntmps346 Tryz.results346
@[reducible, instance] def AcS {k2 xs} := LQ.mk (X := Er N k2 xs) (G := fun xs i (s : Unit) => Er N k2 xs) (s := ()) (js := [(2, 3), (8, 16)]) (cs := [7]) (V := fun i s => [.int .i64 i]) (Ms := fun i s => []) (fun _ => rfl) (fun i s => Er.eq_1 ..) (fun x xs i s => Er.eq_2 ..)
instance AlQ {a0}:CF vE (Lu N a0) 318 [.str a0] (fun r=>.bool r):=AV (Lu.eq_1 ..) Tryz.func318 rfl Tryz.ntmps318 Tryz.results318 [(5,[],.stop)]
instance AjR {a0}:CF vE (MO N a0) 347 [.int .u8 a0] (fun r=>.bool r):=AV (MO.eq_1 ..) Tryz.func347 rfl Tryz.ntmps347 Tryz.results347 [(1,[],.stop)]
instance ALy {a0}:CB vE (Ii N a0) 349 (fun i0=>[.ptr i0 0]) (fun i0=>[GH i0 265 2 a0.addr,.buf 5 a0.buf true]) (fun r=>.int .i64 r.1) (fun i0 r=>[GH i0 265 2 r.2.addr,.buf 5 r.2.buf true]):=Gq (Ii.eq_1 ..) Tryz.func349 rfl Tryz.ntmps349 Tryz.results349
@[reducible, instance] def VB {a1 k2 xs s8_0} := LR.mk (X := BB N a1 k2 xs s8_0) (G := fun xs i (s : Unit) => BB N a1 k2 xs i) (i := s8_0) (s := ()) (js := [(4, 2), (9, 10)]) (cs := [8]) (V := fun i s => [.int .i64 i]) (Ms := fun i s => []) rfl (fun i s => BB.eq_1 ..) (fun x xs i s => BB.eq_2 ..)
instance XJ {a0 a1}:CF vE (EI N a0 a1) 324 [.slice 7 (List.map Ah a0) false,Ah a1] (fun r=>.int .i64 r):=AV (EI.eq_1 ..) Tryz.func324 rfl Tryz.ntmps324 Tryz.results324 [(4,[],.take 0 (.take 1 (.take 2 (.take 3 (.take 4 (.take 5 (.done)))))))]
@[reducible, instance] def WV {a1 k2 xs s8_0} := LR.mk (X := CR N a1 k2 xs s8_0) (G := fun xs i (s : Unit) => CR N a1 k2 xs i) (i := s8_0) (s := ()) (js := [(4, 2), (9, 10)]) (cs := [8]) (V := fun i s => [.int .i64 i]) (Ms := fun i s => []) rfl (fun i s => CR.eq_1 ..) (fun x xs i s => CR.eq_2 ..)
instance YQ {a0 a1}:CF vE (Hg N a0 a1) 235 [.slice 4 (List.map CU a0) false,CU a1] (fun r=>.int .i64 r):=AV (Hg.eq_1 ..) Tryz.func235 rfl Tryz.ntmps235 Tryz.results235 [(4,[],.take 0 (.take 1 (.take 2 (.take 3 (.take 4 (.take 5 (.done)))))))]
instance Amx {a0 a1}:CF vE (Uz N a0 a1) 106 [.int .u64 a0,.int .u64 a1] (fun r=>.int .u64 r):=AV (Uz.eq_1 ..) Tryz.func106 rfl Tryz.ntmps106 Tryz.results106
instance AWD {a0}:CF vE (Li N a0) 11 [CU a0] (fun r=>DV r):=AV (Li.eq_1 ..) Tryz.func11 rfl Tryz.ntmps11 Tryz.results11
@[reducible, instance] def AQB {a1 k2 xs s13} := LR.mk (X := Fj N a1 k2 xs s13) (G := fun xs i (s : Unit) => Fj N a1 k2 xs i) (i := s13) (s := ()) (js := [(4, 2), (14, 12)]) (cs := [13]) (V := fun i s => [.int .i64 i]) (Ms := fun i s => []) rfl (fun i s => Fj.eq_1 ..) (fun x xs i s => Fj.eq_2 ..)
instance AVY {a0 a1}:CF vE (Jg N a0 a1) 12 [.slice 4 (List.map CU a0) false,.slice 4 (List.map CU a1) false] (fun r=>.bool r):=AV (Jg.eq_1 ..) Tryz.func12 rfl Tryz.ntmps12 Tryz.results12 [(6,[],.take 0 (.take 1 (.take 2 (.take 3 (.take 4 (.take 5 (.take 6 (.take 7 (.take 8 (.done))))))))))]
instance Vi {a0 a1}:CF vE (Dw N a0 a1) 155 [.str a0,.str a1] (fun r=>.tuple [.str r.1,.bool r.2]):=AV (Dw.eq_1 ..) Tryz.func155 rfl Tryz.ntmps155 Tryz.results155
instance ZX {a0 a1}:CF vE (EB N a0 a1) 156 [.str a0,.str a1] (fun r=>.tuple [.str r.1,.str r.2.1,.bool r.2.2]):=AV (EB.eq_1 ..) Tryz.func156 rfl Tryz.ntmps156 Tryz.results156 [(3,[],.take 0 (.take 1 (.take 2 (.take 3 (.take 4 (.take 5 (.take 6 (.take 7 (.take 8 (.alt 9 [8,7,6,5,4,3] (.alt 10 [] (.alt 11 [] (.done) (.stop)) (.stop)) (.stop)))))))))))]
@[reducible, instance] def AcL {k2 xs} := LQ.mk (X := Jw N k2 xs) (G := fun xs i (s : Unit) => Jw N k2 xs) (s := ()) (js := [(2, 2), (7, 20)]) (cs := [6]) (V := fun i s => [.int .i64 i]) (Ms := fun i s => []) (fun _ => rfl) (fun i s => Jw.eq_1 ..) (fun x xs i s => Jw.eq_2 ..)
instance Al0 {a0}:CF vE (UZ N a0) 90 [.str a0] (fun r=>.bool r):=AV (UZ.eq_1 ..) Tryz.func90 rfl Tryz.ntmps90 Tryz.results90 [(4,[],.stop)]
instance Aje {a0}:CF vE (JN N a0) 269 [.int .u8 a0] (fun r=>.bool r):=AV (JN.eq_1 ..) Tryz.func269 rfl Tryz.ntmps269 Tryz.results269 [(1,[],.stop)]
instance AcG {a0}:CF vE (Jy N a0) 270 [.int .u8 a0] (fun r=>.int .u8 r):=AV (Jy.eq_1 ..) Tryz.func270 rfl Tryz.ntmps270 Tryz.results270
instance Aj7 {a0}:CF vE (Pn N a0) 239 [.int .u8 a0] (fun r=>.bool r):=AV (Pn.eq_1 ..) Tryz.func239 rfl Tryz.ntmps239 Tryz.results239 [(1,[],.stop)]
instance Te {a0 a1}:CF vE (strings_IndexByte N a0 a1) 219 [.str a0,.int .u8 a1] (fun r=>.int .i64 r):=AV (strings_IndexByte.eq_1 ..) Tryz.func219 rfl Tryz.ntmps219 Tryz.results219
theorem Tf {a0 a1 r} (h:strings_IndexByte N a0 a1=some r) (ha:args=[.str a0,.int .u8 a1]) (hQ: ∀n',n≤n'→Gl (Q (.int .i64 r) ⟨m,n'⟩)):ACall vE 219 args ⟨m,n⟩ Q:=ha▸Te.go h hQ
instance Yl {a0 a1}:CF vE (strings_Index N a0 a1) 220 [.str a0,.str a1] (fun r=>.int .i64 r):=AV (strings_Index.eq_1 ..) Tryz.func220 rfl Tryz.ntmps220 Tryz.results220
theorem Ym {a0 a1 r} (h:strings_Index N a0 a1=some r) (ha:args=[.str a0,.str a1]) (hQ: ∀n',n≤n'→Gl (Q (.int .i64 r) ⟨m,n'⟩)):ACall vE 220 args ⟨m,n⟩ Q:=ha▸Yl.go h hQ
instance X3 {a0 a1}:CB vE (AY N a0 a1) 181 (fun i0=>[.ptr i0 0,.str a1]) (fun i0=>[GH i0 265 2 a0.addr,.buf 5 a0.buf true]) (fun r=>.tuple [.int .i64 r.1,.nilIface]) (fun i0 r=>[GH i0 265 2 r.2.2.addr,.buf 5 r.2.2.buf true]):=Gq (AY.eq_1 ..) Tryz.func181 rfl Tryz.ntmps181 Tryz.results181 [(2,[12],.done)]
instance VD {a0}:CF vE (Dj N a0) 272 [.str a0] (fun r=>.tuple [.int .i32 r.1,.int .i64 r.2]):=AV (Dj.eq_1 ..) Tryz.func272 rfl Tryz.ntmps272 Tryz.results272 [(1,[],.stop)]
instance ARi {a0 a1}:CF vE (strings_HasSuffix N a0 a1) 92 [.str a0,.str a1] (fun r=>.bool r):=AV (strings_HasSuffix.eq_1 ..) Tryz.func92 rfl Tryz.ntmps92 Tryz.results92
@[reducible, instance] def AAl {k2 xs s5 bi0} := LQ.mk (X := De N k2 xs s5 bi0) (G := fun xs i (s : (List (List UInt8)) × DiddocDecoder) => De N k2 xs s.1 s.2) (s := (s5, bi0)) (js := [(7, 1), (11, 14)]) (cs := [5, 10]) (V := fun i s => [.slice 1 (List.map AVal.str s.1) true, .int .i64 i]) (Ms := fun i s => [.s ([.str s.2.did.method, .str s.2.did.iD, .int .i64 s.2.e])]) (fun _ => rfl) (fun i s => De.eq_1 ..) (fun x xs i s => De.eq_2 ..)
instance AI1 {a0 a1}:CB vE (Ef N a0 a1) 96 (fun i0=>[.ptr i0 0,.slice 4 (List.map AL a1) false]) (fun i0=>[.str a0.did.method,.str a0.did.iD,.int .i64 a0.e]) (fun r=>.slice 1 (List.map AVal.str r.1) false) (fun i0 r=>[.str r.2.did.method,.str r.2.did.iD,.int .i64 r.2.e]):=Gq (Ef.eq_1 ..) Tryz.func96 rfl Tryz.ntmps96 Tryz.results96 [(7,[19],.done)]
instance AJc {a0 a1}:CB vE (IC N a0 a1) 171 (fun i0=>[.ptr i0 0,AL a1]) (fun i0=>[.str a0.did.method,.str a0.did.iD,.int .i64 a0.e]) (fun r=>.slice 4 (List.map AL r.1) false) (fun i0 r=>[.str r.2.did.method,.str r.2.did.iD,.int .i64 r.2.e]):=Gq (IC.eq_1 ..) Tryz.func171 rfl Tryz.ntmps171 Tryz.results171 [] true
instance Td {a0 a1}:CF vE (strings_HasPrefix N a0 a1) 233 [.str a0,.str a1] (fun r=>.bool r):=AV (strings_HasPrefix.eq_1 ..) Tryz.func233 rfl Tryz.ntmps233 Tryz.results233
theorem Il {a0 a1 r} (h:strings_HasPrefix N a0 a1=some r) (ha:args=[.str a0,.str a1]) (hQ: ∀n',n≤n'→Gl (Q (.bool r) ⟨m,n'⟩)):ACall vE 233 args ⟨m,n⟩ Q:=ha▸Td.go h hQ
end Go.Proofs.YtgfgogdgnkaedaaGreatDoor
