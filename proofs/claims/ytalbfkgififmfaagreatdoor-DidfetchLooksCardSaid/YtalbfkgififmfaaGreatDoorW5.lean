import Derived.Test.YtalbfkgififmfaaGreatDoorW0
set_option linter.unusedVariables false
set_option linter.unusedSimpArgs false
set_option maxHeartbeats 4000000
set_option maxRecDepth 100000
set_option linter.defProp false
namespace Go.Proofs.YtalbfkgififmfaaGreatDoor
open Go.VM Tryz
attribute [local irreducible] AA grd letL
variable{N n:Nat}{m:MS}{Q:PQ}{args:List AVal}
abbrev Ajk {e a}:=lq (λa i (s:Unit)=>Gw N e a) a () [(2,3),(8,16)] [7] (λi s=>Gw.eq_1 ..) (λx a i s=>Gw.eq_2 ..)
abbrev YX {b d e a}:=lr (λe i (s:Unit)=>Bf N b d e i) e a () [(4,2),(9,10)] [8] (λi s=>Bf.eq_1 ..) (λx e i s=>Bf.eq_2 ..)
abbrev AjI {a e b k d}:=lf (λk (s:Int)=>J2 N a e b k s) k d [(4,1),(6,19)] [5] (λs=>[.int .i64 s]) (λs=>J2.eq_1 ..) (λk s=>J2.eq_2 ..)
abbrev Ajq {a e b k d}:=lc (λk i (s:Unit)=>Iq N a e b k i) k d () [(4,3),(9,30)] [7] (λi s=>Iq.eq_1 ..) (λk i s=>Iq.eq_2 ..)
abbrev ATt {b d a e}:=lr (λa i (s:Unit)=>EG N b d a i) a e () [(4,2),(14,12)] [13] (λi s=>EG.eq_1 ..) (λx a i s=>EG.eq_2 ..)
abbrev ATT {b d a e}:=lr (λa i (s:Unit)=>FE N b d a i) a e () [(4,2),(14,12)] [13] (λi s=>FE.eq_1 ..) (λx a i s=>FE.eq_2 ..)
abbrev Aju {e a}:=lq (λa i (s:Unit)=>Ir N e a) a () [(2,2),(7,20)] [6] (λi s=>Ir.eq_1 ..) (λx a i s=>Ir.eq_2 ..)
abbrev AEP {d a f b}:=lq (λa i (s:(List B8)×Bx)=>D5 N d a s.1 s.2) a (f,b) [(7,1),(11,14)] [5,10] (λi s=>D5.eq_1 ..) (λx a i s=>D5.eq_2 ..) (V:=λi s=>[.slice 1 (List.map AVal.str s.1) true,.int .i64 i]) (Ms:=λi s=>[.s ([.str s.2.did.i,.str s.2.did.u,.int .i64 s.2.e])]) (X:=D5 N d a f b)
attribute [instance] Ajk YX AjI Ajq ATt ATT Aju AEP
def Lm {a0 r} (h:Bu N a0=some r) (ha:args=[.slice 9 (List.map BF a0) false]) (hQ: ∀n',n<=n'->Gl (Q (.slice 9 (List.map BF r) true) ⟨m,n'⟩)):AE vE 324 args ⟨m,n⟩ Q:=by
 rw[Bu]at h;subst ha;refine ent hQ func324 rfl ntmps324 results324 (.q (.r []) (.q (.q (.r []) .z) .z)) λR hR=>?_;replace h:=ac trivial h;obtain⟨c,h⟩:=Ow h;try simp only[liE,seval]at c
 replace h:=Lp c h;obtain⟨H,h⟩:=h;cases h;simp(disch:=omega) only[vm,seval,H];refine⟨λc hc=>?_⟩;cases c;·refine Cy (.c (.q (.r []) .z) .z) ?_;simp(disch:=omega) only[vm,seval,H];refine⟨Cy (.q (.r []) .z) ?_⟩;simp(disch:=omega) only[vm,seval,H];refine⟨(hR _ _ _ _ _ _ (by simp(disch:=omega) only[vm,seval,H];rfl) slr ?_ fM ?_).1⟩<;>first|(simp(disch:=omega) only[vm,seval,H];done)|rfl
 ·have e:a0=[]:=eD.1 (hc rfl);subst e;refine Cy (.c (.q (.r []) .z) .z) ?_;simp(disch:=omega) only[vm,seval,H];refine⟨(hR _ _ _ _ _ _ (by simp(disch:=omega) only[vm,seval,H];rfl) slr ?_ fM ?_).1⟩<;>first|(simp(disch:=omega) only[vm,seval,H];done)|rfl
instance U7 {a}:CF vE (Bu N a) 324 [.slice 9 (List.map BF a) false] (λr=>.slice 9 (List.map BF r) true):=⟨λh hQ=>Lm h rfl hQ⟩
def OM {a0 r} (h:Cm N a0=some r) (ha:args=[.slice 2 (List.map Ag a0) false]) (hQ: ∀n',n<=n'->Gl (Q (.slice 2 (List.map Ag r) true) ⟨m,n'⟩)):AE vE 325 args ⟨m,n⟩ Q:=by
 rw[Cm]at h;subst ha;refine ent hQ func325 rfl ntmps325 results325 (.q (.r []) (.q (.q (.r []) .z) .z)) λR hR=>?_;replace h:=ac trivial h;obtain⟨c,h⟩:=Ow h;try simp only[liE,seval]at c
 replace h:=Lp c h;obtain⟨H,h⟩:=h;cases h;simp(disch:=omega) only[vm,seval,H];refine⟨λc hc=>?_⟩;cases c;·refine Cy (.c (.q (.r []) .z) .z) ?_;simp(disch:=omega) only[vm,seval,H];refine⟨Cy (.q (.r []) .z) ?_⟩;simp(disch:=omega) only[vm,seval,H];refine⟨(hR _ _ _ _ _ _ (by simp(disch:=omega) only[vm,seval,H];rfl) slr ?_ fM ?_).1⟩<;>first|(simp(disch:=omega) only[vm,seval,H];done)|rfl
 ·have e:a0=[]:=eD.1 (hc rfl);subst e;refine Cy (.c (.q (.r []) .z) .z) ?_;simp(disch:=omega) only[vm,seval,H];refine⟨(hR _ _ _ _ _ _ (by simp(disch:=omega) only[vm,seval,H];rfl) slr ?_ fM ?_).1⟩<;>first|(simp(disch:=omega) only[vm,seval,H];done)|rfl
instance YG {a}:CF vE (Cm N a) 325 [.slice 2 (List.map Ag a) false] (λr=>.slice 2 (List.map Ag r) true):=⟨λh hQ=>OM h rfl hQ⟩
instance ARW {a}:CF vE (F8 N a) 263 [.int .i64 a] .bool:=AO (F8.eq_1 ..) func263
instance Amu {a}:CF vE (Ra N a) 409 [BR a] (λr=>EJ r):=AO (Ra.eq_1 ..) func409
instance Ath {a}:CF vE (OE N a) 376 [.str a] .bool:=AO (OE.eq_1 ..) func376 [(5,[],.stop)]
instance AsW {a}:CF vE (OQ N a) 410 [.int .u8 a] .bool:=AO (OQ.eq_1 ..) func410 [(1,[],.stop)]
instance ARR {e}:CB vE (KE N e) 412 (λa=>[.ptr a 0]) (λa=>[Hd a 274 2 e.addr,.buf 5 e.A true]) (λr=>.int .i64 r.1) (λa r=>[Hd a 274 2 r.2.addr,.buf 5 r.2.A true]):=Fh (KE.eq_1 ..) func412
instance AAh {a e}:CF vE (FB N a e) 382 [.slice 7 (List.map Ad a) false,Ad e] (.int .i64):=AO (FB.eq_1 ..) func382 [(4,[],.tk 0 6 .done)]
instance Aw9 {a e}:CF vE (Xp N a e) 115 [.int .u64 a,.int .u64 e] (.int .u64):=AO (Xp.eq_1 ..) func115
instance AuA {a}:CF vE (Pt N a) 268 [Ad a] (λr=>Ad r):=AO (Pt.eq_1 ..) func268
instance ArU {a e b d}:CF vE (Kj N a e b d) 270 [Kc a,.int .i64 e,.int .i64 b,.int .i64 d] (λr=>Kc r):=AO (Kj.eq_1 ..) func270 [(1,[],.tk 0 16 (.al 16 [(12,13)] (.take 17 (.al 18 [(15,4),(10,11)] (.al 19 [(17,1),(15,16)] (.take 20 (.al 21 [] .done)))))))]
instance Aun {a e}:CF vE (Hz N a e) 333 [.str a,.str e] (.int .i64):=AO (Hz.eq_1 ..) func333
instance AYw {a}:CF vE (Gn N a) 272 [.int .i64 a] .bool:=AO (Gn.eq_1 ..) func272 [(1,[],.stop)]
instance Awt {a e}:CF vE (MI N a e) 385 [.str a,.int .i64 e] (λr=>.tuple [.str r.1,.int .i64 r.2.1,.int .i64 r.2.2]):=AO (MI.eq_1 ..) func385
instance AXl {a b}:CB vE (CZ N a b) 202 (λe=>[.ptr e 0,.int .i64 b]) (λe=>[.str a.d.i,.str a.d.u,.int .i64 a.fail]) (λr=>.tuple []) (λe r=>[.str r.d.i,.str r.d.u,.int .i64 r.fail]):=Fh (CZ.eq_1 ..) func202
instance AkD {a}:CF vE (QR N a) 275 [.int .i64 a] (.int .i64):=AO (QR.eq_1 ..) func275
instance AXs {a b d}:CB vE (Bw N a b d) 280 (λe=>[.ptr e 0,.int .i64 b,.int .i64 d]) (λe=>[.str a.s,.int .i64 a.o,.int .i64 a.n,.int .i64 a.fail,.int .i64 a.z]) (λr=>.tuple []) (λe r=>[.str r.s,.int .i64 r.o,.int .i64 r.n,.int .i64 r.fail,.int .i64 r.z]):=Fh (Bw.eq_1 ..) func280
instance A0p {a e}:CF vE (KI N a e) 340 [ED a,.str e] .bool:=AO (KI.eq_1 ..) func340 [(1,[],.stop)]
instance Axw {a e}:CF vE (AAI N a e) 126 [.int .u64 a,.int .u64 e] (.int .u64):=AO (AAI.eq_1 ..) func126
instance AcL {a e}:CF vE (JW N a e) 13 [.slice 4 (List.map BA a) false,.slice 4 (List.map BA e) false] .bool:=AO (JW.eq_1 ..) func13 [(6,[],.tk 0 9 .done)]
instance AcU {a e}:CF vE (N7 N a e) 46 [.slice 9 (List.map BF a) false,.slice 9 (List.map BF e) false] .bool:=AO (N7.eq_1 ..) func46 [(6,[],.tk 0 9 .done)]
instance Yi {a e}:CF vE (EZ N a e) 175 [.str a,.str e] (λr=>.tuple [.str r.1,.bool r.2]):=AO (EZ.eq_1 ..) func175
instance ADe {a e}:CF vE (Es N a e) 176 [.str a,.str e] (λr=>.tuple [.str r.1,.str r.2.1,.bool r.2.2]):=AO (Es.eq_1 ..) func176 [(3,[],.tk 0 9 (.al 9 [(8,6)] (.al 10 [] (.al 11 [] .done))))]
instance AvM {a}:CF vE (Sj N a) 100 [.str a] .bool:=AO (Sj.eq_1 ..) func100 [(4,[],.stop)]
instance Ari {a}:CF vE (Ki N a) 315 [.int .u8 a] .bool:=AO (Ki.eq_1 ..) func315 [(1,[],.stop)]
instance Ajn {a}:CF vE (Le N a) 316 [.int .u8 a] (.int .u8):=AO (Le.eq_1 ..) func316
instance AsM {a}:CF vE (Sy N a) 288 [.int .u8 a] .bool:=AO (Sy.eq_1 ..) func288 [(1,[],.stop)]
instance XB {a e}:CF vE (strings_IndexByte N a e) 251 [.str a,.int .u8 e] (.int .i64):=AO (strings_IndexByte.eq_1 ..) func251
def XM {a e r} (h:strings_IndexByte N a e=some r) (ha:args=[.str a,.int .u8 e]) (hQ: ∀n',n<=n'->Gl (Q (.int .i64 r) ⟨m,n'⟩)):AE vE 251 args ⟨m,n⟩ Q:=ha▸XB.go h hQ
instance ABq {a e}:CF vE (strings_Index N a e) 252 [.str a,.str e] (.int .i64):=AO (strings_Index.eq_1 ..) func252
def AB3 {a e r} (h:strings_Index N a e=some r) (ha:args=[.str a,.str e]) (hQ: ∀n',n<=n'->Gl (Q (.int .i64 r) ⟨m,n'⟩)):AE vE 252 args ⟨m,n⟩ Q:=ha▸ABq.go h hQ
instance ABb {e b}:CB vE (AY N e b) 210 (λa=>[.ptr a 0,.str b]) (λa=>[Hd a 274 2 e.addr,.buf 5 e.A true]) (λr=>.tuple [.int .i64 r.1,.nilIface]) (λa r=>[Hd a 274 2 r.2.2.addr,.buf 5 r.2.2.A true]):=Fh (AY.eq_1 ..) func210 [(2,[12],.done)]
instance YV {a}:CF vE (EA N a) 318 [.str a] (λr=>.tuple [.int .i32 r.1,.int .i64 r.2]):=AO (EA.eq_1 ..) func318 [(1,[],.stop)]
instance AXt {a e}:CF vE (strings_HasSuffix N a e) 102 [.str a,.str e] .bool:=AO (strings_HasSuffix.eq_1 ..) func102
instance AJZ {a d}:CB vE (FX N a d) 106 (λb=>[.ptr b 0,.slice 4 (List.map AC d) false]) (λb=>[.str a.did.i,.str a.did.u,.int .i64 a.e]) (λr=>.slice 1 (List.map AVal.str r.1) false) (λb r=>[.str r.2.did.i,.str r.2.did.u,.int .i64 r.2.e]):=Fh (FX.eq_1 ..) func106 [(7,[19],.done)]
instance AHK {a d}:CB vE (Jm N a d) 191 (λb=>[.ptr b 0,AC d]) (λb=>[.str a.did.i,.str a.did.u,.int .i64 a.e]) (λr=>.slice 4 (List.map AC r.1) false) (λb r=>[.str r.2.did.i,.str r.2.did.u,.int .i64 r.2.e]):=Fh (Jm.eq_1 ..) func191 [] true
instance XD {a e}:CF vE (strings_HasPrefix N a e) 265 [.str a,.str e] .bool:=AO (strings_HasPrefix.eq_1 ..) func265
def KC {a e r} (h:strings_HasPrefix N a e=some r) (ha:args=[.str a,.str e]) (hQ: ∀n',n<=n'->Gl (Q (.bool r) ⟨m,n'⟩)):AE vE 265 args ⟨m,n⟩ Q:=ha▸XD.go h hQ
end Go.Proofs.YtalbfkgififmfaaGreatDoor
