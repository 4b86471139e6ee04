import Derived.Test.YtcahkpfjpeomoaaGreatDoorVmFacts
import Derived.Test.YtcahkpfjpeomoaaGreatDoorDefs
import Derived.Test.YtcahkpfjpeomoaaGreatDoorVM7
set_option linter.unusedVariables false
set_option linter.unusedSimpArgs false
set_option maxHeartbeats 4000000
set_option maxRecDepth 100000
set_option linter.defProp false
namespace Go.Proofs.YtcahkpfjpeomoaaGreatDoor
open Go.VM
attribute [local irreducible] AA grd letL
variable{N n:Nat}{m:MS}{Q:PQ}{args:List AVal}
instance AWZ {a0}:CF vE (N7 N a0) 33 [Aa a0] (fun r=>Cw r):=AP (N7.eq_1 ..) Tryz.func33 rfl Tryz.ntmps33 Tryz.results33
@[reducible, instance] def AZT {a0 k2 xs} := LQ.mk (X := KA N a0 k2 xs) (G := fun xs i (s : Unit) => KA N a0 k2 xs) (s := ()) (js := [(4, 1), (6, 11)]) (cs := [5]) (V := fun i s => [.int .i64 i]) (Ms := fun i s => []) (fun _ => rfl) (fun i s => KA.eq_1 ..) (fun x xs i s => KA.eq_2 ..)
instance Aes {a0 a1}:CF vE (JQ N a0 a1) 47 [.int .u8 a0,.str a1] (fun r=>.bool r):=AP (JQ.eq_1 ..) Tryz.func47 rfl Tryz.ntmps47 Tryz.results47
@[reducible, instance] def ASD {a0 k2 xs s9 bn} := LR.mk (X := G9 N a0 k2 xs s9 bn) (G := fun xs i (s : (List Int)) => G9 N a0 k2 xs i s) (i := s9) (s := bn) (js := [(4, 1), (10, 21)]) (cs := [9]) (V := fun i s => [.int .i64 i]) (Ms := fun i s => [.s (List.map (AVal.int .u8) s)]) rfl (fun i s => G9.eq_1 ..) (fun x xs i s => G9.eq_2 ..)
instance AZ9 {a0}:CF vE (J9 N a0) 35 [.str a0] (fun r=>.str r):=AP (J9.eq_1 ..) Tryz.func35 rfl Tryz.ntmps35 Tryz.results35 [(5,[],.stop)]
instance ATz {a0}:CF vE (GU N a0) 81 [.int .u8 a0] (fun r=>.bool r):=AP (GU.eq_1 ..) Tryz.func81 rfl Tryz.ntmps81 Tryz.results81 [(1,[],.stop)]
instance ATw {a0}:CF vE (Db N a0) 82 [.int .u8 a0] (fun r=>.bool r):=AP (Db.eq_1 ..) Tryz.func82 rfl Tryz.ntmps82 Tryz.results82 [(1,[],.stop)]
instance AWS {a0}:CF vE (KT N a0) 48 [.int .u8 a0] (fun r=>.str r):=AP (KT.eq_1 ..) Tryz.func48 rfl Tryz.ntmps48 Tryz.results48 [(1,[],.take 0 (.take 1 (.take 2 (.take 3 (.take 4 (.take 5 (.take 6 (.alt 7 [5,4,3,2,1,0] (.alt 8 [] (.done) (.stop)) (.stop)))))))))]
instance AZk {a0}:CF vE (M3 N a0) 177 [.int .u8 a0] (fun r=>.int .u8 r):=AP (M3.eq_1 ..) Tryz.func177 rfl Tryz.ntmps177 Tryz.results177
@[reducible, instance] def ASN {a0 a1 k2 xs s7 s5 s6} := LR.mk (X := Gw N a0 a1 k2 xs s7 s5 s6) (G := fun xs i (s : (List (List UInt8)) × Int) => Gw N a0 a1 k2 xs i s.1 s.2) (i := s7) (s := (s5, s6)) (js := [(8, 20)]) (cs := [5, 6, 7]) (V := fun i s => [.vec 1 (List.map AVal.str s.1), .int .i64 s.2, .int .i64 i]) (Ms := fun i s => []) rfl (fun i s => Gw.eq_1 ..) (fun x xs i s => Gw.eq_2 ..)
instance XL {a0 a1}:CF vE (Ack (F9 N a0 a1)) 117 [.str a0,.int .u8 a1] (fun r=>.vec 1 (List.map AVal.str r)):=AP (AOe.trans (F9.eq_1 ..)) Tryz.func117 rfl Tryz.ntmps117 Tryz.results117 [(0,[4],.done),(1,[5],.done),(7,[5,19],.done),(8,[4,28],.done)]
instance AZf {a0 a1}:CF vE (F9 N a0 a1) 117 [.str a0,.int .u8 a1] (fun r=>.slice 1 (List.map AVal.str r) false):=CF.freeze XL
instance AXt {a0}:CF vE (Nr N a0) 37 [MW a0] (fun r=>.str r):=AP (Nr.eq_1 ..) Tryz.func37 rfl Tryz.ntmps37 Tryz.results37
instance AYH {a0 a1}:CF vE (GR N a0 a1) 123 [.str a0,.str a1] (fun r=>.bool r):=AP (GR.eq_1 ..) Tryz.func123 rfl Tryz.ntmps123 Tryz.results123 [(1,[],.stop)]
@[reducible, instance] def ALG {a0 k2 k s3} := LF.mk (X := FE N a0 k2 k s3) (G := fun k (s : Int) => FE N a0 k2 k s) (s := s3) (js := [(2, 1), (7, 11)]) (cs := [3]) (V := fun s => [.int .i64 s]) (Ms := fun s => []) rfl (fun s => FE.eq_1 ..) (fun k s => FE.eq_2 ..)
instance ATb {a0}:CF vE (Kv N a0) 183 [.str a0] (fun r=>.str r):=AP (Kv.eq_1 ..) Tryz.func183 rfl Tryz.ntmps183 Tryz.results183
instance AOh {a0}:CF vE (H7 N a0) 80 [D9 a0] (fun r=>.str r):=AP (H7.eq_1 ..) Tryz.func80 rfl Tryz.ntmps80 Tryz.results80
instance AQD {a0 a1}:CB vE (Gm N a0 a1) 43 (fun i0=>[.ptr i0 0,.int .i64 a1]) (fun i0=>[.slice 1 (List.map (AVal.int .u8) a0.l) false]) (fun r=>.int .i64 r.1) (fun i0 r=>[.slice 1 (List.map (AVal.int .u8) r.2.l) false]):=ED (Gm.eq_1 ..) Tryz.func43 rfl Tryz.ntmps43 Tryz.results43 [(1,[],.stop)]
theorem AMA {a0 r} (h:Nb N a0=some r) (ha:args=[.slice 1 (List.map (AVal.int .u8) a0) false]) (hQ: ∀i n',n≤i→i<n'→Gl (Q (.ptr i 0) ⟨(i,[.slice 1 (List.map (AVal.int .u8) r.l) false])::m,n'⟩)):ACall vE 18 args ⟨m,n⟩ Q:=by
 rw[Nb]at h
 subst ha
 refine AWD Tryz.func18 rfl Tryz.ntmps18 Tryz.results18 (.q (.r []) (.q (.r []) .z)) fun R hR=>?_
 replace h:=And.intro trivial h
 obtain⟨x1,h⟩:=Cu h
 obtain⟨H,h⟩:=h
 cases h
 simp(disch:=omega) only[vm,seval,H]
 refine⟨(hR _ _ [.ptr n 0] ((n,[.slice 1 (List.map (AVal.int .u8) x1) false])::m) _ (n+1) (by first|(simp(disch:=omega) only[vm,seval,H];done)|(simp(disch:=omega) only[vm,seval,H];rfl)) slr (by omega) (hQ (n) (n+1) (by omega) (by omega)).go).1⟩
instance AeS {a0}:CN vE (Nb N a0) 18 [.slice 1 (List.map (AVal.int .u8) a0) false] (fun i=>.ptr i 0) (fun r i=>[.slice 1 (List.map (AVal.int .u8) r.l) false]):=⟨fun h hQ=>AMA h rfl hQ⟩
@[reducible, instance] def AY9 {k s0 s3} := LF.mk (X := Iu N k s0 s3) (G := fun k (s : Int × (List UInt8)) => Iu N k s.1 s.2) (s := (s0, s3)) (js := [(2, 1), (4, 13)]) (cs := [0, 3]) (V := fun s => [.int .i64 s.1, .str s.2]) (Ms := fun s => []) rfl (fun s => Iu.eq_1 ..) (fun k s => Iu.eq_2 ..)
instance Ac3 {a0}:CF vE (Tc N a0) 50 [.int .i64 a0] (fun r=>.str r):=AP (Tc.eq_1 ..) Tryz.func50 rfl Tryz.ntmps50 Tryz.results50
@[reducible, instance] def AOp {k s0 s3} := LF.mk (X := Fz N k s0 s3) (G := fun k (s : Int × (List UInt8)) => Fz N k s.1 s.2) (s := (s0, s3)) (js := [(2, 1), (4, 13)]) (cs := [0, 3]) (V := fun s => [.int .i64 s.1, .str s.2]) (Ms := fun s => []) rfl (fun s => Fz.eq_1 ..) (fun k s => Fz.eq_2 ..)
instance AXW {a0}:CF vE (OO N a0) 23 [.int .i64 a0] (fun r=>.str r):=AP (OO.eq_1 ..) Tryz.func23 rfl Tryz.ntmps23 Tryz.results23
theorem KZ {a0 r} (h:Di N a0=some r) (ha:args=[.slice 7 (List.map Aa a0) false]) (hQ: ∀n',n≤n'→Gl (Q (.slice 7 (List.map Aa r) true) ⟨m,n'⟩)):ACall vE 245 args ⟨m,n⟩ Q:=by
 rw[Di]at h
 subst ha
 refine ent hQ Tryz.func245 rfl Tryz.ntmps245 Tryz.results245 (.q (.r []) (.q (.q (.r []) .z) .z)) fun R hR=>?_
 replace h:=And.intro trivial h
 obtain⟨c,h⟩:=Ho h
 try simp only[liE,seval]at c
 replace h:=EY c h
 obtain⟨H,h⟩:=h
 cases h
 simp(disch:=omega) only[vm,seval,H]
 refine⟨fun c hc=>?_⟩
 cases c
 · refine BM (.c (.q (.r []) .z) .z) ?_
   simp(disch:=omega) only[vm,seval,H]
   refine⟨BM (.q (.r []) .z) ?_⟩
   simp(disch:=omega) only[vm,seval,H]
   refine⟨(hR _ _ _ _ _ _ (by simp(disch:=omega) only[vm,seval,H];rfl) slr ?_ (by omega) ?_).1⟩<;>first|(simp(disch:=omega) only[vm,seval,H];done)|rfl
 · have e:a0=[]:=List.map_eq_nil_iff.1 (hc rfl)
   subst e
   refine BM (.c (.q (.r []) .z) .z) ?_
   simp(disch:=omega) only[vm,seval,H]
   refine⟨(hR _ _ _ _ _ _ (by simp(disch:=omega) only[vm,seval,H];rfl) slr ?_ (by omega) ?_).1⟩<;>first|(simp(disch:=omega) only[vm,seval,H];done)|rfl
instance TI {a0}:CF vE (Di N a0) 245 [.slice 7 (List.map Aa a0) false] (fun r=>.slice 7 (List.map Aa r) true):=⟨fun h hQ=>KZ h rfl hQ⟩
theorem IY {a0 r} (h:Bz N a0=some r) (ha:args=[.slice 9 (List.map AO a0) false]) (hQ: ∀n',n≤n'→Gl (Q (.slice 9 (List.map AO r) true) ⟨m,n'⟩)):ACall vE 246 args ⟨m,n⟩ Q:=by
 rw[Bz]at h
 subst ha
 refine ent hQ Tryz.func246 rfl Tryz.ntmps246 Tryz.results246 (.q (.r []) (.q (.q (.r []) .z) .z)) fun R hR=>?_
 replace h:=And.intro trivial h
 obtain⟨c,h⟩:=Ho h
 try simp only[liE,seval]at c
 replace h:=EY c h
 obtain⟨H,h⟩:=h
 cases h
 simp(disch:=omega) only[vm,seval,H]
 refine⟨fun c hc=>?_⟩
 cases c
 · refine BM (.c (.q (.r []) .z) .z) ?_
   simp(disch:=omega) only[vm,seval,H]
   refine⟨BM (.q (.r []) .z) ?_⟩
   simp(disch:=omega) only[vm,seval,H]
   refine⟨(hR _ _ _ _ _ _ (by simp(disch:=omega) only[vm,seval,H];rfl) slr ?_ (by omega) ?_).1⟩<;>first|(simp(disch:=omega) only[vm,seval,H];done)|rfl
 · have e:a0=[]:=List.map_eq_nil_iff.1 (hc rfl)
   subst e
   refine BM (.c (.q (.r []) .z) .z) ?_
   simp(disch:=omega) only[vm,seval,H]
   refine⟨(hR _ _ _ _ _ _ (by simp(disch:=omega) only[vm,seval,H];rfl) slr ?_ (by omega) ?_).1⟩<;>first|(simp(disch:=omega) only[vm,seval,H];done)|rfl
instance Og {a0}:CF vE (Bz N a0) 246 [.slice 9 (List.map AO a0) false] (fun r=>.slice 9 (List.map AO r) true):=⟨fun h hQ=>IY h rfl hQ⟩
theorem Jq {a0 r} (h:Cn N a0=some r) (ha:args=[.slice 2 (List.map Af a0) false]) (hQ: ∀n',n≤n'→Gl (Q (.slice 2 (List.map Af r) true) ⟨m,n'⟩)):ACall vE 247 args ⟨m,n⟩ Q:=by
 rw[Cn]at h
 subst ha
 refine ent hQ Tryz.func247 rfl Tryz.ntmps247 Tryz.results247 (.q (.r []) (.q (.q (.r []) .z) .z)) fun R hR=>?_
 replace h:=And.intro trivial h
 obtain⟨c,h⟩:=Ho h
 try simp only[liE,seval]at c
 replace h:=EY c h
 obtain⟨H,h⟩:=h
 cases h
 simp(disch:=omega) only[vm,seval,H]
 refine⟨fun c hc=>?_⟩
 cases c
 · refine BM (.c (.q (.r []) .z) .z) ?_
   simp(disch:=omega) only[vm,seval,H]
   refine⟨BM (.q (.r []) .z) ?_⟩
   simp(disch:=omega) only[vm,seval,H]
   refine⟨(hR _ _ _ _ _ _ (by simp(disch:=omega) only[vm,seval,H];rfl) slr ?_ (by omega) ?_).1⟩<;>first|(simp(disch:=omega) only[vm,seval,H];done)|rfl
 · have e:a0=[]:=List.map_eq_nil_iff.1 (hc rfl)
   subst e
   refine BM (.c (.q (.r []) .z) .z) ?_
   simp(disch:=omega) only[vm,seval,H]
   refine⟨(hR _ _ _ _ _ _ (by simp(disch:=omega) only[vm,seval,H];rfl) slr ?_ (by omega) ?_).1⟩<;>first|(simp(disch:=omega) only[vm,seval,H];done)|rfl
instance RS {a0}:CF vE (Cn N a0) 247 [.slice 2 (List.map Af a0) false] (fun r=>.slice 2 (List.map Af r) true):=⟨fun h hQ=>Jq h rfl hQ⟩
instance AFu {a0}:CF vE (Gc N a0) 196 [.int .i64 a0] (fun r=>.bool r):=AP (Gc.eq_1 ..) Tryz.func196 rfl Tryz.ntmps196 Tryz.results196
instance AVX {a0}:CF vE (OG N a0) 302 [Ag a0] (fun r=>Cw r):=AP (OG.eq_1 ..) Tryz.func302 rfl Tryz.ntmps302 Tryz.results302
@[reducible, instance] def ATk {k2 xs} := LQ.mk (X := IC N k2 xs) (G := fun xs i (s : Unit) => IC N k2 xs) (s := ()) (js := [(2, 3), (8, 16)]) (cs := [7]) (V := fun i s => [.int .i64 i]) (Ms := fun i s => []) (fun _ => rfl) (fun i s => IC.eq_1 ..) (fun x xs i s => IC.eq_2 ..)
instance AcS {a0}:CF vE (MI N a0) 284 [.str a0] (fun r=>.bool r):=AP (MI.eq_1 ..) Tryz.func284 rfl Tryz.ntmps284 Tryz.results284 [(5,[],.stop)]
instance AZV {a0}:CF vE (M4 N a0) 303 [.int .u8 a0] (fun r=>.bool r):=AP (M4.eq_1 ..) Tryz.func303 rfl Tryz.ntmps303 Tryz.results303 [(1,[],.stop)]
instance AFm {a0}:CB vE (Gf N a0) 156 (fun i0=>[.ptr i0 0]) (fun i0=>[EE i0 222 2 a0.addr,.buf 5 a0.buf true]) (fun r=>.int .i64 r.1) (fun i0 r=>[EE i0 222 2 r.2.addr,.buf 5 r.2.buf true]):=ED (Gf.eq_1 ..) Tryz.func156 rfl Tryz.ntmps156 Tryz.results156
@[reducible, instance] def Rc {a1 k2 xs s8_0} := LR.mk (X := Bd N a1 k2 xs s8_0) (G := fun xs i (s : Unit) => Bd N a1 k2 xs i) (i := s8_0) (s := ()) (js := [(4, 2), (9, 10)]) (cs := [8]) (V := fun i s => [.int .i64 i]) (Ms := fun i s => []) rfl (fun i s => Bd.eq_1 ..) (fun x xs i s => Bd.eq_2 ..)
instance Tu {a0 a1}:CF vE (En N a0 a1) 288 [.slice 7 (List.map Aa a0) false,Aa a1] (fun r=>.int .i64 r):=AP (En.eq_1 ..) Tryz.func288 rfl Tryz.ntmps288 Tryz.results288 [(4,[],.take 0 (.take 1 (.take 2 (.take 3 (.take 4 (.take 5 (.done)))))))]
instance AT1 {a0}:CF vE (Ky N a0) 55 [.int .i64 a0] (fun r=>.int .i64 r):=AP (Ky.eq_1 ..) Tryz.func55 rfl Tryz.ntmps55 Tryz.results55
instance AFr {a0}:CB vE (Aw N a0) 103 (fun i0=>[.ptr i0 0]) (fun i0=>[.str a0.s,.int .i64 a0.at_]) (fun r=>.bool r.1) (fun i0 r=>[.str r.2.s,.int .i64 r.2.at_]):=ED (Aw.eq_1 ..) Tryz.func103 rfl Tryz.ntmps103 Tryz.results103 [(1,[],.take 0 (.take 1 (.take 2 (.take 3 (.take 4 (.take 5 (.take 6 (.take 7 (.take 8 (.take 9 (.alt 10 [] (.done) (.stop))))))))))))]
instance We {a0}:CF vE (Ht N a0) 164 [.int .u8 a0] (fun r=>.bool r):=AP (Ht.eq_1 ..) Tryz.func164 rfl Tryz.ntmps164 Tryz.results164 [(1,[],.stop)]
instance AOA {a0}:CF vE (Jh N a0) 225 [.int .u8 a0] (fun r=>.bool r):=AP (Jh.eq_1 ..) Tryz.func225 rfl Tryz.ntmps225 Tryz.results225 [(1,[],.stop)]
instance AZP {a0}:CF vE (PZ N a0) 204 [.int .u8 a0] (fun r=>.bool r):=AP (PZ.eq_1 ..) Tryz.func204 rfl Tryz.ntmps204 Tryz.results204 [(1,[],.stop)]
instance TF {a0}:CF vE (Ir N a0) 322 [.int .i64 a0] (fun r=>.bool r):=AP (Ir.eq_1 ..) Tryz.func322 rfl Tryz.ntmps322 Tryz.results322 [(1,[],.stop)]
theorem NW {a0 r} (h:Ir N a0=some r) (ha:args=[.int .i64 a0]) (hQ: ∀n',n≤n'→Gl (Q (.bool r) ⟨m,n'⟩)):ACall vE 322 args ⟨m,n⟩ Q:=
 ha▸TF.go h hQ
instance AKM {a0}:CB vE (KM N a0) 310 (fun i0=>[.ptr i0 0]) (fun i0=>[.str a0.s,.int .i64 a0.at_]) (fun r=>.int .u8 r.1) (fun i0 r=>[.str r.2.s,.int .i64 r.2.at_]):=ED (KM.eq_1 ..) Tryz.func310 rfl Tryz.ntmps310 Tryz.results310 [(1,[],.take 0 (.take 1 (.take 2 (.take 3 (.take 4 (.take 5 (.take 6 (.take 7 (.take 8 (.take 9 (.done))))))))))),(2,[],.take 0 (.take 1 (.take 2 (.take 3 (.take 4 (.take 5 (.take 6 (.take 7 (.take 8 (.alt 9 [] (.done) (.stop)))))))))))]
instance Uj {a0}:CF vE (JY N a0) 257 [Ev a0] (fun r=>.bool r):=AP (JY.eq_1 ..) Tryz.func257 rfl Tryz.ntmps257 Tryz.results257 [(6,[],.stop)]
theorem Ut {a0 r} (h:JY N a0=some r) (ha:args=[Ev a0]) (hQ: ∀n',n≤n'→Gl (Q (.bool r) ⟨m,n'⟩)):ACall vE 257 args ⟨m,n⟩ Q:=
 ha▸Uj.go h hQ
@[reducible, instance] def WI {a1 k2 k s0} := LF.mk (X := Cq N a1 k2 k s0) (G := fun k (s : (List UInt8)) => Cq N a1 k2 k s) (s := s0) (js := [(5, 11)]) (cs := [0]) (V := fun s => [.str s]) (Ms := fun s => []) rfl (fun s => Cq.eq_1 ..) (fun k s => Cq.eq_2 ..)
instance AAq {a0 a1}:CF vE (strings_trimLeftByte N a0 a1) 311 [.str a0,.int .u8 a1] (fun r=>.str r):=AP (strings_trimLeftByte.eq_1 ..) Tryz.func311 rfl Tryz.ntmps311 Tryz.results311 [(1,[],.stop)]
@[reducible, instance] def Vl {a1 k2 k s0} := LF.mk (X := Ch N a1 k2 k s0) (G := fun k (s : (List UInt8)) => Ch N a1 k2 k s) (s := s0) (js := [(5, 17)]) (cs := [0]) (V := fun s => [.str s]) (Ms := fun s => []) rfl (fun s => Ch.eq_1 ..) (fun k s => Ch.eq_2 ..)
instance X9 {a0 a1}:CF vE (strings_trimRightByte N a0 a1) 314 [.str a0,.int .u8 a1] (fun r=>.str r):=AP (strings_trimRightByte.eq_1 ..) Tryz.func314 rfl Tryz.ntmps314 Tryz.results314 [(1,[],.stop)]
instance Wl {a0}:CF vE (Hr N a0) 326 [.int .u8 a0] (fun r=>.bool r):=AP (Hr.eq_1 ..) Tryz.func326 rfl Tryz.ntmps326 Tryz.results326
instance AMH {a0 a1}:CB vE (FB N a0 a1) 211 (fun i0=>[.ptr i0 0,.int .i64 a1]) (fun i0=>[.int .i64 a0.e]) (fun r=>.tuple []) (fun i0 r=>[.int .i64 r.e]):=ED (FB.eq_1 ..) Tryz.func211 rfl Tryz.ntmps211 Tryz.results211
@[reducible, instance] def AQb {a0 a1 k2 xs s11} := LR.mk (X := Gt N a0 a1 k2 xs s11) (G := fun xs i (s : Unit) => Gt N a0 a1 k2 xs i) (i := s11) (s := ()) (js := [(5, 3), (12, 25)]) (cs := [11]) (V := fun i s => [.int .i64 i]) (Ms := fun i s => []) rfl (fun i s => Gt.eq_1 ..) (fun x xs i s => Gt.eq_2 ..)
instance AZR {a0 a1}:CF vE (LG N a0 a1) 210 [Al a0,.str a1] (fun r=>.tuple [Al r.1,.bool r.2]):=AP (LG.eq_1 ..) Tryz.func210 rfl Tryz.ntmps210 Tryz.results210 [(4,[],.stop)] true
instance Ac4 {a0}:CF vE (Td N a0) 212 [Al a0] (fun r=>.int .i64 r):=AP (Td.eq_1 ..) Tryz.func212 rfl Tryz.ntmps212 Tryz.results212
@[reducible, instance] def AZn {a1 k2 xs s5} := LQ.mk (X := Jy N a1 k2 xs s5) (G := fun xs i (s : (List ApiLink)) => Jy N a1 k2 xs s) (s := s5) (js := [(7, 1), (12, 20)]) (cs := [5, 11]) (V := fun i s => [.slice 6 (List.map FV s) true, .int .i64 i]) (Ms := fun i s => []) (fun _ => rfl) (fun i s => Jy.eq_1 ..) (fun x xs i s => Jy.eq_2 ..)
instance AfN {a0 a1}:CF vE (Rk N a0 a1) 97 [Ls a0,.str a1] (fun r=>.slice 6 (List.map FV r) false):=AP (Rk.eq_1 ..) Tryz.func97 rfl Tryz.ntmps97 Tryz.results97 [(8,[27],.done)]
@[reducible, instance] def Sr {a1 k2 xs s8_0} := LR.mk (X := Bo N a1 k2 xs s8_0) (G := fun xs i (s : Unit) => Bo N a1 k2 xs i) (i := s8_0) (s := ()) (js := [(4, 2), (9, 10)]) (cs := [8]) (V := fun i s => [.int .i64 i]) (Ms := fun i s => []) rfl (fun i s => Bo.eq_1 ..) (fun x xs i s => Bo.eq_2 ..)
instance U0 {a0 a1}:CF vE (FT N a0 a1) 252 [.slice 4 (List.map Ap a0) false,Ap a1] (fun r=>.int .i64 r):=AP (FT.eq_1 ..) Tryz.func252 rfl Tryz.ntmps252 Tryz.results252 [(4,[],.take 0 (.take 1 (.take 2 (.take 3 (.take 4 (.take 5 (.done)))))))]
instance Aa4 {a0 a1}:CF vE (RJ N a0 a1) 142 [.int .u64 a0,.int .u64 a1] (fun r=>.int .u64 r):=AP (RJ.eq_1 ..) Tryz.func142 rfl Tryz.ntmps142 Tryz.results142
end Go.Proofs.YtcahkpfjpeomoaaGreatDoor
