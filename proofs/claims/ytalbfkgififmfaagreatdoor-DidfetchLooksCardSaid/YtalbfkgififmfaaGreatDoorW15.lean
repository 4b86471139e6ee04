import Derived.Test.YtalbfkgififmfaaGreatDoorW13
set_option linter.unusedVariables false
set_option linter.unusedSimpArgs false
set_option maxHeartbeats 4000000
set_option maxRecDepth 100000
set_option linter.defProp false
namespace Go.Proofs.YtalbfkgififmfaaGreatDoor
open Go.VM Tryz
attribute [local irreducible] AA grd letL
variable{N n:Nat}{m:MS}{Q:PQ}{args:List AVal}
abbrev Oz {a d b e}:=lr (λb i (s:Unit)=>Ab N a d b i) b e () [(4,2),(9,10)] [8] (λi s=>Ab.eq_1 ..) (λx b i s=>Ab.eq_2 ..)
abbrev Ajd {b a e}:=lq (λa i (s:BT)=>IX N b a s) a e [(6,1),(10,7)] [9] (λi s=>IX.eq_1 ..) (λx a i s=>IX.eq_2 ..) (Ms:=λi s=>[.t (λq=>[Hd q 274 2 s.addr,.buf 5 s.A true])])
abbrev AcC {e a}:=lq (λa i (s:Unit)=>GL N e a) a () [(2,1),(4,11)] [3] (λi s=>GL.eq_1 ..) (λx a i s=>GL.eq_2 ..)
abbrev Agz {e a}:=lq (λa i (s:Unit)=>Mf N e a) a () [(2,1),(4,1),(9,13)] [8] (λi s=>Mf.eq_1 ..) (λx a i s=>Mf.eq_2 ..)
abbrev AXk {a e k b d}:=lf (λk (s:(List Int)×Int)=>Du N a e k s.1 s.2) k (b,d) [(2,2),(6,3),(12,26)] [4,5] (λs=>[.slice 1 (List.map (AVal.int .u8) s.1) true,.int .i64 s.2]) (λs=>Du.eq_1 ..) (λk s=>Du.eq_2 ..) (X:=Du N a e k b d)
abbrev ARs {f g p b k d a e}:=lu (λk i (s:Int×Bool×B8)=>DY N f g p b k s.1 s.2.1 s.2.2) k (d,a,e) [(12,1),(54,20)] [11,53] (λi s=>DY.eq_1 ..) (λk i s=>DY.eq_2 ..) (V:=λi s=>[.int .i64 s.1,.int .i64 i]) (Ms:=λi s=>[.t (λq=>[Hd q 274 2 s.2.1,.buf 5 s.2.2 true])]) (X:=DY N f g p b k d a e)
abbrev ATq {d f a k e b}:=lu (λk i (s:Int×BT)=>Gj N d f a k s.1 s.2) k (e,b) [(13,3),(79,20)] [11,78] (λi s=>Gj.eq_1 ..) (λk i s=>Gj.eq_2 ..) (V:=λi s=>[.int .i64 s.1,.int .i64 i]) (Ms:=λi s=>[.t (λq=>[Hd q 274 2 s.2.addr,.buf 5 s.2.A true])]) (X:=Gj N d f a k e b)
abbrev AqZ {e b a}:=lq (λa i (s:Unit)=>PR N e b a) a () [(4,1),(6,1),(10,14)] [9] (λi s=>PR.eq_1 ..) (λx a i s=>PR.eq_2 ..)
abbrev APV {f k a b d e}:=lf (λk (s:Bool×B8×B8×Int)=>FN N f k s.1 s.2.1 s.2.2.1 s.2.2.2) k (a,b,d,e) [(2,2),(5,4),(16,50)] [] (λs=>[]) (λs=>FN.eq_1 ..) (λk s=>FN.eq_2 ..) (Ms:=λs=>[.t (λq=>[Hd q 274 2 s.1,.buf 5 s.2.1 true]),.s ([.str s.2.2.1,.int .i64 s.2.2.2])]) (X:=FN N f k a b d e)
abbrev AlM {k a}:=lf (λk (s:B8)=>K4 N k s) k a [(2,19)] [0] (λs=>[.str s]) (λs=>K4.eq_1 ..) (λk s=>K4.eq_2 ..)
abbrev ARP {b e d a}:=lr (λe i (s:(List Bool))=>Dr N b e i s) e d a [(4,1),(33,11)] [8] (λi s=>Dr.eq_1 ..) (λx e i s=>Dr.eq_2 ..) (Ms:=λi s=>[.s (List.map AVal.bool s)])
abbrev ARH {b d a k e}:=lf (λk (s:Nat)=>Bo N b d a k s) k e [(4,1),(9,2),(46,9)] [45] (λs=>[.iter b s]) (λs=>Bo.eq_1 ..) (λk s=>Bo.eq_2 ..)
attribute [instance] Oz Ajd AcC Agz AXk ARs ATq AqZ APV AlM ARP ARH
instance Pp {e a}:CF vE (BB N e a) 371 [.slice 7 (List.map BR e) false,.fn (.func 372) [.agg [.str a.origin.d,.int .i64 a.origin.g,.str a.target,.int .u64 a.now]] []] (.int .i64):=AO (BB.eq_1 ..) func371
instance ARS {a}:CB vE (Eg N a) 413 (λe=>[.ptr e 0]) (λe=>[.str a.rest,.int .u64 a.size]) (λr=>.int .i64 r.1) (λe r=>[.str r.2.rest,.int .u64 r.2.size]):=Fh (Eg.eq_1 ..) func413 [(4,[],.stop)]
instance AxE {a e}:CF vE (UA N a e) 415 [Gm a,Gm e] .str:=AO (UA.eq_1 ..) func415 [(3,[],.stop),(5,[],.tk 0 4 (.tk 7 2 (.al 4 [(8,2),(2,3)] (.tk 5 2 (.take 9 (.al 10 [] .done))))))]
instance Auc {b d e}:CB vE (JI N b d e) 416 (λa=>[.bool b,.slice 1 (List.map AVal.str d) false,.ptr a 0]) (λa=>[Hd a 274 2 e.addr,.buf 5 e.A true]) (λr=>.tuple []) (λa r=>[Hd a 274 2 r.addr,.buf 5 r.A true]):=Fh (JI.eq_1 ..) func416
instance Aqb {a}:CF vE (O1 N a) 335 [.str a] .bool:=AO (O1.eq_1 ..) func335
instance AsC {a}:CF vE (Qa N a) 277 [Je a] .bool:=AO (Qa.eq_1 ..) func277 [(4,[],.stop)]
instance AVu {a}:CF vE (DZ N a) 249 [.int .u8 a] .bool:=AO (DZ.eq_1 ..) func249 [(1,[],.stop)]
instance AiM {a}:CF vE (Fx N a) 179 [.str a] (λr=>.tuple [.str r.1,.int .i64 r.2]):=AO (Fx.eq_1 ..) func179 [(14,[34],.done)]
instance Abu {a e b d}:CF vE (strings_Replace N a e b d) 253 [.str a,.str e,.str b,.int .i64 d] .str:=AO (strings_Replace.eq_1 ..) func253 [(1,[],.stop),(6,[],.stop),(8,[10],.done)]
instance Azw {a e}:CF vE (MW N a e) 49 [Fy a,.str e] (λr=>.tuple [.str r.1,.bool r.2]):=AO (MW.eq_1 ..) func49
instance Ajt {a}:CF vE (LZ N a) 213 [.int .u8 a] .bool:=AO (LZ.eq_1 ..) func213 [(1,[],.stop)]
instance Axp {a e}:CF vE (AAE N a e) 137 [Je a,.slice 1 (List.map AVal.str e) false] .bool:=AO (AAE.eq_1 ..) func137
instance AwZ {a e}:CF vE (P9 N a e) 420 [.str a,.int .u64 e] (λr=>.tuple [.int .u64 r.1,.int .i64 r.2]):=AO (P9.eq_1 ..) func420
instance AXj {a}:CB vE (O7 N a) 291 (λe=>[.ptr e 0]) (λe=>[.str a.s,.int .i64 a.o]) (λr=>.tuple [.str r.1,.int .i64 r.2.1]) (λe r=>[.str r.2.2.s,.int .i64 r.2.2.o]):=Fh (O7.eq_1 ..) func291 [(3,[],.tk 0 10 .done),(5,[],.tk 0 9 (.al 9 [] .done))]
instance ARN {a}:CB vE (KA N a) 292 (λe=>[.ptr e 0]) (λe=>[.str a.s,.int .i64 a.o]) (λr=>.tuple [.str r.1,.bool r.2.1]) (λe r=>[.str r.2.2.s,.int .i64 r.2.2.o]):=Fh (KA.eq_1 ..) func292 [(3,[],.stop),(12,[],.tk 0 10 (.al 10 [] (.al 11 [] .done)))]
instance Aob {a e}:CF vE (IL N a e) 194 [.str a,.int .u64 e] (λr=>.tuple [.int .u64 r.1,.int .i64 r.2]):=AO (IL.eq_1 ..) func194
def Xq {a0 a1 a2 a3 r} (h:strings_genSplit N a0 a1 a2 a3=some r) (ha:args=[.str a0,.str a1,.int .i64 a2,.int .i64 a3]) (hQ: ∀n',n<=n'->Gl (Q (.slice 1 (List.map AVal.str r) false) ⟨m,n'⟩)):AE vE 255 args ⟨m,n⟩ Q:=by
 rw[strings_genSplit]at h;subst ha;refine AE.give (Ake func255 rfl ntmps255 results255 (.q (.r []) (.q (.q (.r []) (.c (.q (.r []) .z) .z)) (.q (.q (.r []) (.c (.q (.r []) .z) .z)) .z))) (λR hR=>?_));replace h:=ac trivial h;rcases L6 h with h|h;cases h.2;rcases L6 h with h|h;obtain⟨y1,h⟩:=GY h;simp(disch:=omega) only[vm,seval,h.1];refine⟨ZN h.1.1 tD λn2 hn2=>?_⟩;cases h.2;simp(disch:=omega) only[vm,seval,h.1];refine⟨VO (γ:=Unit) h [19,20,21,22,23,24] [3] (λj3 g=>[.int .i64 j3]) (λj3 g=>m) (.q (.r []) (.c (.r []) .z)) ?_ ?_⟩<;>clear h;rintro j3 _ n6 hnn6 _ _ h;refine Cy (.q (.r []) (.q (.r []) (.q (.r []) (.q (.r []) .z)))) ?_;obtain⟨c,h⟩:=Ow h;try simp only[liE,seval]at c
 replace h:=Lp c h;simp(disch:=omega) only[vm,seval,h.1];refine⟨VO (γ:=Unit) h [11,34,35,36,37,38,39,40,41,42,43,44,45,46,47,48,49,50,51,52,53,54,55,56,57] [0,10] (λj9 g=>[.str j9.1,.int .i64 j9.2.1]) (λj9 g=>(n6,List.map AVal.str j9.2.2)::m) .z ?_ ?_⟩<;>clear h;rintro j9 _ n12 hnn12 _ _ h;refine Cy (.q (.r []) (.q (.r []) .z)) ?_;obtain⟨c,h⟩:=Ow h;try simp only[liE,seval]at c
 replace h:=Lp c h;obtain⟨c,h⟩:=Ow h;try simp only[liE,seval]at c
 replace h:=Lp c h;obtain⟨c,h⟩:=Ow h;try simp only[liE,seval]at c
 replace h:=Lp c h;obtain⟨cg,h⟩:=Ow h;obtain⟨H,h⟩:=h;cases h;simp(disch:=omega) only[vm,seval,H];refine⟨(hR _ _ _ _ _ _ (by simp(disch:=omega) only[vm,seval,H];rfl) slr fM ⟨[_],_,_,rfl,AjC (l:=(j9.2.2.set j9.2.1.toNat j9.1)) (by simpa only[b9]using cg),rfl,(hQ _ (by first|omega|(dsimp only;omega))).go⟩).1⟩;intro k10 Jk10 hk10 h;obtain⟨hfk13,h⟩:=Ow h;simp(disch:=omega) only[vm,seval,h.1];refine⟨AmD (σ:=(B8)×(List B8)) (γ:=Unit) 0 (wr .i64 ((if(wr .i64 ((a0.length:Int)+1))<j3 then(wr .i64 ((a0.length:Int)+1))else j3)-1)) hfk13 (λxs i s=>Cg N a0 a1 a2 j3 k10 xs i s.1 s.2) (λi s g=>[.str s.1,.int .i64 i]) (λi s g=>(n6,List.map AVal.str s.2)::m) [11,34,35,36,37,38,39,40,41,42,43,44,45,46,47,48,49,50,51,52,53,54,55,56,57] [0,10] (a0,(List.replicate (if(wr .i64 ((a0.length:Int)+1))<j3 then(wr .i64 ((a0.length:Int)+1))else j3).toNat ([]:B8))) () h tD tD ?_ ?_⟩<;>clear h;rintro s10 ⟨s0,bn6⟩ _ nL0_1 hnL0_1 _ h;change _/\Cg N a0 a1 a2 j3 k10 0 s10 s0 bn6=_ at h;rw[Cg]at h;refine Cy (.q (.q (.r []) (.c .z .z)) (.q (.r []) (.q (.q (.r []) (.c .z .z)) (.q (.r []) (.q (.r []) (.r [])))))) ?_;exact tJ (hk10 (s0,s10,bn6) ());rintro xsk13 s10 ⟨s0,bn6⟩ _ nL0_1 hnL0_1 _ h Jk13 hk13;change _/\Cg N a0 a1 a2 j3 k10 (xsk13+1) s10 s0 bn6=_ at h;rw[Cg]at h;refine Cy (.q (.q (.r []) (.c .z .z)) (.q (.r []) (.q (.q (.r []) (.c .z .z)) (.q (.r []) (.q (.r []) (.r [])))))) ?_;obtain⟨y14,h⟩:=GY h;simp(disch:=omega) only[vm,seval,h.1];refine⟨AB3 h.1.1 tD λn15 hn15=>?_⟩;rcases L6 h with h|h;exact tJ (hk10 (s0,s10,bn6) ());obtain⟨x16,h⟩:=GY h;obtain⟨c,h⟩:=Ow h;try simp only[liE,seval]at c
 replace h:=Lp c h;obtain⟨c,h⟩:=Ow h;try simp only[liE,seval]at c
 replace h:=Lp c h;obtain⟨x17,h⟩:=GY h;exact tJ (hk13 (x17,(bn6.set s10.toNat x16)) ());intro k4 Jk4 hk4 h;rcases L6 h with h|h;obtain⟨y7,h⟩:=GY h;simp(disch:=omega) only[vm,seval,h.1];refine⟨AB1 h.1.1 tD λn8 hn8=>?_⟩;exact tJ (hk4 (wr .i64 (y7+1)) ());exact tJ (hk4 a3 ())
instance AaC {a e b d}:CF vE (strings_genSplit N a e b d) 255 [.str a,.str e,.int .i64 b,.int .i64 d] (λr=>.slice 1 (List.map AVal.str r) false):=⟨λh hQ=>Xq h rfl hQ⟩
instance Axi {a}:CF vE (Wp N a) 369 [.str a] .bool:=AO (Wp.eq_1 ..) func369
instance A0L {a}:CF vE (Zc N a) 357 [.str a] (λr=>.tuple [.str r.1,.str r.2.1,.int .i64 r.2.2]):=AO (Zc.eq_1 ..) func357 [(3,[],.stop)]
instance Aan {a e}:CF vE (strings_IndexAny N a e) 401 [.str a,.str e] (.int .i64):=AO (strings_IndexAny.eq_1 ..) func401
end Go.Proofs.YtalbfkgififmfaaGreatDoor
