import Derived.Test.YtalbfkgififmfaaGreatDoorW0
import Derived.Test.YtalbfkgififmfaaGreatDoorW2
set_option linter.unusedVariables false
set_option linter.unusedSimpArgs false
set_option maxHeartbeats 4000000
set_option maxRecDepth 100000
set_option linter.defProp false
namespace Go.Proofs.YtalbfkgififmfaaGreatDoor
open Go.VM Tryz
attribute [local irreducible] AA grd letL
variable{N n:Nat}{m:MS}{Q:PQ}{args:List AVal}
abbrev Sl {b k e a}:=lf (λk (s:B8×Int)=>Ay N b k s.1 s.2) k (e,a) [(10,23)] [] (λs=>[]) (λs=>Ay.eq_1 ..) (λk s=>Ay.eq_2 ..) (Ms:=λs=>[.s ([.str s.1,.int .i64 s.2])]) (X:=Ay N b k e a)
abbrev Vz {e b k a}:=lc (λk i (s:Unit)=>CE N e b k i) k a () [(10,30)] [] (λi s=>CE.eq_1 ..) (λk i s=>CE.eq_2 ..) (V:=λi s=>[]) (Ms:=λi s=>[.p [.k,.v (.int .i64 i)]])
abbrev Vb {e b k a}:=lc (λk i (s:Unit)=>CJ N e b k i) k a () [(10,30)] [] (λi s=>CJ.eq_1 ..) (λk i s=>CJ.eq_2 ..) (V:=λi s=>[]) (Ms:=λi s=>[.p [.k,.v (.int .i64 i)]])
abbrev XN {e b k a}:=lc (λk i (s:Unit)=>Cb N e b k i) k a () [(10,30)] [] (λi s=>Cb.eq_1 ..) (λk i s=>Cb.eq_2 ..) (V:=λi s=>[]) (Ms:=λi s=>[.p [.k,.v (.int .i64 i)]])
abbrev Z8 {e a}:=lq (λa i (s:Unit)=>BU N e a) a () [(4,2),(9,9)] [8] (λi s=>BU.eq_1 ..) (λx a i s=>BU.eq_2 ..)
abbrev AjK {e a}:=lq (λa i (s:Unit)=>Ih N e a) a () [(2,2),(27,21)] [26] (λi s=>Ih.eq_1 ..) (λx a i s=>Ih.eq_2 ..)
abbrev Ais {e b a d}:=lr (λa i (s:Unit)=>Ha N e b a i) a d () [(4,1),(6,12)] [5] (λi s=>Ha.eq_1 ..) (λx a i s=>Ha.eq_2 ..)
abbrev Ae9 {e a}:=lq (λa i (s:Unit)=>G9 N e a) a () [(2,1),(4,24)] [3] (λi s=>G9.eq_1 ..) (λx a i s=>G9.eq_2 ..)
abbrev AdK {e a}:=lq (λa i (s:Unit)=>GJ N e a) a () [(2,1),(4,11)] [3] (λi s=>GJ.eq_1 ..) (λx a i s=>GJ.eq_2 ..)
abbrev Abq {e a b}:=lr (λa i (s:Unit)=>EN N e a i) a b () [(2,1),(4,29)] [3] (λi s=>EN.eq_1 ..) (λx a i s=>EN.eq_2 ..)
abbrev AdH {e a}:=lq (λa i (s:Unit)=>GV N e a) a () [(2,1),(4,23)] [3] (λi s=>GV.eq_1 ..) (λx a i s=>GV.eq_2 ..)
attribute [instance] Sl Vz Vb XN Z8 AjK Ais Ae9 AdK Abq AdH
instance AuT {a}:CF vE (X9 N a) 193 [Kw a] .str:=AO (X9.eq_1 ..) func193 [(1,[],.tk 0 2 (.tk 3 2 (.al 2 [(4,2),(0,1)] (.take 5 (.al 6 [] .done)))))]
instance Ar8 {a e}:CF vE (Ip N a e) 208 [.str a,.str e] .bool:=AO (Ip.eq_1 ..) func208
instance TQ {a}:CB vE (DF N a) 212 (λe=>[.ptr e 0,.fn (.func 214) [] []]) (λe=>[.str a.s,.int .i64 a.o]) (λr=>.str r.1) (λe r=>[.str r.2.s,.int .i64 r.2.o]):=Fh (DF.eq_1 ..) func212 [(2,[],.take 0 (.al 1 [] (.tk 2 12 (.al 14 [(12,8),(2,1),(0,1)] (.take 15 .done))))),(4,[],.tk 0 10 (.al 10 [] .done))]
instance ARV {a b}:CB vE (Dt N a b) 134 (λe=>[.ptr e 0,.int .u8 b]) (λe=>[.str a.s,.int .i64 a.o]) (λr=>.bool r.1) (λe r=>[.str r.2.s,.int .i64 r.2.o]):=Fh (Dt.eq_1 ..) func134 [(1,[],.take 0 (.al 1 [] (.tk 2 13 .done)))]
def ZR {a0 a1 r} (h:N8 N a0 a1=some r) (ha:args=[.str a0,.int .i64 a1]) (hQ: ∀n',n<=n'->Gl (Q (.tuple [.int .i64 r.1,.int .i64 r.2.1,.int .i64 r.2.2]) ⟨m,n'⟩)):AE vE 388 args ⟨m,n⟩ Q:=by rw[N8]at h;subst ha;refine ent hQ func388 rfl ntmps388 results388 (.q (.r []) (.q .z .z)) λR hR=>?_;replace h:=ac trivial h;simp(disch:=omega) only[vm,seval,h.1];refine⟨VO (γ:=Unit) h [11,12,13,14,15,16,17] [18] (λj1 g=>[.bool j1]) (λj1 g=>m) (.r []) ?_ ?_⟩<;>clear h;rintro j1 _ n4 hnn4 _ _ h;refine Cy (.c (.q (.r []) .z) .z) ?_;rcases L6 h with h|h;exact tR;simp(disch:=omega) only[vm,seval,h.1];refine⟨VO (γ:=Unit) h [4,5,6,7,8,9,10,19,20,21,22,23,24,25,26,27,28,29,30,31,32,33,34,35,36,37,38,39,40,41,42,43,44,45,46,47,48,49,50,51,52,53,54,55,56,57,58,59,60,61,62,63,64,65,66,67,68,69,70,71,72,73,74,75,76,77,78,79,80,81,82,83] [] (λj5 g=>[]) (λj5 g=>m) (.q (.r []) .z) ?_ ?_⟩<;>clear h;rintro j5 _ n8 hnn8 _ _ h;refine Cy (.q (.r []) .z) ?_;exact tR;intro k6 Jk6 hk6 h;obtain⟨hfk9,h⟩:=Ow h;simp(disch:=omega) only[vm,seval,h.1];refine⟨AmD (σ:=Unit) (γ:=Unit) 0 4 hfk9 (λxs i s=>FD N a0 a1 k6 xs i) (λi s g=>[.int .i64 i]) (λi s g=>m) [4,5,6,7,8,9,10,21,22,23,24,25,26,27,28,29,30,31,32,33,34,35,36,37,38,39,40,41,42,43,44,45,46,47,48,49,50,51,52,53,54,55,56,57,58,59,60,61,62,63,64,65,66,67,68,69,70,71,72,73,74,75,76,77,78,79,80,81,82,83] [20] () () h tD tD ?_ ?_⟩<;>clear h;rintro s20 _ _ nL0_1 hnL0_1 _ h;change _/\FD N a0 a1 k6 0 s20=_ at h;rw[FD]at h;refine Cy (.q (.r []) (.q (.c .z .z) (.q (.q (.r []) (.q (.q .z (.c .z .z)) (.q .z (.q (.q (.r []) (.c .z .z)) .z)))) (.r [])))) ?_;exact tJ (hk6 () ());rintro xsk9 s20 _ _ nL0_1 hnL0_1 _ h Jk9 hk9;change _/\FD N a0 a1 k6 (xsk9+1) s20=_ at h;rw[FD]at h;refine Cy (.q (.r []) (.q (.c .z .z) (.q (.q (.r []) (.q (.q .z (.c .z .z)) (.q .z (.q (.q (.r []) (.c .z .z)) .z)))) (.r [])))) ?_;obtain⟨x10,h⟩:=GY h;replace h:=Lp (VA (k:=.i64) h.1.1) h;obtain⟨x11,h⟩:=GY h;simp(disch:=omega) only[vm,seval,h.1];refine⟨RV [] (.take 0 (.take 1 (.take 2 (.take 3 (.take 4 (.take 5 (.take 6 (.take 7 (.take 8 (.done)))))))))) Nr (by kernel_rfl) ?_⟩;rcases L6 h with h|h;exact tJ (hk9 () ());simp(disch:=omega) only[vm,seval,h.1];refine⟨RV [] (.take 0 (.take 1 (.take 2 (.take 3 (.take 4 (.take 5 (.take 6 (.alt 7 [] (.done) (.stop))))))))) Nr (by kernel_rfl) ?_⟩;rcases L6 h with h|h;exact tJ (hk6 () ());simp(disch:=omega) only[vm,seval,h.1];refine⟨VO (γ:=Unit) h [4,5,6,10,47,48,49,50,51,52,53,54,55,56,57,58,59,60,61,62,63,64,65,66,67,68] [9] (λj12 g=>[.int .i64 j12]) (λj12 g=>(nL0_1,[.int .u8 x10.mark,.int .u8 x10.mask,.int .i64 x10.least])::m) (.q (.r []) .z) ?_ ?_⟩<;>clear h;rintro j12 _ n15 hnn15 _ _ h;refine Cy (.q .z (.q (.r []) .z)) ?_;simp(disch:=omega) only[vm,seval,h.1];refine⟨VO (γ:=Unit) h [69,70,71,72,73,74,75,76] [77] (λj18 g=>[.bool j18]) (λj18 g=>(nL0_1,[.int .u8 x10.mark,.int .u8 x10.mask,.int .i64 x10.least])::m) (.r []) ?_ ?_⟩<;>clear h;rintro j18 _ n21 hnn21 _ _ h;refine Cy (.c .z .z) ?_;rcases L6 h with h|h;exact tJ (hk6 () ());exact tR;intro k19 Jk19 hk19 h;rcases L6 h with h|h;exact tJ (hk19 true ());obtain⟨y22,h⟩:=GY h;simp(disch:=omega) only[vm,seval,h.1];refine⟨AAS h.1.1 tD λn23 hn23=>?_⟩;exact tJ (hk19 (!y22) ());intro k13 Jk13 hk13 h;simp(disch:=omega) only[vm,seval,h.1];refine⟨AnC (σ:=Int×Int) (γ:=Unit) (λk s=>JE N a0 a1 s20 k13 k s.1 s.2) (λs g=>[.int .i64 s.1,.int .i64 s.2]) (λs g=>(nL0_1,[.int .u8 x10.mark,.int .u8 x10.mask,.int .i64 x10.least])::m) [4,5,6,47,48,49,50,51,52,53,54,55,56,57,58,59,60,61,62,63,64,65,66,67,68] [9,10] ((wr .i64 (Q3 .u8 (AJ x11) x10.mask)),1) () h (λ_=>rfl) tD tD ?_⟩;clear h;rintro k16 ⟨s9,s10⟩ _ nL1_2 hnL1_2 _ h Jk16 hk16;change _/\JE N a0 a1 s20 k13 (k16+1) s9 s10=_ at h;rw[JE]at h;refine Cy (.q (.q (.r []) (.c .z .z)) (.q (.q (.q (.r []) (.c (.q (.r []) .z) .z)) (.r [])) (.r []))) ?_;rcases L6 h with h|h;obtain⟨x17,h⟩:=GY h;rcases L6 h with h|h;exact tR;exact tJ (hk16 ((Qw .i64 (AIJ .i64 s9 6) (wr .i64 (Q3 .u8 (AJ x17) 63))),(wr .i64 (s10+1))) ());exact tJ (hk13 s9 ());intro k2 Jk2 hk2 h;rcases L6 h with h|h;exact tJ (hk2 true ());exact tJ (hk2 (decide (a1>=(a0.length:Int))) ())
instance Ac0 {a e}:CF vE (N8 N a e) 388 [.str a,.int .i64 e] (λr=>.tuple [.int .i64 r.1,.int .i64 r.2.1,.int .i64 r.2.2]):=⟨λh hQ=>ZR h rfl hQ⟩
instance AoI {a}:CF vE (NC N a) 331 [.int .u8 a] (.int .u64):=AO (NC.eq_1 ..) func331
instance XW {a}:CB vE (Fb N a) 217 (λe=>[.ptr e 0,.fn (.func 177) [] []]) (λe=>[.str a.s,.int .i64 a.o]) (λr=>.str r.1) (λe r=>[.str r.2.s,.int .i64 r.2.o]):=Fh (Fb.eq_1 ..) func217 [(2,[],.tk 0 21 (.al 21 [(19,8),(9,10)] (.take 22 .done))),(4,[],.tk 0 10 (.al 10 [] .done))]
instance XQ {a}:CB vE (Fa N a) 217 (λe=>[.ptr e 0,.fn (.func 293) [] []]) (λe=>[.str a.s,.int .i64 a.o]) (λr=>.str r.1) (λe r=>[.str r.2.s,.int .i64 r.2.o]):=Fh (Fa.eq_1 ..) func217 [(2,[],.tk 0 21 (.al 21 [(19,8),(9,10)] (.take 22 .done))),(4,[],.tk 0 10 (.al 10 [] .done))]
instance YW {a}:CB vE (Ga N a) 217 (λe=>[.ptr e 0,.fn (.func 218) [] []]) (λe=>[.str a.s,.int .i64 a.o]) (λr=>.str r.1) (λe r=>[.str r.2.s,.int .i64 r.2.o]):=Fh (Ga.eq_1 ..) func217 [(2,[],.tk 0 21 (.al 21 [(19,8),(9,10)] (.take 22 .done))),(4,[],.tk 0 10 (.al 10 [] .done))]
instance AYT {a e}:CF vE (M9 N a e) 352 [.str a,.str e] .str:=AO (M9.eq_1 ..) func352 [(1,[],.stop),(3,[],.stop)]
instance AXn {a e}:CF vE (PT N a e) 353 [.str a,.str e] .str:=AO (PT.eq_1 ..) func353 [(1,[],.stop),(3,[],.stop)]
instance ABn {a}:CF vE (F4 N a) 429 [.str a,.fn (.func 177) [] []] .bool:=AO (F4.eq_1 ..) func429
instance At6 {a}:CF vE (R8 N a) 407 [.str a] .bool:=AO (R8.eq_1 ..) func407 [(1,[],.stop),(6,[],.stop)]
instance Ase {a}:CF vE (Qd N a) 257 [EJ a] .str:=AO (Qd.eq_1 ..) func257 [(4,[],.tk 0 7 (.al 7 [(5,6)] (.take 8 (.al 9 [] .done)))),(5,[],.tk 0 6 (.al 6 [(4,5)] (.take 7 (.al 8 [] .done))))]
instance YY {a e}:CF vE (D9 N a e) 427 [.str a,.str e] .str:=AO (D9.eq_1 ..) func427
instance UN {a e}:CF vE (strings_LastIndexByte N a e) 405 [.str a,.int .u8 e] (.int .i64):=AO (strings_LastIndexByte.eq_1 ..) func405
def Tq {a e r} (h:strings_LastIndexByte N a e=some r) (ha:args=[.str a,.int .u8 e]) (hQ: ∀n',n<=n'->Gl (Q (.int .i64 r) ⟨m,n'⟩)):AE vE 405 args ⟨m,n⟩ Q:=ha▸UN.go h hQ
instance Ar9 {a e}:CF vE (BO N a e) 55 [.str a,.str e] (.int .i64):=AO (BO.eq_1 ..) func55
instance Ara {a e}:CF vE (Ie N a e) 141 [.str a,.str e] .bool:=AO (Ie.eq_1 ..) func141
instance ATv {a}:CF vE (DX N a) 144 [.int .u8 a] .bool:=AO (DX.eq_1 ..) func144 [(1,[],.stop)]
instance AsR {a}:CF vE (Ju N a) 228 [.int .u8 a] .bool:=AO (Ju.eq_1 ..) func228 [(1,[],.stop)]
instance AsS {a}:CF vE (Qs N a) 299 [.str a] .bool:=AO (Qs.eq_1 ..) func299 [(4,[],.stop),(6,[],.stop)]
instance AkO {a}:CF vE (IK N a) 300 [.str a] .bool:=AO (IK.eq_1 ..) func300
instance Avd {a}:CF vE (R9 N a) 225 [.int .u8 a] .bool:=AO (R9.eq_1 ..) func225 [(1,[],.stop)]
instance Ajj {a}:CF vE (Bp N a) 155 [.int .i64 a] .str:=AO (Bp.eq_1 ..) func155
instance ApC {a}:CF vE (NK N a) 235 [.str a] .bool:=AO (NK.eq_1 ..) func235 [(4,[],.stop)]
instance AnJ {a}:CF vE (Ph N a) 65 [.str a] .bool:=AO (Ph.eq_1 ..) func65 [(4,[],.stop)]
instance ArZ {a}:CF vE (Oh N a) 68 [.int .u8 a] .bool:=AO (Oh.eq_1 ..) func68 [(1,[],.stop)]
instance Aj0 {e b}:CB vE (BZ N e b) 30 (λa=>[.ptr a 0,.slice 1 (List.map AVal.str b) false]) (λa=>[.slice 1 (List.map (AVal.int .u8) e.l) false]) (λr=>.str r.1) (λa r=>[.slice 1 (List.map (AVal.int .u8) r.2.l) false]):=Fh (BZ.eq_1 ..) func30
end Go.Proofs.YtalbfkgififmfaaGreatDoor
