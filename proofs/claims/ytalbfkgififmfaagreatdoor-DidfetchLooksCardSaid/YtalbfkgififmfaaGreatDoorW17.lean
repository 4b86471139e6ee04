import Derived.Test.YtalbfkgififmfaaGreatDoorW15
set_option linter.unusedVariables false
set_option linter.unusedSimpArgs false
set_option maxHeartbeats 4000000
set_option maxRecDepth 100000
set_option linter.defProp false
namespace Go.Proofs.YtalbfkgififmfaaGreatDoor
open Go.VM Tryz
attribute [local irreducible] AA grd letL
variable{N n:Nat}{m:MS}{Q:PQ}{args:List AVal}
abbrev AjS {e a b}:=lq (λa i (s:Bool)=>IU N e a s) a b [(2,1),(4,1),(8,27)] [3,7] (λi s=>IU.eq_1 ..) (λx a i s=>IU.eq_2 ..) (V:=λi s=>[.bool s,.int .i64 i])
abbrev AWh {a e b k d f}:=lf (λk (s:(List Int)×Int)=>Cs N a e b k s.1 s.2) k (d,f) [(4,2),(8,2),(13,49)] [6,7] (λs=>[.slice 1 (List.map (AVal.int .u8) s.1) true,.int .i64 s.2]) (λs=>Cs.eq_1 ..) (λk s=>Cs.eq_2 ..) (X:=Cs N a e b k d f)
abbrev Ac7 {a e k b d}:=lf (λk (s:(List Int)×Int)=>E9 N a e k s.1 s.2) k (b,d) [(2,2),(6,3),(12,26)] [4,5] (λs=>[.slice 1 (List.map (AVal.int .u8) s.1) true,.int .i64 s.2]) (λs=>E9.eq_1 ..) (λk s=>E9.eq_2 ..) (X:=E9 N a e k b d)
abbrev Ab5 {a k e}:=lf (λk (s:B8)=>K8 N a k s) k e [(54,10)] [7] (λs=>[.str s]) (λs=>K8.eq_1 ..) (λk s=>K8.eq_2 ..)
abbrev Ab4 {a k e b}:=lf (λk (s:Int×B8)=>JO N a k s.1 s.2) k (e,b) [(66,13)] [6,7] (λs=>[.int .i64 s.1,.str s.2]) (λs=>JO.eq_1 ..) (λk s=>JO.eq_2 ..) (X:=JO N a k e b)
abbrev AgR {a e k b d}:=lf (λk (s:Int×Int)=>KU N a e k s.1 s.2) k (b,d) [(2,1),(5,19)] [3,4] (λs=>[.int .i64 s.1,.int .i64 s.2]) (λs=>KU.eq_1 ..) (λk s=>KU.eq_2 ..) (X:=KU N a e k b d)
abbrev An2 {b a e d}:=lr (λa i (s:B8)=>Gv N b a i s) a e d [(8,2),(16,12)] [7,15] (λi s=>Gv.eq_1 ..) (λx a i s=>Gv.eq_2 ..) (V:=λi s=>[.str s,.int .i64 i])
abbrev AjU {a e k b d}:=lf (λk (s:B8×Int)=>Lg N a e k s.1 s.2) k (b,d) [(4,3),(9,6),(17,53)] [7,8] (λs=>[.str s.1,.int .i64 s.2]) (λs=>Lg.eq_1 ..) (λk s=>Lg.eq_2 ..) (X:=Lg N a e k b d)
attribute [instance] AjS AWh Ac7 Ab5 Ab4 AgR An2 AjU
instance Atp {a}:CF vE (Rp N a) 359 [.str a] .bool:=AO (Rp.eq_1 ..) func359 [(5,[],.stop),(9,[],.stop)]
def AA1 {a0 r} (h:Dj N a0=some r) (ha:args=[.str a0]) (hQ: ∀n',n<=n'->Gl (Q (.str r) ⟨m,n'⟩)):AE vE 362 args ⟨m,n⟩ Q:=by
 rw[Dj]at h
 subst ha
 refine ent hQ func362 rfl ntmps362 results362 (.q (.r []) (.q (.r [7]) (.q .z (.q (.r []) .z)))) λR hR=>?_
 replace h:=ac trivial h
 obtain⟨c,h⟩:=Ow h
 try simp only[liE,seval]at c
 replace h:=Lp c h
 simp(disch:=omega) only[vm,seval,h.1,CL,Bv,H9,Az,BK,A7]
 refine⟨AnC (σ:=(B8)×Nat×(List Int)) (γ:=Nat) (λk s=>Aw N k s.1 s.2.1 s.2.2) (λs g=>[.str s.1,.gsl 1 g s.2.1]) (λs g=>(g,List.map (AVal.int .u8) s.2.2)::m) [4,8,9,10,11,12,13,14,15,16,17,18,19,20,21,22,23,24,25,26,27,28,29,30,31,32,33,34,35,36,37,38,39,40,41,42,43,44,45,46,47,48,49,50,51,52,53,54,55,56,57,58,59,60,61,62,63,64,65,66,67] [0,3] (a0,(0:Int).toNat,(List.replicate (0:Int).toNat 0)) n h (λ_=>rfl) (by first|(simp(disch:=omega) only[vm,seval,h.1,CL,Bv,H9,Az,BK,A7];done)|rfl) (by first|(simp(disch:=omega) only[vm,seval,h.1,CL,Bv,H9,Az,BK,A7];done)|rfl) ?_⟩
 clear h
 rintro k1 ⟨s0,s3_len,bq3⟩ q3 nL0_1 hnL0_1 _ h Jk1 hk1
 change _/\Aw N (k1+1) s0 s3_len bq3=_ at h
 rw[Aw]at h
 refine Cy (.q (.q (.r []) (.c .z .z)) (.q (.r []) (.c (.r []) (.q (.r []) (.c (.r []) (.q (.r []) (.c (.r []) (.q (.r []) (.c (.r []) .z))))))))) ?_
 rcases L6 h with h|h
 obtain⟨c,h⟩:=Ow h
 try simp only[liE,seval]at c
 replace h:=Lp c h
 obtain⟨H,h⟩:=h
 cases h
 simp(disch:=omega) only[vm,seval,H,CL,Bv,H9,Az,BK,A7]
 refine⟨(hR _ _ _ _ _ _ (by simp(disch:=omega) only[vm,seval,H,CL,Bv,H9,Az,BK,A7];rfl) (.cons _ slr) ?_ fM ?_).1⟩<;>first|(simp(disch:=omega) only[vm,seval,H,CL,Bv,H9,Az,BK,A7];done)|rfl
 obtain⟨y2,h⟩:=GY h
 simp(disch:=omega) only[vm,seval,h.1,CL,Bv,H9,Az,BK,A7]
 refine⟨KC h.1.1 (by first|(simp(disch:=omega) only[vm,seval,h.1,CL,Bv,H9,Az,BK,A7];done)|rfl) λn3 hn3=>?_⟩
 rcases L6 h with h|h
 obtain⟨x4,h⟩:=GY h
 simp(disch:=omega) only[vm,seval,h.1,CL,Bv,H9,Az,BK,A7]
 refine⟨hk1 (x4,s3_len,bq3) q3 _ _ _ _ h.2 slr ?_ ?_ ?_ fM⟩<;>first|(simp(disch:=omega) only[vm,seval,h.1,CL,Bv,H9,Az,BK,A7];done)|rfl
 obtain⟨y5,h⟩:=GY h
 simp(disch:=omega) only[vm,seval,h.1,CL,Bv,H9,Az,BK,A7]
 refine⟨KC h.1.1 (by first|(simp(disch:=omega) only[vm,seval,h.1,CL,Bv,H9,Az,BK,A7];done)|rfl) λn6 hn6=>?_⟩
 rcases L6 h with h|h
 obtain⟨x7,h⟩:=GY h
 simp(disch:=omega) only[vm,seval,h.1,CL,Bv,H9,Az,BK,A7]
 refine⟨hk1 (x7,s3_len,bq3) q3 _ _ _ _ h.2 slr ?_ ?_ ?_ fM⟩<;>first|(simp(disch:=omega) only[vm,seval,h.1,CL,Bv,H9,Az,BK,A7];done)|rfl
 obtain⟨y8,h⟩:=GY h
 simp(disch:=omega) only[vm,seval,h.1,CL,Bv,H9,Az,BK,A7]
 refine⟨KC h.1.1 (by first|(simp(disch:=omega) only[vm,seval,h.1,CL,Bv,H9,Az,BK,A7];done)|rfl) λn9 hn9=>?_⟩
 rcases L6 h with h|h
 obtain⟨x10,h⟩:=GY h
 simp(disch:=omega) only[vm,seval,h.1,CL,Bv,H9,Az,BK,A7]
 refine⟨hk1 (x10,s3_len,bq3) q3 _ _ _ _ h.2 slr ?_ ?_ ?_ fM⟩<;>first|(simp(disch:=omega) only[vm,seval,h.1,CL,Bv,H9,Az,BK,A7];done)|rfl
 rcases L6 h with h|h
 simp(disch:=omega) only[vm,seval,h.1,CL,Bv,H9,Az,BK,A7]
 refine⟨hk1 (([47]:B8),s3_len,bq3) q3 _ _ _ _ h.2 slr ?_ ?_ ?_ fM⟩<;>first|(simp(disch:=omega) only[vm,seval,h.1,CL,Bv,H9,Az,BK,A7];done)|rfl
 simp(disch:=omega) only[vm,seval,h.1,CL,Bv,H9,Az,BK,A7]
 refine⟨VO (γ:=Unit) h [45,46,47,48,49,50] [44] (λj11 g=>[.bool j11]) (λj11 g=>(q3,List.map (AVal.int .u8) bq3)::m) (.r []) ?_ ?_⟩<;>clear h
 rintro j11 _ n14 hnn14 _ _ h
 refine Cy (.c (.q (.r []) (.r [])) .z) ?_
 rcases L6 h with h|h
 obtain⟨x17,h⟩:=GY h
 obtain⟨y18,h⟩:=GY h
 simp(disch:=omega) only[vm,seval,h.1,CL,Bv,H9,Az,BK,A7]
 refine⟨Vj h.1.1 (by first|(simp(disch:=omega) only[vm,seval,h.1,CL,Bv,H9,Az,BK,A7];done)|rfl) λn19 hn19=>?_⟩
 obtain⟨c,h⟩:=Ow h
 try simp only[liE,seval]at c
 replace h:=Lp c h
 obtain⟨c,h⟩:=Ow h
 try simp only[liE,seval]at c
 replace h:=Lp c h
 obtain⟨y20,h⟩:=GY h
 simp(disch:=omega) only[vm,seval,h.1,CL,Bv,H9,Az,BK,A7]
 refine⟨Tq h.1.1 (by first|(simp(disch:=omega) only[vm,seval,h.1,CL,Bv,H9,Az,BK,A7];done)|rfl) λn21 hn21=>?_⟩
 obtain⟨c,h⟩:=Ow h
 try simp only[liE,seval]at c
 replace h:=Lp c h
 simp(disch:=omega) only[vm,seval,h.1,CL,Bv,H9,Az,BK,A7]
 refine⟨hk1 ((([47]:B8)++y18),(if y20>0 then y20 else 0).toNat,bq3) q3 _ _ _ _ h.2 slr ?_ ?_ ?_ fM⟩<;>first|(simp(disch:=omega) only[vm,seval,h.1,CL,Bv,H9,Az,BK,A7];done)|rfl
 simp(disch:=omega) only[vm,seval,h.1,CL,Bv,H9,Az,BK,A7]
 refine⟨VO (γ:=Unit) h [62,63,64,65,66,67] [61] (λj22 g=>[.bool j22]) (λj22 g=>(q3,List.map (AVal.int .u8) bq3)::m) (.r []) ?_ ?_⟩<;>clear h
 rintro j22 _ n25 hnn25 _ _ h
 refine Cy (.c (.r []) (.q (.r []) .z)) ?_
 rcases L6 h with h|h
 simp(disch:=omega) only[vm,seval,h.1,CL,Bv,H9,Az,BK,A7]
 refine⟨hk1 ([],s3_len,bq3) q3 _ _ _ _ h.2 slr ?_ ?_ ?_ fM⟩<;>first|(simp(disch:=omega) only[vm,seval,h.1,CL,Bv,H9,Az,BK,A7];done)|rfl
 obtain⟨x26,h⟩:=GY h
 obtain⟨y27,h⟩:=GY h
 simp(disch:=omega) only[vm,seval,h.1,CL,Bv,H9,Az,BK,A7]
 refine⟨XM h.1.1 (by first|(simp(disch:=omega) only[vm,seval,h.1,CL,Bv,H9,Az,BK,A7];done)|rfl) λn28 hn28=>?_⟩
 simp(disch:=omega) only[vm,seval,h.1,CL,Bv,H9,Az,BK,A7]
 refine⟨VO (γ:=Unit) h [14,15,16,17] [4] (λj29 g=>[.int .i64 j29]) (λj29 g=>(q3,List.map (AVal.int .u8) bq3)::m) (.q (.r []) (.c (.r []) .z)) ?_ ?_⟩<;>clear h
 rintro j29 _ n32 hnn32 _ _ h
 refine Cy (.q (.r [18]) (.r [])) ?_
 obtain⟨x33,h⟩:=GY h
 obtain⟨c,h⟩:=Ow h
 try simp only[liE,seval]at c
 replace h:=Lp c h
 simp(disch:=omega) only[vm,seval,h.1,CL,Bv,H9,Az,BK,A7]
 refine⟨AwY λi34 hi34=>Gl.go ?_⟩
 obtain⟨x35,h⟩:=GY h
 simp(disch:=omega) only[vm,seval,h.1,CL,Bv,H9,Az,BK,A7]
 refine⟨hk1 (x35,(s3_len+x33.length),(List.take s3_len bq3++List.map AJ x33)) i34 _ _ _ _ h.2 slr ?_ ?_ ?_ fM⟩<;>first|(simp(disch:=omega) only[vm,seval,h.1,CL,Bv,H9,Az,BK,A7];done)|rfl
 intro k30 Jk30 hk30 h
 rcases L6 h with h|h
 simp(disch:=omega) only[vm,seval,h.1,CL,Bv,H9,Az,BK,A7]
 refine⟨hk30 (s0.length:Int) () _ _ _ _ h.2 slr ?_ ?_ ?_ fM⟩<;>first|(simp(disch:=omega) only[vm,seval,h.1,CL,Bv,H9,Az,BK,A7];done)|rfl
 simp(disch:=omega) only[vm,seval,h.1,CL,Bv,H9,Az,BK,A7]
 refine⟨hk30 (wr .i64 (1+y27)) () _ _ _ _ h.2 slr ?_ ?_ ?_ fM⟩<;>first|(simp(disch:=omega) only[vm,seval,h.1,CL,Bv,H9,Az,BK,A7];done)|rfl
 intro k23 Jk23 hk23 h
 rcases L6 h with h|h
 simp(disch:=omega) only[vm,seval,h.1,CL,Bv,H9,Az,BK,A7]
 refine⟨hk23 true () _ _ _ _ h.2 slr ?_ ?_ ?_ fM⟩<;>first|(simp(disch:=omega) only[vm,seval,h.1,CL,Bv,H9,Az,BK,A7];done)|rfl
 simp(disch:=omega) only[vm,seval,h.1,CL,Bv,H9,Az,BK,A7]
 refine⟨hk23 (s0==([46,46]:B8)) () _ _ _ _ h.2 slr ?_ ?_ ?_ fM⟩<;>first|(simp(disch:=omega) only[vm,seval,h.1,CL,Bv,H9,Az,BK,A7];done)|rfl
 intro k12 Jk12 hk12 h
 obtain⟨y15,h⟩:=GY h
 simp(disch:=omega) only[vm,seval,h.1,CL,Bv,H9,Az,BK,A7]
 refine⟨KC h.1.1 (by first|(simp(disch:=omega) only[vm,seval,h.1,CL,Bv,H9,Az,BK,A7];done)|rfl) λn16 hn16=>?_⟩
 rcases L6 h with h|h
 simp(disch:=omega) only[vm,seval,h.1,CL,Bv,H9,Az,BK,A7]
 refine⟨hk12 true () _ _ _ _ h.2 slr ?_ ?_ ?_ fM⟩<;>first|(simp(disch:=omega) only[vm,seval,h.1,CL,Bv,H9,Az,BK,A7];done)|rfl
 simp(disch:=omega) only[vm,seval,h.1,CL,Bv,H9,Az,BK,A7]
 refine⟨hk12 (s0==([47,46,46]:B8)) () _ _ _ _ h.2 slr ?_ ?_ ?_ fM⟩<;>first|(simp(disch:=omega) only[vm,seval,h.1,CL,Bv,H9,Az,BK,A7];done)|rfl
instance AfJ {a}:CF vE (Dj N a) 362 [.str a] .str:=⟨λh hQ=>AA1 h rfl hQ⟩
instance Ac5 {a e}:CF vE (Dm N a e) 142 [.str a,.str e] (λr=>.tuple [.str r.1,.int .i64 r.2]):=AO (Dm.eq_1 ..) func142 [(8,[],.stop),(10,[36],.done),(15,[52],.done),(16,[56],.done)]
instance AnO {a e}:CF vE (M0 N a e) 226 [.str a,.int .u64 e] (λr=>.tuple [.int .u64 r.1,.int .i64 r.2]):=AO (M0.eq_1 ..) func226 [(2,[],.stop)]
instance AkL {a}:CF vE (G5 N a) 67 [.str a] (λr=>.tuple [.str r.1,.int .i64 r.2]):=AO (G5.eq_1 ..) func67 [(13,[34],.done)]
instance AkK {a}:CF vE (O4 N a) 60 [R7 a] .str:=AO (O4.eq_1 ..) func60 [(1,[],.tk 0 2 (.tk 5 2 (.al 2 [(6,2),(0,1)] (.tk 3 2 (.take 7 (.al 8 [] .done))))))]
instance ApD {a}:CF vE (C8 N a) 77 [Ad a] .str:=AO (C8.eq_1 ..) func77 [(1,[],.take 0 (.take 4 (.al 1 [(4,1)] (.al 2 [(4,1),(0,1)] (.take 3 (.al 5 [(3,1),(0,1)] (.take 6 (.al 7 [] .done))))))))]
instance Axc {e}:CB vE (UM N e) 18 (λa=>[.ptr a 0]) (λa=>[.slice 1 (List.map (AVal.int .u8) e.l) false]) (λr=>.str r.1) (λa r=>[.slice 1 (List.map (AVal.int .u8) r.2.l) false]):=Fh (UM.eq_1 ..) func18
instance AlB {a}:CF vE (Rb N a) 232 [.str a] (λr=>.tuple [.str r.1,.int .i64 r.2]):=AO (Rb.eq_1 ..) func232 [(1,[],.stop),(5,[],.tk 0 2 (.al 2 [(1,2)] (.al 3 [] .done))),(7,[],.tk 0 3 (.tk 5 3 (.al 3 [(7,3),(1,1)] (.al 4 [(7,3),(2,3)] (.al 8 [(7,3)] (.al 9 [] .done)))))),(10,[],.tk 0 15 (.al 15 [(14,8)] (.al 16 [] .done))),(11,[],.stop),(17,[],.stop)]
instance AsK {a}:CF vE (Vy N a) 304 [.str a] (.int .i64):=AO (Vy.eq_1 ..) func304
instance Azg {a e b d f}:CF vE (Gg N a e b d f) 21 [.int .i64 a,.str e,.str b,.slice 2 (List.map Ag d) false,.bool f] .str:=AO (Gg.eq_1 ..) func21 [(3,[17],.done),(4,[24],.done),(6,[30],.done),(8,[41],.take 0 (.tk 2 2 (.ar 1 [(3,2)] (.al 4 [(2,1),(0,1)] (.al 5 [(3,2),(0,1)] (.take 6 (.al 7 [(3,2),(0,1)] (.take 8 (.al 9 [] .done)))))) (.al 4 [(2,1),(0,1)] (.ar 1 [(3,2)] (.al 5 [(3,2),(0,1)] (.take 6 (.al 7 [(3,2),(0,1)] (.take 8 (.al 9 [] .done))))) (.al 5 [(3,2),(0,1)] (.take 6 (.al 1 [(6,1),(3,2)] (.al 7 [(3,2),(0,1)] (.take 8 (.al 9 [] .done)))))))))))]
instance AxP {a e}:CF vE (JP N a e) 93 [Fy a,.str e] (λr=>.tuple [.str r.1,.bool r.2]):=AO (JP.eq_1 ..) func93
instance AsX {a e}:CF vE (TC N a e) 205 [.str a,.int .i64 e] (λr=>.tuple [.str r.1,.int .i64 r.2.1,.bool r.2.2]):=AO (TC.eq_1 ..) func205 [(1,[],.stop)]
instance AkB {a e}:CF vE (NR N a e) 172 [Gm a,Gm e] (λr=>Gm r):=AO (NR.eq_1 ..) func172 [(14,[],.tk 0 5 (.al 5 [(3,2)] (.take 6 (.al 7 [] .done)))),(15,[],.tk 0 5 (.al 5 [(3,2)] (.take 6 (.al 7 [] .done)))),(5,[],.tk 0 5 (.al 5 [(3,2)] (.take 6 (.al 7 [] .done)))),(16,[],.tk 0 5 (.al 5 [(3,2)] (.take 6 (.al 7 [] .done))))]
instance AdC {a}:CB vE (JR N a) 374 (λe=>[.ptr e 0]) (λe=>[.str a.rest,.bool a.more]) (λr=>.str r.1) (λe r=>[.str r.2.rest,.bool r.2.more]):=Fh (JR.eq_1 ..) func374
instance A0v {a}:CF vE (VD N a) 381 [Gm a] .str:=AO (VD.eq_1 ..) func381
instance AsN {a e}:CF vE (Ia N a e) 206 [.str a,.int .u64 e] (λr=>.tuple [.int .u64 r.1,.int .i64 r.2]):=AO (Ia.eq_1 ..) func206
instance AxJ {a e}:CF vE (Rh N a e) 417 [.str a,.int .u64 e] (λr=>.tuple [.int .u64 r.1,.int .i64 r.2]):=AO (Rh.eq_1 ..) func417
instance ArY {a}:CF vE (Qr N a) 199 [Je a] .bool:=AO (Qr.eq_1 ..) func199 [(1,[],.stop)]
instance AuP {a e}:CF vE (Xt N a e) 387 [.str a,.int .i64 e] (λr=>.tuple [.str r.1,.int .i64 r.2.1,.int .i64 r.2.2]):=AO (Xt.eq_1 ..) func387
end Go.Proofs.YtalbfkgififmfaaGreatDoor
