import Derived.Test.YtjgdhjpafjpjgaaGreatDoorVmFacts
import Derived.Test.YtjgdhjpafjpjgaaGreatDoorDefs
import Derived.Test.YtjgdhjpafjpjgaaGreatDoorVM7
import Derived.Test.YtjgdhjpafjpjgaaGreatDoorW0
import Derived.Test.YtjgdhjpafjpjgaaGreatDoorW1
import Derived.Test.YtjgdhjpafjpjgaaGreatDoorW2
import Derived.Test.YtjgdhjpafjpjgaaGreatDoorW3
import Derived.Test.YtjgdhjpafjpjgaaGreatDoorW5
import Derived.Test.YtjgdhjpafjpjgaaGreatDoorW6
import Derived.Test.YtjgdhjpafjpjgaaGreatDoorW7
import Derived.Test.YtjgdhjpafjpjgaaGreatDoorW8
import Derived.Test.YtjgdhjpafjpjgaaGreatDoorW9
import Derived.Test.YtjgdhjpafjpjgaaGreatDoorW10
import Derived.Test.YtjgdhjpafjpjgaaGreatDoorW11
import Derived.Test.YtjgdhjpafjpjgaaGreatDoorW14
import Derived.Test.YtjgdhjpafjpjgaaGreatDoorW15
set_option linter.unusedVariables false
set_option linter.unusedSimpArgs false
set_option maxHeartbeats 4000000
set_option maxRecDepth 100000
set_option linter.defProp false
namespace Go.Proofs.YtjgdhjpafjpjgaaGreatDoor
open Go.VM
attribute [local irreducible] AA grd letL
variable{N n:Nat}{m:MS}{Q:PQ}{args:List AVal}
@[instance_reducible, instance] def V6 {a1 rec_ref14_parser_value k6 k bn2 bn1_items bi0} := LF.mk (X := CO N a1 rec_ref14_parser_value k6 k bn2 bn1_items bi0) (G := fun k (s : ApiToken × (List ApiValue) × Ref14Parser) => CO N a1 rec_ref14_parser_value k6 k s.1 s.2.1 s.2.2) (s := (bn2, bn1_items, bi0)) (js := [(13, 35)]) (cs := []) (V := fun s => []) (Ms := fun s => [.s ([.int .i64 s.1.kind, .str s.1.text, .int .i64 s.1.at_]), .s ([.int .i64 6, .str [], .slice 1 (List.map AVal.str []) true, .slice 4 (List.map AC s.2.1) true]), .k, .s ([.str s.2.2.s, .int .i64 s.2.2.at_, .int .i64 s.2.2.nodes, .int .i64 s.2.2.fail, .int .i64 s.2.2.where_])]) rfl (fun s => CO.eq_1 ..) (fun k s => CO.eq_2 ..)
@[instance_reducible, instance] def VK {a1 rec_ref14_parser_value k6 k bn2 bn1_keys bn1_items bi0} := LF.mk (X := Bq N a1 rec_ref14_parser_value k6 k bn2 bn1_keys bn1_items bi0) (G := fun k (s : ApiToken × (List (List UInt8)) × (List ApiValue) × Ref14Parser) => Bq N a1 rec_ref14_parser_value k6 k s.1 s.2.1 s.2.2.1 s.2.2.2) (s := (bn2, bn1_keys, bn1_items, bi0)) (js := [(7, 4), (17, 80)]) (cs := []) (V := fun s => []) (Ms := fun s => [.s ([.int .i64 s.1.kind, .str s.1.text, .int .i64 s.1.at_]), .s ([.int .i64 7, .str [], .slice 1 (List.map AVal.str s.2.1) true, .slice 4 (List.map AC s.2.2.1) true]), .k, .s ([.str s.2.2.2.s, .int .i64 s.2.2.2.at_, .int .i64 s.2.2.2.nodes, .int .i64 s.2.2.2.fail, .int .i64 s.2.2.2.where_])]) rfl (fun s => Bq.eq_1 ..) (fun k s => Bq.eq_2 ..)
theorem Gf (N:Nat): ∀D:Nat,(∀ {a0:Ref14Parser}{a1:Int},CB vE (EA N D a0 a1) 94 (fun i0=>[.ptr i0 0,.int .i64 a1]) (fun i0=>[.str a0.s,.int .i64 a0.at_,.int .i64 a0.nodes,.int .i64 a0.fail,.int .i64 a0.where_]) (fun r=>AC r.1) (fun i0 r=>[.str r.2.s,.int .i64 r.2.at_,.int .i64 r.2.nodes,.int .i64 r.2.fail,.int .i64 r.2.where_]))∧(∀ {a0:Ref14Parser}{a1:Int},CB vE (Dj N D a0 a1) 95 (fun i0=>[.ptr i0 0,.int .i64 a1]) (fun i0=>[.str a0.s,.int .i64 a0.at_,.int .i64 a0.nodes,.int .i64 a0.fail,.int .i64 a0.where_]) (fun r=>AC r.1) (fun i0 r=>[.str r.2.s,.int .i64 r.2.at_,.int .i64 r.2.nodes,.int .i64 r.2.fail,.int .i64 r.2.where_]))∧(∀ {a0:Ref14Parser}{a1:ApiToken}{a2:Int},CB vE (Bf N D a0 a1 a2) 44 (fun i0=>[.ptr i0 0,GQ a1,.int .i64 a2]) (fun i0=>[.str a0.s,.int .i64 a0.at_,.int .i64 a0.nodes,.int .i64 a0.fail,.int .i64 a0.where_]) (fun r=>AC r.1) (fun i0 r=>[.str r.2.s,.int .i64 r.2.at_,.int .i64 r.2.nodes,.int .i64 r.2.fail,.int .i64 r.2.where_])):=by
 intro D
 induction D with
 |zero=>exact⟨⟨fun h=>by rw[EA.eq_1]at h;cases h⟩,⟨fun h=>by rw[Dj.eq_1]at h;cases h⟩,⟨fun h=>by rw[Bf.eq_1]at h;cases h⟩⟩
 |succ D ih=>
  obtain⟨i0_,i1_,i2_⟩:=ih
  exact⟨mkB (EA.eq_2 ..) Tryz.func94 rfl Tryz.ntmps94 Tryz.results94 [(6,[19],.take 0 (.take 2 (.take 3 (.take 4 (.alt 1 [4,3,2] (.alt 5 [0] (.take 6 (.alt 7 [4,3,2,0] (.take 8 (.alt 9 [] (.done) (.stop))) (.stop))) (.stop)) (.alt 5 [0] (.take 6 (.alt 1 [6,4,3,2] (.alt 7 [4,3,2,0] (.take 8 (.alt 9 [] (.done) (.stop))) (.stop)) (.stop))) (.stop))))))),(10,[],.stop)] true fun r n i m R hin hR h hD=>tW,mkB (Dj.eq_2 ..) Tryz.func95 rfl Tryz.ntmps95 Tryz.results95 [(13,[],.stop),(16,[65,70],.take 0 (.take 2 (.take 3 (.take 5 (.take 7 (.take 8 (.alt 1 [8,7,5,3,2] (.alt 4 [8,7,5,2,0] (.alt 6 [8,7,3,2,0] (.take 10 (.alt 9 [10,7,5,3,2,0] (.alt 11 [8,7] (.take 12 (.alt 13 [] (.done) (.stop))) (.stop)) (.stop))) (.stop)) (.alt 6 [8,7,3,2,0] (.alt 4 [8,7,5,2,0] (.take 10 (.alt 9 [10,7,5,3,2,0] (.alt 11 [8,7] (.take 12 (.alt 13 [] (.done) (.stop))) (.stop)) (.stop))) (.stop)) (.stop))) (.alt 6 [8,7,3,2,0] (.alt 1 [8,7,5,3,2] (.alt 4 [8,7,5,2,0] (.take 10 (.alt 9 [10,7,5,3,2,0] (.alt 11 [8,7] (.take 12 (.alt 13 [] (.done) (.stop))) (.stop)) (.stop))) (.stop)) (.stop)) (.stop))))))))),(20,[],.stop)] true fun r n i m R hin hR h hD=>tW,mkB (Bf.eq_2 ..) Tryz.func44 rfl Tryz.ntmps44 Tryz.results44 [(1,[],.stop),(7,[],.stop)] true fun r n i m R hin hR h hD=>tW⟩
instance AEk {a0 a1}:CB vE (EA N N a0 a1) 94 (fun i0=>[.ptr i0 0,.int .i64 a1]) (fun i0=>[.str a0.s,.int .i64 a0.at_,.int .i64 a0.nodes,.int .i64 a0.fail,.int .i64 a0.where_]) (fun r=>AC r.1) (fun i0 r=>[.str r.2.s,.int .i64 r.2.at_,.int .i64 r.2.nodes,.int .i64 r.2.fail,.int .i64 r.2.where_]):=(Gf N N).1
instance ACe {a0 a1}:CB vE (Dj N N a0 a1) 95 (fun i0=>[.ptr i0 0,.int .i64 a1]) (fun i0=>[.str a0.s,.int .i64 a0.at_,.int .i64 a0.nodes,.int .i64 a0.fail,.int .i64 a0.where_]) (fun r=>AC r.1) (fun i0 r=>[.str r.2.s,.int .i64 r.2.at_,.int .i64 r.2.nodes,.int .i64 r.2.fail,.int .i64 r.2.where_]):=(Gf N N).2.1
instance AGc {a0 a1 a2}:CB vE (Bf N N a0 a1 a2) 44 (fun i0=>[.ptr i0 0,GQ a1,.int .i64 a2]) (fun i0=>[.str a0.s,.int .i64 a0.at_,.int .i64 a0.nodes,.int .i64 a0.fail,.int .i64 a0.where_]) (fun r=>AC r.1) (fun i0 r=>[.str r.2.s,.int .i64 r.2.at_,.int .i64 r.2.nodes,.int .i64 r.2.fail,.int .i64 r.2.where_]):=(Gf N N).2.2
instance ATv {a0 a1}:CF vE (Kb N a0 a1) 156 [GM a0,.str a1] (fun r=>.tuple [CR r.1,.int .i64 r.2]):=mkF (Kb.eq_1 ..) Tryz.func156 rfl Tryz.ntmps156 Tryz.results156 [(3,[],.stop)] false fun r n m R hR h hD=>tW
instance APO {a0}:CF vE (F3 N a0) 52 [.str a0] (fun r=>.tuple [Em r.1,.int .i64 r.2]):=mkF (F3.eq_1 ..) Tryz.func52 rfl Tryz.ntmps52 Tryz.results52 [(6,[],.stop)] false fun r n m R hR h hD=>tW
theorem UX {a0 r} (h:IG N a0=some r) (ha:args=[AC a0]) (hQ: ∀n',n≤n'→Gl (Q (.tuple [K7 r.1,.int .i64 r.2]) ⟨m,n'⟩)):ACall vE 54 args ⟨m,n⟩ Q:=by
 rw[IG]at h
 subst ha
 refine ARL hQ Tryz.func54 rfl Tryz.ntmps54 Tryz.results54 (.q (.r []) (.q (.q (.r []) (.c (.q (.r []) .z) .z)) (.q (.r []) (.q (.r []) (.q (.q (.r []) (.c (.q (.r []) .z) .z)) (.q (.r []) .z)))))) fun R hR=>?_
 replace h:=And.intro trivial h
 rcases D9 h with h|h
 exact tR
 · replace h := Ad h
   obtain⟨y1,h⟩:=h
   simp(disch:=omega) only[vm,seval,h.1]
   refine⟨PG h.1.1 tD (i0:=(n+2)) (by simp(disch:=omega) only[vm,seval,h.1]) fun n2 hn2=>?_⟩
   obtain⟨y3,h⟩:=Ad h
   simp(disch:=omega) only[vm,seval,h.1]
   refine⟨RV h.1.1 tD fun n4 hn4=>?_⟩
   rcases D9 h with h|h
   exact tR
   · simp (disch:=omega) only[vm,seval,h.1]
     refine⟨Gn (γ:=Nat) h [32,33,34,35,36,37] [7] (fun j6 g=>[.ptr g 0]) (fun j6 g=>(g,[.str j6.1,.slice 1 (List.map AVal.str j6.2.1) false,.slice 1 (List.map AVal.str []) true,.slice 3 (List.map AU []) true,.slice 3 (List.map AP []) true])::(n4,[.str y3.1.method,.str y3.1.iD])::((n+2),[.str j6.2.2.d.method,.str j6.2.2.d.iD,.int .i64 j6.2.2.fail])::((n+1),[.str [],.slice 1 (List.map AVal.str []) true,.slice 1 (List.map AVal.str []) true,.slice 3 (List.map AU []) true,.slice 3 (List.map AP []) true])::(n,[.int .i64 a0.kind,.str a0.text,.slice 1 (List.map AVal.str a0.keys) false,.slice 4 (List.map AC a0.items) false])::m) .z ?_ ?_⟩<;>clear h
     · rintro j6 q5 n9 hnn9 hk hd h
       simp only[List.map_cons,List.nodup_cons,List.mem_cons,not_or]at hd
       try dsimp only at hk
       obtain⟨hu42,hk⟩:=GZ hk
       obtain⟨hu43,hk⟩:=GZ hk
       obtain⟨hu44,hk⟩:=GZ hk
       obtain⟨hu45,hk⟩:=GZ hk
       obtain⟨hu46,hk⟩:=GZ hk
       clear hk
       refine BI (.q (.r []) .z) ?_
       obtain⟨y14,h⟩:=Ad h
       simp(disch:=omega) only[vm,seval,h.1]
       refine⟨FM h.1.1 tD (i0:=(n+2)) (by simp(disch:=omega) only[vm,seval,h.1]) fun n15 hn15=>?_⟩
       simp(disch:=omega) only[vm,seval,h.1]
       refine⟨Gn (γ:=Unit) h [9,42,43,44,45,46,47,48,49,50,51,52,53,54,55,56,57,58] [] (fun j16 g=>[]) (fun j16 g=>(q5,[.str j6.1,.slice 1 (List.map AVal.str j6.2.1) false,.slice 1 (List.map AVal.str y14.1) false,.slice 3 (List.map AU j16.1) true,.slice 3 (List.map AP []) true])::(n4,[.str y3.1.method,.str y3.1.iD])::((n+2),[.str j16.2.d.method,.str j16.2.d.iD,.int .i64 j16.2.fail])::((n+1),[.str [],.slice 1 (List.map AVal.str []) true,.slice 1 (List.map AVal.str []) true,.slice 3 (List.map AU []) true,.slice 3 (List.map AP []) true])::(n,[.int .i64 a0.kind,.str a0.text,.slice 1 (List.map AVal.str a0.keys) false,.slice 4 (List.map AC a0.items) false])::m) (.q (.r []) .z) ?_ ?_⟩<;>clear h
       · rintro j16 _ n19 hnn19 _ _ h
         refine BI .z ?_
         simp(disch:=omega) only[vm,seval,h.1]
         refine⟨Gn (γ:=Unit) h [11,59,60,61,62,63,64,65,66,67,68,69,70,71,72,73,74,75] [] (fun j29 g=>[]) (fun j29 g=>(q5,[.str j6.1,.slice 1 (List.map AVal.str j6.2.1) false,.slice 1 (List.map AVal.str y14.1) false,.slice 3 (List.map AU j16.1) true,.slice 3 (List.map AP j29.1) true])::(n4,[.str y3.1.method,.str y3.1.iD])::((n+2),[.str j29.2.d.method,.str j29.2.d.iD,.int .i64 j29.2.fail])::((n+1),[.str [],.slice 1 (List.map AVal.str []) true,.slice 1 (List.map AVal.str []) true,.slice 3 (List.map AU []) true,.slice 3 (List.map AP []) true])::(n,[.int .i64 a0.kind,.str a0.text,.slice 1 (List.map AVal.str a0.keys) false,.slice 4 (List.map AC a0.items) false])::m) (.q (.r []) .z) ?_ ?_⟩<;>clear h
         rintro j29 _ n32 hnn32 _ _ h
         refine BI (.q (.q (.r []) (.c (.q .z .z) .z)) (.q (.r []) .z)) ?_
         rcases D9 h with h|h
         simp(disch:=omega) only[vm,seval,h.1]
         refine⟨Ji [] (.take 1 (.take 2 (.take 3 (.take 4 (.alt 0 [4,3,2,1] (.alt 5 [4,3,2,1] (.alt 6 [] (.done) (.stop)) (.stop)) (.stop)))))) Gh (by kernel_rfl) ?_⟩
         exact tR
         exact tR
         · intro k30 Jk30 hk30 h
           obtain⟨y33,h⟩:=Ad h
           simp(disch:=omega) only[vm,seval,h.1]
           refine⟨Jj h.1.1 tD (i0:=(n+2)) (by simp(disch:=omega) only[vm,seval,h.1]) fun n34 hn34=>?_⟩
           obtain⟨hfk35,h⟩:=GJ h
           simp(disch:=omega) only[vm,seval,h.1]
           refine⟨Ro (σ:=(List ApiService)×Ref17Reader) (γ:=Unit) y33.1 hfk35 (fun xs i s=>Co N j6 y14 j16 k30 xs s.1 s.2) (fun i s g=>[.int .i64 i]) (fun i s g=>(q5,[.str j6.1,.slice 1 (List.map AVal.str j6.2.1) false,.slice 1 (List.map AVal.str y14.1) false,.slice 3 (List.map AU j16.1) true,.slice 3 (List.map AP s.1) true])::(n4,[.str y3.1.method,.str y3.1.iD])::((n+2),[.str s.2.d.method,.str s.2.d.iD,.int .i64 s.2.fail])::((n+1),[.str [],.slice 1 (List.map AVal.str []) true,.slice 1 (List.map AVal.str []) true,.slice 3 (List.map AU []) true,.slice 3 (List.map AP []) true])::(n,[.int .i64 a0.kind,.str a0.text,.slice 1 (List.map AVal.str a0.keys) false,.slice 4 (List.map AC a0.items) false])::m) [11,64,65,66,67,68,69,70,71,72,73,74,75] [63] ([],y33.2) () h tD tD ?_ ?_⟩<;>clear h
           rintro s63 ⟨bq5_services,bn2⟩ _ nL1_1 hnL1_1 _ h
           change _∧Co N j6 y14 j16 k30 [] bq5_services bn2=_ at h
           rw[Co]at h
           refine BI (.q (.r []) (.q (.c .z .z) .z)) ?_
           exact tJ (hk30 (bq5_services,bn2) ())
           · rintro xk35 xsk35 s63 ⟨bq5_services,bn2⟩ _ nL1_1 hnL1_1 _ h Jk35 hk35
             change _∧Co N j6 y14 j16 k30 (xk35::xsk35) bq5_services bn2=_ at h
             rw[Co]at h
             refine BI (.q (.r []) (.q (.c .z .z) .z)) ?_
             simp(disch:=omega) only[vm,seval,h.1]
             refine⟨Gn (γ:=Unit) h [11,65,66,67,68,69,70,71,72,73,74] [] (fun j36 g=>[]) (fun j36 g=>(q5,[.str j6.1,.slice 1 (List.map AVal.str j6.2.1) false,.slice 1 (List.map AVal.str y14.1) false,.slice 3 (List.map AU j16.1) true,.slice 3 (List.map AP j36.1) true])::(n4,[.str y3.1.method,.str y3.1.iD])::((n+2),[.str j36.2.d.method,.str j36.2.d.iD,.int .i64 j36.2.fail])::((n+1),[.str [],.slice 1 (List.map AVal.str []) true,.slice 1 (List.map AVal.str []) true,.slice 3 (List.map AU []) true,.slice 3 (List.map AP []) true])::(n,[.int .i64 a0.kind,.str a0.text,.slice 1 (List.map AVal.str a0.keys) false,.slice 4 (List.map AC a0.items) false])::m) (.q (.r []) .z) ?_ ?_⟩<;>clear h
             rintro j36 _ n39 hnn39 _ _ h
             refine BI (.r []) ?_
             exact tJ (hk35 (j36.1,j36.2) ())
             · intro k37 Jk37 hk37 h
               obtain⟨y40,h⟩:=Ad h
               have cy40:=h.1.1
               obtain⟨c,h⟩:=GJ h
               try simp only[liE,seval]at c
               replace h:=G6 c h
               simp(disch:=omega) only[vm,seval,h.1]
               refine⟨Ji [68] (.take 0 (.take 2 (.take 3 (.alt 1 [3,2] (.alt 4 [0] (.take 5 (.alt 6 [3,2,0] (.take 7 (.alt 8 [] (.done) (.stop))) (.stop))) (.stop)) (.alt 4 [0] (.take 5 (.alt 1 [5,3,2] (.alt 6 [3,2,0] (.take 7 (.alt 8 [] (.done) (.stop))) (.stop)) (.stop))) (.stop)))))) Gh (by kernel_rfl) ?_⟩
               all_goals
                simp(disch:=omega) only[vm,seval,h.1]
                repeat' refine Pg ?_ ?_
                all_goals
                 refine⟨J4 cy40 tD (i0:=(n+2)) (by simp(disch:=omega) only[vm,seval,h.1]) fun n41 hn41=>?_⟩
                 exact tJ (hk37 ((bq5_services++[y40.1]),y40.2) ())
       · intro k17 Jk17 hk17 h
         obtain⟨y20,h⟩:=Ad h
         simp(disch:=omega) only[vm,seval,h.1]
         refine⟨Jj h.1.1 tD (i0:=(n+2)) (by simp(disch:=omega) only[vm,seval,h.1]) fun n21 hn21=>?_⟩
         obtain⟨hfk22,h⟩:=GJ h
         simp(disch:=omega) only[vm,seval,h.1]
         refine⟨Ro (σ:=(List ApiMethod)×Ref17Reader) (γ:=Unit) y20.1 hfk22 (fun xs i s=>Ck N j6 y14 k17 xs s.1 s.2) (fun i s g=>[.int .i64 i]) (fun i s g=>(q5,[.str j6.1,.slice 1 (List.map AVal.str j6.2.1) false,.slice 1 (List.map AVal.str y14.1) false,.slice 3 (List.map AU s.1) true,.slice 3 (List.map AP []) true])::(n4,[.str y3.1.method,.str y3.1.iD])::((n+2),[.str s.2.d.method,.str s.2.d.iD,.int .i64 s.2.fail])::((n+1),[.str [],.slice 1 (List.map AVal.str []) true,.slice 1 (List.map AVal.str []) true,.slice 3 (List.map AU []) true,.slice 3 (List.map AP []) true])::(n,[.int .i64 a0.kind,.str a0.text,.slice 1 (List.map AVal.str a0.keys) false,.slice 4 (List.map AC a0.items) false])::m) [9,47,48,49,50,51,52,53,54,55,56,57,58] [46] ([],y20.2) () h tD tD ?_ ?_⟩<;>clear h
         rintro s46 ⟨bq5_methods,bn2⟩ _ nL0_1 hnL0_1 _ h
         change _∧Ck N j6 y14 k17 [] bq5_methods bn2=_ at h
         rw[Ck]at h
         refine BI (.q (.r []) (.q (.c .z .z) .z)) ?_
         exact tJ (hk17 (bq5_methods,bn2) ())
         · rintro xk22 xsk22 s46 ⟨bq5_methods,bn2⟩ _ nL0_1 hnL0_1 _ h Jk22 hk22
           change _∧Ck N j6 y14 k17 (xk22::xsk22) bq5_methods bn2=_ at h
           rw[Ck]at h
           refine BI (.q (.r []) (.q (.c .z .z) .z)) ?_
           simp(disch:=omega) only[vm,seval,h.1]
           refine⟨Gn (γ:=Unit) h [9,48,49,50,51,52,53,54,55,56,57] [] (fun j23 g=>[]) (fun j23 g=>(q5,[.str j6.1,.slice 1 (List.map AVal.str j6.2.1) false,.slice 1 (List.map AVal.str y14.1) false,.slice 3 (List.map AU j23.1) true,.slice 3 (List.map AP []) true])::(n4,[.str y3.1.method,.str y3.1.iD])::((n+2),[.str j23.2.d.method,.str j23.2.d.iD,.int .i64 j23.2.fail])::((n+1),[.str [],.slice 1 (List.map AVal.str []) true,.slice 1 (List.map AVal.str []) true,.slice 3 (List.map AU []) true,.slice 3 (List.map AP []) true])::(n,[.int .i64 a0.kind,.str a0.text,.slice 1 (List.map AVal.str a0.keys) false,.slice 4 (List.map AC a0.items) false])::m) (.q (.r []) .z) ?_ ?_⟩<;>clear h
           rintro j23 _ n26 hnn26 _ _ h
           refine BI (.r []) ?_
           exact tJ (hk22 (j23.1,j23.2) ())
           · intro k24 Jk24 hk24 h
             obtain⟨y27,h⟩:=Ad h
             have cy27:=h.1.1
             obtain⟨c,h⟩:=GJ h
             try simp only[liE,seval]at c
             replace h:=G6 c h
             simp(disch:=omega) only[vm,seval,h.1]
             refine⟨Ji [51] (.take 0 (.take 2 (.take 3 (.alt 1 [3,2] (.alt 4 [0] (.take 5 (.alt 6 [3,2,0] (.take 7 (.alt 8 [] (.done) (.stop))) (.stop))) (.stop)) (.alt 4 [0] (.take 5 (.alt 1 [5,3,2] (.alt 6 [3,2,0] (.take 7 (.alt 8 [] (.done) (.stop))) (.stop)) (.stop))) (.stop)))))) Gh (by kernel_rfl) ?_⟩
             all_goals
              simp(disch:=omega) only[vm,seval,h.1]
              repeat' refine Pg ?_ ?_
              all_goals
               refine⟨Nn cy27 tD (i0:=(n+2)) (by simp(disch:=omega) only[vm,seval,h.1]) fun n28 hn28=>?_⟩
               exact tJ (hk24 ((bq5_methods++[y27.1]),y27.2) ())
     · intro k7 Jk7 hk7 h
       obtain⟨y10,h⟩:=Ad h
       have cy10:=h.1.1
       obtain⟨y12,h⟩:=Ad h
       have cy12:=h.1.1
       simp(disch:=omega) only[vm,seval,h.1]
       refine⟨Ji [] (.take 0 (.take 2 (.take 3 (.alt 1 [3,2] (.alt 4 [0] (.alt 5 [3,2,0] (.alt 6 [3,2,0] (.alt 7 [] (.done) (.stop)) (.stop)) (.alt 6 [3,2,0] (.alt 5 [3,2,0] (.alt 7 [] (.done) (.stop)) (.stop)) (.stop))) (.alt 6 [3,2,0] (.alt 4 [0] (.alt 5 [3,2,0] (.alt 7 [] (.done) (.stop)) (.stop)) (.stop)) (.stop))) (.alt 6 [3,2,0] (.alt 1 [3,2] (.alt 4 [0] (.alt 5 [3,2,0] (.alt 7 [] (.done) (.stop)) (.stop)) (.stop)) (.stop)) (.stop)))))) Gh (by kernel_rfl) ?_⟩
       all_goals
        simp(disch:=omega) only[vm,seval,h.1]
        repeat' refine Pg ?_ ?_
        all_goals
         refine⟨QI cy10 tD fun n11 hn11=>?_⟩
         all_goals
          simp(disch:=omega) only[vm,seval,h.1]
          repeat' refine Pg ?_ ?_
          all_goals
           refine⟨FM cy12 tD (i0:=(n+2)) (by simp(disch:=omega) only[vm,seval,h.1]) fun n13 hn13=>?_⟩
           simp(disch:=omega) only[vm,seval,h.1]
           exact⟨hk7 (y10,y12.1,y12.2) _ _ _ _ _ h.2 slr (by first|(simp(disch:=omega) only[vm,seval,h.1];done)|(simp(disch:=omega) only[vm,seval,h.1];rfl)|rfl) tD tD (by omega)⟩
instance ATi {a0}:CF vE (IG N a0) 54 [AC a0] (fun r=>.tuple [K7 r.1,.int .i64 r.2]):=⟨fun h hQ=>UX h rfl hQ⟩
instance AM3 {a0 a1}:CF vE (Hq N a0 a1) 121 [Em a0,.str a1] (fun r=>.tuple [Em r.1,.int .i64 r.2]):=mkF (Hq.eq_1 ..) Tryz.func121 rfl Tryz.ntmps121 Tryz.results121 [] false fun r n m R hR h hD=>tW
end Go.Proofs.YtjgdhjpafjpjgaaGreatDoor
