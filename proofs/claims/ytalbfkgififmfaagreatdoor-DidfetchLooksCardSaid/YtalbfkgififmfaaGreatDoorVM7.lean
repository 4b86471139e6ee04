import Derived.Test.YtalbfkgififmfaaGreatDoorVM5
import Derived.KernelRfl
set_option linter.unusedSimpArgs false
set_option linter.unusedVariables false
set_option linter.defProp false
namespace Go.VM
def A3Z:=ac (ac (ac (ac (ac (@Am0) (@Aw3)) (ac (@Als) (ac (@AnU) (@Akr)))) (ac (ac (@Ag2) (@Agd)) (ac (@AYC) (ac (@Alb) (@Alq))))) (ac (ac (ac (@AyV) (@Ay0)) (ac (@Azy) (ac (@AzN) (@A0b)))) (ac (ac (@A0e) (@Az5)) (ac (@AV3) (ac (@AGR) (@AmT)))))) (ac (ac (ac (ac (@Ab3) (@AdM)) (ac (@A0T) (ac (@Aw4) (@A3W)))) (ac (ac (@A3C) (@A3t)) (ac (@A3r) (ac (@A23) (@A3J))))) (ac (ac (ac (@A3N) (@A3T)) (ac (@AzE) (ac (@A0f) (@Anh)))) (ac (ac (@Aix) (@An4)) (ac (@ApB) (ac (@ArH) (@AuS))))))
def A22:=ac A3Z (ac (ac (@AhE) (@AzL)) (ac (ac (ac (@A3a) (@A34)) (ac (@A3q) (@A3X))) (ac (ac (@Aoa) (@AvI)) (ac (@A3S) (@A3F)))))
def wpE:=ac A22 (ac (@AzO) (ac (@Ayy) (@A0I)))
def aW{G:Prop} (x:G:=by first|with_reducible rfl|(simp(maxSteps:=10000000) (disch:=omega) only[vm,wpE,seval,h.1];done)|rfl):G:=x
def uW{G:Prop} (x:G:=by first|(simp(maxSteps:=10000000) (disch:=omega) only[vm,wpE,seval,h.1];((repeat (first|with_reducible exact SubW.refl _|refine SubW.keep (by repeat (first|with_reducible exact WkL.nil|refine WkL.cons (Wk.same _) ?_|refine WkL.cons (Wk.strip _) ?_)) ?_|apply SubW.drop));done))|exact SubW.refl _):G:=x
def xW{G:Prop} (x:G:=by first|exact SubW.refl _|(simp(maxSteps:=10000000) (disch:=omega) only[vm,wpE,seval,h.1];((repeat (first|with_reducible exact SubW.refl _|refine SubW.keep (by repeat (first|with_reducible exact WkL.nil|refine WkL.cons (Wk.same _) ?_|refine WkL.cons (Wk.strip _) ?_)) ?_|apply SubW.drop));first|done|fail))):G:=x
def kW{G:Prop} (x:G:=by first|(simp(maxSteps:=10000000) (disch:=omega) only[vm,wpE,seval,h.1];first|with_reducible exact WkL.refl _|((repeat (first|with_reducible exact WkL.nil|refine WkL.cons (Wk.same _) ?_|refine WkL.cons (Wk.strip _) ?_));done))|exact WkL.refl _):G:=x
def vW{G:Prop} (x:G:=by first|(simp(maxSteps:=10000000) (disch:=omega) only[vm,wpE,seval,h.1];done)|rfl):G:=x
def yW{G:Prop} (x:G:=by first|exact h.1.1|(simp only[h.1];done)|omega):G:=x
def sW{G:Prop} (x:G:=by simp(maxSteps:=10000000) (disch:=omega) only[vm,wpE,seval,h.1];first|done|fail):G:=x
def tW{G:Prop} (x:G:=by
 repeat'
  (
   first | (with_reducible obtain⟨_,h⟩:=A0c h)|(with_reducible obtain⟨_,h⟩:=Axj h)|(with_reducible obtain⟨_,h⟩:=A1Z h)|
    (
     (fail_if_success with_reducible have:=GY h)
     (with_reducible obtain⟨c,h⟩:=Ow h)
     (try simp only[liE,seval]at c)
     replace h:=Lp c h)|
    (
     (with_reducible obtain⟨_,c,h⟩:=A3H h)
     (first|replace c:=ac (br (List.map (AVal.int .u8)) c) (br (List.map (AVal.int .i64)) c)|replace c:=br (List.map AVal.str) c|replace c:=A2n c|skip)
     (try simp only[aH,cw,eE]at c)
     replace h:=Lp c h)|
    (
     (with_reducible refine isW ?_)
     simp(maxSteps:=10000000) (disch:=omega) only[vm,wpE,seval,h.1])|
    (
     (with_reducible refine isC ?_)
     first|
      (
       (with_reducible refine Zg h.1.1 ?_ ?_)
       ·exact aW
       intro _ _)|
      (
       (with_reducible refine AVz h.1.1 ?_ ?_ ?_)
       ·exact aW
       ·exact sW
       intro _ _)|
      (
       (with_reducible refine Zg h.1.2.1 ?_ ?_)
       ·exact aW
       intro _ _)|
      (
       (with_reducible refine AVz h.1.2.1 ?_ ?_ ?_)
       ·exact aW
       ·exact sW
       intro _ _)|
      (
       (with_reducible refine Zg h.1.2.2.1 ?_ ?_)
       ·exact aW
       intro _ _)|
      (
       (with_reducible refine AVz h.1.2.2.1 ?_ ?_ ?_)
       ·exact aW
       ·exact sW
       intro _ _)|
      (
       (with_reducible refine Zg h.1.2.2.2.1 ?_ ?_)
       ·exact aW
       intro _ _)|
      (
       (with_reducible refine AVz h.1.2.2.2.1 ?_ ?_ ?_)
       ·exact aW
       ·exact sW
       intro _ _)|
      (
       (with_reducible refine Zg h.1.2.2.2.2.1 ?_ ?_)
       ·exact aW
       intro _ _)|
      (
       (with_reducible refine AVz h.1.2.2.2.2.1 ?_ ?_ ?_)
       ·exact aW
       ·exact sW
       intro _ _)|
      (
       (with_reducible refine AaH h.1.1 ?_ ?_ ?_)
       ·exact aW
       ·exact sW
       intro _ _)|
      (
       (with_reducible refine AaH h.1.2.1 ?_ ?_ ?_)
       ·exact aW
       ·exact sW
       intro _ _)|
      (
       (with_reducible refine AaH h.1.2.2.1 ?_ ?_ ?_)
       ·exact aW
       ·exact sW
       intro _ _)|
      (
       (with_reducible refine AYm h.1.1 ?_ ?_ ?_)
       ·exact aW
       ·exact sW
       intro _ _)|
      (
       (with_reducible refine AYm h.1.2.1 ?_ ?_ ?_)
       ·exact aW
       ·exact sW
       intro _ _)|
      (
       (with_reducible refine AYm h.1.2.2.1 ?_ ?_ ?_)
       ·exact aW
       ·exact sW
       intro _ _)|
      (
       (with_reducible refine Aqc h.1.1 ?_ ?_)
       ·exact aW
       intro _ _ _ _)|
      (
       (with_reducible refine Aqc h.1.2.1 ?_ ?_)
       ·exact aW
       intro _ _ _ _)|
      (
       (with_reducible refine Aqc h.1.2.2.1 ?_ ?_)
       ·exact aW
       intro _ _ _ _)|
      (
       (with_reducible apply AqD h.1.1)
       ·(
         first|with_reducible rfl|
          (
           simp(maxSteps:=10000000) (disch:=omega) only[vm,wpE,seval,h.1]
           rfl))
       ·exact sW
       ·omega
       intro _ _)|
      (
       (with_reducible apply AqD h.1.2.1)
       ·(
         first|with_reducible rfl|
          (
           simp(maxSteps:=10000000) (disch:=omega) only[vm,wpE,seval,h.1]
           rfl))
       ·exact sW
       ·omega
       intro _ _)|
      (
       (with_reducible apply AqD h.1.2.2.1)
       ·(
         first|with_reducible rfl|
          (
           simp(maxSteps:=10000000) (disch:=omega) only[vm,wpE,seval,h.1]
           rfl))
       ·exact sW
       ·omega
       intro _ _)|
      (
       (with_reducible refine AYM h.1.1 ?_ ?_ ?_)
       ·exact aW
       ·exact sW
       intro _ _)|
      (
       (with_reducible refine AYd h.1.1 ?_ ?_ ?_)
       ·exact aW
       ·exact sW
       intro _ _)|
      (
       (with_reducible refine AYM h.1.2.1 ?_ ?_ ?_)
       ·exact aW
       ·exact sW
       intro _ _)|
      (
       (with_reducible refine AYd h.1.2.1 ?_ ?_ ?_)
       ·exact aW
       ·exact sW
       intro _ _)|
      (
       (with_reducible refine AYM h.1.2.2.1 ?_ ?_ ?_)
       ·exact aW
       ·exact sW
       intro _ _)|
      (
       (with_reducible refine AYd h.1.2.2.1 ?_ ?_ ?_)
       ·exact aW
       ·exact sW
       intro _ _)|
      (
       (with_reducible refine Zg h.1.2.2.2.2.2.1 ?_ ?_)
       ·exact aW
       intro _ _)|
      (
       (with_reducible refine Zg h.1.2.2.2.2.2.2.1 ?_ ?_)
       ·exact aW
       intro _ _)|
      (
       (with_reducible refine Zg h.1.2.2.2.2.2.2.2.1 ?_ ?_)
       ·exact aW
       intro _ _)|
      (
       (with_reducible refine Zg h.1.2.2.2.2.2.2.2.2.1 ?_ ?_)
       ·exact aW
       intro _ _))|(with_reducible refine A16 ?_)|
    (
     (with_reducible refine isA ?_)
     first|
      (
       (with_reducible refine A2W h hD ?_ ?_ ?_)
       ·rfl
       all_goals
        (
         clear h
         intro _ _ _ h))|
      (
       (with_reducible refine AxU h hD ?_ ?_ ?_)
       ·rfl
       all_goals
        (
         clear h
         intro _ _ _ h))|
      (
       (with_reducible refine A1K h hD ?_ ?_ ?_)
       ·rfl
       all_goals
        (
         clear h
         intro _ _ _ _ h))|
      (
       (with_reducible refine A1m h hD ?_ ?_ ?_)
       ·exact xW
       ·exact kW
       (
        clear h
        intro _ _ _ _ h _ _))|
      (
       (with_reducible refine Ak3 h hD ?_ ?_ ?_ ?_ ?_)
       ·exact yW
       ·exact xW
       ·exact kW
       all_goals
        (
         clear h
         first|intro _ _ _ _ _ _ h _ _|intro _ _ _ _ h))|
      (
       (with_reducible refine AyI h hD ?_ ?_ ?_ ?_ ?_)
       ·exact yW
       ·exact xW
       ·exact kW
       all_goals
        (
         clear h
         first|intro _ _ _ _ _ _ h _ _|intro _ _ _ _ h))|
      (
       (with_reducible refine AmY h hD ?_ ?_ ?_ ?_ ?_)
       ·exact yW
       ·exact xW
       ·exact kW
       all_goals
        (
         clear h
         first|intro _ _ _ _ _ h _ _|intro _ _ _ _ h))|
      (
       (with_reducible refine A00 h hD ?_ ?_ ?_ ?_ ?_)
       ·exact yW
       ·exact xW
       ·exact kW
       all_goals
        (
         clear h
         first|intro _ _ _ _ _ h _ _|intro _ _ _ _ h))|
      (
       with_reducible
        refine A24 hD (by
         simp only[AV3,AGR,liE,seval]
         rfl) (by
         simp only[Aih,plE,liE,seval]
         rfl) (by kernel_rfl) ?_)|(with_reducible refine A3O hD ?_))|((with_reducible refine A1G h ?_ ?_)<;>clear h<;>intro h)|
    (
     (with_reducible obtain⟨H,h⟩:=A0S h)
     subst h
     (try simp(maxSteps:=10000000) (disch:=omega) only[vm,wpE,seval,H])
     first|
      refine A3U hR (by
       simp(maxSteps:=10000000) (disch:=omega) only[vm,wpE,seval,H]
       rfl) ?_ (by omega) ?_|
      refine A27 hR (by
       simp(maxSteps:=10000000) (disch:=omega) only[vm,wpE,seval,H]
       rfl) ?_ (by omega) ?_
     ·(
       first|
        (
         (repeat (first|exact bU _|apply cD))
         done)|
        (
         simp(maxSteps:=10000000) (disch:=omega) only[vm,wpE,seval,H]
         (repeat (first|exact bU _|apply cD))
         done))
     ·(
       first|
        (
         simp(maxSteps:=10000000) (disch:=omega) only[vm,wpE,seval,H]
         done)|rfl))|
    (
     (with_reducible refine A3h (by assumption) h ?_ ?_ ?_ (by omega))
     ·exact uW
     ·exact vW
     ·exact kW)|
    (
     (with_reducible refine A3u (by assumption) h ?_ ?_ ?_ ?_)
     ·(
       simp(maxSteps:=10000000) (disch:=omega) only[vm,wpE,seval,h.1]
       (
        (repeat (first|with_reducible exact SubW.refl _|refine SubW.keep (by repeat (first|with_reducible exact WkL.nil|refine WkL.cons (Wk.same _) ?_|refine WkL.cons (Wk.strip _) ?_)) ?_|apply SubW.drop))
        done))
     ·exact vW
     ·exact kW
     ·(
       simp(maxSteps:=10000000) (disch:=omega) only[vm,wpE,seval,h.1]
       omega))|
    (
     (with_reducible refine A2Y h (by assumption) ?_ ?_ ?_ (by omega))
     ·exact uW
     ·exact vW
     ·exact kW)|
    (
     (with_reducible refine A2N h (by assumption) ?_ ?_ ?_ (by omega))
     ·exact uW
     ·exact vW
     ·exact kW)|
    (
     (with_reducible refine A1s h (by assumption) ?_ ?_ ?_ (by omega))
     ·exact uW
     ·exact vW
     ·exact kW)|
    (
     (with_reducible refine A1n h (by assumption) ?_ ?_ ?_ (by omega))
     ·exact uW
     ·exact vW
     ·exact kW)|
    (
     (with_reducible refine A2i h (by assumption) ?_ ?_ ?_ (by omega))
     ·exact uW
     ·exact vW
     ·exact kW)|(with_reducible refine AaM ?_ ?_)|(with_reducible exact A1V h)|(simp(maxSteps:=10000000) (disch:=omega) only[vm,wpE,seval,h.1])|(with_reducible obtain⟨_,h⟩:=GY h)|(with_reducible rcases L6 h with h|h)|(simp only[AA]at h))):G:=x
variable{E:Env}{c:Code}{n:Nat}{m:MS}{β ρ:Type}
theorem AO{X B:Option ρ}{f:FuncId} {x0 x1 x2 x3 x4 x5 x9 y0 y1 y2 y3 y4 y5}{nt:Nat}{rs:List ResultVar}{args:List AVal}{er:ρ->AVal} (hx:X=B) (hf:E.P.funcs[f]?=some ⟨x0,x1,x2,x3,x4,x5,nt,rs.toArray,some c,x9,y0,y1,y2,y3,y4,y5⟩) (D:DT:=[]) (b:Bool:=false) (w: ∀(r:ρ) (n:Nat) (m:MS) (R:APost),RH E rs R b m n (er r)->True/\B=some r->DD D->Gl (wpd E D c R (args++List.replicate (nt-args.length) .any) ⟨m,n⟩):=by intro r n m R hR h hD;exact tW):CF E X f args er:=mkF hx hf rfl rfl rfl D b w
theorem Fh{X B:Option ρ}{f:FuncId} {x0 x1 x2 x3 x4 x5 x9 y0 y1 y2 y3 y4 y5}{nt:Nat}{rs:List ResultVar}{args:Nat->List AVal}{pre:Nat->List AVal}{er:ρ->AVal}{post:Nat->ρ->List AVal} (hx:X=B) (hf:E.P.funcs[f]?=some ⟨x0,x1,x2,x3,x4,x5,nt,rs.toArray,some c,x9,y0,y1,y2,y3,y4,y5⟩) (D:DT:=[]) (b:Bool:=false) (w: ∀(r:ρ) (n i:Nat) (m:MS) (R:APost),i<n->RH E rs R b ((i,post i r)::m) n (er r)->True/\B=some r->DD D->Gl (wpd E D c R (args i++List.replicate (nt-(args i).length) .any) ⟨(i,pre i)::m,n⟩):=by intro r n i m R hin hR h hD;exact tW):CB E X f args pre er post:=mkB hx hf rfl rfl rfl D b w
theorem A3b{X B:Option ρ}{f:FuncId} {x0 x1 x2 x3 x4 x5 x9 y0 y1 y2 y3 y4 y5}{nt:Nat}{rs:List ResultVar}{pre:Nat->List AVal}{er:ρ->AVal}{post:Nat->ρ->List AVal} (hx:X=B) (hf:E.P.funcs[f]?=some ⟨x0,x1,x2,x3,x4,x5,nt,rs.toArray,some c,x9,y0,y1,y2,y3,y4,y5⟩) (D:DT:=[]) (b:Bool:=false) (w: ∀(r:ρ) (n i j:Nat) (m:MS) (R:APost),i<n->j<n->i≠j->RH E rs R b ((i,post i r)::(j,[.ptr i 0])::m) n (er r)->True/\B=some r->DD D->Gl (wpd E D c R ([.ptr j 0]++List.replicate (nt-([.ptr j 0]:List AVal).length) .any) ⟨(i,pre i)::(j,[.ptr i 0])::m,n⟩):=by intro r n i j m R hin hin2 hij hR h hD;exact tW):CT E X f pre er post:=by
 constructor;intro r n i j m Q h hj hi hne hQ;have k9: ∀n',n<=n'->Q (er r) ⟨A9 (A9 m i (post i r)) j [.ptr i 0],n'⟩:=λn' k=>by rw[AGJ (by rw[RO (dO hne)];exact hj)];exact(hQ n' k).go
 refine AE.front2 hi hj hne λhin hjn=>?_;cases b with|false=>refine Nh hf rfl (FO (w r n i j _ (Ko E _ _) hin hjn hne ⟨?_⟩ ⟨trivial,hx▸h⟩ ⟨⟩).go);intro af st xs m0 m1 n' h1 h2 h0 h3 h4;subst h0;rw[AdM]at h4;exact⟨LW (h1) h2 ⟨_,_,rfl,h4▸k9 n' h3⟩,Ld (h1) h2 ⟨_,_,rfl,h4▸k9 n' h3⟩⟩|true=>refine AE.strip (Nh hf rfl (FO (w r n i j _ (Ko E _ λr st'=>_) hin hjn hne ⟨?_⟩ ⟨trivial,hx▸h⟩ ⟨⟩).go));intro af st xs m0 m1 n' h1 h2 h0 h3 h4;subst h0;rw[Ab3]at h4;exact⟨LW (h1) h2 ⟨_,_,rfl,by rw[h4];exact k9 n' h3⟩,Ld (h1) h2 ⟨_,_,rfl,by rw[h4];exact k9 n' h3⟩⟩
end Go.VM
