import Derived.Test.YtfbofngnmfcomaaGreatDoorVM5
import Derived.KernelRfl
set_option linter.unusedSimpArgs false
set_option linter.unusedVariables false
set_option linter.defProp false
namespace Go.VM
def Aw6:=ac (ac (ac (ac (ac (@AgK) (@AoU)) (ac (@Ajk) (ac (@AiN) (@Af3)))) (ac (ac (@Aby) (@Aa2)) (ac (@AU4) (ac (@AgV) (@AjX))))) (ac (ac (ac (@Asm) (@Atn)) (ac (@Atm) (ac (@AsN) (@Ar4)))) (ac (ac (@AuL) (@Atz)) (ac (@APw) (ac (@AC6) (@Ag7)))))) (ac (ac (ac (ac (@AYG) (@AXd)) (ac (@Atw) (ac (@AqZ) (@Aw4)))) (ac (ac (@AxI) (@AxM)) (ac (@AxD) (ac (@AxQ) (@AxH))))) (ac (ac (ac (@Axa) (@Awp)) (ac (@Art) (ac (@Ar1) (@Aio)))) (ac (ac (@AZl) (@Ai1)) (ac (@Afr) (ac (@AgX) (@AnI))))))
def AxK:=ac Aw6 (ac (ac (@Adh) (@Arz)) (ac (ac (ac (@Awx) (@Aww)) (ac (@Awi) (@Axc))) (ac (ac (@AiS) (@AqX)) (ac (@AxR) (@Aw0)))))
def wpE:=ac AxK (ac (@AuZ) (ac (@As8) (@AtQ)))
def aW{G:Prop} (x:G:=by first|with_reducible rfl|(simp(maxSteps:=10000000) (disch:=omega) only[vm,wpE,seval,h.1];done)|rfl):G:=x
def uW{G:Prop} (x:G:=by first|(simp(maxSteps:=10000000) (disch:=omega) only[vm,wpE,seval,h.1];((repeat (first|with_reducible exact SubW.refl _|refine SubW.keep (by repeat (first|with_reducible exact WkL.nil|refine WkL.cons (Wk.same _) ?_|refine WkL.cons (Wk.strip _) ?_)) ?_|apply SubW.drop));done))|exact SubW.refl _):G:=x
def xW{G:Prop} (x:G:=by first|exact SubW.refl _|(simp(maxSteps:=10000000) (disch:=omega) only[vm,wpE,seval,h.1];((repeat (first|with_reducible exact SubW.refl _|refine SubW.keep (by repeat (first|with_reducible exact WkL.nil|refine WkL.cons (Wk.same _) ?_|refine WkL.cons (Wk.strip _) ?_)) ?_|apply SubW.drop));first|done|fail))):G:=x
def kW{G:Prop} (x:G:=by first|(simp(maxSteps:=10000000) (disch:=omega) only[vm,wpE,seval,h.1];first|with_reducible exact WkL.refl _|((repeat (first|with_reducible exact WkL.nil|refine WkL.cons (Wk.same _) ?_|refine WkL.cons (Wk.strip _) ?_));done))|exact WkL.refl _):G:=x
def vW{G:Prop} (x:G:=by first|(simp(maxSteps:=10000000) (disch:=omega) only[vm,wpE,seval,h.1];done)|rfl):G:=x
def yW{G:Prop} (x:G:=by first|exact h.1.1|(simp only[h.1];done)|omega):G:=x
def sW{G:Prop} (x:G:=by simp(maxSteps:=10000000) (disch:=omega) only[vm,wpE,seval,h.1];first|done|fail):G:=x
def tW{G:Prop} (x:G:=by
 repeat'
  (
   first | (with_reducible obtain⟨_,h⟩:=AtX h)|(with_reducible obtain⟨_,h⟩:=Arh h)|(with_reducible obtain⟨_,h⟩:=Av8 h)|
    (
     (fail_if_success with_reducible have:=FZ h)
     (with_reducible obtain⟨c,h⟩:=NE h)
     (try simp only[liE,seval]at c)
     replace h:=KO c h)|
    (
     (with_reducible obtain⟨_,c,h⟩:=AxV h)
     (first|replace c:=ac (bu (List.map (AVal.int .u8)) c) (bu (List.map (AVal.int .i64)) c)|replace c:=bu (List.map AVal.str) c|replace c:=Av0 c|skip)
     (try simp only[aF,cp,eE]at c)
     replace h:=KO c h)|
    (
     (with_reducible refine isW ?_)
     simp(maxSteps:=10000000) (disch:=omega) only[vm,wpE,seval,h.1])|
    (
     (with_reducible refine isC ?_)
     first|
      (
       (with_reducible refine XE h.1.1 ?_ ?_)
       ·exact aW
       intro _ _)|
      (
       (with_reducible refine AP2 h.1.1 ?_ ?_ ?_)
       ·exact aW
       ·exact sW
       intro _ _)|
      (
       (with_reducible refine XE h.1.2.1 ?_ ?_)
       ·exact aW
       intro _ _)|
      (
       (with_reducible refine AP2 h.1.2.1 ?_ ?_ ?_)
       ·exact aW
       ·exact sW
       intro _ _)|
      (
       (with_reducible refine XE h.1.2.2.1 ?_ ?_)
       ·exact aW
       intro _ _)|
      (
       (with_reducible refine AP2 h.1.2.2.1 ?_ ?_ ?_)
       ·exact aW
       ·exact sW
       intro _ _)|
      (
       (with_reducible refine XE h.1.2.2.2.1 ?_ ?_)
       ·exact aW
       intro _ _)|
      (
       (with_reducible refine AP2 h.1.2.2.2.1 ?_ ?_ ?_)
       ·exact aW
       ·exact sW
       intro _ _)|
      (
       (with_reducible refine XE h.1.2.2.2.2.1 ?_ ?_)
       ·exact aW
       intro _ _)|
      (
       (with_reducible refine AP2 h.1.2.2.2.2.1 ?_ ?_ ?_)
       ·exact aW
       ·exact sW
       intro _ _)|
      (
       (with_reducible refine AW5 h.1.1 ?_ ?_ ?_)
       ·exact aW
       ·exact sW
       intro _ _)|
      (
       (with_reducible refine AW5 h.1.2.1 ?_ ?_ ?_)
       ·exact aW
       ·exact sW
       intro _ _)|
      (
       (with_reducible refine AW5 h.1.2.2.1 ?_ ?_ ?_)
       ·exact aW
       ·exact sW
       intro _ _)|
      (
       (with_reducible refine AV7 h.1.1 ?_ ?_ ?_)
       ·exact aW
       ·exact sW
       intro _ _)|
      (
       (with_reducible refine AV7 h.1.2.1 ?_ ?_ ?_)
       ·exact aW
       ·exact sW
       intro _ _)|
      (
       (with_reducible refine AV7 h.1.2.2.1 ?_ ?_ ?_)
       ·exact aW
       ·exact sW
       intro _ _)|
      (
       (with_reducible refine Agt h.1.1 ?_ ?_)
       ·exact aW
       intro _ _ _ _)|
      (
       (with_reducible refine Agt h.1.2.1 ?_ ?_)
       ·exact aW
       intro _ _ _ _)|
      (
       (with_reducible refine Agt h.1.2.2.1 ?_ ?_)
       ·exact aW
       intro _ _ _ _)|
      (
       (with_reducible apply Agy h.1.1)
       ·(
         first|with_reducible rfl|
          (
           simp(maxSteps:=10000000) (disch:=omega) only[vm,wpE,seval,h.1]
           rfl))
       ·exact sW
       ·omega
       intro _ _)|
      (
       (with_reducible apply Agy h.1.2.1)
       ·(
         first|with_reducible rfl|
          (
           simp(maxSteps:=10000000) (disch:=omega) only[vm,wpE,seval,h.1]
           rfl))
       ·exact sW
       ·omega
       intro _ _)|
      (
       (with_reducible apply Agy h.1.2.2.1)
       ·(
         first|with_reducible rfl|
          (
           simp(maxSteps:=10000000) (disch:=omega) only[vm,wpE,seval,h.1]
           rfl))
       ·exact sW
       ·omega
       intro _ _)|
      (
       (with_reducible refine AVi h.1.1 ?_ ?_ ?_)
       ·exact aW
       ·exact sW
       intro _ _)|
      (
       (with_reducible refine ATr h.1.1 ?_ ?_ ?_)
       ·exact aW
       ·exact sW
       intro _ _)|
      (
       (with_reducible refine AVi h.1.2.1 ?_ ?_ ?_)
       ·exact aW
       ·exact sW
       intro _ _)|
      (
       (with_reducible refine ATr h.1.2.1 ?_ ?_ ?_)
       ·exact aW
       ·exact sW
       intro _ _)|
      (
       (with_reducible refine AVi h.1.2.2.1 ?_ ?_ ?_)
       ·exact aW
       ·exact sW
       intro _ _)|
      (
       (with_reducible refine ATr h.1.2.2.1 ?_ ?_ ?_)
       ·exact aW
       ·exact sW
       intro _ _)|
      (
       (with_reducible refine XE h.1.2.2.2.2.2.1 ?_ ?_)
       ·exact aW
       intro _ _)|
      (
       (with_reducible refine XE h.1.2.2.2.2.2.2.1 ?_ ?_)
       ·exact aW
       intro _ _)|
      (
       (with_reducible refine XE h.1.2.2.2.2.2.2.2.1 ?_ ?_)
       ·exact aW
       intro _ _)|
      (
       (with_reducible refine XE h.1.2.2.2.2.2.2.2.2.1 ?_ ?_)
       ·exact aW
       intro _ _))|(with_reducible refine Auy ?_)|
    (
     (with_reducible refine isA ?_)
     first|
      (
       (with_reducible refine AvP h hD ?_ ?_ ?_)
       ·rfl
       all_goals
        (
         clear h
         intro _ _ _ h))|
      (
       (with_reducible refine ArV h hD ?_ ?_ ?_)
       ·rfl
       all_goals
        (
         clear h
         intro _ _ _ h))|
      (
       (with_reducible refine AvG h hD ?_ ?_ ?_)
       ·rfl
       all_goals
        (
         clear h
         intro _ _ _ _ h))|
      (
       (with_reducible refine Au9 h hD ?_ ?_ ?_)
       ·exact xW
       ·exact kW
       (
        clear h
        intro _ _ _ _ h _ _))|
      (
       (with_reducible refine Akj h hD ?_ ?_ ?_ ?_ ?_)
       ·exact yW
       ·exact xW
       ·exact kW
       all_goals
        (
         clear h
         first|intro _ _ _ _ _ _ h _ _|intro _ _ _ _ h))|
      (
       (with_reducible refine Asj h hD ?_ ?_ ?_ ?_ ?_)
       ·exact yW
       ·exact xW
       ·exact kW
       all_goals
        (
         clear h
         first|intro _ _ _ _ _ _ h _ _|intro _ _ _ _ h))|
      (
       (with_reducible refine Aii h hD ?_ ?_ ?_ ?_ ?_)
       ·exact yW
       ·exact xW
       ·exact kW
       all_goals
        (
         clear h
         first|intro _ _ _ _ _ h _ _|intro _ _ _ _ h))|
      (
       (with_reducible refine Aso h hD ?_ ?_ ?_ ?_ ?_)
       ·exact yW
       ·exact xW
       ·exact kW
       all_goals
        (
         clear h
         first|intro _ _ _ _ _ h _ _|intro _ _ _ _ h))|
      (
       with_reducible
        refine AxL hD (by
         simp only[APw,AC6,liE,seval]
         rfl) (by
         simp only[AbP,plE,liE,seval]
         rfl) (by kernel_rfl) ?_)|(with_reducible refine AxZ hD ?_))|((with_reducible refine AvR h ?_ ?_)<;>clear h<;>intro h)|
    (
     (with_reducible obtain⟨H,h⟩:=AsT h)
     subst h
     (try simp(maxSteps:=10000000) (disch:=omega) only[vm,wpE,seval,H])
     first|
      refine AxS hR (by
       simp(maxSteps:=10000000) (disch:=omega) only[vm,wpE,seval,H]
       rfl) ?_ (by omega) ?_|
      refine AxC hR (by
       simp(maxSteps:=10000000) (disch:=omega) only[vm,wpE,seval,H]
       rfl) ?_ (by omega) ?_
     ·(
       first|
        (
         (repeat (first|exact bT _|apply cy))
         done)|
        (
         simp(maxSteps:=10000000) (disch:=omega) only[vm,wpE,seval,H]
         (repeat (first|exact bT _|apply cy))
         done))
     ·(
       first|
        (
         simp(maxSteps:=10000000) (disch:=omega) only[vm,wpE,seval,H]
         done)|rfl))|
    (
     (with_reducible refine Axb (by assumption) h ?_ ?_ ?_ (by omega))
     ·exact uW
     ·exact vW
     ·exact kW)|
    (
     (with_reducible refine AxE (by assumption) h ?_ ?_ ?_ ?_)
     ·(
       simp(maxSteps:=10000000) (disch:=omega) only[vm,wpE,seval,h.1]
       (
        (repeat (first|with_reducible exact SubW.refl _|refine SubW.keep (by repeat (first|with_reducible exact WkL.nil|refine WkL.cons (Wk.same _) ?_|refine WkL.cons (Wk.strip _) ?_)) ?_|apply SubW.drop))
        done))
     ·exact vW
     ·exact kW
     ·(
       simp(maxSteps:=10000000) (disch:=omega) only[vm,wpE,seval,h.1]
       omega))|
    (
     (with_reducible refine AwF h (by assumption) ?_ ?_ ?_ (by omega))
     ·exact uW
     ·exact vW
     ·exact kW)|
    (
     (with_reducible refine AvN h (by assumption) ?_ ?_ ?_ (by omega))
     ·exact uW
     ·exact vW
     ·exact kW)|
    (
     (with_reducible refine Au2 h (by assumption) ?_ ?_ ?_ (by omega))
     ·exact uW
     ·exact vW
     ·exact kW)|
    (
     (with_reducible refine AvX h (by assumption) ?_ ?_ ?_ (by omega))
     ·exact uW
     ·exact vW
     ·exact kW)|
    (
     (with_reducible refine Avd h (by assumption) ?_ ?_ ?_ (by omega))
     ·exact uW
     ·exact vW
     ·exact kW)|(with_reducible refine AVg ?_ ?_)|(with_reducible exact AvO h)|(simp(maxSteps:=10000000) (disch:=omega) only[vm,wpE,seval,h.1])|(with_reducible obtain⟨_,h⟩:=FZ h)|(with_reducible rcases KX h with h|h)|(simp only[AA]at h))):G:=x
variable{E:Env}{c:Code}{n:Nat}{m:MS}{β ρ:Type}
theorem AQ{X B:Option ρ}{f:FuncId}{fn:Func}{nt:Nat}{rs:List ResultVar}{args:List AVal}{er:ρ->AVal} (hx:X=B) (hf:E.P.funcs[f]?=some fn) (hb:fn.body=some c) (hn:fn.ntmps=nt) (hr:fn.results=rs.toArray) (D:DT:=[]) (b:Bool:=false) (w: ∀(r:ρ) (n:Nat) (m:MS) (R:APost),RH E rs R b m n (er r)->True/\B=some r->DD D->Gl (wpd E D c R (args++List.replicate (nt-args.length) .any) ⟨m,n⟩):=by intro r n m R hR h hD;exact tW):CF E X f args er:=mkF hx hf hb hn hr D b w
theorem E8{X B:Option ρ}{f:FuncId}{fn:Func}{nt:Nat}{rs:List ResultVar}{args:Nat->List AVal}{pre:Nat->List AVal}{er:ρ->AVal}{post:Nat->ρ->List AVal} (hx:X=B) (hf:E.P.funcs[f]?=some fn) (hb:fn.body=some c) (hn:fn.ntmps=nt) (hr:fn.results=rs.toArray) (D:DT:=[]) (b:Bool:=false) (w: ∀(r:ρ) (n i:Nat) (m:MS) (R:APost),i<n->RH E rs R b ((i,post i r)::m) n (er r)->True/\B=some r->DD D->Gl (wpd E D c R (args i++List.replicate (nt-(args i).length) .any) ⟨(i,pre i)::m,n⟩):=by intro r n i m R hin hR h hD;exact tW):CB E X f args pre er post:=mkB hx hf hb hn hr D b w
theorem Awe{X B:Option ρ}{f:FuncId}{fn:Func}{nt:Nat}{rs:List ResultVar}{pre:Nat->List AVal}{er:ρ->AVal}{post:Nat->ρ->List AVal} (hx:X=B) (hf:E.P.funcs[f]?=some fn) (hb:fn.body=some c) (hn:fn.ntmps=nt) (hr:fn.results=rs.toArray) (D:DT:=[]) (b:Bool:=false) (w: ∀(r:ρ) (n i j:Nat) (m:MS) (R:APost),i<n->j<n->i≠j->RH E rs R b ((i,post i r)::(j,[.ptr i 0])::m) n (er r)->True/\B=some r->DD D->Gl (wpd E D c R ([.ptr j 0]++List.replicate (nt-([.ptr j 0]:List AVal).length) .any) ⟨(i,pre i)::(j,[.ptr i 0])::m,n⟩):=by intro r n i j m R hin hin2 hij hR h hD;exact tW):CT E X f pre er post:=by
 constructor;intro r n i j m Q h hj hi hne hQ;subst hn;have e:fn.results.toList=rs:=by rw[hr]
 have k9: ∀n',n<=n'->Q (er r) ⟨Ar (Ar m i (post i r)) j [.ptr i 0],n'⟩:=λn' k=>by rw[ACx (by rw[Ph (dD hne)];exact hj)];exact(hQ n' k).go
 refine ACall.front2 hi hj hne λhin hjn=>?_;cases b with|false=>refine MJ hf hb (EY (w r n i j _ (Jh E fn _) hin hjn hne ⟨?_⟩ ⟨trivial,hx▸h⟩ ⟨⟩).go);intro af st xs m0 m1 n' h1 h2 h0 h3 h4;subst h0;rw[AXd]at h4;exact⟨KA (by rw[e];exact h1) h2 ⟨_,_,rfl,h4▸k9 n' h3⟩,KH (by rw[e];exact h1) h2 ⟨_,_,rfl,h4▸k9 n' h3⟩⟩|true=>refine ACall.strip (MJ hf hb (EY (w r n i j _ (Jh E fn λr st'=>_) hin hjn hne ⟨?_⟩ ⟨trivial,hx▸h⟩ ⟨⟩).go));intro af st xs m0 m1 n' h1 h2 h0 h3 h4;subst h0;rw[AYG]at h4;exact⟨KA (by rw[e];exact h1) h2 ⟨_,_,rfl,by rw[h4];exact k9 n' h3⟩,KH (by rw[e];exact h1) h2 ⟨_,_,rfl,by rw[h4];exact k9 n' h3⟩⟩
end Go.VM
