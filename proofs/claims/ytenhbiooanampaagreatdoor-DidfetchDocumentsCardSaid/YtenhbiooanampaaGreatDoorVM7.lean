import Derived.Test.YtenhbiooanampaaGreatDoorVM5
import Derived.KernelRfl
set_option linter.unusedSimpArgs false
set_option linter.unusedVariables false
set_option linter.defProp false
namespace Go.VM
def Azp:=ac (ac (ac (ac (ac (@Alw) (@AtE)) (ac (@Amc) (ac (@AlY) (@Aj5)))) (ac (ac (@Abq) (@Acz)) (ac (@AYX) (ac (@Ajv) (@AnE))))) (ac (ac (ac (@Au3) (@Avx)) (ac (@Auk) (ac (@Awd) (@Awr)))) (ac (ac (@Au2) (@AvE)) (ac (@ASm) (ac (@AFS) (@AnP)))))) (ac (ac (ac (ac (@AaH) (@AZ1)) (ac (@Avs) (ac (@Apn) (@AzJ)))) (ac (ac (@AzM) (@AzN)) (ac (@AzO) (ac (@Azs) (@Az4))))) (ac (ac (ac (@AzG) (@Azo)) (ac (@AwY) (ac (@Au8) (@AoB)))) (ac (ac (@Aa8) (@Ai5)) (ac (@Aln) (ac (@Am4) (@ArH))))))
def AzK:=ac Azp (ac (ac (@AeH) (@Auw)) (ac (ac (ac (@Aza) (@Azl)) (ac (@A0B) (@AzS))) (ac (ac (@Amz) (@ArI)) (ac (@AzV) (@Azh)))))
def wpE:=ac AzK (ac (@Au7) (ac (@AuM) (@Avc)))
def aW{G:Prop} (x:G:=by first|with_reducible rfl|(simp(maxSteps:=10000000) (disch:=omega) only[vm,wpE,seval,h.1];done)|rfl):G:=x
def uW{G:Prop} (x:G:=by first|(simp(maxSteps:=10000000) (disch:=omega) only[vm,wpE,seval,h.1];((repeat (first|with_reducible exact SubW.refl _|refine SubW.keep (by repeat (first|with_reducible exact WkL.nil|refine WkL.cons (Wk.same _) ?_|refine WkL.cons (Wk.strip _) ?_)) ?_|apply SubW.drop));done))|exact SubW.refl _):G:=x
def xW{G:Prop} (x:G:=by first|exact SubW.refl _|(simp(maxSteps:=10000000) (disch:=omega) only[vm,wpE,seval,h.1];((repeat (first|with_reducible exact SubW.refl _|refine SubW.keep (by repeat (first|with_reducible exact WkL.nil|refine WkL.cons (Wk.same _) ?_|refine WkL.cons (Wk.strip _) ?_)) ?_|apply SubW.drop));first|done|fail))):G:=x
def kW{G:Prop} (x:G:=by first|(simp(maxSteps:=10000000) (disch:=omega) only[vm,wpE,seval,h.1];first|with_reducible exact WkL.refl _|((repeat (first|with_reducible exact WkL.nil|refine WkL.cons (Wk.same _) ?_|refine WkL.cons (Wk.strip _) ?_));done))|exact WkL.refl _):G:=x
def vW{G:Prop} (x:G:=by first|(simp(maxSteps:=10000000) (disch:=omega) only[vm,wpE,seval,h.1];done)|rfl):G:=x
def yW{G:Prop} (x:G:=by first|exact h.1.1|(simp only[h.1];done)|omega):G:=x
def sW{G:Prop} (x:G:=by simp(maxSteps:=10000000) (disch:=omega) only[vm,wpE,seval,h.1];first|done|fail):G:=x
def tW{G:Prop} (x:G:=by
 repeat'
  (
   first | (with_reducible obtain⟨_,h⟩:=AwA h)|(with_reducible obtain⟨_,h⟩:=Atz h)|(with_reducible obtain⟨_,h⟩:=AyB h)|
    (
     (fail_if_success with_reducible have:=GI h)
     (with_reducible obtain⟨c,h⟩:=Nk h)
     (try simp only[liE,seval]at c)
     replace h:=Kv c h)|
    (
     (with_reducible obtain⟨_,c,h⟩:=Azg h)
     (first|replace c:=ac (br (List.map (AVal.int .u8)) c) (br (List.map (AVal.int .i64)) c)|replace c:=br (List.map AVal.str) c|replace c:=Ayg c|skip)
     (try simp only[aF,cv,eE]at c)
     replace h:=Kv c h)|
    (
     (with_reducible refine isW ?_)
     simp(maxSteps:=10000000) (disch:=omega) only[vm,wpE,seval,h.1])|
    (
     (with_reducible refine isC ?_)
     first|
      (
       (with_reducible refine X8 h.1.1 ?_ ?_)
       ·exact aW
       intro _ _)|
      (
       (with_reducible refine AT0 h.1.1 ?_ ?_ ?_)
       ·exact aW
       ·exact sW
       intro _ _)|
      (
       (with_reducible refine X8 h.1.2.1 ?_ ?_)
       ·exact aW
       intro _ _)|
      (
       (with_reducible refine AT0 h.1.2.1 ?_ ?_ ?_)
       ·exact aW
       ·exact sW
       intro _ _)|
      (
       (with_reducible refine X8 h.1.2.2.1 ?_ ?_)
       ·exact aW
       intro _ _)|
      (
       (with_reducible refine AT0 h.1.2.2.1 ?_ ?_ ?_)
       ·exact aW
       ·exact sW
       intro _ _)|
      (
       (with_reducible refine X8 h.1.2.2.2.1 ?_ ?_)
       ·exact aW
       intro _ _)|
      (
       (with_reducible refine AT0 h.1.2.2.2.1 ?_ ?_ ?_)
       ·exact aW
       ·exact sW
       intro _ _)|
      (
       (with_reducible refine X8 h.1.2.2.2.2.1 ?_ ?_)
       ·exact aW
       intro _ _)|
      (
       (with_reducible refine AT0 h.1.2.2.2.2.1 ?_ ?_ ?_)
       ·exact aW
       ·exact sW
       intro _ _)|
      (
       (with_reducible refine AWb h.1.1 ?_ ?_ ?_)
       ·exact aW
       ·exact sW
       intro _ _)|
      (
       (with_reducible refine AWb h.1.2.1 ?_ ?_ ?_)
       ·exact aW
       ·exact sW
       intro _ _)|
      (
       (with_reducible refine AWb h.1.2.2.1 ?_ ?_ ?_)
       ·exact aW
       ·exact sW
       intro _ _)|
      (
       (with_reducible refine AXT h.1.1 ?_ ?_ ?_)
       ·exact aW
       ·exact sW
       intro _ _)|
      (
       (with_reducible refine AXT h.1.2.1 ?_ ?_ ?_)
       ·exact aW
       ·exact sW
       intro _ _)|
      (
       (with_reducible refine AXT h.1.2.2.1 ?_ ?_ ?_)
       ·exact aW
       ·exact sW
       intro _ _)|
      (
       (with_reducible refine AiG h.1.1 ?_ ?_)
       ·exact aW
       intro _ _ _ _)|
      (
       (with_reducible refine AiG h.1.2.1 ?_ ?_)
       ·exact aW
       intro _ _ _ _)|
      (
       (with_reducible refine AiG h.1.2.2.1 ?_ ?_)
       ·exact aW
       intro _ _ _ _)|
      (
       (with_reducible apply Aj2 h.1.1)
       ·(
         first|with_reducible rfl|
          (
           simp(maxSteps:=10000000) (disch:=omega) only[vm,wpE,seval,h.1]
           rfl))
       ·exact sW
       ·omega
       intro _ _)|
      (
       (with_reducible apply Aj2 h.1.2.1)
       ·(
         first|with_reducible rfl|
          (
           simp(maxSteps:=10000000) (disch:=omega) only[vm,wpE,seval,h.1]
           rfl))
       ·exact sW
       ·omega
       intro _ _)|
      (
       (with_reducible apply Aj2 h.1.2.2.1)
       ·(
         first|with_reducible rfl|
          (
           simp(maxSteps:=10000000) (disch:=omega) only[vm,wpE,seval,h.1]
           rfl))
       ·exact sW
       ·omega
       intro _ _)|
      (
       (with_reducible refine AXn h.1.1 ?_ ?_ ?_)
       ·exact aW
       ·exact sW
       intro _ _)|
      (
       (with_reducible refine AZB h.1.1 ?_ ?_ ?_)
       ·exact aW
       ·exact sW
       intro _ _)|
      (
       (with_reducible refine AXn h.1.2.1 ?_ ?_ ?_)
       ·exact aW
       ·exact sW
       intro _ _)|
      (
       (with_reducible refine AZB h.1.2.1 ?_ ?_ ?_)
       ·exact aW
       ·exact sW
       intro _ _)|
      (
       (with_reducible refine AXn h.1.2.2.1 ?_ ?_ ?_)
       ·exact aW
       ·exact sW
       intro _ _)|
      (
       (with_reducible refine AZB h.1.2.2.1 ?_ ?_ ?_)
       ·exact aW
       ·exact sW
       intro _ _)|
      (
       (with_reducible refine X8 h.1.2.2.2.2.2.1 ?_ ?_)
       ·exact aW
       intro _ _)|
      (
       (with_reducible refine X8 h.1.2.2.2.2.2.2.1 ?_ ?_)
       ·exact aW
       intro _ _)|
      (
       (with_reducible refine X8 h.1.2.2.2.2.2.2.2.1 ?_ ?_)
       ·exact aW
       intro _ _)|
      (
       (with_reducible refine X8 h.1.2.2.2.2.2.2.2.2.1 ?_ ?_)
       ·exact aW
       intro _ _))|(with_reducible refine AyG ?_)|
    (
     (with_reducible refine isA ?_)
     first|
      (
       (with_reducible refine Ayx h hD ?_ ?_ ?_)
       ·rfl
       all_goals
        (
         clear h
         intro _ _ _ h))|
      (
       (with_reducible refine Atl h hD ?_ ?_ ?_)
       ·rfl
       all_goals
        (
         clear h
         intro _ _ _ h))|
      (
       (with_reducible refine Axe h hD ?_ ?_ ?_)
       ·rfl
       all_goals
        (
         clear h
         intro _ _ _ _ h))|
      (
       (with_reducible refine Ax3 h hD ?_ ?_ ?_)
       ·exact xW
       ·exact kW
       (
        clear h
        intro _ _ _ _ h _ _))|
      (
       (with_reducible refine Ahc h hD ?_ ?_ ?_ ?_ ?_)
       ·exact yW
       ·exact xW
       ·exact kW
       all_goals
        (
         clear h
         first|intro _ _ _ _ _ _ h _ _|intro _ _ _ _ h))|
      (
       (with_reducible refine Au5 h hD ?_ ?_ ?_ ?_ ?_)
       ·exact yW
       ·exact xW
       ·exact kW
       all_goals
        (
         clear h
         first|intro _ _ _ _ _ _ h _ _|intro _ _ _ _ h))|
      (
       (with_reducible refine AnG h hD ?_ ?_ ?_ ?_ ?_)
       ·exact yW
       ·exact xW
       ·exact kW
       all_goals
        (
         clear h
         first|intro _ _ _ _ _ h _ _|intro _ _ _ _ h))|
      (
       (with_reducible refine AwF h hD ?_ ?_ ?_ ?_ ?_)
       ·exact yW
       ·exact xW
       ·exact kW
       all_goals
        (
         clear h
         first|intro _ _ _ _ _ h _ _|intro _ _ _ _ h))|
      (
       with_reducible
        refine Azw hD (by
         simp only[ASm,AFS,liE,seval]
         rfl) (by
         simp only[AfO,plE,liE,seval]
         rfl) (by kernel_rfl) ?_)|(with_reducible refine AzF hD ?_))|((with_reducible refine AxV h ?_ ?_)<;>clear h<;>intro h)|
    (
     (with_reducible obtain⟨H,h⟩:=AuQ h)
     subst h
     (try simp(maxSteps:=10000000) (disch:=omega) only[vm,wpE,seval,H])
     first|
      refine Azd hR (by
       simp(maxSteps:=10000000) (disch:=omega) only[vm,wpE,seval,H]
       rfl) ?_ (by omega) ?_|
      refine Az0 hR (by
       simp(maxSteps:=10000000) (disch:=omega) only[vm,wpE,seval,H]
       rfl) ?_ (by omega) ?_
     ·(
       first|
        (
         (repeat (first|exact bU _|apply cC))
         done)|
        (
         simp(maxSteps:=10000000) (disch:=omega) only[vm,wpE,seval,H]
         (repeat (first|exact bU _|apply cC))
         done))
     ·(
       first|
        (
         simp(maxSteps:=10000000) (disch:=omega) only[vm,wpE,seval,H]
         done)|rfl))|
    (
     (with_reducible refine Azt (by assumption) h ?_ ?_ ?_ (by omega))
     ·exact uW
     ·exact vW
     ·exact kW)|
    (
     (with_reducible refine AzZ (by assumption) h ?_ ?_ ?_ ?_)
     ·(
       simp(maxSteps:=10000000) (disch:=omega) only[vm,wpE,seval,h.1]
       (
        (repeat (first|with_reducible exact SubW.refl _|refine SubW.keep (by repeat (first|with_reducible exact WkL.nil|refine WkL.cons (Wk.same _) ?_|refine WkL.cons (Wk.strip _) ?_)) ?_|apply SubW.drop))
        done))
     ·exact vW
     ·exact kW
     ·(
       simp(maxSteps:=10000000) (disch:=omega) only[vm,wpE,seval,h.1]
       omega))|
    (
     (with_reducible refine Ax1 h (by assumption) ?_ ?_ ?_ (by omega))
     ·exact uW
     ·exact vW
     ·exact kW)|
    (
     (with_reducible refine AxP h (by assumption) ?_ ?_ ?_ (by omega))
     ·exact uW
     ·exact vW
     ·exact kW)|
    (
     (with_reducible refine AyR h (by assumption) ?_ ?_ ?_ (by omega))
     ·exact uW
     ·exact vW
     ·exact kW)|
    (
     (with_reducible refine Axt h (by assumption) ?_ ?_ ?_ (by omega))
     ·exact uW
     ·exact vW
     ·exact kW)|
    (
     (with_reducible refine AyQ h (by assumption) ?_ ?_ ?_ (by omega))
     ·exact uW
     ·exact vW
     ·exact kW)|(with_reducible refine AYY ?_ ?_)|(with_reducible exact AxR h)|(simp(maxSteps:=10000000) (disch:=omega) only[vm,wpE,seval,h.1])|(with_reducible obtain⟨_,h⟩:=GI h)|(with_reducible rcases K4 h with h|h)|(simp only[AA]at h))):G:=x
variable{E:Env}{c:Code}{n:Nat}{m:MS}{β ρ:Type}
theorem AQ{X B:Option ρ}{f:FuncId}{fn:Func}{nt:Nat}{rs:List ResultVar}{args:List AVal}{er:ρ->AVal} (hx:X=B) (hf:E.P.funcs[f]?=some fn) (hb:fn.body=some c) (hn:fn.ntmps=nt) (hr:fn.results=rs.toArray) (D:DT:=[]) (b:Bool:=false) (w: ∀(r:ρ) (n:Nat) (m:MS) (R:APost),RH E rs R b m n (er r)->True/\B=some r->DD D->Gl (wpd E D c R (args++List.replicate (nt-args.length) .any) ⟨m,n⟩):=by intro r n m R hR h hD;exact tW):CF E X f args er:=mkF hx hf hb hn hr D b w
theorem Fb{X B:Option ρ}{f:FuncId}{fn:Func}{nt:Nat}{rs:List ResultVar}{args:Nat->List AVal}{pre:Nat->List AVal}{er:ρ->AVal}{post:Nat->ρ->List AVal} (hx:X=B) (hf:E.P.funcs[f]?=some fn) (hb:fn.body=some c) (hn:fn.ntmps=nt) (hr:fn.results=rs.toArray) (D:DT:=[]) (b:Bool:=false) (w: ∀(r:ρ) (n i:Nat) (m:MS) (R:APost),i<n->RH E rs R b ((i,post i r)::m) n (er r)->True/\B=some r->DD D->Gl (wpd E D c R (args i++List.replicate (nt-(args i).length) .any) ⟨(i,pre i)::m,n⟩):=by intro r n i m R hin hR h hD;exact tW):CB E X f args pre er post:=mkB hx hf hb hn hr D b w
theorem Az2{X B:Option ρ}{f:FuncId}{fn:Func}{nt:Nat}{rs:List ResultVar}{pre:Nat->List AVal}{er:ρ->AVal}{post:Nat->ρ->List AVal} (hx:X=B) (hf:E.P.funcs[f]?=some fn) (hb:fn.body=some c) (hn:fn.ntmps=nt) (hr:fn.results=rs.toArray) (D:DT:=[]) (b:Bool:=false) (w: ∀(r:ρ) (n i j:Nat) (m:MS) (R:APost),i<n->j<n->i≠j->RH E rs R b ((i,post i r)::(j,[.ptr i 0])::m) n (er r)->True/\B=some r->DD D->Gl (wpd E D c R ([.ptr j 0]++List.replicate (nt-([.ptr j 0]:List AVal).length) .any) ⟨(i,pre i)::(j,[.ptr i 0])::m,n⟩):=by intro r n i j m R hin hin2 hij hR h hD;exact tW):CT E X f pre er post:=by
 constructor;intro r n i j m Q h hj hi hne hQ;subst hn;have e:fn.results.toList=rs:=by rw[hr]
 have k9: ∀n',n<=n'->Q (er r) ⟨A7 (A7 m i (post i r)) j [.ptr i 0],n'⟩:=λn' k=>by rw[AEU (by rw[QL (dI hne)];exact hj)];exact(hQ n' k).go
 refine ACall.front2 hi hj hne λhin hjn=>?_;cases b with|false=>refine NG hf hb (E5 (w r n i j _ (KH E fn _) hin hjn hne ⟨?_⟩ ⟨trivial,hx▸h⟩ ⟨⟩).go);intro af st xs m0 m1 n' h1 h2 h0 h3 h4;subst h0;rw[AZ1]at h4;exact⟨KW (by rw[e];exact h1) h2 ⟨_,_,rfl,h4▸k9 n' h3⟩,KY (by rw[e];exact h1) h2 ⟨_,_,rfl,h4▸k9 n' h3⟩⟩|true=>refine ACall.strip (NG hf hb (E5 (w r n i j _ (KH E fn λr st'=>_) hin hjn hne ⟨?_⟩ ⟨trivial,hx▸h⟩ ⟨⟩).go));intro af st xs m0 m1 n' h1 h2 h0 h3 h4;subst h0;rw[AaH]at h4;exact⟨KW (by rw[e];exact h1) h2 ⟨_,_,rfl,by rw[h4];exact k9 n' h3⟩,KY (by rw[e];exact h1) h2 ⟨_,_,rfl,by rw[h4];exact k9 n' h3⟩⟩
end Go.VM
