/-The statement of DerefServices:the walks and the plain law,joined. -/
import Derived.Test.YtjgdhjpafjpjgaaGreatDoorCards
import Derived.Test.YtjgdhjpafjpjgaaGreatDoorTie
import Derived.Test.YtjgdhjpafjpjgaaGreatDoorRd
import Derived.Test.YtjgdhjpafjpjgaaGreatDoorVM3
import Derived.Test.YtjgdhjpafjpjgaaGreatDoorL7
import Derived.Test.YtjgdhjpafjpjgaaGreatDoorW22
import Derived.ProofKit
import Derived.WalkKit
import Derived.OpenShut
import Derived.Deep.DeepHandedRow
set_option linter.unusedVariables false
set_option maxRecDepth 100000
namespace Go.Proofs.YtjgdhjpafjpjgaaGreatDoor
open Go.ChangeShapes Go.WideShapes Go.ChangeAt Go.RowKit Go.VM
theorem Tryz.own:ownKnob Tryz.prog.godebug=none:=by kernel_rfl
theorem Tryz.kids:Kids Tryz.prog (· <Tryz.prog.types.size):=kids_rows (by kernel_rfl) (by kernel_rfl)
theorem Tryz.full: ∀t e,t<Tryz.prog.types.size→Tryz.prog.underlying t=some (.slice e)→0<Tryz.prog.cellsOf e:=slices_full_of Tryz.prog (by kernel_rfl)
theorem typesLt: ∀t,t∈[9,42,9]→t<Tryz.prog.types.size:=fun t h=>of_decide_eq_true (List.all_eq_true.1 (show([9,42,9]:List Nat).all (fun t=>decide (t<Tryz.prog.types.size))=true by kernel_rfl) t h)
theorem typesNo: ∀t,t∈[9,42,9]→Tryz.prog.wantsStandIn t=false:=fun t h=>of_decide_eq_true (List.all_eq_true.1 (show([9,42,9]:List Nat).all (fun t=>decide (Tryz.prog.wantsStandIn t=false))=true by kernel_rfl) t h)
noncomputable def laidWorld (os:Os):World:= {World.holding Tryz.prog os ⟨#[], #[],[]⟩with heap:=AXv (AXv ((World.holding Tryz.prog os ⟨#[], #[],[]⟩).heap) 2 (ATL Rows.laid_unicode_utf8_acceptRanges).toArray) 1 (ATL Rows.laid_unicode_utf8_first).toArray}
theorem laid_met (os:Os):laidMet Tryz.prog Rows.derefServicesRow.laid ((laidWorld os).forCall (fun _ _=>0) ⟨#[], #[.string ⟨#[]⟩,.agg #[.string ⟨#[]⟩,.string ⟨#[]⟩,.string ⟨#[]⟩,.string ⟨#[]⟩,.string ⟨#[]⟩,.bool false,.bool false],.string ⟨#[]⟩],[]⟩).memory:=laidMet_of_run' 8 (by kernel_rfl) (by kernel_rfl)
theorem reads (os:Os){H:Type} (enc:TypeId×Value→H): ∃places,DataW.whole enc Tryz.prog ((laidWorld os).forCall (fun _ _=>0) ⟨#[], #[.string ⟨#[]⟩,.agg #[.string ⟨#[]⟩,.string ⟨#[]⟩,.string ⟨#[]⟩,.string ⟨#[]⟩,.string ⟨#[]⟩,.bool false,.bool false],.string ⟨#[]⟩],[]⟩).memory Tryz.f5.params.toList Rows.derefServicesSpec.vars false #[.string ⟨#[]⟩,.agg #[.string ⟨#[]⟩,.string ⟨#[]⟩,.string ⟨#[]⟩,.string ⟨#[]⟩,.string ⟨#[]⟩,.bool false,.bool false],.string ⟨#[]⟩].toList 8=some ([.lit (.string []),.agg [.agg [.lit (.string []),.lit (.string [])],.lit (.string []),.lit (.string []),.lit (.string []),.lit (.bool false),.lit (.bool false)],.lit (.string [])],[],places):=⟨[],by kernel_rfl⟩
theorem row_laid{W:World} (h:laidMetH Tryz.prog Rows.derefServicesRow.laid W):laidMet Tryz.prog Rows.derefServicesRow.laid W:=laidMetH.met h (by kernel_rfl)
theorem glob{W:World} (hL:laidMetH Tryz.prog Rows.derefServicesRow.laid W): ∀g cs,vE.T g=some cs→Rep (Hz W) (.cptr cs) (.pointer (some ⟨g,0,none⟩)):=by
  intro g cs h;cases h
theorem contract (H:Type) (enc:TypeId×Value→H) (W:World) (base:Nat) (args:Array Value) (ds gs:List (DataW H)) (before:List MemPlace)
    (hval0: ∀(j:Nat) t v,Tryz.f5.params[j]?=some t→args[j]?=some v→Value.okWide Tryz.prog W .any base t v)
    (hW:DataW.Whole enc Tryz.prog Tryz.f5.params.toList Rows.derefServicesSpec.vars false W args.toList ds gs before) (hL:laidMetH Tryz.prog Rows.derefServicesRow.laid W)
    (hsz0:(DataW.weightsEach Tryz.prog (Tryz.f5.params.toList++(OpenSpec.ofChange Rows.derefServicesSpec).bare.plain.varTypes Tryz.prog) (ds++gs)).all (· ≤reachBytes)=true):
    Calls Tryz.prog 5 args W fun e W'=> ∃v,e=.returned v∧Rows.derefServicesSpec.post enc Tryz.prog Tryz.f5 false true false false W args v W':=by
  have hval: ∀(j:Nat) t v,Tryz.f5.params[j]?=some t→args[j]?=some v→Value.okWide Tryz.prog W .any base t v:=hval0
  have hsz:(DataW.weightsEach Tryz.prog (Tryz.f5.params.toList++Rows.derefServicesSpec.plain.varTypes Tryz.prog) (ds++gs)).all (· ≤reachBytes)=true:=hsz0
  have hW1:=hW
  obtain⟨p,q,hA0,hV,_,_,_⟩:=hW1
  have hA:DataW.TrodAll enc Tryz.prog W 0 (fun _=>true) true Tryz.f5.params.toList args.toList ds p:=hA0
  rw[Tryz.params5]at hA hval hsz
  obtain⟨rfl,rfl⟩:=trodVars_none hV
  obtain⟨v0,v1,v2,d0,d1,d2,p0,p1,p2,rfl,rfl,rfl,h0,h1,h2⟩:=trodAll_three hA
  clear hA0 hval0 hsz0
  obtain⟨n0,t0⟩:=h0
  have w0:=Pq hsz (j:=0) (t:=9) (d:=d0) rfl rfl
  obtain⟨l0,o0,a0,r0,k0⟩:=(fun N=>NT (N:=N) Tryz.underlying9) n0 H enc W true n0 _ _ (Nat.le_refl _) t0 w0
  have R0:Rep (Hz W) (.str a0) v0:=by
    obtain⟨x,rfl⟩:=okWide_string Tryz.underlying9 (hval 0 9 v0 rfl rfl)
    cases r0 with
    |cons h _=>exact h
  obtain⟨n1,t1⟩:=h1
  have w1:=Pq hsz (j:=1) (t:=42) (d:=d1) rfl rfl
  obtain⟨l1,o1,a1,r1,k1⟩:=ABX n1 H enc W true n1 _ _ (Nat.le_refl _) t1 w1
  have R1:Rep (Hz W) (CR a1) v1:=by rw[Kl];exact AJc Tryz.underlying42 (hval 1 42 v1 rfl rfl) r1 o1
  obtain⟨n2,t2⟩:=h2
  have w2:=Pq hsz (j:=2) (t:=9) (d:=d2) rfl rfl
  obtain⟨l2,o2,a2,r2,k2⟩:=(fun N=>NT (N:=N) Tryz.underlying9) n2 H enc W true n2 _ _ (Nat.le_refl _) t2 w2
  have R2:Rep (Hz W) (.str a2) v2:=by
    obtain⟨x,rfl⟩:=okWide_string Tryz.underlying9 (hval 2 9 v2 rfl rfl)
    cases r2 with
    |cons h _=>exact h
  refine(ACall.shell (glob hL) (args':=[.str a0,CR a1,.str a2]) (.cons R0 (.cons R1 (.cons R2 .nil))) ?_ (Nj (N:=1099511627776) (PV a0 k0 a1 k1 a2 k2) rfl (fun n' _=>Gl.mk rfl):ACall vE 5 _ ⟨[],0⟩ fun r _=>r=.bool true)).mono ?_
  · simp only[Kl,stripL,AVal.strip]
  · rintro e W' ⟨v,he,hb,Γ,r,st,hr,hq⟩
    subst hq
    cases hr
    refine⟨_,he,?_⟩
    exact AQQ hW rfl hb Tryz.kids (fun t e h=>Tryz.full t e h) (by rw[Tryz.params5];exact typesLt) rfl rfl rfl rfl Tryz.underlying4
theorem lifted (os:Os) (started:os.Started) (H:Type) (enc:TypeId×Value→H) (F:Stop.Interp):
    ReturnsInHanded {} Tryz.checked os 5 .any ((OpenSpec.ofChange Rows.derefServicesSpec).preRow enc Tryz.prog Tryz.f5 Rows.derefServicesRow.domain false Rows.derefServicesRow.laid) (((OpenSpec.ofChange Rows.derefServicesSpec).at F).post enc Tryz.prog Tryz.f5 false true false false):=by
  obtain⟨places,hx⟩:=reads os enc
  refine returnsInHanded_of_row (C:=Tryz.checked) (s:=OpenSpec.ofChange Rows.derefServicesSpec) Tryz.own started (by kernel_rfl) Tryz.func5
    (witness_row_at (enc:=enc) (C:=Tryz.checked) false (laidWorld os) #[.string ⟨#[]⟩,.agg #[.string ⟨#[]⟩,.string ⟨#[]⟩,.string ⟨#[]⟩,.string ⟨#[]⟩,.string ⟨#[]⟩,.bool false,.bool false],.string ⟨#[]⟩] rfl (by kernel_rfl) (by kernel_rfl) (by kernel_rfl)
      (OpenSpec.preRow_of_cond 8 hx (by kernel_rfl) (fun k hk=>by cases hk) (by kernel_rfl) (laid_met os))) ?_
  intro W base args ds gs before hval hW _ _ hsz hL _ _
  exact contract H enc W base args ds gs before hval hW hL hsz
theorem said:Rows.DerefServicesSaid:=
  OpenClaim.holds_of_cond 5 Tryz.f5 rfl rfl rfl rfl rfl rfl rfl ⟨rfl,rfl,rfl,rfl,rfl⟩ rfl rfl rfl rfl rfl (by kernel_rfl) Tryz.func5 (by kernel_rfl)
    (of_decide_eq_true (by kernel_rfl)) (by unfold Func.isWrapper;first|(rw[if_pos (by decide+kernel)];kernel_rfl)|(rw[if_neg (by decide+kernel)];exact⟨rfl,rfl⟩))
    (fun os started H enc _ F=>by rw[OpenClaim.pre_eq_preRow];exact lifted os started H enc F)
theorem plain (f : FuncId) (fn : Func) (hf : Tryz.pinned.checked.prog.funcNamed "webfinger/webfingerlaw29.DerefServices" = some f) (hfn : Tryz.pinned.checked.prog.funcs[f]? = some fn) :
    false=Tryz.pinned.checked.prog.looks []∧ ∀(j:Nat) t,fn.params[j]?=some t→Tryz.pinned.checked.prog.wantsStandIn t=false:=by
  obtain rfl : f = 5 := Option.some.inj ((show Tryz.prog.funcNamed "webfinger/webfingerlaw29.DerefServices" = some 5 by kernel_rfl).symm.trans hf) |>.symm
  obtain rfl:fn=Tryz.f5:=(Option.some.inj (Tryz.func5.symm.trans hfn)).symm
  refine⟨by kernel_rfl,fun j t ht=>?_⟩
  rw[Tryz.params5]at ht
  exact typesNo t (by simpa using Array.mem_of_getElem? ht)
theorem derefServices_holds:Rows.DerefServicesCardSaid:=
  Claim7.holds_tied_plain_at .later [] _ _ _ _ said (fun _ h=>by cases h) (by kernel_rfl) (fun _ h=>by cases h) derefServices_row_tie rfl ⟨rfl,rfl⟩ (by kernel_rfl) rfl plain (by kernel_rfl)
end Go.Proofs.YtjgdhjpafjpjgaaGreatDoor
