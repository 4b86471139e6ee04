/-The statement of FingerNames:the walks and the plain law,joined. -/
import Derived.Test.YtjgdhjpafjpjgaaGreatDoorCards
import Derived.Test.YtjgdhjpafjpjgaaGreatDoorTie
import Derived.Test.YtjgdhjpafjpjgaaGreatDoorRd
import Derived.Test.YtjgdhjpafjpjgaaGreatDoorVM3
import Derived.Test.YtjgdhjpafjpjgaaGreatDoorL6
import Derived.Test.YtjgdhjpafjpjgaaGreatDoorW24
import Derived.ProofKit
import Derived.WalkKit
import Derived.OpenShut
import Derived.Deep.DeepHandedRow
set_option linter.unusedVariables false
set_option maxRecDepth 100000
namespace Go.Proofs.YtjgdhjpafjpjgaaGreatDoor
open Go.ChangeShapes Go.WideShapes Go.ChangeAt Go.RowKit Go.VM
theorem Tryz.own:ownKnob Tryz.prog.godebug=none:=by kernel_rfl
theorem Tryz.kids:Kids Tryz.prog (· <Tryz.prog.types.size):=kids_rows (by kernel_rfl) (by kernel_rfl)
theorem Tryz.full: ∀t e,t<Tryz.prog.types.size→Tryz.prog.underlying t=some (.slice e)→0<Tryz.prog.cellsOf e:=slices_full_of Tryz.prog (by kernel_rfl)
theorem typesLt: ∀t,t∈[55,23,24]→t<Tryz.prog.types.size:=fun t h=>of_decide_eq_true (List.all_eq_true.1 (show([55,23,24]:List Nat).all (fun t=>decide (t<Tryz.prog.types.size))=true by kernel_rfl) t h)
theorem typesNo: ∀t,t∈[55,23,24]→Tryz.prog.wantsStandIn t=false:=fun t h=>of_decide_eq_true (List.all_eq_true.1 (show([55,23,24]:List Nat).all (fun t=>decide (Tryz.prog.wantsStandIn t=false))=true by kernel_rfl) t h)
noncomputable def laidWorld (os:Os):World:= {World.holding Tryz.prog os ⟨#[], #[],[]⟩with heap:=ASQ (ASQ ((World.holding Tryz.prog os ⟨#[], #[],[]⟩).heap) 2 (AOY Rows.laid_unicode_utf8_acceptRanges).toArray) 1 (AOY Rows.laid_unicode_utf8_first).toArray}
theorem laid_met (os:Os):laidMet Tryz.prog Rows.fingerNamesRow.laid ((laidWorld os).forCall (fun _ _=>0) ⟨#[], #[.agg #[.string ⟨#[]⟩,.slice none 0 0,.slice none 0 0,.slice none 0 0],.agg #[.int .i64 0,.string ⟨#[]⟩,.string ⟨#[]⟩,.int .i64 0],.slice none 0 0],[]⟩).memory:=laidMet_of_run' 8 (by kernel_rfl) (by kernel_rfl)
theorem reads (os:Os){H:Type} (enc:TypeId×Value→H): ∃places,DataW.whole enc Tryz.prog ((laidWorld os).forCall (fun _ _=>0) ⟨#[], #[.agg #[.string ⟨#[]⟩,.slice none 0 0,.slice none 0 0,.slice none 0 0],.agg #[.int .i64 0,.string ⟨#[]⟩,.string ⟨#[]⟩,.int .i64 0],.slice none 0 0],[]⟩).memory Tryz.f6.params.toList Rows.fingerNamesSpec.vars false #[.agg #[.string ⟨#[]⟩,.slice none 0 0,.slice none 0 0,.slice none 0 0],.agg #[.int .i64 0,.string ⟨#[]⟩,.string ⟨#[]⟩,.int .i64 0],.slice none 0 0].toList 8=some ([.agg [.lit (.string []),.nil,.nil,.nil],.agg [.lit (.int .i64 0),.lit (.string []),.lit (.string []),.lit (.int .i64 0)],.nil],[],places):=⟨[],by kernel_rfl⟩
theorem row_laid{W:World} (h:laidMetH Tryz.prog Rows.fingerNamesRow.laid W):laidMet Tryz.prog Rows.fingerNamesRow.laid W:=laidMetH.met h (by kernel_rfl)
theorem glob{W:World} (hL:laidMetH Tryz.prog Rows.fingerNamesRow.laid W): ∀g cs,vE.T g=some cs→Rep (Fh W) (.cptr cs) (.pointer (some ⟨g,0,none⟩)):=by
  intro g cs h;cases h
theorem contract (H:Type) (enc:TypeId×Value→H) (W:World) (base:Nat) (args:Array Value) (ds gs:List (DataW H)) (before:List MemPlace)
    (hval0: ∀(j:Nat) t v,Tryz.f6.params[j]?=some t→args[j]?=some v→Value.okWide Tryz.prog W .any base t v)
    (hW:DataW.Whole enc Tryz.prog Tryz.f6.params.toList Rows.fingerNamesSpec.vars false W args.toList ds gs before) (hL:laidMetH Tryz.prog Rows.fingerNamesRow.laid W)
    (hsz0:(DataW.weightsEach Tryz.prog (Tryz.f6.params.toList++(OpenSpec.ofChange Rows.fingerNamesSpec).bare.plain.varTypes Tryz.prog) (ds++gs)).all (· ≤reachBytes)=true):
    Calls Tryz.prog 6 args W fun e W'=> ∃v,e=.returned v∧Rows.fingerNamesSpec.post enc Tryz.prog Tryz.f6 false true false false W args v W':=by
  have hval: ∀(j:Nat) t v,Tryz.f6.params[j]?=some t→args[j]?=some v→Value.okWide Tryz.prog W .any base t v:=hval0
  have hsz:(DataW.weightsEach Tryz.prog (Tryz.f6.params.toList++Rows.fingerNamesSpec.plain.varTypes Tryz.prog) (ds++gs)).all (· ≤reachBytes)=true:=hsz0
  have hW1:=hW
  obtain⟨p,q,hA0,hV,_,_,_⟩:=hW1
  have hA:DataW.TrodAll enc Tryz.prog W 0 (fun _=>true) true Tryz.f6.params.toList args.toList ds p:=hA0
  rw[Tryz.params6]at hA hval hsz
  obtain⟨rfl,rfl⟩:=trodVars_none hV
  obtain⟨v0,v1,v2,d0,d1,d2,p0,p1,p2,rfl,rfl,rfl,h0,h1,h2⟩:=trodAll_three hA
  clear hA0 hval0 hsz0
  obtain⟨n0,t0⟩:=h0
  have w0:=Pm hsz (j:=0) (t:=55) (d:=d0) rfl rfl
  obtain⟨l0,o0,a0,r0,k0⟩:=AJj n0 H enc W true n0 _ _ (Nat.le_refl _) t0 w0
  have R0:Rep (Fh W) (Hm a0) v0:=by rw[Mf];exact Sv Tryz.underlying55 (hval 0 55 v0 rfl rfl) r0 o0
  obtain⟨n1,t1⟩:=h1
  have w1:=Pm hsz (j:=1) (t:=23) (d:=d1) rfl rfl
  obtain⟨l1,o1,a1,r1,k1⟩:=ANJ n1 H enc W true n1 _ _ (Nat.le_refl _) t1 w1
  have R1:Rep (Fh W) (A9 a1) v1:=by rw[OG];exact Sv Tryz.underlying23 (hval 1 23 v1 rfl rfl) r1 o1
  obtain⟨n2,t2⟩:=h2
  have w2:=Pm hsz (j:=2) (t:=24) (d:=d2) rfl rfl
  obtain⟨l2,o2,a2,r2,k2⟩:=(Jc Tryz.underlying24 (by kernel_rfl) (by decide) (Nat.le_of_ble_eq_true (by kernel_rfl)) (fun N=>Xi (N:=N) Tryz.underlying5) (AVal.int .u8) (one_cell (AVal.int .u8))) n2 H enc W true n2 _ _ (Nat.le_refl _) t2 w2
  have R2:Rep (Fh W) (.slice 1 (List.map (AVal.int .u8) a2) false) v2:=by
    obtain⟨x,y,z,rfl⟩:=okWide_slice Tryz.underlying24 (hval 2 24 v2 rfl rfl)
    cases r2 with
    |cons h _=>exact h
  refine(ACall.shell (glob hL) (args':=[Hm a0,A9 a1,.slice 1 (List.map (AVal.int .u8) a2) false]) (.cons R0 (.cons R1 (.cons R2 .nil))) ?_ (Ol (N:=1099511627776) (RZ a0 k0 a1 k1 a2 k2) rfl (fun n' _=>Gl.mk rfl):ACall vE 6 _ ⟨[],0⟩ fun r _=>r=.bool true)).mono ?_
  · simp only[OG,Mf,stripL,AVal.strip]
  · rintro e W' ⟨v,he,hb,Γ,r,st,hr,hq⟩
    subst hq
    cases hr
    refine⟨_,he,?_⟩
    exact ANi hW rfl hb Tryz.kids (fun t e h=>Tryz.full t e h) (by rw[Tryz.params6];exact typesLt) rfl rfl rfl rfl Tryz.underlying4
theorem lifted (os:Os) (started:os.Started) (H:Type) (enc:TypeId×Value→H) (F:Stop.Interp):
    ReturnsInHanded {} Tryz.checked os 6 .any ((OpenSpec.ofChange Rows.fingerNamesSpec).preRow enc Tryz.prog Tryz.f6 Rows.fingerNamesRow.domain false Rows.fingerNamesRow.laid) (((OpenSpec.ofChange Rows.fingerNamesSpec).at F).post enc Tryz.prog Tryz.f6 false true false false):=by
  obtain⟨places,hx⟩:=reads os enc
  refine returnsInHanded_of_row (C:=Tryz.checked) (s:=OpenSpec.ofChange Rows.fingerNamesSpec) Tryz.own started (by kernel_rfl) Tryz.func6
    (witness_row_at (enc:=enc) (C:=Tryz.checked) false (laidWorld os) #[.agg #[.string ⟨#[]⟩,.slice none 0 0,.slice none 0 0,.slice none 0 0],.agg #[.int .i64 0,.string ⟨#[]⟩,.string ⟨#[]⟩,.int .i64 0],.slice none 0 0] rfl (by kernel_rfl) (by kernel_rfl) (by kernel_rfl)
      (OpenSpec.preRow_of_cond 8 hx (by kernel_rfl) (fun k hk=>by cases hk) (by kernel_rfl) (laid_met os))) ?_
  intro W base args ds gs before hval hW _ _ hsz hL _ _
  exact contract H enc W base args ds gs before hval hW hL hsz
theorem said:Rows.FingerNamesSaid:=
  OpenClaim.holds_of_cond 6 Tryz.f6 rfl rfl rfl rfl rfl rfl rfl ⟨rfl,rfl,rfl,rfl,rfl⟩ rfl rfl rfl rfl rfl (by kernel_rfl) Tryz.func6 (by kernel_rfl)
    (of_decide_eq_true (by kernel_rfl)) (by unfold Func.isWrapper;first|(rw[if_pos (by decide+kernel)];kernel_rfl)|(rw[if_neg (by decide+kernel)];exact⟨rfl,rfl⟩))
    (fun os started H enc _ F=>by rw[OpenClaim.pre_eq_preRow];exact lifted os started H enc F)
theorem plain (f : FuncId) (fn : Func) (hf : Tryz.pinned.checked.prog.funcNamed "webfinger/webfingerlaw27.FingerNames" = some f) (hfn : Tryz.pinned.checked.prog.funcs[f]? = some fn) :
    false=Tryz.pinned.checked.prog.looks []∧ ∀(j:Nat) t,fn.params[j]?=some t→Tryz.pinned.checked.prog.wantsStandIn t=false:=by
  obtain rfl : f = 6 := Option.some.inj ((show Tryz.prog.funcNamed "webfinger/webfingerlaw27.FingerNames" = some 6 by kernel_rfl).symm.trans hf) |>.symm
  obtain rfl:fn=Tryz.f6:=(Option.some.inj (Tryz.func6.symm.trans hfn)).symm
  refine⟨by kernel_rfl,fun j t ht=>?_⟩
  rw[Tryz.params6]at ht
  exact typesNo t (by simpa using Array.mem_of_getElem? ht)
theorem fingerNames_holds:Rows.FingerNamesCardSaid:=
  Claim7.holds_tied_plain_at .later [] _ _ _ _ said (fun _ h=>by cases h) (by kernel_rfl) (fun _ h=>by cases h) fingerNames_row_tie rfl ⟨rfl,rfl⟩ (by kernel_rfl) rfl plain (by kernel_rfl)
end Go.Proofs.YtjgdhjpafjpjgaaGreatDoor
