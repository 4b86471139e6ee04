/-The statement of FingerReads:the walks and the plain law,joined. -/
import Derived.Test.YtfcejbjjeaaleaaGreatDoorCards
import Derived.Test.YtfcejbjjeaaleaaGreatDoorTie
import Derived.Test.YtfcejbjjeaaleaaGreatDoorL13
import Derived.Test.YtfcejbjjeaaleaaGreatDoorW26
import Derived.ProofKit
import Derived.WalkKit
import Derived.OpenShut
import Derived.Deep.DeepHandedRow
import Derived.Shelf.Vars
import Derived.Test.YtfcejbjjeaaleaaGreatDoorCl
set_option linter.unusedVariables false
set_option maxRecDepth 100000
namespace Go.Proofs.YtfcejbjjeaaleaaGreatDoor
open Go.ChangeShapes Go.WideShapes Go.ChangeAt Go.RowKit Go.VM
theorem row_laid{W:World} (h:laidMetH Tryz.prog Rows.fingerReadsRow.laid W):laidMet Tryz.prog Rows.fingerReadsRow.laid W:=laidMetH.met h (by kernel_rfl)
theorem glob{W:World} (hL:laidMetH Tryz.prog Rows.fingerReadsRow.laid W) (hO:W.ShapedOpen Tryz.prog): ∀g cs,vE.T g=some cs->Rep (Hl W) (.cptr cs) (.pointer (some ⟨g,0,none⟩)):=by
 intro g cs h;change vT g=some cs at h;unfold vT at h;split at h;·rename_i e;subst e;cases h;exact Aaz (n:=400) (i:=1) (t:=287) (row_laid hL) rfl (by kernel_rfl) (by kernel_rfl) (by kernel_rfl)
 split at h;·rename_i e;subst e;cases h;obtain⟨m,hm⟩:=cell_of_shapedOpen_int (zero:=#[.int .i64 0]) (t:=3) hO (dX (by kernel_rfl)) (by kernel_rfl) rfl (by kernel_rfl) (by kernel_rfl) (by kernel_rfl);exact AhM hm
 ·cases h
theorem contract (H:Type) (enc:TypeId×Value->H) (W:World) (base:Nat) (args:Array Value) (ds gs:List (DataW H)) (before:List MemPlace) (hval0: ∀(j:Nat) t v,Tryz.f3.params[j]?=some t->args[j]?=some v->Value.okWide Tryz.prog W .any base t v) (hW:DataW.Whole enc Tryz.prog Tryz.f3.params.toList Rows.fingerReadsSpec.vars false W args.toList ds gs before) (hL:laidMetH Tryz.prog Rows.fingerReadsRow.laid W) (hO:W.ShapedOpen Tryz.prog) (hsz0:(DataW.weightsEach Tryz.prog (Tryz.f3.params.toList++(OpenSpec.ofChange Rows.fingerReadsSpec).bare.plain.varTypes Tryz.prog) (ds++gs)).all (· <=reachBytes)=true):Calls Tryz.prog 3 args W λe W'=>∃v,e=.returned v/\Rows.fingerReadsSpec.post enc Tryz.prog Tryz.f3 false true false false W args v W':=by
 have hval: ∀(j:Nat) t v,Tryz.f3.params[j]?=some t->args[j]?=some v->Value.okWide Tryz.prog W .any base t v:=hval0;have hsz:(DataW.weightsEach Tryz.prog (Tryz.f3.params.toList++Rows.fingerReadsSpec.plain.varTypes Tryz.prog) (ds++gs)).all (· <=reachBytes)=true:=hsz0;have hW1:=hW;obtain⟨p,q,hA0,hV,_,_,_⟩:=hW1;have hA:DataW.TrodAll enc Tryz.prog W 0 (λ_=>true) true Tryz.f3.params.toList args.toList ds p:=hA0;rw[Tryz.params3]at hA hval hsz;obtain⟨rfl,rfl⟩:=trodVars_none hV;obtain⟨v0,v1,v2,d0,d1,d2,p0,p1,p2,rfl,rfl,rfl,h0,h1,h2⟩:=trodAll_three hA;clear hA0 hval0 hsz0;obtain⟨n0,t0⟩:=h0;have w0:=Wh hsz (j:=0) (t:=29) (d:=d0) rfl rfl;obtain⟨l0,o0,a0,r0,k0⟩:=ADv n0 H enc W true n0 _ _ (aw _) t0 w0;have R0:Rep (Hl W) (Gj a0) v0:=by rw[N9];exact ADU Tryz.underlying29 (hval 0 29 v0 rfl rfl) r0 o0
 obtain⟨n1,t1⟩:=h1;have w1:=Wh hsz (j:=1) (t:=31) (d:=d1) rfl rfl;obtain⟨l1,o1,a1,r1,k1⟩:=AjO n1 H enc W true n1 _ _ (aw _) t1 w1;have R1:Rep (Hl W) (BF a1) v1:=by rw[UT];exact ADU Tryz.underlying31 (hval 1 31 v1 rfl rfl) r1 o1
 obtain⟨n2,t2⟩:=h2;have w2:=Wh hsz (j:=2) (t:=32) (d:=d2) rfl rfl;obtain⟨l2,o2,a2,r2,k2⟩:=(WY Tryz.underlying32 (by kernel_rfl) fI (d6 (by kernel_rfl)) (λN=>Rh (N:=N) Tryz.underlying5) (AVal.int .u8) (one_cell (AVal.int .u8))) n2 H enc W true n2 _ _ (aw _) t2 w2;have R2:Rep (Hl W) (.slice 1 (List.map (AVal.int .u8) a2) false) v2:=by obtain⟨x,y,z,rfl⟩:=okWide_slice Tryz.underlying32 (hval 2 32 v2 rfl rfl);cases r2 with |cons h _=>exact h
 refine(ACall.shell (glob hL hO) (args':=[Gj a0,BF a1,.slice 1 (List.map (AVal.int .u8) a2) false]) (.cons R0 (.cons R1 (.cons R2 .nil))) ?_ (Vw (N:=1099511627776) (Z8 a0 k0 a1 k1 a2 k2) rfl (λn' _=>Gl.mk rfl):ACall vE 3 _ ⟨[],0⟩ λr _=>r=.bool true)).mono ?_;·simp only[N9,UT,stripL,AVal.strip]
 ·rintro e W' ⟨v,he,hb,Γ,r,st,hr,hq⟩;subst hq;cases hr;refine⟨_,he,?_⟩;exact Ag8 hW rfl hb Tryz.kids (λt e h=>Tryz.full t e h) (by rw[Tryz.params3];exact typesLt) rfl rfl rfl rfl Tryz.underlying4
theorem lifted (os:Os) (started:os.Started) (H:Type) (enc:TypeId×Value->H) (F:Stop.Interp):
    ReturnsInHanded {} Tryz.checked os 3 .any ((OpenSpec.ofChange Rows.fingerReadsSpec).preRow enc Tryz.prog Tryz.f3 Rows.fingerReadsRow.domain false Rows.fingerReadsRow.laid) (((OpenSpec.ofChange Rows.fingerReadsSpec).at F).post enc Tryz.prog Tryz.f3 false true false false):=by
  obtain⟨places,hx⟩:=reads os enc
  refine returnsInHanded_of_row (C:=Tryz.checked) (s:=OpenSpec.ofChange Rows.fingerReadsSpec) Tryz.own started (by kernel_rfl) Tryz.func3
    (witness_row_at (enc:=enc) (C:=Tryz.checked) false (laidWorld os) #[.agg #[.string ⟨#[]⟩,.int .i64 0,.string ⟨#[]⟩,.string ⟨#[]⟩,.string ⟨#[]⟩,.bool false,.bool false,.int .i64 0,.int .i64 0,.slice none 0 0,.string ⟨#[]⟩,.slice none 0 0],.agg #[.int .i64 0,.string ⟨#[]⟩,.string ⟨#[]⟩,.int .i64 0],.slice none 0 0] rfl (by kernel_rfl) (by kernel_rfl) (by kernel_rfl)
      (OpenSpec.preRow_of_cond 8 hx (by kernel_rfl) (λk hk=>by cases hk) (by kernel_rfl) (laid_met os))) ?_
  intro W base args ds gs before hval hW _ _ hsz hL hO _
  exact contract H enc W base args ds gs before hval hW hL hO hsz
theorem said:Rows.FingerReadsSaid:=OpenClaim.holds_of_cond 3 Tryz.f3 rfl rfl rfl rfl rfl rfl rfl ⟨rfl,rfl,rfl,rfl,rfl⟩ rfl rfl rfl rfl rfl named0 Tryz.func3 closed0 (dX (by kernel_rfl)) (by unfold Func.isWrapper;first| (rw[ah (by decide+kernel)];kernel_rfl)| (rw[ae (by decide+kernel)];exact⟨rfl,rfl⟩)) (λos started H enc _ F=>by rw[OpenClaim.pre_eq_preRow];exact lifted os started H enc F)
theorem plain (f : FuncId) (fn : Func) (hf : Tryz.pinned.checked.prog.funcNamed "webfinger/webfingerlaw27.FingerReads" = some f) (hfn : Tryz.pinned.checked.prog.funcs[f]? = some fn) :false=Tryz.pinned.checked.prog.looks []/\∀(j:Nat) t,fn.params[j]?=some t->Tryz.pinned.checked.prog.wantsStandIn t=false:=by obtain rfl : f = 3:=cQ ((show Tryz.prog.funcNamed "webfinger/webfingerlaw27.FingerReads" = some 3 by kernel_rfl).symm.trans hf) |>.symm;obtain rfl:fn=Tryz.f3:=(cQ (Tryz.func3.symm.trans hfn)).symm;refine⟨by kernel_rfl,λj t ht=>?_⟩;rw[Tryz.params3]at ht;exact typesNo t (by simpa using Array.mem_of_getElem? ht)
theorem fingerReads_holds:Rows.FingerReadsCardSaid:=Claim7.holds_tied_plain_at .later [] _ _ _ _ said (λ_ h=>by cases h) (by kernel_rfl) (λ_ h=>by cases h) fingerReads_row_tie rfl ⟨rfl,rfl⟩ (by kernel_rfl) rfl plain (by kernel_rfl)
end Go.Proofs.YtfcejbjjeaaleaaGreatDoor
