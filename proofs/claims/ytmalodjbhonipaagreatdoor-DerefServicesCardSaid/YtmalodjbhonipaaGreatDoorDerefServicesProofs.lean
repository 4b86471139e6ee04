/-The statement of DerefServices:the walks and the plain law,joined. -/
import Derived.Test.YtmalodjbhonipaaGreatDoorCards
import Derived.Test.YtmalodjbhonipaaGreatDoorTie
import Derived.Test.YtmalodjbhonipaaGreatDoorRd
import Derived.Test.YtmalodjbhonipaaGreatDoorVM3
import Derived.Test.YtmalodjbhonipaaGreatDoorL7
import Derived.Test.YtmalodjbhonipaaGreatDoorW21
import Derived.ProofKit
import Derived.WalkKit
import Derived.OpenShut
import Derived.Deep.DeepHandedRow
import Derived.Shelf.Vars
set_option linter.unusedVariables false
set_option maxRecDepth 100000
namespace Go.Proofs.YtmalodjbhonipaaGreatDoor
open Go.ChangeShapes Go.WideShapes Go.ChangeAt Go.RowKit Go.VM
theorem Tryz.own:ownKnob Tryz.prog.godebug=none:=by kernel_rfl
theorem Tryz.kids:Kids Tryz.prog (· <Tryz.prog.types.size):=kids_rows (by kernel_rfl) (by kernel_rfl)
theorem Tryz.full: ∀t e,t<Tryz.prog.types.size→Tryz.prog.underlying t=some (.slice e)→0<Tryz.prog.cellsOf e:=slices_full_of Tryz.prog (by kernel_rfl)
theorem typesLt: ∀t,t∈[9,25,9]→t<Tryz.prog.types.size:=fun t h=>dc (br.1 (show([9,25,9]:List Nat).all (fun t=>decide (t<Tryz.prog.types.size))=true by kernel_rfl) t h)
theorem typesNo: ∀t,t∈[9,25,9]→Tryz.prog.wantsStandIn t=false:=fun t h=>dc (br.1 (show([9,25,9]:List Nat).all (fun t=>decide (Tryz.prog.wantsStandIn t=false))=true by kernel_rfl) t h)
noncomputable def laidWorld (os:Os):World:= {World.holding Tryz.prog os ⟨#[], #[],[]⟩with heap:=AUz (AUz ((World.holding Tryz.prog os ⟨#[], #[],[]⟩).heap) 2 (AQC Rows.laid_unicode_utf8_acceptRanges).toArray) 1 (AQC Rows.laid_unicode_utf8_first).toArray}
theorem laid_met (os:Os):laidMet Tryz.prog Rows.derefServicesRow.laid ((laidWorld os).forCall (fun _ _=>0) ⟨#[], #[.string ⟨#[]⟩,.agg #[.string ⟨#[]⟩,.string ⟨#[]⟩,.string ⟨#[]⟩,.string ⟨#[]⟩,.string ⟨#[]⟩,.bool false,.bool false],.string ⟨#[]⟩],[]⟩).memory:=laidMet_of_run' 8 (by kernel_rfl) (by kernel_rfl)
theorem reads (os:Os){H:Type} (enc:TypeId×Value→H): ∃places,DataW.whole enc Tryz.prog ((laidWorld os).forCall (fun _ _=>0) ⟨#[], #[.string ⟨#[]⟩,.agg #[.string ⟨#[]⟩,.string ⟨#[]⟩,.string ⟨#[]⟩,.string ⟨#[]⟩,.string ⟨#[]⟩,.bool false,.bool false],.string ⟨#[]⟩],[]⟩).memory Tryz.f3.params.toList Rows.derefServicesSpec.vars false #[.string ⟨#[]⟩,.agg #[.string ⟨#[]⟩,.string ⟨#[]⟩,.string ⟨#[]⟩,.string ⟨#[]⟩,.string ⟨#[]⟩,.bool false,.bool false],.string ⟨#[]⟩].toList 8=some ([.lit (.string []),.agg [.agg [.lit (.string []),.lit (.string [])],.lit (.string []),.lit (.string []),.lit (.string []),.lit (.bool false),.lit (.bool false)],.lit (.string [])],[],places):=⟨[],by kernel_rfl⟩
theorem row_laid{W:World} (h:laidMetH Tryz.prog Rows.derefServicesRow.laid W):laidMet Tryz.prog Rows.derefServicesRow.laid W:=laidMetH.met h (by kernel_rfl)
theorem glob{W:World} (hL:laidMetH Tryz.prog Rows.derefServicesRow.laid W) (hO:W.ShapedOpen Tryz.prog): ∀g cs,vE.T g=some cs→Rep (F3 W) (.cptr cs) (.pointer (some ⟨g,0,none⟩)):=by
 intro g cs h;change vT g=some cs at h;unfold vT at h;split at h;·rename_i e;subst e;cases h;obtain⟨m,hm⟩:=cell_of_shapedOpen_int (zero:=#[.int .i64 0]) (t:=3) hO (dc (by kernel_rfl)) (by kernel_rfl) rfl (by kernel_rfl) (by kernel_rfl) (by kernel_rfl);exact AOn hm
 ·cases h
theorem contract (H:Type) (enc:TypeId×Value→H) (W:World) (base:Nat) (args:Array Value) (ds gs:List (DataW H)) (before:List MemPlace) (hval0: ∀(j:Nat) t v,Tryz.f3.params[j]?=some t→args[j]?=some v→Value.okWide Tryz.prog W .any base t v) (hW:DataW.Whole enc Tryz.prog Tryz.f3.params.toList Rows.derefServicesSpec.vars false W args.toList ds gs before) (hL:laidMetH Tryz.prog Rows.derefServicesRow.laid W) (hO:W.ShapedOpen Tryz.prog) (hsz0:(DataW.weightsEach Tryz.prog (Tryz.f3.params.toList++(OpenSpec.ofChange Rows.derefServicesSpec).bare.plain.varTypes Tryz.prog) (ds++gs)).all (· ≤reachBytes)=true):Calls Tryz.prog 3 args W fun e W'=>∃v,e=.returned v∧Rows.derefServicesSpec.post enc Tryz.prog Tryz.f3 false true false false W args v W':=by
 have hval: ∀(j:Nat) t v,Tryz.f3.params[j]?=some t→args[j]?=some v→Value.okWide Tryz.prog W .any base t v:=hval0;have hsz:(DataW.weightsEach Tryz.prog (Tryz.f3.params.toList++Rows.derefServicesSpec.plain.varTypes Tryz.prog) (ds++gs)).all (· ≤reachBytes)=true:=hsz0;have hW1:=hW;obtain⟨p,q,hA0,hV,_,_,_⟩:=hW1;have hA:DataW.TrodAll enc Tryz.prog W 0 (fun _=>true) true Tryz.f3.params.toList args.toList ds p:=hA0;rw[Tryz.params3]at hA hval hsz;obtain⟨rfl,rfl⟩:=trodVars_none hV;obtain⟨v0,v1,v2,d0,d1,d2,p0,p1,p2,rfl,rfl,rfl,h0,h1,h2⟩:=trodAll_three hA;clear hA0 hval0 hsz0;obtain⟨n0,t0⟩:=h0;have w0:=Ov hsz (j:=0) (t:=9) (d:=d0) rfl rfl;obtain⟨l0,o0,a0,r0,k0⟩:=(fun N=>Mt (N:=N) Tryz.underlying9) n0 H enc W true n0 _ _ (ao _) t0 w0;have R0:Rep (F3 W) (.str a0) v0:=by obtain⟨x,rfl⟩:=okWide_string Tryz.underlying9 (hval 0 9 v0 rfl rfl);cases r0 with |cons h _=>exact h
 obtain⟨n1,t1⟩:=h1;have w1:=Ov hsz (j:=1) (t:=25) (d:=d1) rfl rfl;obtain⟨l1,o1,a1,r1,k1⟩:=XQ n1 H enc W true n1 _ _ (ao _) t1 w1;have R1:Rep (F3 W) (BZ a1) v1:=by rw[KJ];exact AFS Tryz.underlying25 (hval 1 25 v1 rfl rfl) r1 o1
 obtain⟨n2,t2⟩:=h2;have w2:=Ov hsz (j:=2) (t:=9) (d:=d2) rfl rfl;obtain⟨l2,o2,a2,r2,k2⟩:=(fun N=>Mt (N:=N) Tryz.underlying9) n2 H enc W true n2 _ _ (ao _) t2 w2;have R2:Rep (F3 W) (.str a2) v2:=by obtain⟨x,rfl⟩:=okWide_string Tryz.underlying9 (hval 2 9 v2 rfl rfl);cases r2 with |cons h _=>exact h
 refine(ACall.shell (glob hL hO) (args':=[.str a0,BZ a1,.str a2]) (.cons R0 (.cons R1 (.cons R2 .nil))) ?_ (Jp (N:=1099511627776) (Ox a0 k0 a1 k1 a2 k2) rfl (fun n' _=>Gl.mk rfl):ACall vE 3 _ ⟨[],0⟩ fun r _=>r=.bool true)).mono ?_;·simp only[KJ,stripL,AVal.strip]
 ·rintro e W' ⟨v,he,hb,Γ,r,st,hr,hq⟩;subst hq;cases hr;refine⟨_,he,?_⟩;exact AOd hW rfl hb Tryz.kids (fun t e h=>Tryz.full t e h) (by rw[Tryz.params3];exact typesLt) rfl rfl rfl rfl Tryz.underlying4
theorem lifted (os:Os) (started:os.Started) (H:Type) (enc:TypeId×Value→H) (F:Stop.Interp):
    ReturnsInHanded {} Tryz.checked os 3 .any ((OpenSpec.ofChange Rows.derefServicesSpec).preRow enc Tryz.prog Tryz.f3 Rows.derefServicesRow.domain false Rows.derefServicesRow.laid) (((OpenSpec.ofChange Rows.derefServicesSpec).at F).post enc Tryz.prog Tryz.f3 false true false false):=by
  obtain⟨places,hx⟩:=reads os enc
  refine returnsInHanded_of_row (C:=Tryz.checked) (s:=OpenSpec.ofChange Rows.derefServicesSpec) Tryz.own started (by kernel_rfl) Tryz.func3
    (witness_row_at (enc:=enc) (C:=Tryz.checked) false (laidWorld os) #[.string ⟨#[]⟩,.agg #[.string ⟨#[]⟩,.string ⟨#[]⟩,.string ⟨#[]⟩,.string ⟨#[]⟩,.string ⟨#[]⟩,.bool false,.bool false],.string ⟨#[]⟩] rfl (by kernel_rfl) (by kernel_rfl) (by kernel_rfl)
      (OpenSpec.preRow_of_cond 8 hx (by kernel_rfl) (fun k hk=>by cases hk) (by kernel_rfl) (laid_met os))) ?_
  intro W base args ds gs before hval hW _ _ hsz hL hO _
  exact contract H enc W base args ds gs before hval hW hL hO hsz
theorem said:Rows.DerefServicesSaid:=OpenClaim.holds_of_cond 3 Tryz.f3 rfl rfl rfl rfl rfl rfl rfl ⟨rfl,rfl,rfl,rfl,rfl⟩ rfl rfl rfl rfl rfl (by kernel_rfl) Tryz.func3 (by kernel_rfl) (dc (by kernel_rfl)) (by unfold Func.isWrapper;first| (rw[ah (by decide+kernel)];kernel_rfl)| (rw[ag (by decide+kernel)];exact⟨rfl,rfl⟩)) (fun os started H enc _ F=>by rw[OpenClaim.pre_eq_preRow];exact lifted os started H enc F)
theorem plain (f : FuncId) (fn : Func) (hf : Tryz.pinned.checked.prog.funcNamed "webfinger/webfingerlaw29.DerefServices" = some f) (hfn : Tryz.pinned.checked.prog.funcs[f]? = some fn) :false=Tryz.pinned.checked.prog.looks []∧∀(j:Nat) t,fn.params[j]?=some t→Tryz.pinned.checked.prog.wantsStandIn t=false:=by obtain rfl : f = 3:=aQ ((show Tryz.prog.funcNamed "webfinger/webfingerlaw29.DerefServices" = some 3 by kernel_rfl).symm.trans hf) |>.symm;obtain rfl:fn=Tryz.f3:=(aQ (Tryz.func3.symm.trans hfn)).symm;refine⟨by kernel_rfl,fun j t ht=>?_⟩;rw[Tryz.params3]at ht;exact typesNo t (by simpa using Array.mem_of_getElem? ht)
theorem derefServices_holds:Rows.DerefServicesCardSaid:=Claim7.holds_tied_plain_at .later [] _ _ _ _ said (fun _ h=>by cases h) (by kernel_rfl) (fun _ h=>by cases h) derefServices_row_tie rfl ⟨rfl,rfl⟩ (by kernel_rfl) rfl plain (by kernel_rfl)
end Go.Proofs.YtmalodjbhonipaaGreatDoor
