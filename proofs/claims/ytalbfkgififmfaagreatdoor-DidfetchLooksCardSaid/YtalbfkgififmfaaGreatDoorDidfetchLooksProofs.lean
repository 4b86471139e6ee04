/-The statement of DidfetchLooks:the walks and the plain law,joined. -/
import Derived.Test.YtalbfkgififmfaaGreatDoorCards
import Derived.Test.YtalbfkgififmfaaGreatDoorTie
import Derived.Test.YtalbfkgififmfaaGreatDoorL19
import Derived.Test.YtalbfkgififmfaaGreatDoorW32
import Derived.ProofKit
import Derived.WalkKit
import Derived.OpenShut
import Derived.Deep.DeepHandedRow
import Derived.Shelf.Vars
import Derived.Test.YtalbfkgififmfaaGreatDoorCl
set_option linter.unusedVariables false
set_option maxRecDepth 100000
namespace Go.Proofs.YtalbfkgififmfaaGreatDoor
open Go.ChangeShapes Go.WideShapes Go.ChangeAt Go.RowKit Go.VM
theorem row_laid{W:World} (h:laidMetH Tryz.prog Rows.didfetchLooksRow.laid W):laidMet Tryz.prog Rows.didfetchLooksRow.laid W:=laidMetH.met h (by kernel_rfl)
theorem glob{W:World} (hL:laidMetH Tryz.prog Rows.didfetchLooksRow.laid W) (hO:W.ShapedOpen Tryz.prog): ∀g cs,vE.T g=some cs->Rep (F3 W) (.cptr cs) (.pointer (some ⟨g,0,none⟩)):=by
  intro g cs h
  change vT g=some cs at h
  unfold vT at h
  split at h
  . rename_i e;subst e;cases h;exact AfO (n:=400) (i:=1) (t:=404) (row_laid hL) rfl (by kernel_rfl) (by kernel_rfl) (by kernel_rfl)
  split at h
  . rename_i e;subst e;cases h
    obtain⟨m,hm⟩:=cell_of_shapedOpen_int (zero:= #[.int .i64 0]) (t:=3) hO (of_decide_eq_true (by kernel_rfl)) (by kernel_rfl) rfl (by kernel_rfl) (by kernel_rfl) (by kernel_rfl)
    exact Amh hm
  . cases h
theorem trodAll_five{H:Type}{enc:TypeId×Value->H}{P:Program}{w:World}{base:Nat}{spare:Nat->Bool}{held:Bool}{t0 t1 t2 t3 t4:TypeId}{args:Array Value}{ds:List (DataW H)}{ps:List MemPlace} (h:DataW.TrodAll enc P w base spare held [t0,t1,t2,t3,t4] args.toList ds ps):
    ∃v0 v1 v2 v3 v4 d0 d1 d2 d3 d4 p0 p1 p2 p3 p4,args= #[v0,v1,v2,v3,v4]/\ds=[d0,d1,d2,d3,d4]/\ps=p0++p1++p2++p3++p4/\DataW.Trod enc P w base spare held t0 v0 d0 p0/\DataW.Trod enc P w base spare held t1 v1 d1 p1/\DataW.Trod enc P w base spare held t2 v2 d2 p2/\DataW.Trod enc P w base spare held t3 v3 d3 p3/\DataW.Trod enc P w base spare held t4 v4 d4 p4:=by
  obtain⟨v0,vs0,d0,e0,p0,q0,hargs,rfl,rfl,h0,r0⟩:=trodAll_cons h
  obtain⟨v1,vs1,d1,e1,p1,q1,rfl,rfl,rfl,h1,r1⟩:=trodAll_cons r0
  obtain⟨v2,vs2,d2,e2,p2,q2,rfl,rfl,rfl,h2,r2⟩:=trodAll_cons r1
  obtain⟨v3,vs3,d3,e3,p3,q3,rfl,rfl,rfl,h3,r3⟩:=trodAll_cons r2
  obtain⟨v4,vs4,d4,e4,p4,q4,rfl,rfl,rfl,h4,r4⟩:=trodAll_cons r3
  obtain⟨rfl,rfl,rfl⟩:=trodAll_nil r4
  exact⟨v0,v1,v2,v3,v4,d0,d1,d2,d3,d4,p0,p1,p2,p3,p4,by cases args;simp_all,rfl,by simp,h0,h1,h2,h3,h4⟩
theorem contract (H:Type) (enc:TypeId×Value->H) (W:World) (base:Nat) (args:Array Value) (ds gs:List (DataW H)) (before:List MemPlace)
    (hval0: ∀(j:Nat) t v,Tryz.f3.params[j]?=some t->args[j]?=some v->Value.okWide Tryz.prog W .any base t v)
    (hW:DataW.Whole enc Tryz.prog Tryz.f3.params.toList Rows.didfetchLooksSpec.vars false W args.toList ds gs before) (hL:laidMetH Tryz.prog Rows.didfetchLooksRow.laid W) (hO:W.ShapedOpen Tryz.prog)
    (hsz0:(DataW.weightsEach Tryz.prog (Tryz.f3.params.toList++(OpenSpec.ofChange Rows.didfetchLooksSpec).bare.plain.varTypes Tryz.prog) (ds++gs)).all (· <=reachBytes)=true):
    Calls Tryz.prog 3 args W λe W'=> ∃v,e=.returned v/\Rows.didfetchLooksSpec.post enc Tryz.prog Tryz.f3 false true false false W args v W':=by
  have hval: ∀(j:Nat) t v,Tryz.f3.params[j]?=some t->args[j]?=some v->Value.okWide Tryz.prog W .any base t v:=hval0
  have hsz:(DataW.weightsEach Tryz.prog (Tryz.f3.params.toList++Rows.didfetchLooksSpec.plain.varTypes Tryz.prog) (ds++gs)).all (· <=reachBytes)=true:=hsz0
  have hW1:=hW
  obtain⟨p,q,hA0,hV,_,_,_⟩:=hW1
  have hA:DataW.TrodAll enc Tryz.prog W 0 (λ_=>true) true Tryz.f3.params.toList args.toList ds p:=hA0
  rw[Tryz.params3]at hA hval hsz
  obtain⟨rfl,rfl⟩:=trodVars_none hV
  obtain⟨v0,v1,v2,v3,v4,d0,d1,d2,d3,d4,p0,p1,p2,p3,p4,rfl,rfl,rfl,h0,h1,h2,h3,h4⟩:=trodAll_five hA
  clear hA0 hval0 hsz0
  obtain⟨n0,t0⟩:=h0
  have w0:=SQ hsz (j:=0) (t:=22) (d:=d0) rfl rfl
  obtain⟨l0,o0,a0,r0,k0⟩:=(MK Tryz.underlying22 (by kernel_rfl) (by decide) (Nat.le_of_ble_eq_true (by kernel_rfl)) (λN=>Z4 (N:=N) Tryz.underlying5) (AVal.int .u8) (one_cell (AVal.int .u8))) n0 H enc W true n0 _ _ (Nat.le_refl _) t0 w0
  have R0:Rep (F3 W) (.slice 1 (List.map (AVal.int .u8) a0) false) v0:=by
    obtain⟨x,y,z,rfl⟩:=okWide_slice Tryz.underlying22 (hval 0 22 v0 rfl rfl)
    cases r0 with
    |cons h _=>exact h
  obtain⟨n1,t1⟩:=h1
  have w1:=SQ hsz (j:=1) (t:=22) (d:=d1) rfl rfl
  obtain⟨l1,o1,a1,r1,k1⟩:=(MK Tryz.underlying22 (by kernel_rfl) (by decide) (Nat.le_of_ble_eq_true (by kernel_rfl)) (λN=>Z4 (N:=N) Tryz.underlying5) (AVal.int .u8) (one_cell (AVal.int .u8))) n1 H enc W true n1 _ _ (Nat.le_refl _) t1 w1
  have R1:Rep (F3 W) (.slice 1 (List.map (AVal.int .u8) a1) false) v1:=by
    obtain⟨x,y,z,rfl⟩:=okWide_slice Tryz.underlying22 (hval 1 22 v1 rfl rfl)
    cases r1 with
    |cons h _=>exact h
  obtain⟨n2,t2⟩:=h2
  have w2:=SQ hsz (j:=2) (t:=24) (d:=d2) rfl rfl
  obtain⟨l2,o2,a2,r2,k2⟩:=AqX n2 H enc W true n2 _ _ (Nat.le_refl _) t2 w2
  have R2:Rep (F3 W) (BA a2) v2:=by rw[Ve];exact ADE Tryz.underlying24 (hval 2 24 v2 rfl rfl) r2 o2
  obtain⟨n3,t3⟩:=h3
  have w3:=SQ hsz (j:=3) (t:=29) (d:=d3) rfl rfl
  obtain⟨l3,o3,a3,r3,k3⟩:=Aeb n3 H enc W true n3 _ _ (Nat.le_refl _) t3 w3
  have R3:Rep (F3 W) (Li a3) v3:=by rw[UO];exact ADE Tryz.underlying29 (hval 3 29 v3 rfl rfl) r3 o3
  obtain⟨n4,t4⟩:=h4
  have w4:=SQ hsz (j:=4) (t:=30) (d:=d4) rfl rfl
  obtain⟨l4,o4,a4,r4,k4⟩:=(λN=>Z4 (N:=N) Tryz.underlying30) n4 H enc W true n4 _ _ (Nat.le_refl _) t4 w4
  have R4:Rep (F3 W) (.int .u64 a4) v4:=by
    obtain⟨x,rfl⟩:=okWide_int Tryz.underlying30 (hval 4 30 v4 rfl rfl)
    cases r4 with
    |cons h _=>exact h
  refine(AE.shell (glob hL hO) (args':=[.slice 1 (List.map (AVal.int .u8) a0) false,.slice 1 (List.map (AVal.int .u8) a1) false,BA a2,Li a3,.int .u64 a4]) (.cons R0 (.cons R1 (.cons R2 (.cons R3 (.cons R4 .nil))))) ?_ (U8 (N:=1099511627776) (YI a0 k0 a1 k1 a2 k2 a3 k3 a4 k4) rfl (λn' _=>Gl.mk rfl):AE vE 3 _ ⟨[],0⟩ λr _=>r=.bool true)).mono ?_
  . simp only[Ve,UO,stripL,AVal.strip]
  . rintro e W' ⟨v,he,hb,O,r,st,hr,hq⟩
    subst hq
    cases hr
    refine⟨_,he,?_⟩
    exact Aq5 hW rfl hb Tryz.kids (λt e h=>Tryz.full t e h) (by rw[Tryz.params3];exact typesLt) rfl rfl rfl rfl Tryz.underlying4
theorem lifted (os:Os) (started:os.Started) (H:Type) (enc:TypeId×Value->H) (F:Stop.Interp):
    ReturnsInHanded {} Tryz.checked os 3 .any ((OpenSpec.ofChange Rows.didfetchLooksSpec).preRow enc Tryz.prog Tryz.f3 Rows.didfetchLooksRow.domain false Rows.didfetchLooksRow.laid) (((OpenSpec.ofChange Rows.didfetchLooksSpec).at F).post enc Tryz.prog Tryz.f3 false true false false):=by
  obtain⟨places,hx⟩:=reads os enc
  refine returnsInHanded_of_row (C:=Tryz.checked) (s:=OpenSpec.ofChange Rows.didfetchLooksSpec) Tryz.own started (by kernel_rfl) Tryz.func3
    (witness_row_at (enc:=enc) (C:=Tryz.checked) false (laidWorld os) #[.slice none 0 0,.slice none 0 0,.agg #[.int .i64 0,.string ⟨#[]⟩,.string ⟨#[]⟩,.int .i64 0],.agg #[.string ⟨#[]⟩,.slice none 0 0,.slice none 0 0,.slice none 0 0,.slice none 0 0],.int .u64 0] rfl (by kernel_rfl) (by kernel_rfl) (by kernel_rfl)
      (OpenSpec.preRow_of_cond 8 hx (by kernel_rfl) (λk hk=>by cases hk) (by kernel_rfl) (laid_met os))) ?_
  intro W base args ds gs before hval hW _ _ hsz hL hO _
  exact contract H enc W base args ds gs before hval hW hL hO hsz
theorem said:Rows.DidfetchLooksSaid:=
  OpenClaim.holds_of_cond 3 Tryz.f3 rfl rfl rfl rfl rfl rfl rfl ⟨rfl,rfl,rfl,rfl,rfl⟩ rfl rfl rfl rfl rfl named0 Tryz.func3 closed0 (of_decide_eq_true (by kernel_rfl)) (by unfold Func.isWrapper;first|(rw[if_pos (by decide+kernel)];kernel_rfl)|(rw[if_neg (by decide+kernel)];exact⟨rfl,rfl⟩))
    (λos started H enc _ F=>by rw[OpenClaim.pre_eq_preRow];exact lifted os started H enc F)
theorem plain (f : FuncId) (fn : Func) (hf : Tryz.pinned.checked.prog.funcNamed "webfinger/webfingerlaw28.DidfetchLooks" = some f) (hfn : Tryz.pinned.checked.prog.funcs[f]? = some fn) :
    false=Tryz.pinned.checked.prog.looks []/\ ∀(j:Nat) t,fn.params[j]?=some t->Tryz.pinned.checked.prog.wantsStandIn t=false:=by
  obtain rfl : f = 3 := Option.some.inj ((show Tryz.prog.funcNamed "webfinger/webfingerlaw28.DidfetchLooks" = some 3 by kernel_rfl).symm.trans hf) |>.symm
  obtain rfl:fn=Tryz.f3:=(Option.some.inj (Tryz.func3.symm.trans hfn)).symm
  refine⟨by kernel_rfl,λj t ht=>?_⟩
  rw[Tryz.params3]at ht
  exact typesNo t (by simpa using Array.mem_of_getElem? ht)
theorem didfetchLooks_holds:Rows.DidfetchLooksCardSaid:=
  Claim7.holds_tied_plain_at .later [] _ _ _ _ said (λ_ h=>by cases h) (by kernel_rfl) (λ_ h=>by cases h) didfetchLooks_row_tie rfl ⟨rfl,rfl⟩ (by kernel_rfl) rfl plain (Awc rfl (by kernel_rfl))
end Go.Proofs.YtalbfkgififmfaaGreatDoor
