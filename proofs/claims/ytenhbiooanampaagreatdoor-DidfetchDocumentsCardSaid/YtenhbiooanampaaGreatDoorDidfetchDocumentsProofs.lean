/-The statement of DidfetchDocuments:the walks and the plain law,joined. -/
import Derived.Test.YtenhbiooanampaaGreatDoorCards
import Derived.Test.YtenhbiooanampaaGreatDoorTie
import Derived.Test.YtenhbiooanampaaGreatDoorL15
import Derived.Test.YtenhbiooanampaaGreatDoorW32
import Derived.ProofKit
import Derived.WalkKit
import Derived.OpenShut
import Derived.Deep.DeepHandedRow
import Derived.Shelf.Vars
import Derived.Test.YtenhbiooanampaaGreatDoorCl
set_option linter.unusedVariables false
set_option maxRecDepth 100000
namespace Go.Proofs.YtenhbiooanampaaGreatDoor
open Go.ChangeShapes Go.WideShapes Go.ChangeAt Go.RowKit Go.VM
theorem row_laid{W:World} (h:laidMetH Tryz.prog Rows.didfetchDocumentsRow.laid W):laidMet Tryz.prog Rows.didfetchDocumentsRow.laid W:=laidMetH.met h (by kernel_rfl)
theorem glob{W:World} (hL:laidMetH Tryz.prog Rows.didfetchDocumentsRow.laid W) (hO:W.ShapedOpen Tryz.prog): ∀g cs,vE.T g=some cs->Rep (GA W) (.cptr cs) (.pointer (some ⟨g,0,none⟩)):=by
 intro g cs h;change vT g=some cs at h;unfold vT at h;split at h;·rename_i e;subst e;cases h;exact Acv (n:=400) (i:=1) (t:=390) (row_laid hL) rfl (by kernel_rfl) (by kernel_rfl) (by kernel_rfl)
 split at h;·rename_i e;subst e;cases h;obtain⟨m,hm⟩:=cell_of_shapedOpen_int (zero:=#[.int .i64 0]) (t:=3) hO (dQ (by kernel_rfl)) (by kernel_rfl) rfl (by kernel_rfl) (by kernel_rfl) (by kernel_rfl);exact Ajk hm
 ·cases h
theorem contract (H:Type) (enc:TypeId×Value->H) (W:World) (base:Nat) (args:Array Value) (ds gs:List (DataW H)) (before:List MemPlace) (hval0: ∀(j:Nat) t v,Tryz.f3.params[j]?=some t->args[j]?=some v->Value.okWide Tryz.prog W .any base t v) (hW:DataW.Whole enc Tryz.prog Tryz.f3.params.toList Rows.didfetchDocumentsSpec.vars false W args.toList ds gs before) (hL:laidMetH Tryz.prog Rows.didfetchDocumentsRow.laid W) (hO:W.ShapedOpen Tryz.prog) (hsz0:(DataW.weightsEach Tryz.prog (Tryz.f3.params.toList++(OpenSpec.ofChange Rows.didfetchDocumentsSpec).bare.plain.varTypes Tryz.prog) (ds++gs)).all (· <=reachBytes)=true):Calls Tryz.prog 3 args W λe W'=>∃v,e=.returned v/\Rows.didfetchDocumentsSpec.post enc Tryz.prog Tryz.f3 false true false false W args v W':=by
 have hval: ∀(j:Nat) t v,Tryz.f3.params[j]?=some t->args[j]?=some v->Value.okWide Tryz.prog W .any base t v:=hval0;have hsz:(DataW.weightsEach Tryz.prog (Tryz.f3.params.toList++Rows.didfetchDocumentsSpec.plain.varTypes Tryz.prog) (ds++gs)).all (· <=reachBytes)=true:=hsz0;have hW1:=hW;obtain⟨p,q,hA0,hV,_,_,_⟩:=hW1;have hA:DataW.TrodAll enc Tryz.prog W 0 (λ_=>true) true Tryz.f3.params.toList args.toList ds p:=hA0;rw[Tryz.params3]at hA hval hsz;obtain⟨rfl,rfl⟩:=trodVars_none hV;obtain⟨v0,v1,v2,v3,d0,d1,d2,d3,p0,p1,p2,p3,rfl,rfl,rfl,h0,h1,h2,h3⟩:=trodAll_four hA;clear hA0 hval0 hsz0;obtain⟨n0,t0⟩:=h0;have w0:=TM hsz (j:=0) (t:=22) (d:=d0) rfl rfl;obtain⟨l0,o0,a0,r0,k0⟩:=(ABX Tryz.underlying22 (by kernel_rfl) fJ (fk (by kernel_rfl)) (λN=>AF8 (N:=N) Tryz.underlying5) (AVal.int .u8) (one_cell (AVal.int .u8))) n0 H enc W true n0 _ _ (av _) t0 w0;have R0:Rep (GA W) (.slice 1 (List.map (AVal.int .u8) a0) false) v0:=by obtain⟨x,y,z,rfl⟩:=okWide_slice Tryz.underlying22 (hval 0 22 v0 rfl rfl);cases r0 with|cons h _=>exact h
 obtain⟨n1,t1⟩:=h1;have w1:=TM hsz (j:=1) (t:=22) (d:=d1) rfl rfl;obtain⟨l1,o1,a1,r1,k1⟩:=(ABX Tryz.underlying22 (by kernel_rfl) fJ (fk (by kernel_rfl)) (λN=>AF8 (N:=N) Tryz.underlying5) (AVal.int .u8) (one_cell (AVal.int .u8))) n1 H enc W true n1 _ _ (av _) t1 w1;have R1:Rep (GA W) (.slice 1 (List.map (AVal.int .u8) a1) false) v1:=by obtain⟨x,y,z,rfl⟩:=okWide_slice Tryz.underlying22 (hval 1 22 v1 rfl rfl);cases r1 with|cons h _=>exact h
 obtain⟨n2,t2⟩:=h2;have w2:=TM hsz (j:=2) (t:=24) (d:=d2) rfl rfl;obtain⟨l2,o2,a2,r2,k2⟩:=AdA n2 H enc W true n2 _ _ (av _) t2 w2;have R2:Rep (GA W) (CL a2) v2:=by rw[TL];exact AZI Tryz.underlying24 (hval 2 24 v2 rfl rfl) r2 o2
 obtain⟨n3,t3⟩:=h3;have w3:=TM hsz (j:=3) (t:=25) (d:=d3) rfl rfl;obtain⟨l3,o3,a3,r3,k3⟩:=(λN=>AF8 (N:=N) Tryz.underlying25) n3 H enc W true n3 _ _ (av _) t3 w3;have R3:Rep (GA W) (.int .u64 a3) v3:=by obtain⟨x,rfl⟩:=okWide_int Tryz.underlying25 (hval 3 25 v3 rfl rfl);cases r3 with|cons h _=>exact h
 refine(ACall.shell (glob hL hO) (args':=[.slice 1 (List.map (AVal.int .u8) a0) false,.slice 1 (List.map (AVal.int .u8) a1) false,CL a2,.int .u64 a3]) (.cons R0 (.cons R1 (.cons R2 (.cons R3 .nil)))) ?_ (RU (N:=1099511627776) (TW a0 k0 a1 k1 a2 k2 a3 k3) rfl (λn' _=>Gl.mk rfl):ACall vE 3 _ ⟨[],0⟩ λr _=>r=.bool true)).mono ?_;·simp only[TL,stripL,AVal.strip]
 ·rintro e W' ⟨v,he,hb,O,r,st,hr,hq⟩;subst hq;cases hr;refine⟨_,he,?_⟩;exact AnH hW rfl hb Tryz.kids (λt e h=>Tryz.full t e h) (by rw[Tryz.params3];exact typesLt) rfl rfl rfl rfl Tryz.underlying4
theorem lifted (os:Os) (started:os.Started) (H:Type) (enc:TypeId×Value->H) (F:Stop.Interp):
    ReturnsInHanded {} Tryz.checked os 3 .any ((OpenSpec.ofChange Rows.didfetchDocumentsSpec).preRow enc Tryz.prog Tryz.f3 Rows.didfetchDocumentsRow.domain false Rows.didfetchDocumentsRow.laid) (((OpenSpec.ofChange Rows.didfetchDocumentsSpec).at F).post enc Tryz.prog Tryz.f3 false true false false):=by
  obtain⟨places,hx⟩:=reads os enc
  refine returnsInHanded_of_row (C:=Tryz.checked) (s:=OpenSpec.ofChange Rows.didfetchDocumentsSpec) Tryz.own started (by kernel_rfl) Tryz.func3
    (witness_row_at (enc:=enc) (C:=Tryz.checked) false (laidWorld os) #[.slice none 0 0,.slice none 0 0,.agg #[.string ⟨#[]⟩,.string ⟨#[]⟩],.int .u64 0] rfl (by kernel_rfl) (by kernel_rfl) (by kernel_rfl)
      (OpenSpec.preRow_of_cond 8 hx (by kernel_rfl) (λk hk=>by cases hk) (by kernel_rfl) (laid_met os))) ?_
  intro W base args ds gs before hval hW _ _ hsz hL hO _
  exact contract H enc W base args ds gs before hval hW hL hO hsz
theorem said:Rows.DidfetchDocumentsSaid:=OpenClaim.holds_of_cond 3 Tryz.f3 rfl rfl rfl rfl rfl rfl rfl ⟨rfl,rfl,rfl,rfl,rfl⟩ rfl rfl rfl rfl rfl named0 Tryz.func3 closed0 (dQ (by kernel_rfl)) (by unfold Func.isWrapper;first|(rw[an (by decide+kernel)];kernel_rfl)|(rw[aj (by decide+kernel)];exact⟨rfl,rfl⟩)) (λos started H enc _ F=>by rw[OpenClaim.pre_eq_preRow];exact lifted os started H enc F)
theorem plain (f : FuncId) (fn : Func) (hf : Tryz.pinned.checked.prog.funcNamed "webfinger/webfingerlaw28.DidfetchDocuments" = some f) (hfn : Tryz.pinned.checked.prog.funcs[f]? = some fn) :false=Tryz.pinned.checked.prog.looks []/\∀(j:Nat) t,fn.params[j]?=some t->Tryz.pinned.checked.prog.wantsStandIn t=false:=by obtain rfl : f = 3:=cD ((show Tryz.prog.funcNamed "webfinger/webfingerlaw28.DidfetchDocuments" = some 3 by kernel_rfl).symm.trans hf) |>.symm;obtain rfl:fn=Tryz.f3:=(cD (Tryz.func3.symm.trans hfn)).symm;refine⟨by kernel_rfl,λj t ht=>?_⟩;rw[Tryz.params3]at ht;exact typesNo t (by simpa using Array.mem_of_getElem? ht)
theorem didfetchDocuments_holds:Rows.DidfetchDocumentsCardSaid:=Claim7.holds_tied_plain_at .later [] _ _ _ _ said (λ_ h=>by cases h) (by kernel_rfl) (λ_ h=>by cases h) didfetchDocuments_row_tie rfl ⟨rfl,rfl⟩ (by kernel_rfl) rfl plain (AqH rfl (by kernel_rfl))
end Go.Proofs.YtenhbiooanampaaGreatDoor
