/-
  laws.FnTripStepFail returns true for every input and leaves it as it was; conditions: the listed tables lie as the program's text lays them.
-/
import Derived.Test.YtngholilfbdfkabGreatDoorGFnTripStepFailW
import Derived.Laws.StructEq
import Derived.Test.YtngholilfbdfkabGreatDoorTie
import Derived.Test.YtngholilfbdfkabGreatDoorCards
set_option linter.unusedVariables false
set_option linter.unusedSimpArgs false
set_option linter.unnecessarySimpa false
namespace Go.Proofs.YtngholilfbdfkabGreatDoor
open Go Go.RowKit
set_option maxRecDepth 20000
section
open Go Go.ChangeShapes Go.WideShapes Go.ChangeAt Go.RowKit
theorem own:ownKnob Tryz.prog.godebug=none:=Zae
theorem laidOut:laidOutB Tryz.prog=true:=Zae
theorem zq:Tryz.prog.globalNamed "loop.example/pedlar/impl.errNoCall" =some 0:=Zae
theorem CG:(Tryz.prog.globals[0]?).map (·.type)=some 112:=Zae
theorem Ib: "*" ++ "errors.errorString" = "*errors.errorString" :=Zaf
theorem Oo(u:TypeId)(h:Tryz.prog.typeName? 3 u=some "*errors.errorString"):u=265:=
 typeName_ptr_named (nm:= "errors.errorString") (by rw[Ib];kernel_rfl) Zae Zaf u (by rw[Ib];exact h)
theorem NB:Tryz.prog.cellsOf 288=1:=Zae
theorem NM:Tryz.prog.cellsOf 9=1:=Zae
set_option maxRecDepth 100000 in
theorem fnTripStepFail_lifted(os:Os)(started:os.Started)(H:Type)(enc:TypeId×Value->H):
 ReturnsInHanded {} Tryz.checked os 5 .any (fun w args=>(Rows.fnTripStepFailSpec.pre enc Tryz.prog Tryz.f5 [] false w args/\laidMetH Tryz.prog Rows.fnTripStepFailRow.laid w)/\sizedMet enc Tryz.prog Tryz.f5 (OpenSpec.ofChange Rows.fnTripStepFailSpec) false w args)
  (Rows.fnTripStepFailSpec.post enc Tryz.prog Tryz.f5 false true false false):=by
 refine returnsInHanded_of_change_and (C:=Tryz.checked) (X:=fun w _=>laidMetH Tryz.prog Rows.fnTripStepFailRow.laid w) (fun _ _ _ hh h=>h.of_heap hh) own started Zae Tryz.func5
  (ChangeSpec.witness_shaped (enc:=enc) (C:=Tryz.checked) (os:=os) (X:=fun w _=>laidMetH Tryz.prog Rows.fnTripStepFailRow.laid w) false (World.laidAll Tryz.prog os Rows.fnTripStepFailRow.laid) #[.slice none 0 0] 8 (World.laidAll_os _ _ _)
   (World.shaped_of_ZipB Zae Zae) Zae Zae Zae
   (by rw[MakeChecks.laidMetH_plain _ _ _ Zae];exact laidMet_laidAll _ Zae Zae)) ?_
 intro W base args ds gs before VN hW _ _ hL0 _;have hL:laidMet Tryz.prog Rows.fnTripStepFailRow.laid W:=by rw[<- MakeChecks.laidMetH_plain _ _ _ Zae];exact hL0
 have PQ:∀ (j:Nat) t v,Tryz.f5.params[j]? =some t->args[j]? =some v->Value.okWide Tryz.prog W .any base t v:=VN;have hW':=hW;obtain⟨p,q,hA0,hV0,rfl,hfz,hnd⟩:=hW;have hV:DataW.TrodVars enc Tryz.prog W (fun _=>true) ["loop.example/pedlar/impl.errNoCall"] gs q:=hV0;have hA:DataW.TrodAll enc Tryz.prog W 0 (fun _=>true) true Tryz.f5.params.toList args.toList ds p:=hA0;rw[Tryz.params5]at hA PQ;obtain⟨v0,d0,rfl,rfl,h0⟩:=trodAll_one hA;obtain⟨ea,s0,Z1,_,_,_⟩:=laid_sentinel hL.tail zq CG (ms:=_) (tp:=265) (te:=288) (ts:=9) Tryz.underlying112 Oo Tryz.underlying265 Tryz.underlying288 rfl rfl Tryz.underlying9 NB NM;obtain⟨bt,hbk⟩:=Dx hL.tail zq Z1;obtain⟨rfl,rfl⟩:=hV.unique (vars_read1 enc zq CG Tryz.underlying112 Z1 trivial _);obtain⟨a0,len0,cap0,rfl⟩:=okWide_slice Tryz.underlying22 (PQ 0 22 v0 rfl rfl);have lt0:∀ x∈p,x.block<W.heap.size:=by obtain⟨m,hm⟩:=h0;exact DataW.trod_lt m _ _ _ hm
 obtain⟨b,rfl,hb,hv⟩:=Gy Tryz.underlying22 Tryz.underlying5 Zae h0;clear hA0 VN;refine(CJ sO hb hv hbk).mono fun e W' ⟨he,bel⟩=>?_;subst he;have Z0:W'.var? Tryz.prog "loop.example/pedlar/impl.errNoCall" =some #[.iface 265 (.pointer (some ea))]:=by
  rw[<- Z1];unfold World.var?;rw[zq,Option.bind_some,Option.bind_some,bel.block 0 (Zbh.1 hbk).1]
 exact⟨_,rfl,_,_,_,[],p,[.cell 0 0],hW',trodAll_mk1 (shut_bool Tryz.underlying4 _),trodAll_mk1 (Below.trod laidOut Zae (of_decide_eq_true Zae) h0 bel lt0),vars_read1 enc zq CG Tryz.underlying112 Z0 trivial _,bel.frame _,fun h=>by cases h⟩
theorem sM:(Rows.fnTripStepFailRow.inPlace==Tryz.prog.inPlace 5)=true:=Zae
theorem sL:(Rows.fnTripStepFailRow.unfollowed==Tryz.prog.unfollowed 5)=true:=Zae
theorem sN:(Rows.fnTripStepFailRow.recurses==Tryz.prog.recurses 5)=true:=Zae
theorem sP:(Rows.fnTripStepFailRow.named==Tryz.prog.varsNamed 5)=true:=Zae
theorem sK:joinedFacts Tryz.prog 5 Tryz.f5 Rows.fnTripStepFailSpec Rows.fnTripStepFailRow=true:=by
 unfold joinedFacts;rw[sM,sL,sN,sP];kernel_rfl
theorem fnTripStepFail_row:Rows.FnTripStepFailSaid:=
 OpenClaim.holds_of_wide 5 Tryz.f5 rfl rfl rfl rfl rfl rfl rfl ⟨rfl,rfl,rfl,rfl,rfl⟩ rfl rfl rfl rfl rfl Zae Tryz.func5 sK
  (of_decide_eq_true Zae) (by unfold Func.isWrapper;first | (rw[if_pos (by decide +kernel)];kernel_rfl) | (rw[if_neg (by decide +kernel)];exact⟨rfl,rfl⟩))
  (fun os started H enc _=>fnTripStepFail_lifted os started H enc)
theorem fnTripStepFail_holds:Rows.FnTripStepFailCardSaid:=
 Claim7.holds_tied_plain_at .later [] [.data,.sentinel,.pinned] true (true, "6e42da9c6b8ed833a84a5881f7c51da9367e9d859d42f1ee39e7e0e305e83814") true fnTripStepFail_row (fun _ h=>by cases h) Zae (fun _ h=>by cases h) fnTripStepFail_row_tie rfl ⟨rfl,rfl⟩ Zae rfl
  (fun f fn hf hfn=>by
   obtain rfl:f=5:=Option.some.inj ((show Tryz.prog.funcNamed "loop.example/pedlar/laws.FnTripStepFail" =some 5 by kernel_rfl).symm.trans hf) |>.symm;obtain rfl:fn=Tryz.f5:=(Option.some.inj (Tryz.func5.symm.trans hfn)).symm;exact⟨Zae,fun j t ht=>by
    rw[Tryz.params5]at ht;have hm:t∈[22]:=by simpa using Array.mem_of_getElem? ht
    have L0:([22].all fun u=>!Tryz.prog.wantsStandIn u)=true:=Zae;exact(show Tryz.prog.wantsStandIn t=false by simpa using Za2.1 L0 t hm)⟩)
  Zae
end
end Go.Proofs.YtngholilfbdfkabGreatDoor