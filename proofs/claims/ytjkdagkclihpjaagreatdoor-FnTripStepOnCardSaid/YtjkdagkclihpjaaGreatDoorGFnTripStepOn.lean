/-
  laws.FnTripStepOn returns true for every input and leaves it as it was; conditions: the listed tables lie as the program's text lays them.
-/
import Derived.Test.YtjkdagkclihpjaaGreatDoorGFnTripStepOnW
import Derived.Laws.StructEq
import Derived.Test.YtjkdagkclihpjaaGreatDoorTie
import Derived.Test.YtjkdagkclihpjaaGreatDoorCards
set_option linter.unusedVariables false
set_option linter.unusedSimpArgs false
set_option linter.unnecessarySimpa false
namespace Go.Proofs.YtjkdagkclihpjaaGreatDoor
open Go Go.RowKit
set_option maxRecDepth 20000
section
open Go Go.ChangeShapes Go.WideShapes Go.ChangeAt Go.RowKit
theorem own:ownKnob Tryz.prog.godebug=none:=Zae
theorem laidOut:laidOutB Tryz.prog=true:=Zae
theorem zD:Tryz.prog.globalNamed "loop.example/pedlar/impl.errNoCall" =some 0:=Zae
theorem CS:(Tryz.prog.globals[0]?).map (·.type)=some 104:=Zae
theorem Is: "*" ++ "errors.errorString" = "*errors.errorString" :=Zaf
theorem Oy(u:TypeId)(h:Tryz.prog.typeName? 3 u=some "*errors.errorString"):u=262:=
 typeName_ptr_named (nm:= "errors.errorString") (by rw[Is];kernel_rfl) Zae Zaf u (by rw[Is];exact h)
theorem NH:Tryz.prog.cellsOf 285=1:=Zae
theorem NS:Tryz.prog.cellsOf 9=1:=Zae
set_option maxRecDepth 100000 in
theorem fnTripStepOn_lifted(os:Os)(started:os.Started)(H:Type)(enc:TypeId×Value->H):
 ReturnsInHanded {} Tryz.checked os 3 .any (fun w args=>(Rows.fnTripStepOnSpec.pre enc Tryz.prog Tryz.f3 [] false w args/\laidMetH Tryz.prog Rows.fnTripStepOnRow.laid w)/\sizedMet enc Tryz.prog Tryz.f3 (OpenSpec.ofChange Rows.fnTripStepOnSpec) false w args)
  (Rows.fnTripStepOnSpec.post enc Tryz.prog Tryz.f3 false true false false):=by
 refine returnsInHanded_of_change_and (C:=Tryz.checked) (X:=fun w _=>laidMetH Tryz.prog Rows.fnTripStepOnRow.laid w) (fun _ _ _ hh h=>h.of_heap hh) own started Zae Tryz.func3
  (ChangeSpec.witness_shaped (enc:=enc) (C:=Tryz.checked) (os:=os) (X:=fun w _=>laidMetH Tryz.prog Rows.fnTripStepOnRow.laid w) false (World.laidAll Tryz.prog os Rows.fnTripStepOnRow.laid) #[.slice none 0 0] 8 (World.laidAll_os _ _ _)
   (World.shaped_of_ZipB Zae Zae) Zae Zae Zae
   (by rw[MakeChecks.laidMetH_plain _ _ _ Zae];exact laidMet_laidAll _ Zae Zae)) ?_
 intro W base args ds gs before V0 hW _ _ hL0 _;have hL:laidMet Tryz.prog Rows.fnTripStepOnRow.laid W:=by rw[<- MakeChecks.laidMetH_plain _ _ _ Zae];exact hL0
 have P4:∀ (j:Nat) t v,Tryz.f3.params[j]? =some t->args[j]? =some v->Value.okWide Tryz.prog W .any base t v:=V0;have hW':=hW;obtain⟨p,q,hA0,hV0,rfl,hfz,hnd⟩:=hW;have hV:DataW.TrodVars enc Tryz.prog W (fun _=>true) ["loop.example/pedlar/impl.errNoCall"] gs q:=hV0;have hA:DataW.TrodAll enc Tryz.prog W 0 (fun _=>true) true Tryz.f3.params.toList args.toList ds p:=hA0;rw[Tryz.params3]at hA P4;obtain⟨v0,d0,rfl,rfl,h0⟩:=trodAll_one hA;obtain⟨ea,s0,hvv,_,_,_⟩:=laid_sentinel hL.tail zD CS (ms:=_) (tp:=262) (te:=285) (ts:=9) Tryz.underlying104 Oy Tryz.underlying262 Tryz.underlying285 rfl rfl Tryz.underlying9 NH NS;obtain⟨bt,hbk⟩:=DJ hL.tail zD hvv;obtain⟨rfl,rfl⟩:=hV.unique (vars_read1 enc zD CS Tryz.underlying104 hvv trivial _);obtain⟨a0,len0,cap0,rfl⟩:=okWide_slice Tryz.underlying22 (P4 0 22 v0 rfl rfl);have lt0:∀ x∈p,x.block<W.heap.size:=by obtain⟨m,hm⟩:=h0;exact DataW.trod_lt m _ _ _ hm
 obtain⟨b,rfl,hb,hv⟩:=GM Tryz.underlying22 Tryz.underlying5 Zae h0;clear hA0 V0;refine(CV vA hb hv hbk).mono fun e W' ⟨he,bel⟩=>?_;subst he;have hvv':W'.var? Tryz.prog "loop.example/pedlar/impl.errNoCall" =some #[.iface 262 (.pointer (some ea))]:=by
  rw[<- hvv];unfold World.var?;rw[zD,Option.bind_some,Option.bind_some,bel.block 0 (Zbh.1 hbk).1]
 exact⟨_,rfl,_,_,_,[],p,[.cell 0 0],hW',trodAll_mk1 (shut_bool Tryz.underlying4 _),trodAll_mk1 (Below.trod laidOut Zae (of_decide_eq_true Zae) h0 bel lt0),vars_read1 enc zD CS Tryz.underlying104 hvv' trivial _,bel.frame _,fun h=>by cases h⟩
theorem uG:(Rows.fnTripStepOnRow.inPlace==Tryz.prog.inPlace 3)=true:=Zae
theorem vB:(Rows.fnTripStepOnRow.unfollowed==Tryz.prog.unfollowed 3)=true:=Zae
theorem wh:(Rows.fnTripStepOnRow.recurses==Tryz.prog.recurses 3)=true:=Zae
theorem wj:(Rows.fnTripStepOnRow.named==Tryz.prog.varsNamed 3)=true:=Zae
theorem vf:joinedFacts Tryz.prog 3 Tryz.f3 Rows.fnTripStepOnSpec Rows.fnTripStepOnRow=true:=by
 unfold joinedFacts;rw[uG,vB,wh,wj];kernel_rfl
theorem fnTripStepOn_row:Rows.FnTripStepOnSaid:=
 OpenClaim.holds_of_wide 3 Tryz.f3 rfl rfl rfl rfl rfl rfl rfl ⟨rfl,rfl,rfl,rfl,rfl⟩ rfl rfl rfl rfl rfl Zae Tryz.func3 vf
  (of_decide_eq_true Zae) (by unfold Func.isWrapper;first | (rw[if_pos (by decide +kernel)];kernel_rfl) | (rw[if_neg (by decide +kernel)];exact⟨rfl,rfl⟩))
  (fun os started H enc _=>fnTripStepOn_lifted os started H enc)
theorem fnTripStepOn_holds:Rows.FnTripStepOnCardSaid:=
 Claim7.holds_tied_plain_at .later [] [.data,.sentinel,.pinned] true (true, "a5b9853d291076e6abc5f6b83e9a42e2f3bcfb5c9c04aed8991a8417f0e31e20") true fnTripStepOn_row (fun _ h=>by cases h) Zae (fun _ h=>by cases h) fnTripStepOn_row_tie rfl ⟨rfl,rfl⟩ Zae rfl
  (fun f fn hf hfn=>by
   obtain rfl:f=3:=Option.some.inj ((show Tryz.prog.funcNamed "loop.example/pedlar/laws.FnTripStepOn" =some 3 by kernel_rfl).symm.trans hf) |>.symm;obtain rfl:fn=Tryz.f3:=(Option.some.inj (Tryz.func3.symm.trans hfn)).symm;exact⟨Zae,fun j t ht=>by
    rw[Tryz.params3]at ht;have hm:t∈[22]:=by simpa using Array.mem_of_getElem? ht
    have L8:([22].all fun u=>!Tryz.prog.wantsStandIn u)=true:=Zae;exact(show Tryz.prog.wantsStandIn t=false by simpa using Za2.1 L8 t hm)⟩)
  Zae
end
end Go.Proofs.YtjkdagkclihpjaaGreatDoor