/-
  laws.FnTripRunCut returns true for every input and leaves it as it was; conditions: the listed tables lie as the program's text lays them.
-/
import Derived.Test.YtngholilfbdfkabGreatDoorGFnTripRunCutW
import Derived.Laws.StructEq
import Derived.Test.YtngholilfbdfkabGreatDoorTie
import Derived.Test.YtngholilfbdfkabGreatDoorCards
set_option linter.unusedVariables false
set_option linter.unusedSimpArgs false
set_option linter.unnecessarySimpa false
namespace Go.Proofs.YtngholilfbdfkabGreatDoor
open Go Go.RowKit
set_option maxRecDepth 20000
section
open Go Go.ChangeShapes Go.WideShapes Go.ChangeAt Go.RowKit
theorem own:ownKnob Tryz.prog.godebug=none:=Zae
theorem laidOut:laidOutB Tryz.prog=true:=Zae
theorem oQ:Tryz.prog.globalNamed "loop.example/pedlar/impl.errNoCall" =some 0:=Zae
theorem qY:(Tryz.prog.globals[0]?).map (·.type)=some 112:=Zae
theorem wL: "*" ++ "errors.errorString" = "*errors.errorString" :=Zaf
theorem IV(u:TypeId)(h:Tryz.prog.typeName? 3 u=some "*errors.errorString"):u=265:=
 typeName_ptr_named (nm:= "errors.errorString") (by rw[wL];kernel_rfl) Zae Zaf u (by rw[wL];exact h)
theorem EZ:Tryz.prog.cellsOf 288=1:=Zae
theorem FP:Tryz.prog.cellsOf 9=1:=Zae
set_option maxRecDepth 100000 in
theorem fnTripRunCut_lifted(os:Os)(started:os.Started)(H:Type)(enc:TypeId×Value->H):
 ReturnsInHanded {} Tryz.checked os 4 .any (fun w args=>(Rows.fnTripRunCutSpec.pre enc Tryz.prog Tryz.f4 [] false w args/\laidMetH Tryz.prog Rows.fnTripRunCutRow.laid w)/\sizedMet enc Tryz.prog Tryz.f4 (OpenSpec.ofChange Rows.fnTripRunCutSpec) false w args)
  (Rows.fnTripRunCutSpec.post enc Tryz.prog Tryz.f4 false true false false):=by
 refine returnsInHanded_of_change_and (C:=Tryz.checked) (X:=fun w _=>laidMetH Tryz.prog Rows.fnTripRunCutRow.laid w) (fun _ _ _ hh h=>h.of_heap hh) own started Zae Tryz.func4
  (ChangeSpec.witness_shaped (enc:=enc) (C:=Tryz.checked) (os:=os) (X:=fun w _=>laidMetH Tryz.prog Rows.fnTripRunCutRow.laid w) false (World.laidAll Tryz.prog os Rows.fnTripRunCutRow.laid) #[.slice none 0 0,.slice none 0 0] 8 (World.laidAll_os _ _ _)
   (World.shaped_of_ZipB Zae Zae) Zae Zae Zae
   (by rw[MakeChecks.laidMetH_plain _ _ _ Zae];exact laidMet_laidAll _ Zae Zae)) ?_
 intro W base args ds gs before So hW _ _ hL0 _;have hL:laidMet Tryz.prog Rows.fnTripRunCutRow.laid W:=by rw[<- MakeChecks.laidMetH_plain _ _ _ Zae];exact hL0
 have PA:∀ (j:Nat) t v,Tryz.f4.params[j]? =some t->args[j]? =some v->Value.okWide Tryz.prog W .any base t v:=So;have hW':=hW;obtain⟨p,q,Zn,hV0,rfl,hfz,hnd⟩:=hW;have hV:DataW.TrodVars enc Tryz.prog W (fun _=>true) ["loop.example/pedlar/impl.errNoCall"] gs q:=hV0;have hA:DataW.TrodAll enc Tryz.prog W 0 (fun _=>true) true Tryz.f4.params.toList args.toList ds p:=Zn;rw[Tryz.params4]at hA PA;obtain⟨v0,v1,d0,d1,p0,p1,rfl,rfl,rfl,h0,h1⟩:=trodAll_two hA;obtain⟨ea,s0,Xp,_,_,_⟩:=laid_sentinel hL.tail oQ qY (ms:=_) (tp:=265) (te:=288) (ts:=9) Tryz.underlying112 IV Tryz.underlying265 Tryz.underlying288 rfl rfl Tryz.underlying9 EZ FP;obtain⟨bt,hbk⟩:=xo hL.tail oQ Xp;obtain⟨rfl,rfl⟩:=hV.unique (vars_read1 enc oQ qY Tryz.underlying112 Xp trivial _);obtain⟨a0,len0,cap0,rfl⟩:=okWide_slice Tryz.underlying22 (PA 0 22 v0 rfl rfl);obtain⟨a1,len1,cap1,rfl⟩:=okWide_slice Tryz.underlying22 (PA 1 22 v1 rfl rfl);have lt0:∀ x∈p0,x.block<W.heap.size:=by obtain⟨m,hm⟩:=h0;exact DataW.trod_lt m _ _ _ hm
 have lt1:∀ x∈p1,x.block<W.heap.size:=by obtain⟨m,hm⟩:=h1;exact DataW.trod_lt m _ _ _ hm
 obtain⟨b,rfl,hb,hv⟩:=vz Tryz.underlying22 Tryz.underlying5 Zae h0;obtain⟨c,rfl,hc,hu⟩:=vz Tryz.underlying22 Tryz.underlying5 Zae h1;clear Zn So;refine(Cw xX hb hc hv hu hbk).mono fun e W' ⟨he,W4⟩=>?_;subst he;have Xo:W'.var? Tryz.prog "loop.example/pedlar/impl.errNoCall" =some #[.iface 265 (.pointer (some ea))]:=by
  rw[<- Xp];unfold World.var?;rw[oQ,Option.bind_some,Option.bind_some,W4.block 0 (Zbh.1 hbk).1]
 exact⟨_,rfl,_,_,_,[],p0++p1,[.cell 0 0],hW',trodAll_mk1 (shut_bool Tryz.underlying4 _),trodAll_mk2 (Below.trod laidOut Zae (of_decide_eq_true Zae) h0 W4 lt0) (Below.trod laidOut Zae (of_decide_eq_true Zae) h1 W4 lt1),vars_read1 enc oQ qY Tryz.underlying112 Xo trivial _,W4.frame _,fun h=>by cases h⟩
theorem wC:(Rows.fnTripRunCutRow.inPlace==Tryz.prog.inPlace 4)=true:=Zae
theorem wF:(Rows.fnTripRunCutRow.unfollowed==Tryz.prog.unfollowed 4)=true:=Zae
theorem xc:(Rows.fnTripRunCutRow.recurses==Tryz.prog.recurses 4)=true:=Zae
theorem xw:(Rows.fnTripRunCutRow.named==Tryz.prog.varsNamed 4)=true:=Zae
theorem wB:joinedFacts Tryz.prog 4 Tryz.f4 Rows.fnTripRunCutSpec Rows.fnTripRunCutRow=true:=by
 unfold joinedFacts;rw[wC,wF,xc,xw];kernel_rfl
theorem fnTripRunCut_row:Rows.FnTripRunCutSaid:=
 OpenClaim.holds_of_wide 4 Tryz.f4 rfl rfl rfl rfl rfl rfl rfl ⟨rfl,rfl,rfl,rfl,rfl⟩ rfl rfl rfl rfl rfl Zae Tryz.func4 wB
  (of_decide_eq_true Zae) (by unfold Func.isWrapper;first | (rw[if_pos (by decide +kernel)];kernel_rfl) | (rw[if_neg (by decide +kernel)];exact⟨rfl,rfl⟩))
  (fun os started H enc _=>fnTripRunCut_lifted os started H enc)
theorem fnTripRunCut_holds:Rows.FnTripRunCutCardSaid:=
 Claim7.holds_tied_plain_at .later [] [.data,.sentinel,.pinned] true (true, "6e42da9c6b8ed833a84a5881f7c51da9367e9d859d42f1ee39e7e0e305e83814") true fnTripRunCut_row (fun _ h=>by cases h) Zae (fun _ h=>by cases h) fnTripRunCut_row_tie rfl ⟨rfl,rfl⟩ Zae rfl
  (fun f fn hf hfn=>by
   obtain rfl:f=4:=Option.some.inj ((show Tryz.prog.funcNamed "loop.example/pedlar/laws.FnTripRunCut" =some 4 by kernel_rfl).symm.trans hf) |>.symm;obtain rfl:fn=Tryz.f4:=(Option.some.inj (Tryz.func4.symm.trans hfn)).symm;exact⟨Zae,fun j t ht=>by
    rw[Tryz.params4]at ht;have hm:t∈[22,22]:=by simpa using Array.mem_of_getElem? ht
    have N2:([22,22].all fun u=>!Tryz.prog.wantsStandIn u)=true:=Zae;exact(show Tryz.prog.wantsStandIn t=false by simpa using Za2.1 N2 t hm)⟩)
  Zae
end
end Go.Proofs.YtngholilfbdfkabGreatDoor