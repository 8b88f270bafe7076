/-
  laws.FnTripRunOne returns true for every input and leaves it as it was; conditions: the listed tables lie as the program's text lays them.
-/
import Derived.Test.YtngholilfbdfkaaGreatDoorGFnTripRunOneW
import Derived.Laws.StructEq
import Derived.Test.YtngholilfbdfkaaGreatDoorTie
import Derived.Test.YtngholilfbdfkaaGreatDoorCards
set_option linter.unusedVariables false
set_option linter.unusedSimpArgs false
set_option linter.unnecessarySimpa false
namespace Go.Proofs.YtngholilfbdfkaaGreatDoor
open Go Go.RowKit
set_option maxRecDepth 20000
section
open Go Go.ChangeShapes Go.WideShapes Go.ChangeAt Go.RowKit
theorem own:ownKnob Tryz.prog.godebug=none:=Zae
theorem laidOut:laidOutB Tryz.prog=true:=Zae
theorem ju:Tryz.prog.globalNamed "loop.example/pedlar/impl.errNoCall" =some 0:=Zae
theorem kO:(Tryz.prog.globals[0]?).map (·.type)=some 99:=Zae
theorem nW: "*" ++ "errors.errorString" = "*errors.errorString" :=Zaf
theorem yG(u:TypeId)(h:Tryz.prog.typeName? 3 u=some "*errors.errorString"):u=262:=
 typeName_ptr_named (nm:= "errors.errorString") (by rw[nW];kernel_rfl) Zae Zaf u (by rw[nW];exact h)
theorem uV:Tryz.prog.cellsOf 285=1:=Zae
theorem vi:Tryz.prog.cellsOf 9=1:=Zae
set_option maxRecDepth 100000 in
theorem fnTripRunOne_lifted(os:Os)(started:os.Started)(H:Type)(enc:TypeId×Value->H):
 ReturnsInHanded {} Tryz.checked os 6 .any (fun w args=>(Rows.fnTripRunOneSpec.pre enc Tryz.prog Tryz.f6 [] false w args/\laidMetH Tryz.prog Rows.fnTripRunOneRow.laid w)/\sizedMet enc Tryz.prog Tryz.f6 (OpenSpec.ofChange Rows.fnTripRunOneSpec) false w args)
  (Rows.fnTripRunOneSpec.post enc Tryz.prog Tryz.f6 false true false false):=by
 refine returnsInHanded_of_change_and (C:=Tryz.checked) (X:=fun w _=>laidMetH Tryz.prog Rows.fnTripRunOneRow.laid w) (fun _ _ _ hh h=>h.of_heap hh) own started Zae Tryz.func6
  (ChangeSpec.witness_shaped (enc:=enc) (C:=Tryz.checked) (os:=os) (X:=fun w _=>laidMetH Tryz.prog Rows.fnTripRunOneRow.laid w) false (World.laidAll Tryz.prog os Rows.fnTripRunOneRow.laid) #[.slice none 0 0] 8 (World.laidAll_os _ _ _)
   (World.shaped_of_ZipB Zae Zae) Zae Zae Zae
   (by rw[MakeChecks.laidMetH_plain _ _ _ Zae];exact laidMet_laidAll _ Zae Zae)) ?_
 intro W base args ds gs before QO hW _ _ Y1 _;have hL:laidMet Tryz.prog Rows.fnTripRunOneRow.laid W:=Zh8
 have Qc:∀ (j:Nat) t v,Tryz.f6.params[j]? =some t->args[j]? =some v->Value.okWide Tryz.prog W .any base t v:=QO;have YW:=hW;obtain⟨p,q,V9,YX,rfl,hfz,hnd⟩:=hW;have hV:DataW.TrodVars enc Tryz.prog W (fun _=>true) ["loop.example/pedlar/impl.errNoCall"] gs q:=YX;have hA:DataW.TrodAll enc Tryz.prog W 0 (fun _=>true) true Tryz.f6.params.toList args.toList ds p:=V9;rw[Tryz.params6]at hA Qc;obtain⟨v0,d0,rfl,rfl,h0⟩:=trodAll_one hA;obtain⟨ea,s0,Ug,_,_,_⟩:=laid_sentinel hL.tail ju kO (ms:=_) (tp:=262) (te:=285) (ts:=9) Tryz.underlying99 yG Tryz.underlying262 Tryz.underlying285 rfl rfl Tryz.underlying9 uV vi;obtain⟨bt,hbk⟩:=qv hL.tail ju Ug;obtain⟨rfl,rfl⟩:=hV.unique (vars_read1 enc ju kO Tryz.underlying99 Ug trivial _);obtain⟨a0,Ym,Y3,rfl⟩:=okWide_slice Tryz.underlying22 (Qc 0 22 v0 rfl rfl);have Yk:∀ x∈p,x.block<W.heap.size:=by obtain⟨m,hm⟩:=h0;exact DataW.trod_lt m _ _ _ hm
 obtain⟨b,rfl,hb,hv⟩:=uA Tryz.underlying22 Tryz.underlying5 Zae h0;clear V9 QO;refine(qo zI hb hv hbk).mono fun e W' ⟨he,UA⟩=>?_;subst he;have Uf:W'.var? Tryz.prog "loop.example/pedlar/impl.errNoCall" =some #[.iface 262 (.pointer (some ea))]:=by
  rw[<- Ug];unfold World.var?;rw[ju,Option.bind_some,Option.bind_some,UA.block 0 (Zbh.1 hbk).1]
 exact⟨_,rfl,_,_,_,[],p,[.cell 0 0],YW,trodAll_mk1 (shut_bool Tryz.underlying4 _),trodAll_mk1 (Below.trod laidOut Zae (of_decide_eq_true Zae) h0 UA Yk),vars_read1 enc ju kO Tryz.underlying99 Uf trivial _,UA.frame _,fun h=>by cases h⟩
theorem Ai:(Rows.fnTripRunOneRow.inPlace==Tryz.prog.inPlace 6)=true:=Zae
theorem Am:(Rows.fnTripRunOneRow.unfollowed==Tryz.prog.unfollowed 6)=true:=Zae
theorem AF:(Rows.fnTripRunOneRow.recurses==Tryz.prog.recurses 6)=true:=Zae
theorem zD:(Rows.fnTripRunOneRow.named==Tryz.prog.varsNamed 6)=true:=Zae
theorem AH:joinedFacts Tryz.prog 6 Tryz.f6 Rows.fnTripRunOneSpec Rows.fnTripRunOneRow=true:=by
 unfold joinedFacts;rw[Ai,Am,AF,zD];kernel_rfl
theorem fnTripRunOne_row:Rows.FnTripRunOneSaid:=
 OpenClaim.holds_of_wide 6 Tryz.f6 rfl rfl rfl rfl rfl rfl rfl ⟨rfl,rfl,rfl,rfl,rfl⟩ rfl rfl rfl rfl rfl Zae Tryz.func6 AH
  (of_decide_eq_true Zae) (by unfold Func.isWrapper;first | (rw[if_pos (by decide +kernel)];kernel_rfl) | (rw[if_neg (by decide +kernel)];exact⟨rfl,rfl⟩))
  (fun os started H enc _=>fnTripRunOne_lifted os started H enc)
theorem fnTripRunOne_holds:Rows.FnTripRunOneCardSaid:=
 Claim7.holds_tied_plain_at .later [] [.data,.sentinel,.pinned] true (true, "bbe36f4b663bea6ed44bb6d9475ddfbcb34050c0578b6d0d756c0e21cbde87b1") true fnTripRunOne_row (fun _ h=>by cases h) Zae (fun _ h=>by cases h) fnTripRunOne_row_tie rfl ⟨rfl,rfl⟩ Zae rfl
  (fun f fn hf YR=>by
   obtain rfl:f=6:=Option.some.inj ((show Tryz.prog.funcNamed "loop.example/pedlar/laws.FnTripRunOne" =some 6 by kernel_rfl).symm.trans hf) |>.symm;obtain rfl:fn=Tryz.f6:=(Option.some.inj (Tryz.func6.symm.trans YR)).symm;exact⟨Zae,fun j t ht=>by
    rw[Tryz.params6]at ht;have hm:t∈[22]:=Zh9
    have PQ:([22].all fun u=>!Tryz.prog.wantsStandIn u)=true:=Zae;exact(show Tryz.prog.wantsStandIn t=false by simpa using Za2.1 PQ t hm)⟩)
  Zae
end
end Go.Proofs.YtngholilfbdfkaaGreatDoor