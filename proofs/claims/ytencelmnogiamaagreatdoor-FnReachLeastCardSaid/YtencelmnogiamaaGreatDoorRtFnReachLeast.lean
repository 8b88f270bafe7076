/-
  laws.FnReachLeast returns true for every input and leaves it as it was; conditions: the listed tables lie as the program's text lays them.
-/
import Derived.Test.YtencelmnogiamaaGreatDoorRtF
import Derived.Test.YtencelmnogiamaaGreatDoorTie
import Derived.Test.YtencelmnogiamaaGreatDoorCards
set_option linter.unusedVariables false
set_option linter.unusedSimpArgs false
namespace Go.Pd
open Go.Abs
end Go.Pd
namespace Go.Proofs.YtencelmnogiamaaGreatDoor
open Go Go.Abs Go.RowKit Go.Pd
set_option maxRecDepth 20000
theorem aeB {l:List (List UInt8)} {i:Nat} (h:i < l.length):l.getD i []∈l:=by
 rw [List.getD_eq_getElem?_getD,List.getElem?_eq_getElem h]; exact List.getElem_mem h
theorem aou (b:List UInt8) (hb:b.length≤9223372036854775807):PF Tryz.prog 5 [.sl false (b.map u8V)] [] (fun r h=>r=(bV true)∧h=[]):=by
 refine aag (N:=64) (rs:=[.tmp 2]) Tryz.func5 (by kernel_rfl) rfl rfl rfl (by kernel_rfl)
  (.r 1 [] <| .r 3 [] <| .br (.r 1 [] <| .nil) (.r 1 [] <| .cx (aaU b) [] (fun (x3_1:List Pg×List UInt8×List (List UInt8))=>.r 7 [] <| .r 3 [] <| .c (aaP x3_1.1 x3_1.2.1 x3_1.2.2) [] <| .r 1 [] <| .r 4 [] <| .c (abl x3_1.1 x3_1.2.1 x3_1.2.2) [] <| .c (abE (aaa x3_1.1 x3_1.2.1 x3_1.2.2) (aaa x3_1.1 x3_1.2.1 x3_1.2.2)) [] <| .r 1 [] <| .br (.r 1 [] <| .nil) (.r 1 [] <| .loop (Nat) (fun (i:Nat)=>⟨[(3,.sl false (x3_1.1.map pgV)),(4,sV x3_1.2.1),(5,.sl false (x3_1.2.2.map sV)),(6,.sl false ((aaa x3_1.1 x3_1.2.1 x3_1.2.2).map sV)),(7,iN i)],[]⟩) (fun (i:Nat)=>i≤(aaa x3_1.1 x3_1.2.1 x3_1.2.2).length) (fun (i:Nat)=>(aaa x3_1.1 x3_1.2.1 x3_1.2.2).length - i) (fun (i:Nat)=>.r 4 [] <| .br (.r 5 [sV ((aaa x3_1.1 x3_1.2.1 x3_1.2.2).getD i [])] <| .c (adi x3_1.2.2 ((aaa x3_1.1 x3_1.2.1 x3_1.2.2).getD i [])) [] <| .r 1 [] <| .r 1 [] <| .loop (Nat×Bool) (fun (k,s)=>⟨[(3,.sl false (x3_1.1.map pgV)),(4,sV x3_1.2.1),(5,.sl false (x3_1.2.2.map sV)),(6,.sl false ((aaa x3_1.1 x3_1.2.1 x3_1.2.2).map sV)),(7,iN i),(8,bV s),(9,iN k)],[]⟩) (fun (k,s)=>k≤i∧(s=false→(x3_1.2.2.contains ((aaa x3_1.1 x3_1.2.1 x3_1.2.2).getD i [])=false∧∀ j,j < k→(aak x3_1.1 ((aaa x3_1.1 x3_1.2.1 x3_1.2.2).getD j [])).contains ((aaa x3_1.1 x3_1.2.1 x3_1.2.2).getD i [])=false))) (fun (k,s)=>i - k) (fun (k,s)=>.r 7 [] <| .br (.dx 10 [0,1,2,3,4,5,6,7,8,9] [(4,⟨false,[],some [],[55],[]⟩),(9,⟨false,[],some [],[60],[]⟩)] [] <| .r 1 [] <| .r 1 [] <| .r 1 [] <| .r 1 [sV ((aaa x3_1.1 x3_1.2.1 x3_1.2.2).getD k [])] <| .r 1 [] <| .c (agP x3_1.1 ((aaa x3_1.1 x3_1.2.1 x3_1.2.2).getD k [])) [] <| .r 1 [] <| .r 1 [] <| .r 1 [sV ((aaa x3_1.1 x3_1.2.1 x3_1.2.2).getD i [])] <| .r 1 [] <| .c (adi (aak x3_1.1 ((aaa x3_1.1 x3_1.2.1 x3_1.2.2).getD k [])) ((aaa x3_1.1 x3_1.2.1 x3_1.2.2).getD i [])) [] <| .r 1 [] <| .r 3 [] <| .nil) (.r 2 [] <| .br (.r 1 [] <| .nil) (.r 3 [] <| .nil)))) (.r 1 [] <| .nil))))))
  (Br (gtB (((b.map u8V).length:Nat):Int) 1048576) (Q (bV true) (bV true)) ((aaU b).sm∧((b.length≤9223372036854775807))∧∀ x3_1:List Pg×List UInt8×List (List UInt8),(1≤x3_1.1.length∧x3_1.1.length≤30∧(∀ y,y∈x3_1.1→PgSz y)∧x3_1.2.1.length≤5∧aaD x3_1.2.1=true∧x3_1.2.2.length≤4∧(∀ y,y∈x3_1.2.2→y.length≤30∧Asc y))→(fun v1:V=>(fun v2:V=>(fun v3:V=>(aaP x3_1.1 x3_1.2.1 x3_1.2.2).sm∧((x3_1.1.length≤30)∧(∀ i,PgSz (x3_1.1.getD i pg0))∧(x3_1.2.1.length≤1000000)∧(∀ x,x∈x3_1.2.2→x.length≤1000∧Asc x)∧(x3_1.2.2.length≤1000000))∧(abl x3_1.1 x3_1.2.1 x3_1.2.2).sm∧((x3_1.1.length≤1000)∧(∀ i,(x3_1.1.getD i pg0).addr.length≤1000000∧(x3_1.1.getD i pg0).text.length≤1000000∧(x3_1.1.getD i pg0).lead.length≤1000000)∧(x3_1.2.1.length≤1000000)∧(∀ x,x∈x3_1.2.2→x.length≤1000000)∧(x3_1.2.2.length≤1000000))∧(abE (aaa x3_1.1 x3_1.2.1 x3_1.2.2) (aaa x3_1.1 x3_1.2.1 x3_1.2.2)).sm∧(((aaa x3_1.1 x3_1.2.1 x3_1.2.2).length≤1000000)∧((aaa x3_1.1 x3_1.2.1 x3_1.2.2).length≤1000000))∧Br (!((aaa x3_1.1 x3_1.2.1 x3_1.2.2)==(aaa x3_1.1 x3_1.2.1 x3_1.2.2))) (Q (bV false) (bV true)) ((∃ i₀:Nat,(i₀≤(aaa x3_1.1 x3_1.2.1 x3_1.2.2).length)∧E v3∧E (sV x3_1.2.1)∧E v2∧E v1∧Q (iN 0) (iN i₀)∧True)∧∀ i:Nat,(i≤(aaa x3_1.1 x3_1.2.1 x3_1.2.2).length)→Br (ltB (i:Int) ((((aaa x3_1.1 x3_1.2.1 x3_1.2.2).map sV).length:Nat):Int)) (Ex (i:Int) ((aaa x3_1.1 x3_1.2.1 x3_1.2.2).map sV) (sV ((aaa x3_1.1 x3_1.2.1 x3_1.2.2).getD i []))∧True∧(adi x3_1.2.2 ((aaa x3_1.1 x3_1.2.1 x3_1.2.2).getD i [])).sm∧((x3_1.2.2.length≤1000000))∧(∃ x:Nat×Bool,match x with | (k₀,s₀)=>(k₀≤i∧(s₀=false→(x3_1.2.2.contains ((aaa x3_1.1 x3_1.2.1 x3_1.2.2).getD i [])=false∧∀ j,j < k₀→(aak x3_1.1 ((aaa x3_1.1 x3_1.2.1 x3_1.2.2).getD j [])).contains ((aaa x3_1.1 x3_1.2.1 x3_1.2.2).getD i [])=false)))∧E v3∧E (sV x3_1.2.1)∧E v2∧E v1∧E (iN i)∧Q (bV (x3_1.2.2.contains ((aaa x3_1.1 x3_1.2.1 x3_1.2.2).getD i []))) (bV s₀)∧Q (iN 0) (iN k₀)∧True)∧∀ x:Nat×Bool,match x with | (k,s)=>(k≤i∧(s=false→(x3_1.2.2.contains ((aaa x3_1.1 x3_1.2.1 x3_1.2.2).getD i [])=false∧∀ j,j < k→(aak x3_1.1 ((aaa x3_1.1 x3_1.2.1 x3_1.2.2).getD j [])).contains ((aaa x3_1.1 x3_1.2.1 x3_1.2.2).getD i [])=false)))→Pk (ltB (k:Int) (i:Int)) ((ltB (k:Int) (i:Int))==true) true∧Br ((ltB (k:Int) (i:Int))&&(!s)) (Ex (k:Int) ((aaa x3_1.1 x3_1.2.1 x3_1.2.2).map sV) (sV ((aaa x3_1.1 x3_1.2.1 x3_1.2.2).getD k []))∧True∧(agP x3_1.1 ((aaa x3_1.1 x3_1.2.1 x3_1.2.2).getD k [])).sm∧((x3_1.1.length≤30)∧(∀ i,PgSz (x3_1.1.getD i pg0))∧(((aaa x3_1.1 x3_1.2.1 x3_1.2.2).getD k []).length≤1000000)∧(Asc ((aaa x3_1.1 x3_1.2.1 x3_1.2.2).getD k [])))∧Ex (i:Int) ((aaa x3_1.1 x3_1.2.1 x3_1.2.2).map sV) (sV ((aaa x3_1.1 x3_1.2.1 x3_1.2.2).getD i []))∧True∧(adi (aak x3_1.1 ((aaa x3_1.1 x3_1.2.1 x3_1.2.2).getD k [])) ((aaa x3_1.1 x3_1.2.1 x3_1.2.2).getD i [])).sm∧(((aak x3_1.1 ((aaa x3_1.1 x3_1.2.1 x3_1.2.2).getD k [])).length≤1000000))∧I64 ((k:Int)+1)∧∃ x:Nat×Bool,match x with | (k₂,s₂)=>(k₂≤i∧(s₂=false→(x3_1.2.2.contains ((aaa x3_1.1 x3_1.2.1 x3_1.2.2).getD i [])=false∧∀ j,j < k₂→(aak x3_1.1 ((aaa x3_1.1 x3_1.2.1 x3_1.2.2).getD j [])).contains ((aaa x3_1.1 x3_1.2.1 x3_1.2.2).getD i [])=false)))∧(i - k₂ < i - k)∧E v3∧E (sV x3_1.2.1)∧E v2∧E v1∧E (iN i)∧Q (bV ((aak x3_1.1 ((aaa x3_1.1 x3_1.2.1 x3_1.2.2).getD k [])).contains ((aaa x3_1.1 x3_1.2.1 x3_1.2.2).getD i []))) (bV s₂)∧Q (iN (k+1)) (iN k₂)∧True) (Br (!s) (Q (bV false) (bV true)) (I64 ((i:Int)+1)∧∃ i₂:Nat,(i₂≤(aaa x3_1.1 x3_1.2.1 x3_1.2.2).length)∧((aaa x3_1.1 x3_1.2.1 x3_1.2.2).length - i₂ < (aaa x3_1.1 x3_1.2.1 x3_1.2.2).length - i)∧E v3∧E (sV x3_1.2.1)∧E v2∧E v1∧Q (iN (i+1)) (iN i₂)∧True))) (Q (bV true) (bV true)))) (.sl false (x3_1.1.map pgV))) (.sl false (x3_1.2.2.map sV))) (.sl false ((aaa x3_1.1 x3_1.2.1 x3_1.2.2).map sV))))
  (by kernel_rfl) ?_
 refine ⟨fun hb1=>?_,fun hb1=>?_⟩
 try simp only [nb] at hb1
 unfold Q
 rfl
 try simp only [nb] at hb1
 refine ⟨rfl,by omega,?_⟩
 intro x3_1 hx3_1
 refine ⟨rfl,⟨by omega,fun i=>abX hx3_1.2.2.1 i,by omega,fun x hx=>⟨by have:=(hx3_1.2.2.2.2.2.2 x hx).1; omega,(hx3_1.2.2.2.2.2.2 x hx).2⟩,by omega⟩,rfl,⟨by omega,fun i=>by have:=abX hx3_1.2.2.1 i; exact ⟨by have:=this.a; omega,by have:=this.t; omega,by have:=this.l; omega⟩,by omega,fun x hx=>by have:=(hx3_1.2.2.2.2.2.2 x hx).1; omega,by omega⟩,rfl,⟨by have:= @aaJ x3_1.1 x3_1.2.1 x3_1.2.2; omega,by have:= @aaJ x3_1.1 x3_1.2.1 x3_1.2.2; omega⟩,?_⟩
 refine ⟨fun hb2=>?_,fun hb2=>?_⟩
 try simp only [nb] at hb2
 exact absurd hb2 (by simp)
 try simp only [nb] at hb2
 refine ⟨⟨0,?_,rfl,rfl,rfl,rfl,rfl,trivial⟩,?_⟩
 simp
 rintro i h1
 have hml:= @aaJ x3_1.1 x3_1.2.1 x3_1.2.2
 refine ⟨fun hb3=>?_,fun hb3=>?_⟩
 try simp only [nb] at hb3
 have hmk:=fun {j:Nat} (hj:j < (aaa x3_1.1 x3_1.2.1 x3_1.2.2).length)=>anv (acV (aeB hj)).1 (fun i=>abX hx3_1.2.2.1 i) (fun x hx=>⟨by have:=(hx3_1.2.2.2.2.2.2 x hx).1; omega,(hx3_1.2.2.2.2.2.2 x hx).2⟩) (aeB hj)
 refine ⟨⟨by omega,aaf (d:=[]) (by omega)⟩,trivial,rfl,by omega,?_⟩
 refine ⟨⟨(0,x3_1.2.2.contains ((aaa x3_1.1 x3_1.2.1 x3_1.2.2).getD i [])),?_,rfl,rfl,rfl,rfl,rfl,rfl,rfl,trivial⟩,?_⟩
 exact ⟨by omega,fun h=>⟨h,fun j hj=>by omega⟩⟩
 rintro ⟨k,s⟩ ⟨h2,h3⟩
 refine ⟨⟨fun h=>by first | (solve | rw [h]) | (rw [h]; rfl),fun _=>rfl⟩,?_⟩
 refine ⟨fun hb4=>?_,fun hb4=>?_⟩
 try simp only [nb] at hb4
 refine ⟨⟨by omega,aaf (d:=[]) (by omega)⟩,trivial,rfl,⟨by omega,fun i=>abX hx3_1.2.2.1 i,by have:=(hmk (show k < (aaa x3_1.1 x3_1.2.1 x3_1.2.2).length by omega)).1; omega,(hmk (show k < (aaa x3_1.1 x3_1.2.1 x3_1.2.2).length by omega)).2⟩,⟨by omega,aaf (d:=[]) (by omega)⟩,trivial,rfl,by have:=ags x3_1.1 ((aaa x3_1.1 x3_1.2.1 x3_1.2.2).getD k []); omega,by omega,?_⟩
 refine ⟨(k+1,(aak x3_1.1 ((aaa x3_1.1 x3_1.2.1 x3_1.2.2).getD k [])).contains ((aaa x3_1.1 x3_1.2.1 x3_1.2.2).getD i [])),?_,?_,rfl,rfl,rfl,rfl,rfl,rfl,rfl,trivial⟩
 exact ⟨by omega,fun h=>⟨(h3 hb4.2).1,abj (h3 hb4.2).2 h⟩⟩
 first | (solve | simp) | omega | (simp; omega)
 try simp only [nb] at hb4
 refine ⟨fun hb5=>?_,fun hb5=>?_⟩
 try simp only [nb] at hb5
 obtain ⟨hs1,hs2⟩:=h3 hb5
 have hk0: ¬ k < i:=fun c=>by rw [hb4 (by omega)] at hb5; cases hb5
 have hki:k=i:=by omega
 rcases atI x3_1.1 x3_1.2.1 x3_1.2.2 i (by omega) with h | ⟨j,hj,h⟩
 rw [List.contains_iff_mem.2 h] at hs1; cases hs1
 have:=hs2 j (by omega); rw [List.contains_iff_mem.2 h] at this; cases this
 try simp only [nb] at hb5
 refine ⟨by omega,?_⟩
 refine ⟨i+1,?_,?_,rfl,rfl,rfl,rfl,rfl,trivial⟩
 omega
 first | (solve | simp) | omega | (simp; omega)
 try simp only [nb] at hb3
 unfold Q
 rfl
end Go.Proofs.YtencelmnogiamaaGreatDoor
namespace Go.Proofs.YtencelmnogiamaaGreatDoor
open Go Go.ChangeShapes Go.WideShapes Go.ChangeAt Go.RowKit Go.Abs
theorem own:ownKnob Tryz.prog.godebug=none:=by kernel_rfl
theorem laidOut:laidOutB Tryz.prog=true:=by kernel_rfl
set_option maxRecDepth 100000 in
theorem fnReachLeast_lifted (os:Os) (started:os.Started) (H:Type) (enc:TypeId×Value→H):
 ReturnsInHanded {} Tryz.checked os 5 .any (fun w args=>(Rows.fnReachLeastSpec.pre enc Tryz.prog Tryz.f5 [] false w args∧laidMetH Tryz.prog Rows.fnReachLeastRow.laid w)∧sizedMet enc Tryz.prog Tryz.f5 (OpenSpec.ofChange Rows.fnReachLeastSpec) false w args)
  (Rows.fnReachLeastSpec.post enc Tryz.prog Tryz.f5 false true false false):=by
 refine returnsInHanded_of_change_and (C:=Tryz.checked) (X:=fun w _=>laidMetH Tryz.prog Rows.fnReachLeastRow.laid w) (fun _ _ _ hh h=>h.of_heap hh) own started (by kernel_rfl) Tryz.func5
  (ChangeSpec.witness_shaped (enc:=enc) (C:=Tryz.checked) (os:=os) (X:=fun w _=>laidMetH Tryz.prog Rows.fnReachLeastRow.laid w) false (World.laidAll Tryz.prog os Rows.fnReachLeastRow.laid) #[.slice none 0 0] 8 (World.laidAll_os _ _ _)
   (World.shaped_of_ZipB (by kernel_rfl) (by kernel_rfl)) (by kernel_rfl) (by kernel_rfl) (by kernel_rfl)
   (by rw [MakeChecks.laidMetH_plain _ _ _ (by kernel_rfl)]; exact laidMet_laidAll _ (by kernel_rfl) (by kernel_rfl))) ?_
 intro W base args ds gs before hval0 hW _ _ _ _
 have hval:∀ (j:Nat) t v,Tryz.f5.params[j]? =some t→args[j]? =some v→Value.okWide Tryz.prog W .any base t v:=hval0
 have hW':=hW
 obtain ⟨p,q,hA0,hV,rfl,hfz,hnd⟩:=hW
 have hA:DataW.TrodAll enc Tryz.prog W 0 (fun _=>true) true Tryz.f5.params.toList args.toList ds p:=hA0
 rw [Tryz.params5] at hA hval
 obtain ⟨v0,d0,rfl,rfl,h0⟩:=trodAll_one hA
 obtain ⟨rfl,rfl⟩:=trodVars_none hV
 obtain ⟨a0,len0,cap0,rfl⟩:=okWide_slice Tryz.underlying34 (hval 0 34 v0 rfl rfl)
 have lt0:∀ x∈p,x.block < W.heap.size:=by obtain ⟨m,hm⟩:=h0; exact DataW.trod_lt m _ _ _ hm
 obtain ⟨b,rfl,hb,hv⟩:=afr Tryz.underlying34 Tryz.underlying5 (by kernel_rfl) h0
 clear hA0 hval0
 refine (ajj aou hb hv).mono fun e W' ⟨he,bel⟩=>?_
 subst he
 exact ⟨_,rfl,_,_,_,[],p,[],hW',trodAll_mk1 (shut_bool Tryz.underlying4 _),trodAll_mk1 (Below.trod laidOut (by kernel_rfl) (of_decide_eq_true (by kernel_rfl)) h0 bel lt0),rfl,bel.frame _,fun h=>by cases h⟩
theorem fnReachLeast_row:Rows.FnReachLeastSaid:=
 OpenClaim.holds_of_wide 5 Tryz.f5 rfl rfl rfl rfl rfl rfl rfl ⟨rfl,rfl,rfl,rfl,rfl⟩ rfl rfl rfl rfl rfl (by kernel_rfl) Tryz.func5 (by kernel_rfl)
  (of_decide_eq_true (by kernel_rfl)) (by unfold Func.isWrapper; first | (rw [if_pos (by decide +kernel)]; kernel_rfl) | (rw [if_neg (by decide +kernel)]; exact ⟨rfl,rfl⟩))
  (fun os started H enc _=>fnReachLeast_lifted os started H enc)
theorem fnReachLeast_holds:Rows.FnReachLeastCardSaid:=
 Claim7.holds_tied_plain_at .later [] [.data,.pinned] true (true, "4a974c8493bd74bb2fbd3ad2fdecf81a6a6d593d7ff1e24642cadbe5817ecccf") true fnReachLeast_row (fun _ h=>by cases h) (by kernel_rfl) (fun _ h=>by cases h) fnReachLeast_row_tie rfl ⟨rfl,rfl⟩ (by kernel_rfl) rfl
  (fun f fn hf hfn=>by
   obtain rfl:f=5:=Option.some.inj ((show Tryz.prog.funcNamed "loop.example/pedlar/laws.FnReachLeast" =some 5 by kernel_rfl).symm.trans hf) |>.symm
   obtain rfl:fn=Tryz.f5:=(Option.some.inj (Tryz.func5.symm.trans hfn)).symm
   exact ⟨by kernel_rfl,fun j t ht=>by
    rw [Tryz.params5] at ht
    have hm:t∈[34]:=by simpa using Array.mem_of_getElem? ht
    have hall:([34].all fun u=>!Tryz.prog.wantsStandIn u)=true:=by kernel_rfl
    exact (show Tryz.prog.wantsStandIn t=false by simpa using List.all_eq_true.1 hall t hm)⟩)
  (by kernel_rfl)
end Go.Proofs.YtencelmnogiamaaGreatDoor
