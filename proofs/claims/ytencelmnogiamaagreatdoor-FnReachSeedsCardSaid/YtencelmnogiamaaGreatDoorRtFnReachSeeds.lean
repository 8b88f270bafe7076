/-
  laws.FnReachSeeds returns true for every input and leaves it as it was; conditions: the listed tables lie as the program's text lays them.
-/
import Derived.Test.YtencelmnogiamaaGreatDoorRtF
import Derived.Test.YtencelmnogiamaaGreatDoorTie
import Derived.Test.YtencelmnogiamaaGreatDoorCards
set_option linter.unusedVariables false
set_option linter.unusedSimpArgs false
namespace Go.Pd
open Go.Abs
end Go.Pd
namespace Go.Proofs.YtencelmnogiamaaGreatDoor
open Go Go.Abs Go.RowKit Go.Pd
set_option maxRecDepth 20000
theorem aeB {l:List (List UInt8)} {i:Nat} (h:i < l.length):l.getD i []∈l:=by
 rw [List.getD_eq_getElem?_getD,List.getElem?_eq_getElem h]; exact List.getElem_mem h
theorem akh {w:List Pg} (h:aai w=true) (d:List UInt8) (n:Int):adJ w d n=aal w d n:=if_pos h
theorem aAl {w:List Pg} {n s:List UInt8} {seeds:List (List UInt8)} (hl:seeds.length≤12) (hw:aai w=true) (hn:aaD n=true) (hm:s∈seeds) (h1:(aaj s).isSome=true) (h2:aaz (oA (aaj s))=s):
 (aaa w n seeds).contains s=(aaB w n s&&neB (adJ w s 2).1 3):=by
 have ha:aaA s=true:=by unfold aaA; rw [h1,h2]; simp
 have h:=anW hw hn hl hm ha
 rw [Bool.eq_iff_iff,List.contains_iff_mem,h,akh hw]
 unfold rOk
 cases aaB w n s <;> simp
theorem aoa (b:List UInt8) (hb:b.length≤9223372036854775807):PF Tryz.prog 7 [.sl false (b.map u8V)] [] (fun r h=>r=(bV true)∧h=[]):=by
 refine aag (N:=101) (rs:=[.tmp 2]) Tryz.func7 (by kernel_rfl) rfl rfl rfl (by kernel_rfl)
  (.r 1 [] <| .r 3 [] <| .br (.r 1 [] <| .nil) (.r 1 [] <| .cx (aaU b) [] (fun (x3_1:List Pg×List UInt8×List (List UInt8))=>.r 7 [] <| .r 3 [] <| .c (aaP x3_1.1 x3_1.2.1 x3_1.2.2) [] <| .r 1 [] <| .r 4 [] <| .c (abl x3_1.1 x3_1.2.1 x3_1.2.2) [] <| .c (abE (aaa x3_1.1 x3_1.2.1 x3_1.2.2) (aaa x3_1.1 x3_1.2.1 x3_1.2.2)) [] <| .r 3 [] <| .cg (acJ x3_1.1) <| .r 2 [] <| .br (.r 4 [] <| .c (abl x3_1.1 x3_1.2.1 x3_1.2.2) [] <| .c (abE (aaa x3_1.1 x3_1.2.1 x3_1.2.2) (aaa x3_1.1 x3_1.2.1 x3_1.2.2)) [] <| .r 1 [] <| .nil) (.r 1 [] <| .loop (Nat) (fun (i:Nat)=>⟨[(3,.sl false (x3_1.1.map pgV)),(4,sV x3_1.2.1),(5,.sl false (x3_1.2.2.map sV)),(6,.sl false ((aaa x3_1.1 x3_1.2.1 x3_1.2.2).map sV)),(7,iN i)],[]⟩) (fun (i:Nat)=>i≤x3_1.2.2.length) (fun (i:Nat)=>x3_1.2.2.length - i) (fun (i:Nat)=>.r 4 [] <| .br (.r 4 [sV (x3_1.2.2.getD i [])] <| .c (ady (x3_1.2.2.getD i [])) [] <| .r 3 [] <| .al abv (fun g8=>.st none <| .r 1 [] <| .r 5 [sV (x3_1.2.2.getD i [])] <| .c (afs x3_1.1 (x3_1.2.2.getD i []) (2:Int)) [] <| .r 5 [] <| .d 30 <| .r 3 [.dead] <| .cg (ahQ (oA (aaj (x3_1.2.2.getD i [])))) <| .r 12 [sV (x3_1.2.2.getD i []),sV (x3_1.2.2.getD i [])] <| .cg (adi (aaa x3_1.1 x3_1.2.1 x3_1.2.2) (x3_1.2.2.getD i [])) <| .r 6 [sV (x3_1.2.2.getD i [])] <| .cg (ael x3_1.1 x3_1.2.1 (x3_1.2.2.getD i [])) <| .r 6 [] <| .br (.r 1 [] <| .nil) (.r 3 [] <| .nil))) (.r 2 [] <| .c (aaP x3_1.1 x3_1.2.1 ([]:List (List UInt8))) [] <| .r 3 [] <| .nil))))))
  (Br (gtB (((b.map u8V).length:Nat):Int) 1048576) (Q (bV true) (bV true)) ((aaU b).sm∧((b.length≤9223372036854775807))∧∀ x3_1:List Pg×List UInt8×List (List UInt8),(1≤x3_1.1.length∧x3_1.1.length≤30∧(∀ y,y∈x3_1.1→PgSz y)∧x3_1.2.1.length≤5∧aaD x3_1.2.1=true∧x3_1.2.2.length≤4∧(∀ y,y∈x3_1.2.2→y.length≤30∧Asc y))→(fun v1:Bool=>(fun v2:V=>(aaP x3_1.1 x3_1.2.1 x3_1.2.2).sm∧((x3_1.1.length≤30)∧(∀ i,PgSz (x3_1.1.getD i pg0))∧(x3_1.2.1.length≤1000000)∧(∀ x,x∈x3_1.2.2→x.length≤1000∧Asc x)∧(x3_1.2.2.length≤1000000))∧(abl x3_1.1 x3_1.2.1 x3_1.2.2).sm∧((x3_1.1.length≤1000)∧(∀ i,(x3_1.1.getD i pg0).addr.length≤1000000∧(x3_1.1.getD i pg0).text.length≤1000000∧(x3_1.1.getD i pg0).lead.length≤1000000)∧(x3_1.2.1.length≤1000000)∧(∀ x,x∈x3_1.2.2→x.length≤1000000)∧(x3_1.2.2.length≤1000000))∧(abE (aaa x3_1.1 x3_1.2.1 x3_1.2.2) (aaa x3_1.1 x3_1.2.1 x3_1.2.2)).sm∧(((aaa x3_1.1 x3_1.2.1 x3_1.2.2).length≤1000000)∧((aaa x3_1.1 x3_1.2.1 x3_1.2.2).length≤1000000))∧Gd (v1==false) (((x3_1.1.length≤1000)∧(∀ i,(x3_1.1.getD i pg0).addr.length≤1000000∧(x3_1.1.getD i pg0).lead.length≤1000000))∧(acJ x3_1.1).sm)∧Pk v1 true (v1==false)∧Br (v1||(!(aai x3_1.1))) ((abl x3_1.1 x3_1.2.1 x3_1.2.2).sm∧((x3_1.1.length≤1000)∧(∀ i,(x3_1.1.getD i pg0).addr.length≤1000000∧(x3_1.1.getD i pg0).text.length≤1000000∧(x3_1.1.getD i pg0).lead.length≤1000000)∧(x3_1.2.1.length≤1000000)∧(∀ x,x∈x3_1.2.2→x.length≤1000000)∧(x3_1.2.2.length≤1000000))∧(abE (aaa x3_1.1 x3_1.2.1 x3_1.2.2) (aaa x3_1.1 x3_1.2.1 x3_1.2.2)).sm∧(((aaa x3_1.1 x3_1.2.1 x3_1.2.2).length≤1000000)∧((aaa x3_1.1 x3_1.2.1 x3_1.2.2).length≤1000000))∧Q (bV ((aaa x3_1.1 x3_1.2.1 x3_1.2.2)==(aaa x3_1.1 x3_1.2.1 x3_1.2.2))) (bV true)) ((∃ i₀:Nat,(i₀≤x3_1.2.2.length)∧E (.sl false (x3_1.1.map pgV))∧E (sV x3_1.2.1)∧E (.sl false (x3_1.2.2.map sV))∧E v2∧Q (iN 0) (iN i₀)∧True)∧∀ i:Nat,(i≤x3_1.2.2.length)→Br (ltB (i:Int) (((x3_1.2.2.map sV).length:Nat):Int)) (Ex (i:Int) (x3_1.2.2.map sV) (sV (x3_1.2.2.getD i []))∧True∧(ady (x3_1.2.2.getD i [])).sm∧(((x3_1.2.2.getD i []).length≤1000000)∧(Asc (x3_1.2.2.getD i [])))∧∀ g8:Nat,Z g8 0∧Ex (i:Int) (x3_1.2.2.map sV) (sV (x3_1.2.2.getD i []))∧True∧(afs x3_1.1 (x3_1.2.2.getD i []) (2:Int)).sm∧((x3_1.1.length≤30)∧(∀ i,PgSz (x3_1.1.getD i pg0))∧(0≤(2:Int))∧((2:Int)≤1000))∧Gd (((aaj (x3_1.2.2.getD i [])).isSome)==true) (Z g8 0)∧Gd (((aaj (x3_1.2.2.getD i [])).isSome)==true) (((aaR (oA (aaj (x3_1.2.2.getD i [])))))∧(ahQ (oA (aaj (x3_1.2.2.getD i [])))).sm)∧Gd (((aaj (x3_1.2.2.getD i [])).isSome)==true) (Ex (i:Int) (x3_1.2.2.map sV) (sV (x3_1.2.2.getD i [])))∧Gd (((aaj (x3_1.2.2.getD i [])).isSome)==true) True∧Pk ((aaj (x3_1.2.2.getD i [])).isSome) (((aaj (x3_1.2.2.getD i [])).isSome)==true) true∧Gd ((((aaj (x3_1.2.2.getD i [])).isSome)&&((aaz (oA (aaj (x3_1.2.2.getD i []))))==(x3_1.2.2.getD i [])))==true) (Ex (i:Int) (x3_1.2.2.map sV) (sV (x3_1.2.2.getD i [])))∧Gd ((((aaj (x3_1.2.2.getD i [])).isSome)&&((aaz (oA (aaj (x3_1.2.2.getD i []))))==(x3_1.2.2.getD i [])))==true) True∧Gd ((((aaj (x3_1.2.2.getD i [])).isSome)&&((aaz (oA (aaj (x3_1.2.2.getD i []))))==(x3_1.2.2.getD i [])))==true) ((((aaa x3_1.1 x3_1.2.1 x3_1.2.2).length≤1000000))∧(adi (aaa x3_1.1 x3_1.2.1 x3_1.2.2) (x3_1.2.2.getD i [])).sm)∧Gd ((((aaj (x3_1.2.2.getD i [])).isSome)&&((aaz (oA (aaj (x3_1.2.2.getD i []))))==(x3_1.2.2.getD i [])))==true) (Ex (i:Int) (x3_1.2.2.map sV) (sV (x3_1.2.2.getD i [])))∧Gd ((((aaj (x3_1.2.2.getD i [])).isSome)&&((aaz (oA (aaj (x3_1.2.2.getD i []))))==(x3_1.2.2.getD i [])))==true) True∧Gd ((((aaj (x3_1.2.2.getD i [])).isSome)&&((aaz (oA (aaj (x3_1.2.2.getD i []))))==(x3_1.2.2.getD i [])))==true) (((x3_1.1.length≤30)∧(∀ i,PgSz (x3_1.1.getD i pg0))∧(x3_1.2.1.length≤1000000)∧((x3_1.2.2.getD i []).length≤1000000)∧(Asc (x3_1.2.2.getD i [])))∧(ael x3_1.1 x3_1.2.1 (x3_1.2.2.getD i [])).sm)∧Gd ((((aaj (x3_1.2.2.getD i [])).isSome)&&((aaz (oA (aaj (x3_1.2.2.getD i []))))==(x3_1.2.2.getD i [])))==true) (Pk (aaB x3_1.1 x3_1.2.1 (x3_1.2.2.getD i [])) (((((aaj (x3_1.2.2.getD i [])).isSome)&&((aaz (oA (aaj (x3_1.2.2.getD i []))))==(x3_1.2.2.getD i [])))==true)&&((aaB x3_1.1 x3_1.2.1 (x3_1.2.2.getD i []))==true)) true)∧Pk (((aaj (x3_1.2.2.getD i [])).isSome)&&((aaz (oA (aaj (x3_1.2.2.getD i []))))==(x3_1.2.2.getD i []))) ((((aaj (x3_1.2.2.getD i [])).isSome)&&((aaz (oA (aaj (x3_1.2.2.getD i []))))==(x3_1.2.2.getD i [])))==true) true∧Br ((((aaj (x3_1.2.2.getD i [])).isSome)&&((aaz (oA (aaj (x3_1.2.2.getD i []))))==(x3_1.2.2.getD i [])))&&(!(((aaa x3_1.1 x3_1.2.1 x3_1.2.2).contains (x3_1.2.2.getD i []))==((aaB x3_1.1 x3_1.2.1 (x3_1.2.2.getD i []))&&(neB ((adJ x3_1.1 (x3_1.2.2.getD i []) (2:Int)).1) 3))))) (Q (bV false) (bV true)) (I64 ((i:Int)+1)∧∃ i₂:Nat,(i₂≤x3_1.2.2.length)∧(x3_1.2.2.length - i₂ < x3_1.2.2.length - i)∧E (.sl false (x3_1.1.map pgV))∧E (sV x3_1.2.1)∧E (.sl false (x3_1.2.2.map sV))∧E v2∧Q (iN (i+1)) (iN i₂)∧True)) ((aaP x3_1.1 x3_1.2.1 ([]:List (List UInt8))).sm∧((x3_1.1.length≤30)∧(∀ i,PgSz (x3_1.1.getD i pg0))∧(x3_1.2.1.length≤1000000)∧(∀ x,x∈([]:List (List UInt8))→x.length≤1000∧Asc x)∧(([]:List (List UInt8)).length≤1000000))∧Q (bV (eqB ((((aaa x3_1.1 x3_1.2.1 ([]:List (List UInt8))).map sV).length:Nat):Int) 0)) (bV true)))) (.sl false ((aaa x3_1.1 x3_1.2.1 x3_1.2.2).map sV))) (!((aaa x3_1.1 x3_1.2.1 x3_1.2.2)==(aaa x3_1.1 x3_1.2.1 x3_1.2.2)))))
  (by kernel_rfl) ?_
 refine ⟨fun hb1=>?_,fun hb1=>?_⟩
 try simp only [nb] at hb1
 unfold Q
 rfl
 try simp only [nb] at hb1
 refine ⟨rfl,by omega,?_⟩
 intro x3_1 hx3_1
 refine ⟨rfl,⟨by omega,fun i=>abX hx3_1.2.2.1 i,by omega,fun x hx=>⟨by have:=(hx3_1.2.2.2.2.2.2 x hx).1; omega,(hx3_1.2.2.2.2.2.2 x hx).2⟩,by omega⟩,rfl,⟨by omega,fun i=>by have:=abX hx3_1.2.2.1 i; exact ⟨by have:=this.a; omega,by have:=this.t; omega,by have:=this.l; omega⟩,by omega,fun x hx=>by have:=(hx3_1.2.2.2.2.2.2 x hx).1; omega,by omega⟩,rfl,⟨by have:= @aaJ x3_1.1 x3_1.2.1 x3_1.2.2; omega,by have:= @aaJ x3_1.1 x3_1.2.1 x3_1.2.2; omega⟩,fun hG=>⟨⟨by (try simp only [nb] at hG); omega,fun i=>by have:=abX hx3_1.2.2.1 i; exact ⟨by have:=this.a; omega,by have:=this.l; omega⟩⟩,rfl⟩,⟨fun _=>rfl,fun h=>by first | (solve | rw [h]) | (rw [h]; rfl)⟩,?_⟩
 refine ⟨fun hb2=>?_,fun hb2=>?_⟩
 try simp only [nb] at hb2
 refine ⟨rfl,⟨by omega,fun i=>by have:=abX hx3_1.2.2.1 i; exact ⟨by have:=this.a; omega,by have:=this.t; omega,by have:=this.l; omega⟩,by omega,fun x hx=>by have:=(hx3_1.2.2.2.2.2.2 x hx).1; omega,by omega⟩,rfl,⟨by have:= @aaJ x3_1.1 x3_1.2.1 x3_1.2.2; omega,by have:= @aaJ x3_1.1 x3_1.2.1 x3_1.2.2; omega⟩,?_⟩
 unfold Q
 simp
 try simp only [nb] at hb2
 refine ⟨⟨0,?_,rfl,rfl,rfl,rfl,rfl,trivial⟩,?_⟩
 simp
 rintro i h1
 have hml:= @aaJ x3_1.1 x3_1.2.1 x3_1.2.2
 refine ⟨fun hb3=>?_,fun hb3=>?_⟩
 try simp only [nb] at hb3
 have hsm:=aeB (show i < x3_1.2.2.length by omega)
 have hsp:=hx3_1.2.2.2.2.2.2 _ hsm
 refine ⟨⟨by omega,aaf (d:=[]) (by omega)⟩,trivial,rfl,⟨by have:=hsp.1; omega,hsp.2⟩,?_⟩
 intro g8
 refine ⟨rfl,⟨by omega,aaf (d:=[]) (by omega)⟩,trivial,rfl,⟨by omega,fun i=>abX hx3_1.2.2.1 i,by omega,by omega⟩,fun hG=>rfl,fun hG=>⟨by (try simp only [nb] at hG); exact ahZ _,rfl⟩,fun hG=>⟨by omega,aaf (d:=[]) (by omega)⟩,fun hG=>trivial,⟨fun h=>by first | (solve | rw [h]) | (rw [h]; rfl),fun _=>rfl⟩,fun hG=>⟨by omega,aaf (d:=[]) (by omega)⟩,fun hG=>trivial,fun hG=>⟨by (try simp only [nb] at hG); omega,rfl⟩,fun hG=>⟨by omega,aaf (d:=[]) (by omega)⟩,fun hG=>trivial,fun hG=>⟨⟨by (try simp only [nb] at hG); omega,fun i=>abX hx3_1.2.2.1 i,by (try simp only [nb] at hG); omega,by (try simp only [nb] at hG); have:=hsp.1; omega,hsp.2⟩,rfl⟩,fun hG=>⟨fun h=>by rw [h]; exact (Bool.and_eq_true _ _).mpr ⟨hG,rfl⟩,fun _=>rfl⟩,⟨fun h=>by first | (solve | rw [h]) | (rw [h]; rfl),fun _=>rfl⟩,?_⟩
 refine ⟨fun hb4=>?_,fun hb4=>?_⟩
 try simp only [nb] at hb4
 exact absurd hb4.2 (by rw [aAl (by omega) hb2.2 hx3_1.2.2.2.2.1 hsm hb4.1.1 hb4.1.2]; simp)
 try simp only [nb] at hb4
 refine ⟨by omega,?_⟩
 refine ⟨i+1,?_,?_,rfl,rfl,rfl,rfl,rfl,trivial⟩
 omega
 first | (solve | simp) | omega | (simp; omega)
 try simp only [nb] at hb3
 refine ⟨rfl,⟨by omega,fun i=>abX hx3_1.2.2.1 i,by omega,by simp,by simp⟩,?_⟩
 unfold Q
 rw [axG]; rfl
end Go.Proofs.YtencelmnogiamaaGreatDoor
namespace Go.Proofs.YtencelmnogiamaaGreatDoor
open Go Go.ChangeShapes Go.WideShapes Go.ChangeAt Go.RowKit Go.Abs
theorem own:ownKnob Tryz.prog.godebug=none:=by kernel_rfl
theorem laidOut:laidOutB Tryz.prog=true:=by kernel_rfl
set_option maxRecDepth 100000 in
theorem fnReachSeeds_lifted (os:Os) (started:os.Started) (H:Type) (enc:TypeId×Value→H):
 ReturnsInHanded {} Tryz.checked os 7 .any (fun w args=>(Rows.fnReachSeedsSpec.pre enc Tryz.prog Tryz.f7 [] false w args∧laidMetH Tryz.prog Rows.fnReachSeedsRow.laid w)∧sizedMet enc Tryz.prog Tryz.f7 (OpenSpec.ofChange Rows.fnReachSeedsSpec) false w args)
  (Rows.fnReachSeedsSpec.post enc Tryz.prog Tryz.f7 false true false false):=by
 refine returnsInHanded_of_change_and (C:=Tryz.checked) (X:=fun w _=>laidMetH Tryz.prog Rows.fnReachSeedsRow.laid w) (fun _ _ _ hh h=>h.of_heap hh) own started (by kernel_rfl) Tryz.func7
  (ChangeSpec.witness_shaped (enc:=enc) (C:=Tryz.checked) (os:=os) (X:=fun w _=>laidMetH Tryz.prog Rows.fnReachSeedsRow.laid w) false (World.laidAll Tryz.prog os Rows.fnReachSeedsRow.laid) #[.slice none 0 0] 8 (World.laidAll_os _ _ _)
   (World.shaped_of_ZipB (by kernel_rfl) (by kernel_rfl)) (by kernel_rfl) (by kernel_rfl) (by kernel_rfl)
   (by rw [MakeChecks.laidMetH_plain _ _ _ (by kernel_rfl)]; exact laidMet_laidAll _ (by kernel_rfl) (by kernel_rfl))) ?_
 intro W base args ds gs before hval0 hW _ _ _ _
 have hval:∀ (j:Nat) t v,Tryz.f7.params[j]? =some t→args[j]? =some v→Value.okWide Tryz.prog W .any base t v:=hval0
 have hW':=hW
 obtain ⟨p,q,hA0,hV,rfl,hfz,hnd⟩:=hW
 have hA:DataW.TrodAll enc Tryz.prog W 0 (fun _=>true) true Tryz.f7.params.toList args.toList ds p:=hA0
 rw [Tryz.params7] at hA hval
 obtain ⟨v0,d0,rfl,rfl,h0⟩:=trodAll_one hA
 obtain ⟨rfl,rfl⟩:=trodVars_none hV
 obtain ⟨a0,len0,cap0,rfl⟩:=okWide_slice Tryz.underlying34 (hval 0 34 v0 rfl rfl)
 have lt0:∀ x∈p,x.block < W.heap.size:=by obtain ⟨m,hm⟩:=h0; exact DataW.trod_lt m _ _ _ hm
 obtain ⟨b,rfl,hb,hv⟩:=afr Tryz.underlying34 Tryz.underlying5 (by kernel_rfl) h0
 clear hA0 hval0
 refine (ajj aoa hb hv).mono fun e W' ⟨he,bel⟩=>?_
 subst he
 exact ⟨_,rfl,_,_,_,[],p,[],hW',trodAll_mk1 (shut_bool Tryz.underlying4 _),trodAll_mk1 (Below.trod laidOut (by kernel_rfl) (of_decide_eq_true (by kernel_rfl)) h0 bel lt0),rfl,bel.frame _,fun h=>by cases h⟩
theorem fnReachSeeds_row:Rows.FnReachSeedsSaid:=
 OpenClaim.holds_of_wide 7 Tryz.f7 rfl rfl rfl rfl rfl rfl rfl ⟨rfl,rfl,rfl,rfl,rfl⟩ rfl rfl rfl rfl rfl (by kernel_rfl) Tryz.func7 (by kernel_rfl)
  (of_decide_eq_true (by kernel_rfl)) (by unfold Func.isWrapper; first | (rw [if_pos (by decide +kernel)]; kernel_rfl) | (rw [if_neg (by decide +kernel)]; exact ⟨rfl,rfl⟩))
  (fun os started H enc _=>fnReachSeeds_lifted os started H enc)
theorem fnReachSeeds_holds:Rows.FnReachSeedsCardSaid:=
 Claim7.holds_tied_plain_at .later [] [.data,.pinned] true (true, "4a974c8493bd74bb2fbd3ad2fdecf81a6a6d593d7ff1e24642cadbe5817ecccf") true fnReachSeeds_row (fun _ h=>by cases h) (by kernel_rfl) (fun _ h=>by cases h) fnReachSeeds_row_tie rfl ⟨rfl,rfl⟩ (by kernel_rfl) rfl
  (fun f fn hf hfn=>by
   obtain rfl:f=7:=Option.some.inj ((show Tryz.prog.funcNamed "loop.example/pedlar/laws.FnReachSeeds" =some 7 by kernel_rfl).symm.trans hf) |>.symm
   obtain rfl:fn=Tryz.f7:=(Option.some.inj (Tryz.func7.symm.trans hfn)).symm
   exact ⟨by kernel_rfl,fun j t ht=>by
    rw [Tryz.params7] at ht
    have hm:t∈[34]:=by simpa using Array.mem_of_getElem? ht
    have hall:([34].all fun u=>!Tryz.prog.wantsStandIn u)=true:=by kernel_rfl
    exact (show Tryz.prog.wantsStandIn t=false by simpa using List.all_eq_true.1 hall t hm)⟩)
  (by kernel_rfl)
end Go.Proofs.YtencelmnogiamaaGreatDoor
