/-
  laws.FnReachOn returns true for every input and leaves it as it was; conditions: the listed tables lie as the program's text lays them.
-/
import Derived.Test.YtencelmnogiamaaGreatDoorRtF
import Derived.Test.YtencelmnogiamaaGreatDoorTie
import Derived.Test.YtencelmnogiamaaGreatDoorCards
set_option linter.unusedVariables false
set_option linter.unusedSimpArgs false
namespace Go.Pd
open Go.Abs
end Go.Pd
namespace Go.Proofs.YtencelmnogiamaaGreatDoor
open Go Go.Abs Go.RowKit Go.Pd
set_option maxRecDepth 20000
theorem aeB {l:List (List UInt8)} {i:Nat} (h:i < l.length):l.getD i []∈l:=by
 rw [List.getD_eq_getElem?_getD,List.getElem?_eq_getElem h]; exact List.getElem_mem h
theorem akh {w:List Pg} (h:aai w=true) (d:List UInt8) (n:Int):adJ w d n=aal w d n:=if_pos h
theorem aDI {w:List Pg} {n a:List UInt8} (hw:aai w=true) (h1:aaB w n a=true) (h2: ¬ (adJ w a 2).1=3):rOk w n a:=by
 rw [akh hw] at h2
 unfold rOk
 rintro (c | c)
 exact h2 c
 rw [h1] at c; cases c
theorem asR (b:List UInt8) (hb:b.length≤9223372036854775807):PF Tryz.prog 8 [.sl false (b.map u8V)] [] (fun r h=>r=(bV true)∧h=[]):=by
 refine aag (N:=79) (rs:=[.tmp 2]) Tryz.func8 (by kernel_rfl) rfl rfl rfl (by kernel_rfl)
  (.r 1 [] <| .r 3 [] <| .br (.r 1 [] <| .nil) (.r 1 [] <| .cx (aaU b) [] (fun (x3_1:List Pg×List UInt8×List (List UInt8))=>.r 7 [] <| .r 3 [] <| .c (aaP x3_1.1 x3_1.2.1 x3_1.2.2) [] <| .r 1 [] <| .r 4 [] <| .c (abl x3_1.1 x3_1.2.1 x3_1.2.2) [] <| .c (abE (aaa x3_1.1 x3_1.2.1 x3_1.2.2) (aaa x3_1.1 x3_1.2.1 x3_1.2.2)) [] <| .r 1 [] <| .br (.r 1 [] <| .nil) (.r 1 [] <| .loop (Nat) (fun (i:Nat)=>⟨[(3,.sl false (x3_1.1.map pgV)),(4,sV x3_1.2.1),(6,.sl false ((aaa x3_1.1 x3_1.2.1 x3_1.2.2).map sV)),(7,iN i)],[]⟩) (fun (i:Nat)=>i≤(aaa x3_1.1 x3_1.2.1 x3_1.2.2).length) (fun (i:Nat)=>(aaa x3_1.1 x3_1.2.1 x3_1.2.2).length - i) (fun (i:Nat)=>.r 4 [] <| .br (.r 5 [sV ((aaa x3_1.1 x3_1.2.1 x3_1.2.2).getD i [])] <| .c (agP x3_1.1 ((aaa x3_1.1 x3_1.2.1 x3_1.2.2).getD i [])) [] <| .r 1 [] <| .r 1 [] <| .loop (Nat) (fun (k:Nat)=>⟨[(3,.sl false (x3_1.1.map pgV)),(4,sV x3_1.2.1),(6,.sl false ((aaa x3_1.1 x3_1.2.1 x3_1.2.2).map sV)),(7,iN i),(8,.sl false ((aak x3_1.1 ((aaa x3_1.1 x3_1.2.1 x3_1.2.2).getD i [])).map sV)),(9,iN k)],[]⟩) (fun (k:Nat)=>k≤(aak x3_1.1 ((aaa x3_1.1 x3_1.2.1 x3_1.2.2).getD i [])).length) (fun (k:Nat)=>(aak x3_1.1 ((aaa x3_1.1 x3_1.2.1 x3_1.2.2).getD i [])).length - k) (fun (k:Nat)=>.r 4 [] <| .br (.r 5 [sV ((aak x3_1.1 ((aaa x3_1.1 x3_1.2.1 x3_1.2.2).getD i [])).getD k [])] <| .c (afs x3_1.1 ((aak x3_1.1 ((aaa x3_1.1 x3_1.2.1 x3_1.2.2).getD i [])).getD k []) (2:Int)) [] <| .r 5 [] <| .r 6 [sV ((aak x3_1.1 ((aaa x3_1.1 x3_1.2.1 x3_1.2.2).getD i [])).getD k [])] <| .c (ael x3_1.1 x3_1.2.1 ((aak x3_1.1 ((aaa x3_1.1 x3_1.2.1 x3_1.2.2).getD i [])).getD k [])) [] <| .r 10 [sV ((aak x3_1.1 ((aaa x3_1.1 x3_1.2.1 x3_1.2.2).getD i [])).getD k [])] <| .cg (adi (aaa x3_1.1 x3_1.2.1 x3_1.2.2) ((aak x3_1.1 ((aaa x3_1.1 x3_1.2.1 x3_1.2.2).getD i [])).getD k [])) <| .r 2 [] <| .br (.r 1 [] <| .nil) (.r 3 [] <| .nil)) (.r 3 [] <| .nil))) (.r 1 [] <| .nil))))))
  (Br (gtB (((b.map u8V).length:Nat):Int) 1048576) (Q (bV true) (bV true)) ((aaU b).sm∧((b.length≤9223372036854775807))∧∀ x3_1:List Pg×List UInt8×List (List UInt8),(1≤x3_1.1.length∧x3_1.1.length≤30∧(∀ y,y∈x3_1.1→PgSz y)∧x3_1.2.1.length≤5∧aaD x3_1.2.1=true∧x3_1.2.2.length≤4∧(∀ y,y∈x3_1.2.2→y.length≤30∧Asc y))→(fun v1:V=>(fun v2:V=>(aaP x3_1.1 x3_1.2.1 x3_1.2.2).sm∧((x3_1.1.length≤30)∧(∀ i,PgSz (x3_1.1.getD i pg0))∧(x3_1.2.1.length≤1000000)∧(∀ x,x∈x3_1.2.2→x.length≤1000∧Asc x)∧(x3_1.2.2.length≤1000000))∧(abl x3_1.1 x3_1.2.1 x3_1.2.2).sm∧((x3_1.1.length≤1000)∧(∀ i,(x3_1.1.getD i pg0).addr.length≤1000000∧(x3_1.1.getD i pg0).text.length≤1000000∧(x3_1.1.getD i pg0).lead.length≤1000000)∧(x3_1.2.1.length≤1000000)∧(∀ x,x∈x3_1.2.2→x.length≤1000000)∧(x3_1.2.2.length≤1000000))∧(abE (aaa x3_1.1 x3_1.2.1 x3_1.2.2) (aaa x3_1.1 x3_1.2.1 x3_1.2.2)).sm∧(((aaa x3_1.1 x3_1.2.1 x3_1.2.2).length≤1000000)∧((aaa x3_1.1 x3_1.2.1 x3_1.2.2).length≤1000000))∧Br (!((aaa x3_1.1 x3_1.2.1 x3_1.2.2)==(aaa x3_1.1 x3_1.2.1 x3_1.2.2))) (Q (bV false) (bV true)) ((∃ i₀:Nat,(i₀≤(aaa x3_1.1 x3_1.2.1 x3_1.2.2).length)∧E v2∧E (sV x3_1.2.1)∧E v1∧Q (iN 0) (iN i₀)∧True)∧∀ i:Nat,(i≤(aaa x3_1.1 x3_1.2.1 x3_1.2.2).length)→Br (ltB (i:Int) ((((aaa x3_1.1 x3_1.2.1 x3_1.2.2).map sV).length:Nat):Int)) (Ex (i:Int) ((aaa x3_1.1 x3_1.2.1 x3_1.2.2).map sV) (sV ((aaa x3_1.1 x3_1.2.1 x3_1.2.2).getD i []))∧True∧(agP x3_1.1 ((aaa x3_1.1 x3_1.2.1 x3_1.2.2).getD i [])).sm∧((x3_1.1.length≤30)∧(∀ i,PgSz (x3_1.1.getD i pg0))∧(((aaa x3_1.1 x3_1.2.1 x3_1.2.2).getD i []).length≤1000000)∧(Asc ((aaa x3_1.1 x3_1.2.1 x3_1.2.2).getD i [])))∧(∃ k₀:Nat,(k₀≤(aak x3_1.1 ((aaa x3_1.1 x3_1.2.1 x3_1.2.2).getD i [])).length)∧E v2∧E (sV x3_1.2.1)∧E v1∧E (iN i)∧E (.sl false ((aak x3_1.1 ((aaa x3_1.1 x3_1.2.1 x3_1.2.2).getD i [])).map sV))∧Q (iN 0) (iN k₀)∧True)∧∀ k:Nat,(k≤(aak x3_1.1 ((aaa x3_1.1 x3_1.2.1 x3_1.2.2).getD i [])).length)→Br (ltB (k:Int) ((((aak x3_1.1 ((aaa x3_1.1 x3_1.2.1 x3_1.2.2).getD i [])).map sV).length:Nat):Int)) (Ex (k:Int) ((aak x3_1.1 ((aaa x3_1.1 x3_1.2.1 x3_1.2.2).getD i [])).map sV) (sV ((aak x3_1.1 ((aaa x3_1.1 x3_1.2.1 x3_1.2.2).getD i [])).getD k []))∧True∧(afs x3_1.1 ((aak x3_1.1 ((aaa x3_1.1 x3_1.2.1 x3_1.2.2).getD i [])).getD k []) (2:Int)).sm∧((x3_1.1.length≤30)∧(∀ i,PgSz (x3_1.1.getD i pg0))∧(0≤(2:Int))∧((2:Int)≤1000))∧Ex (k:Int) ((aak x3_1.1 ((aaa x3_1.1 x3_1.2.1 x3_1.2.2).getD i [])).map sV) (sV ((aak x3_1.1 ((aaa x3_1.1 x3_1.2.1 x3_1.2.2).getD i [])).getD k []))∧True∧(ael x3_1.1 x3_1.2.1 ((aak x3_1.1 ((aaa x3_1.1 x3_1.2.1 x3_1.2.2).getD i [])).getD k [])).sm∧((x3_1.1.length≤30)∧(∀ i,PgSz (x3_1.1.getD i pg0))∧(x3_1.2.1.length≤1000000)∧(((aak x3_1.1 ((aaa x3_1.1 x3_1.2.1 x3_1.2.2).getD i [])).getD k []).length≤1000000)∧(Asc ((aak x3_1.1 ((aaa x3_1.1 x3_1.2.1 x3_1.2.2).getD i [])).getD k [])))∧Pk (aaB x3_1.1 x3_1.2.1 ((aak x3_1.1 ((aaa x3_1.1 x3_1.2.1 x3_1.2.2).getD i [])).getD k [])) ((aaB x3_1.1 x3_1.2.1 ((aak x3_1.1 ((aaa x3_1.1 x3_1.2.1 x3_1.2.2).getD i [])).getD k []))==true) true∧Gd (((aaB x3_1.1 x3_1.2.1 ((aak x3_1.1 ((aaa x3_1.1 x3_1.2.1 x3_1.2.2).getD i [])).getD k []))&&(neB ((adJ x3_1.1 ((aak x3_1.1 ((aaa x3_1.1 x3_1.2.1 x3_1.2.2).getD i [])).getD k []) (2:Int)).1) 3))==true) (Ex (k:Int) ((aak x3_1.1 ((aaa x3_1.1 x3_1.2.1 x3_1.2.2).getD i [])).map sV) (sV ((aak x3_1.1 ((aaa x3_1.1 x3_1.2.1 x3_1.2.2).getD i [])).getD k [])))∧Gd (((aaB x3_1.1 x3_1.2.1 ((aak x3_1.1 ((aaa x3_1.1 x3_1.2.1 x3_1.2.2).getD i [])).getD k []))&&(neB ((adJ x3_1.1 ((aak x3_1.1 ((aaa x3_1.1 x3_1.2.1 x3_1.2.2).getD i [])).getD k []) (2:Int)).1) 3))==true) True∧Gd (((aaB x3_1.1 x3_1.2.1 ((aak x3_1.1 ((aaa x3_1.1 x3_1.2.1 x3_1.2.2).getD i [])).getD k []))&&(neB ((adJ x3_1.1 ((aak x3_1.1 ((aaa x3_1.1 x3_1.2.1 x3_1.2.2).getD i [])).getD k []) (2:Int)).1) 3))==true) ((((aaa x3_1.1 x3_1.2.1 x3_1.2.2).length≤1000000))∧(adi (aaa x3_1.1 x3_1.2.1 x3_1.2.2) ((aak x3_1.1 ((aaa x3_1.1 x3_1.2.1 x3_1.2.2).getD i [])).getD k [])).sm)∧Pk ((aaB x3_1.1 x3_1.2.1 ((aak x3_1.1 ((aaa x3_1.1 x3_1.2.1 x3_1.2.2).getD i [])).getD k []))&&(neB ((adJ x3_1.1 ((aak x3_1.1 ((aaa x3_1.1 x3_1.2.1 x3_1.2.2).getD i [])).getD k []) (2:Int)).1) 3)) (((aaB x3_1.1 x3_1.2.1 ((aak x3_1.1 ((aaa x3_1.1 x3_1.2.1 x3_1.2.2).getD i [])).getD k []))&&(neB ((adJ x3_1.1 ((aak x3_1.1 ((aaa x3_1.1 x3_1.2.1 x3_1.2.2).getD i [])).getD k []) (2:Int)).1) 3))==true) true∧Br (((aaB x3_1.1 x3_1.2.1 ((aak x3_1.1 ((aaa x3_1.1 x3_1.2.1 x3_1.2.2).getD i [])).getD k []))&&(neB ((adJ x3_1.1 ((aak x3_1.1 ((aaa x3_1.1 x3_1.2.1 x3_1.2.2).getD i [])).getD k []) (2:Int)).1) 3))&&(!((aaa x3_1.1 x3_1.2.1 x3_1.2.2).contains ((aak x3_1.1 ((aaa x3_1.1 x3_1.2.1 x3_1.2.2).getD i [])).getD k [])))) (Q (bV false) (bV true)) (I64 ((k:Int)+1)∧∃ k₂:Nat,(k₂≤(aak x3_1.1 ((aaa x3_1.1 x3_1.2.1 x3_1.2.2).getD i [])).length)∧((aak x3_1.1 ((aaa x3_1.1 x3_1.2.1 x3_1.2.2).getD i [])).length - k₂ < (aak x3_1.1 ((aaa x3_1.1 x3_1.2.1 x3_1.2.2).getD i [])).length - k)∧E v2∧E (sV x3_1.2.1)∧E v1∧E (iN i)∧E (.sl false ((aak x3_1.1 ((aaa x3_1.1 x3_1.2.1 x3_1.2.2).getD i [])).map sV))∧Q (iN (k+1)) (iN k₂)∧True)) (I64 ((i:Int)+1)∧∃ i₂:Nat,(i₂≤(aaa x3_1.1 x3_1.2.1 x3_1.2.2).length)∧((aaa x3_1.1 x3_1.2.1 x3_1.2.2).length - i₂ < (aaa x3_1.1 x3_1.2.1 x3_1.2.2).length - i)∧E v2∧E (sV x3_1.2.1)∧E v1∧Q (iN (i+1)) (iN i₂)∧True)) (Q (bV true) (bV true)))) (.sl false (x3_1.1.map pgV))) (.sl false ((aaa x3_1.1 x3_1.2.1 x3_1.2.2).map sV))))
  (by kernel_rfl) ?_
 refine ⟨fun hb1=>?_,fun hb1=>?_⟩
 try simp only [nb] at hb1
 unfold Q
 rfl
 try simp only [nb] at hb1
 refine ⟨rfl,by omega,?_⟩
 intro x3_1 hx3_1
 refine ⟨rfl,⟨by omega,fun i=>abX hx3_1.2.2.1 i,by omega,fun x hx=>⟨by have:=(hx3_1.2.2.2.2.2.2 x hx).1; omega,(hx3_1.2.2.2.2.2.2 x hx).2⟩,by omega⟩,rfl,⟨by omega,fun i=>by have:=abX hx3_1.2.2.1 i; exact ⟨by have:=this.a; omega,by have:=this.t; omega,by have:=this.l; omega⟩,by omega,fun x hx=>by have:=(hx3_1.2.2.2.2.2.2 x hx).1; omega,by omega⟩,rfl,⟨by have:= @aaJ x3_1.1 x3_1.2.1 x3_1.2.2; omega,by have:= @aaJ x3_1.1 x3_1.2.1 x3_1.2.2; omega⟩,?_⟩
 refine ⟨fun hb2=>?_,fun hb2=>?_⟩
 try simp only [nb] at hb2
 exact absurd hb2 (by simp)
 try simp only [nb] at hb2
 refine ⟨⟨0,?_,rfl,rfl,rfl,rfl,trivial⟩,?_⟩
 simp
 rintro i h1
 have hml:= @aaJ x3_1.1 x3_1.2.1 x3_1.2.2
 refine ⟨fun hb3=>?_,fun hb3=>?_⟩
 try simp only [nb] at hb3
 have hmr:=aeB (show i < (aaa x3_1.1 x3_1.2.1 x3_1.2.2).length by omega)
 obtain ⟨hma,hmc⟩:=anv (acV hmr).1 (fun i=>abX hx3_1.2.2.1 i) (fun x hx=>⟨by have:=(hx3_1.2.2.2.2.2.2 x hx).1; omega,(hx3_1.2.2.2.2.2.2 x hx).2⟩) hmr
 have hfl:=ags x3_1.1 ((aaa x3_1.1 x3_1.2.1 x3_1.2.2).getD i [])
 refine ⟨⟨by omega,aaf (d:=[]) (by omega)⟩,trivial,rfl,⟨by omega,fun i=>abX hx3_1.2.2.1 i,by omega,hmc⟩,?_⟩
 refine ⟨⟨0,?_,rfl,rfl,rfl,rfl,rfl,rfl,trivial⟩,?_⟩
 simp
 rintro k h2
 refine ⟨fun hb4=>?_,fun hb4=>?_⟩
 try simp only [nb] at hb4
 have hfr:=aeB (show k < (aak x3_1.1 ((aaa x3_1.1 x3_1.2.1 x3_1.2.2).getD i [])).length by omega)
 have hfp:=aop (a:=((aaa x3_1.1 x3_1.2.1 x3_1.2.2).getD i [])) (acV hmr).1 (fun i=>abX hx3_1.2.2.1 i) (by rw [ajS (acV hmr).1]; exact hfr)
 refine ⟨⟨by omega,aaf (d:=[]) (by omega)⟩,trivial,rfl,⟨by omega,fun i=>abX hx3_1.2.2.1 i,by omega,by omega⟩,⟨by omega,aaf (d:=[]) (by omega)⟩,trivial,rfl,⟨by omega,fun i=>abX hx3_1.2.2.1 i,by omega,by have:=hfp.1; omega,hfp.2⟩,⟨fun h=>by first | (solve | rw [h]) | (rw [h]; rfl),fun _=>rfl⟩,fun hG=>⟨by omega,aaf (d:=[]) (by omega)⟩,fun hG=>trivial,fun hG=>⟨by (try simp only [nb] at hG); omega,rfl⟩,⟨fun h=>by first | (solve | rw [h]) | (rw [h]; rfl),fun _=>rfl⟩,?_⟩
 refine ⟨fun hb5=>?_,fun hb5=>?_⟩
 try simp only [nb] at hb5
 have hin:=ast hmr hfr (aDI (acV hmr).1 hb5.1.1 hb5.1.2)
 rw [List.contains_iff_mem.2 hin] at hb5; exact absurd hb5.2 (by decide)
 try simp only [nb] at hb5
 refine ⟨by omega,?_⟩
 refine ⟨k+1,?_,?_,rfl,rfl,rfl,rfl,rfl,rfl,trivial⟩
 omega
 first | (solve | simp) | omega | (simp; omega)
 try simp only [nb] at hb4
 refine ⟨by omega,?_⟩
 refine ⟨i+1,?_,?_,rfl,rfl,rfl,rfl,trivial⟩
 omega
 first | (solve | simp) | omega | (simp; omega)
 try simp only [nb] at hb3
 unfold Q
 rfl
end Go.Proofs.YtencelmnogiamaaGreatDoor
namespace Go.Proofs.YtencelmnogiamaaGreatDoor
open Go Go.ChangeShapes Go.WideShapes Go.ChangeAt Go.RowKit Go.Abs
theorem own:ownKnob Tryz.prog.godebug=none:=by kernel_rfl
theorem laidOut:laidOutB Tryz.prog=true:=by kernel_rfl
set_option maxRecDepth 100000 in
theorem fnReachOn_lifted (os:Os) (started:os.Started) (H:Type) (enc:TypeId×Value→H):
 ReturnsInHanded {} Tryz.checked os 8 .any (fun w args=>(Rows.fnReachOnSpec.pre enc Tryz.prog Tryz.f8 [] false w args∧laidMetH Tryz.prog Rows.fnReachOnRow.laid w)∧sizedMet enc Tryz.prog Tryz.f8 (OpenSpec.ofChange Rows.fnReachOnSpec) false w args)
  (Rows.fnReachOnSpec.post enc Tryz.prog Tryz.f8 false true false false):=by
 refine returnsInHanded_of_change_and (C:=Tryz.checked) (X:=fun w _=>laidMetH Tryz.prog Rows.fnReachOnRow.laid w) (fun _ _ _ hh h=>h.of_heap hh) own started (by kernel_rfl) Tryz.func8
  (ChangeSpec.witness_shaped (enc:=enc) (C:=Tryz.checked) (os:=os) (X:=fun w _=>laidMetH Tryz.prog Rows.fnReachOnRow.laid w) false (World.laidAll Tryz.prog os Rows.fnReachOnRow.laid) #[.slice none 0 0] 8 (World.laidAll_os _ _ _)
   (World.shaped_of_ZipB (by kernel_rfl) (by kernel_rfl)) (by kernel_rfl) (by kernel_rfl) (by kernel_rfl)
   (by rw [MakeChecks.laidMetH_plain _ _ _ (by kernel_rfl)]; exact laidMet_laidAll _ (by kernel_rfl) (by kernel_rfl))) ?_
 intro W base args ds gs before hval0 hW _ _ _ _
 have hval:∀ (j:Nat) t v,Tryz.f8.params[j]? =some t→args[j]? =some v→Value.okWide Tryz.prog W .any base t v:=hval0
 have hW':=hW
 obtain ⟨p,q,hA0,hV,rfl,hfz,hnd⟩:=hW
 have hA:DataW.TrodAll enc Tryz.prog W 0 (fun _=>true) true Tryz.f8.params.toList args.toList ds p:=hA0
 rw [Tryz.params8] at hA hval
 obtain ⟨v0,d0,rfl,rfl,h0⟩:=trodAll_one hA
 obtain ⟨rfl,rfl⟩:=trodVars_none hV
 obtain ⟨a0,len0,cap0,rfl⟩:=okWide_slice Tryz.underlying34 (hval 0 34 v0 rfl rfl)
 have lt0:∀ x∈p,x.block < W.heap.size:=by obtain ⟨m,hm⟩:=h0; exact DataW.trod_lt m _ _ _ hm
 obtain ⟨b,rfl,hb,hv⟩:=afr Tryz.underlying34 Tryz.underlying5 (by kernel_rfl) h0
 clear hA0 hval0
 refine (ajj asR hb hv).mono fun e W' ⟨he,bel⟩=>?_
 subst he
 exact ⟨_,rfl,_,_,_,[],p,[],hW',trodAll_mk1 (shut_bool Tryz.underlying4 _),trodAll_mk1 (Below.trod laidOut (by kernel_rfl) (of_decide_eq_true (by kernel_rfl)) h0 bel lt0),rfl,bel.frame _,fun h=>by cases h⟩
theorem fnReachOn_row:Rows.FnReachOnSaid:=
 OpenClaim.holds_of_wide 8 Tryz.f8 rfl rfl rfl rfl rfl rfl rfl ⟨rfl,rfl,rfl,rfl,rfl⟩ rfl rfl rfl rfl rfl (by kernel_rfl) Tryz.func8 (by kernel_rfl)
  (of_decide_eq_true (by kernel_rfl)) (by unfold Func.isWrapper; first | (rw [if_pos (by decide +kernel)]; kernel_rfl) | (rw [if_neg (by decide +kernel)]; exact ⟨rfl,rfl⟩))
  (fun os started H enc _=>fnReachOn_lifted os started H enc)
theorem fnReachOn_holds:Rows.FnReachOnCardSaid:=
 Claim7.holds_tied_plain_at .later [] [.data,.pinned] true (true, "4a974c8493bd74bb2fbd3ad2fdecf81a6a6d593d7ff1e24642cadbe5817ecccf") true fnReachOn_row (fun _ h=>by cases h) (by kernel_rfl) (fun _ h=>by cases h) fnReachOn_row_tie rfl ⟨rfl,rfl⟩ (by kernel_rfl) rfl
  (fun f fn hf hfn=>by
   obtain rfl:f=8:=Option.some.inj ((show Tryz.prog.funcNamed "loop.example/pedlar/laws.FnReachOn" =some 8 by kernel_rfl).symm.trans hf) |>.symm
   obtain rfl:fn=Tryz.f8:=(Option.some.inj (Tryz.func8.symm.trans hfn)).symm
   exact ⟨by kernel_rfl,fun j t ht=>by
    rw [Tryz.params8] at ht
    have hm:t∈[34]:=by simpa using Array.mem_of_getElem? ht
    have hall:([34].all fun u=>!Tryz.prog.wantsStandIn u)=true:=by kernel_rfl
    exact (show Tryz.prog.wantsStandIn t=false by simpa using List.all_eq_true.1 hall t hm)⟩)
  (by kernel_rfl)
end Go.Proofs.YtencelmnogiamaaGreatDoor
