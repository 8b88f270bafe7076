/-
  laws.FnReachMore returns true for every input and leaves it as it was; conditions: the listed tables lie as the program's text lays them.
-/
import Derived.Test.YtencelmnogiamaaGreatDoorRtF
import Derived.Test.YtencelmnogiamaaGreatDoorTie
import Derived.Test.YtencelmnogiamaaGreatDoorCards
set_option linter.unusedVariables false
set_option linter.unusedSimpArgs false
namespace Go.Pd
open Go.Abs
end Go.Pd
namespace Go.Proofs.YtencelmnogiamaaGreatDoor
open Go Go.Abs Go.RowKit Go.Pd
set_option maxRecDepth 20000
theorem aCe {l m:List (List UInt8)} (h:∀ x,x∈l→x.length≤1000∧Asc x) (k:∀ x,x∈m→x.length≤1000∧Asc x):∀ x,x∈l++m→x.length≤1000∧Asc x:=fun x hx=>(List.mem_append.1 hx).elim (h x) (k x)
theorem aDb {w:List Pg} {n y:List UInt8} {s o:List (List UInt8)} (hl:s.length+o.length≤12) (h:y∈aaa w n s):y∈aaa w n (s++o):=by
 obtain ⟨h1,h2,h3⟩:=acV h
 exact (age h1 h2 (by simp; omega) y).2 (apy (fun x hx=>List.mem_append_left _ hx) ((age h1 h2 h3 y).1 h))
theorem aCP {w:List Pg} {n y:List UInt8} {s o:List (List UInt8)} (hl:s.length+o.length≤12) (h:y∈aaa w n o):y∈aaa w n (s++o):=by
 obtain ⟨h1,h2,h3⟩:=acV h
 exact (age h1 h2 (by simp; omega) y).2 (apy (fun x hx=>List.mem_append_right _ hx) ((age h1 h2 h3 y).1 h))
theorem aBf {w:List Pg} {n y:List UInt8} {s o:List (List UInt8)} (hl:s.length+o.length≤12) (h:y∈aaa w n (s++o)):y∈aaa w n s++aaa w n o:=by
 obtain ⟨h1,h2,h3⟩:=acV h
 rcases aDx (apy (fun x hx=>List.mem_append.1 hx) ((age h1 h2 h3 y).1 h)) with k | k
 exact List.mem_append_left _ ((age h1 h2 (by omega) y).2 k)
 exact List.mem_append_right _ ((age h1 h2 (by omega) y).2 k)
theorem apJ (b c:List UInt8) (hb:b.length≤9223372036854775807) (hc:c.length≤9223372036854775807):PF Tryz.prog 6 [.sl false (b.map u8V),.sl false (c.map u8V)] [] (fun r h=>r=(bV true)∧h=[]):=by
 refine aag (N:=74) (rs:=[.tmp 4]) Tryz.func6 (by kernel_rfl) rfl rfl rfl (by kernel_rfl)
  (.r 1 [] <| .r 8 [] <| .br (.r 1 [] <| .nil) (.r 1 [] <| .cx (aaU b) [] (fun (x3_1:List Pg×List UInt8×List (List UInt8))=>.r 7 [] <| .r 1 [] <| .cx (aaU c) [] (fun (x4_1:List Pg×List UInt8×List (List UInt8))=>.r 7 [] <| .r 3 [] <| .c (aaP x3_1.1 x3_1.2.1 x3_1.2.2) [] <| .r 1 [] <| .r 4 [] <| .c (abl x3_1.1 x3_1.2.1 x3_1.2.2) [] <| .c (abE (aaa x3_1.1 x3_1.2.1 x3_1.2.2) (aaa x3_1.1 x3_1.2.1 x3_1.2.2)) [] <| .r 1 [] <| .br (.r 1 [] <| .nil) (.r 2 [] <| .bs <| .r 1 [] <| .ap (fun g49 o49 c49=>.h (.eqt 49 (.own 1 (x3_1.2.2.map sV) g49 o49 c49)) <| .r 1 [] <| .ap (fun g51 o51 c51=>.h (.eqt 51 (.own 1 ((x3_1.2.2++x4_1.2.2).map sV) g51 o51 c51)) <| .h (.fz 51) <| .h (.eqt 51 (.sl false ((x3_1.2.2++x4_1.2.2).map sV))) <| .c (aaP x3_1.1 x3_1.2.1 (x3_1.2.2++x4_1.2.2)) [] <| .r 1 [] <| .r 3 [] <| .c (aaP x3_1.1 x3_1.2.1 x4_1.2.2) [] <| .r 1 [] <| .r 2 [] <| .c (afL (aaa x3_1.1 x3_1.2.1 x3_1.2.2) (aaa x3_1.1 x3_1.2.1 (x3_1.2.2++x4_1.2.2))) [] <| .r 1 [] <| .gt <| .r 1 [] <| .gt <| .r 1 [] <| .gt <| .c (afL (aaa x3_1.1 x3_1.2.1 x4_1.2.2) (aaa x3_1.1 x3_1.2.1 (x3_1.2.2++x4_1.2.2))) [] <| .r 1 [] <| .h (.eqt 64 (bV true)) <| .r 1 [] <| .gt <| .r 1 [] <| .gt <| .bs <| .gt <| .r 1 [] <| .gt <| .ap (fun g69 o69 c69=>.gt <| .h (.eqt 69 (.own 1 ((aaa x3_1.1 x3_1.2.1 x3_1.2.2).map sV) g69 o69 c69)) <| .r 1 [] <| .gt <| .ap (fun g71 o71 c71=>.gt <| .h (.eqt 71 (.own 1 (((aaa x3_1.1 x3_1.2.1 x3_1.2.2)++(aaa x3_1.1 x3_1.2.1 x4_1.2.2)).map sV) g71 o71 c71)) <| .h (.fz 71) <| .h (.eqt 71 (.sl false (((aaa x3_1.1 x3_1.2.1 x3_1.2.2)++(aaa x3_1.1 x3_1.2.1 x4_1.2.2)).map sV))) <| .c (afL (aaa x3_1.1 x3_1.2.1 (x3_1.2.2++x4_1.2.2)) ((aaa x3_1.1 x3_1.2.1 x3_1.2.2)++(aaa x3_1.1 x3_1.2.1 x4_1.2.2))) [] <| .r 2 [] <| .nil)))))))))
  ((fun v1:Bool=>(Pk v1 true (v1==false)∧Br (v1||(gtB (((c.map u8V).length:Nat):Int) 1048576)) (Q (bV true) (bV true)) ((aaU b).sm∧((b.length≤9223372036854775807))∧∀ x3_1:List Pg×List UInt8×List (List UInt8),(1≤x3_1.1.length∧x3_1.1.length≤30∧(∀ y,y∈x3_1.1→PgSz y)∧x3_1.2.1.length≤5∧aaD x3_1.2.1=true∧x3_1.2.2.length≤4∧(∀ y,y∈x3_1.2.2→y.length≤30∧Asc y))→(aaU c).sm∧((c.length≤9223372036854775807))∧∀ x4_1:List Pg×List UInt8×List (List UInt8),(1≤x4_1.1.length∧x4_1.1.length≤30∧(∀ y,y∈x4_1.1→PgSz y)∧x4_1.2.1.length≤5∧aaD x4_1.2.1=true∧x4_1.2.2.length≤4∧(∀ y,y∈x4_1.2.2→y.length≤30∧Asc y))→(aaP x3_1.1 x3_1.2.1 x3_1.2.2).sm∧((x3_1.1.length≤30)∧(∀ i,PgSz (x3_1.1.getD i pg0))∧(x3_1.2.1.length≤1000000)∧(∀ x,x∈x3_1.2.2→x.length≤1000∧Asc x)∧(x3_1.2.2.length≤1000000))∧(abl x3_1.1 x3_1.2.1 x3_1.2.2).sm∧((x3_1.1.length≤1000)∧(∀ i,(x3_1.1.getD i pg0).addr.length≤1000000∧(x3_1.1.getD i pg0).text.length≤1000000∧(x3_1.1.getD i pg0).lead.length≤1000000)∧(x3_1.2.1.length≤1000000)∧(∀ x,x∈x3_1.2.2→x.length≤1000000)∧(x3_1.2.2.length≤1000000))∧(abE (aaa x3_1.1 x3_1.2.1 x3_1.2.2) (aaa x3_1.1 x3_1.2.1 x3_1.2.2)).sm∧(((aaa x3_1.1 x3_1.2.1 x3_1.2.2).length≤1000000)∧((aaa x3_1.1 x3_1.2.1 x3_1.2.2).length≤1000000))∧Br (!((aaa x3_1.1 x3_1.2.1 x3_1.2.2)==(aaa x3_1.1 x3_1.2.1 x3_1.2.2))) (Q (bV false) (bV true)) ((True)∧(True)∧(V.aat (x3_1.2.2.map sV)=false)∧(aas 1 (x3_1.2.2.map sV))∧((([]:List V).length+(x3_1.2.2.map sV).length) * 16≤140737488355328)∧∀ g49 o49 c49:Nat,((.own 1 (([]:List V)++(x3_1.2.2.map sV)) g49 o49 c49:V)=.own 1 (x3_1.2.2.map sV) g49 o49 c49)∧(1=1)∧(True)∧(V.aat (x4_1.2.2.map sV)=false)∧(aas 1 (x4_1.2.2.map sV))∧(((x3_1.2.2.map sV).length+(x4_1.2.2.map sV).length) * 16≤140737488355328)∧∀ g51 o51 c51:Nat,((.own 1 ((x3_1.2.2.map sV)++(x4_1.2.2.map sV)) g51 o51 c51:V)=.own 1 ((x3_1.2.2++x4_1.2.2).map sV) g51 o51 c51)∧((.sl false (V.erL ((x3_1.2.2++x4_1.2.2).map sV)):V)=.sl false ((x3_1.2.2++x4_1.2.2).map sV))∧(aaP x3_1.1 x3_1.2.1 (x3_1.2.2++x4_1.2.2)).sm∧((x3_1.1.length≤30)∧(∀ i,PgSz (x3_1.1.getD i pg0))∧(x3_1.2.1.length≤1000000)∧(∀ x,x∈(x3_1.2.2++x4_1.2.2)→x.length≤1000∧Asc x)∧((x3_1.2.2++x4_1.2.2).length≤1000000))∧(aaP x3_1.1 x3_1.2.1 x4_1.2.2).sm∧((x3_1.1.length≤30)∧(∀ i,PgSz (x3_1.1.getD i pg0))∧(x3_1.2.1.length≤1000000)∧(∀ x,x∈x4_1.2.2→x.length≤1000∧Asc x)∧(x4_1.2.2.length≤1000000))∧(afL (aaa x3_1.1 x3_1.2.1 x3_1.2.2) (aaa x3_1.1 x3_1.2.1 (x3_1.2.2++x4_1.2.2))).sm∧(((aaa x3_1.1 x3_1.2.1 x3_1.2.2).length≤1000000)∧((aaa x3_1.1 x3_1.2.1 (x3_1.2.2++x4_1.2.2)).length≤1000000)∧(∀ y,y∈(aaa x3_1.1 x3_1.2.1 x3_1.2.2)→y∈(aaa x3_1.1 x3_1.2.1 (x3_1.2.2++x4_1.2.2))))∧(true=true)∧(true=true)∧(true=true)∧(afL (aaa x3_1.1 x3_1.2.1 x4_1.2.2) (aaa x3_1.1 x3_1.2.1 (x3_1.2.2++x4_1.2.2))).sm∧(((aaa x3_1.1 x3_1.2.1 x4_1.2.2).length≤1000000)∧((aaa x3_1.1 x3_1.2.1 (x3_1.2.2++x4_1.2.2)).length≤1000000)∧(∀ y,y∈(aaa x3_1.1 x3_1.2.1 x4_1.2.2)→y∈(aaa x3_1.1 x3_1.2.1 (x3_1.2.2++x4_1.2.2))))∧Pk true true true∧Q (bV (true||false)) (bV true)∧(true=true)∧(true=true)∧(true=true)∧(true=true)∧(True)∧(True)∧(V.aat ((aaa x3_1.1 x3_1.2.1 x3_1.2.2).map sV)=false)∧(aas 1 ((aaa x3_1.1 x3_1.2.1 x3_1.2.2).map sV))∧((([]:List V).length+((aaa x3_1.1 x3_1.2.1 x3_1.2.2).map sV).length) * 16≤140737488355328)∧∀ g69 o69 c69:Nat,(true=true)∧((.own 1 (([]:List V)++((aaa x3_1.1 x3_1.2.1 x3_1.2.2).map sV)) g69 o69 c69:V)=.own 1 ((aaa x3_1.1 x3_1.2.1 x3_1.2.2).map sV) g69 o69 c69)∧(true=true)∧(1=1)∧(True)∧(V.aat ((aaa x3_1.1 x3_1.2.1 x4_1.2.2).map sV)=false)∧(aas 1 ((aaa x3_1.1 x3_1.2.1 x4_1.2.2).map sV))∧((((aaa x3_1.1 x3_1.2.1 x3_1.2.2).map sV).length+((aaa x3_1.1 x3_1.2.1 x4_1.2.2).map sV).length) * 16≤140737488355328)∧∀ g71 o71 c71:Nat,(true=true)∧((.own 1 (((aaa x3_1.1 x3_1.2.1 x3_1.2.2).map sV)++((aaa x3_1.1 x3_1.2.1 x4_1.2.2).map sV)) g71 o71 c71:V)=.own 1 (((aaa x3_1.1 x3_1.2.1 x3_1.2.2)++(aaa x3_1.1 x3_1.2.1 x4_1.2.2)).map sV) g71 o71 c71)∧((.sl false (V.erL (((aaa x3_1.1 x3_1.2.1 x3_1.2.2)++(aaa x3_1.1 x3_1.2.1 x4_1.2.2)).map sV)):V)=.sl false (((aaa x3_1.1 x3_1.2.1 x3_1.2.2)++(aaa x3_1.1 x3_1.2.1 x4_1.2.2)).map sV))∧(afL (aaa x3_1.1 x3_1.2.1 (x3_1.2.2++x4_1.2.2)) ((aaa x3_1.1 x3_1.2.1 x3_1.2.2)++(aaa x3_1.1 x3_1.2.1 x4_1.2.2))).sm∧(((aaa x3_1.1 x3_1.2.1 (x3_1.2.2++x4_1.2.2)).length≤1000000)∧(((aaa x3_1.1 x3_1.2.1 x3_1.2.2)++(aaa x3_1.1 x3_1.2.1 x4_1.2.2)).length≤1000000)∧(∀ y,y∈(aaa x3_1.1 x3_1.2.1 (x3_1.2.2++x4_1.2.2))→y∈((aaa x3_1.1 x3_1.2.1 x3_1.2.2)++(aaa x3_1.1 x3_1.2.1 x4_1.2.2))))∧Pk true true true∧Q (bV (true||false)) (bV true))))) (gtB (((b.map u8V).length:Nat):Int) 1048576))
  (by kernel_rfl) ?_
 refine ⟨⟨fun _=>rfl,fun h=>by first | (solve | rw [h]) | (rw [h]; rfl)⟩,?_⟩
 refine ⟨fun hb1=>?_,fun hb1=>?_⟩
 try simp only [nb] at hb1
 unfold Q
 rfl
 try simp only [nb] at hb1
 refine ⟨rfl,by omega,?_⟩
 intro x3_1 hx3_1
 refine ⟨rfl,by omega,?_⟩
 intro x4_1 hx4_1
 refine ⟨rfl,⟨by omega,fun i=>abX hx3_1.2.2.1 i,by omega,fun x hx=>⟨by have:=(hx3_1.2.2.2.2.2.2 x hx).1; omega,(hx3_1.2.2.2.2.2.2 x hx).2⟩,by omega⟩,rfl,⟨by omega,fun i=>by have:=abX hx3_1.2.2.1 i; exact ⟨by have:=this.a; omega,by have:=this.t; omega,by have:=this.l; omega⟩,by omega,fun x hx=>by have:=(hx3_1.2.2.2.2.2.2 x hx).1; omega,by omega⟩,rfl,⟨by have:= @aaJ x3_1.1 x3_1.2.1 x3_1.2.2; omega,by have:= @aaJ x3_1.1 x3_1.2.1 x3_1.2.2; omega⟩,?_⟩
 refine ⟨fun hb2=>?_,fun hb2=>?_⟩
 try simp only [nb] at hb2
 exact absurd hb2 (by simp)
 try simp only [nb] at hb2
 have hl1:= @aaJ x3_1.1 x3_1.2.1 x3_1.2.2
 have hl2:= @aaJ x3_1.1 x3_1.2.1 x4_1.2.2
 refine ⟨trivial,trivial,(abC (f:=sV) (fun _=>rfl) _),(acs (f:=sV) (fun _=>rfl) _),by simp; omega,?_⟩
 intro g49 o49 c49
 refine ⟨congrArg (V.own 1 · g49 o49 c49) (List.nil_append _),rfl,trivial,(abC (f:=sV) (fun _=>rfl) _),(acs (f:=sV) (fun _=>rfl) _),by simp; omega,?_⟩
 intro g51 o51 c51
 refine ⟨congrArg (V.own 1 · g51 o51 c51) ((List.map_append ..).symm),congrArg (V.sl false) (aaE (fun _=>rfl) _),rfl,⟨by omega,fun i=>abX hx3_1.2.2.1 i,by omega,aCe (fun x hx=>⟨by have:=(hx3_1.2.2.2.2.2.2 x hx).1; omega,(hx3_1.2.2.2.2.2.2 x hx).2⟩) (fun x hx=>⟨by have:=(hx4_1.2.2.2.2.2.2 x hx).1; omega,(hx4_1.2.2.2.2.2.2 x hx).2⟩),by simp; omega⟩,rfl,⟨by omega,fun i=>abX hx3_1.2.2.1 i,by omega,fun x hx=>⟨by have:=(hx4_1.2.2.2.2.2.2 x hx).1; omega,(hx4_1.2.2.2.2.2.2 x hx).2⟩,by omega⟩,rfl,⟨by have:= @aaJ x3_1.1 x3_1.2.1 x3_1.2.2; omega,by have:= @aaJ x3_1.1 x3_1.2.1 (x3_1.2.2++x4_1.2.2); omega,fun y hy=>aDb (by omega) hy⟩,rfl,rfl,rfl,rfl,⟨by have:= @aaJ x3_1.1 x3_1.2.1 x4_1.2.2; omega,by have:= @aaJ x3_1.1 x3_1.2.1 (x3_1.2.2++x4_1.2.2); omega,fun y hy=>aCP (by omega) hy⟩,⟨fun _=>rfl,fun _=>rfl⟩,rfl,rfl,rfl,rfl,rfl,trivial,trivial,(abC (f:=sV) (fun _=>rfl) _),(acs (f:=sV) (fun _=>rfl) _),by simp; omega,?_⟩
 intro g69 o69 c69
 refine ⟨rfl,congrArg (V.own 1 · g69 o69 c69) (List.nil_append _),rfl,rfl,trivial,(abC (f:=sV) (fun _=>rfl) _),(acs (f:=sV) (fun _=>rfl) _),by simp; omega,?_⟩
 intro g71 o71 c71
 refine ⟨rfl,congrArg (V.own 1 · g71 o71 c71) ((List.map_append ..).symm),congrArg (V.sl false) (aaE (fun _=>rfl) _),rfl,⟨by have:= @aaJ x3_1.1 x3_1.2.1 (x3_1.2.2++x4_1.2.2); omega,by have:= @aaJ x3_1.1 x3_1.2.1 x3_1.2.2; have:= @aaJ x3_1.1 x3_1.2.1 x4_1.2.2; simp; omega,fun y hy=>aBf (by omega) hy⟩,⟨fun _=>rfl,fun _=>rfl⟩,?_⟩
 unfold Q
 rfl
end Go.Proofs.YtencelmnogiamaaGreatDoor
namespace Go.Proofs.YtencelmnogiamaaGreatDoor
open Go Go.ChangeShapes Go.WideShapes Go.ChangeAt Go.RowKit Go.Abs
theorem own:ownKnob Tryz.prog.godebug=none:=by kernel_rfl
theorem laidOut:laidOutB Tryz.prog=true:=by kernel_rfl
set_option maxRecDepth 100000 in
theorem fnReachMore_lifted (os:Os) (started:os.Started) (H:Type) (enc:TypeId×Value→H):
 ReturnsInHanded {} Tryz.checked os 6 .any (fun w args=>(Rows.fnReachMoreSpec.pre enc Tryz.prog Tryz.f6 [] false w args∧laidMetH Tryz.prog Rows.fnReachMoreRow.laid w)∧sizedMet enc Tryz.prog Tryz.f6 (OpenSpec.ofChange Rows.fnReachMoreSpec) false w args)
  (Rows.fnReachMoreSpec.post enc Tryz.prog Tryz.f6 false true false false):=by
 refine returnsInHanded_of_change_and (C:=Tryz.checked) (X:=fun w _=>laidMetH Tryz.prog Rows.fnReachMoreRow.laid w) (fun _ _ _ hh h=>h.of_heap hh) own started (by kernel_rfl) Tryz.func6
  (ChangeSpec.witness_shaped (enc:=enc) (C:=Tryz.checked) (os:=os) (X:=fun w _=>laidMetH Tryz.prog Rows.fnReachMoreRow.laid w) false (World.laidAll Tryz.prog os Rows.fnReachMoreRow.laid) #[.slice none 0 0,.slice none 0 0] 8 (World.laidAll_os _ _ _)
   (World.shaped_of_ZipB (by kernel_rfl) (by kernel_rfl)) (by kernel_rfl) (by kernel_rfl) (by kernel_rfl)
   (by rw [MakeChecks.laidMetH_plain _ _ _ (by kernel_rfl)]; exact laidMet_laidAll _ (by kernel_rfl) (by kernel_rfl))) ?_
 intro W base args ds gs before hval0 hW _ _ _ _
 have hval:∀ (j:Nat) t v,Tryz.f6.params[j]? =some t→args[j]? =some v→Value.okWide Tryz.prog W .any base t v:=hval0
 have hW':=hW
 obtain ⟨p,q,hA0,hV,rfl,hfz,hnd⟩:=hW
 have hA:DataW.TrodAll enc Tryz.prog W 0 (fun _=>true) true Tryz.f6.params.toList args.toList ds p:=hA0
 rw [Tryz.params6] at hA hval
 obtain ⟨v0,v1,d0,d1,p0,p1,rfl,rfl,rfl,h0,h1⟩:=trodAll_two hA
 obtain ⟨rfl,rfl⟩:=trodVars_none hV
 obtain ⟨a0,len0,cap0,rfl⟩:=okWide_slice Tryz.underlying34 (hval 0 34 v0 rfl rfl)
 obtain ⟨a1,len1,cap1,rfl⟩:=okWide_slice Tryz.underlying34 (hval 1 34 v1 rfl rfl)
 have lt0:∀ x∈p0,x.block < W.heap.size:=by obtain ⟨m,hm⟩:=h0; exact DataW.trod_lt m _ _ _ hm
 have lt1:∀ x∈p1,x.block < W.heap.size:=by obtain ⟨m,hm⟩:=h1; exact DataW.trod_lt m _ _ _ hm
 obtain ⟨b,rfl,hb,hv⟩:=afr Tryz.underlying34 Tryz.underlying5 (by kernel_rfl) h0
 obtain ⟨c,rfl,hc,hu⟩:=afr Tryz.underlying34 Tryz.underlying5 (by kernel_rfl) h1
 clear hA0 hval0
 refine (aon apJ hb hc hv hu).mono fun e W' ⟨he,bel⟩=>?_
 subst he
 exact ⟨_,rfl,_,_,_,[],p0++p1,[],hW',trodAll_mk1 (shut_bool Tryz.underlying4 _),trodAll_mk2 (Below.trod laidOut (by kernel_rfl) (of_decide_eq_true (by kernel_rfl)) h0 bel lt0) (Below.trod laidOut (by kernel_rfl) (of_decide_eq_true (by kernel_rfl)) h1 bel lt1),rfl,bel.frame _,fun h=>by cases h⟩
theorem fnReachMore_row:Rows.FnReachMoreSaid:=
 OpenClaim.holds_of_wide 6 Tryz.f6 rfl rfl rfl rfl rfl rfl rfl ⟨rfl,rfl,rfl,rfl,rfl⟩ rfl rfl rfl rfl rfl (by kernel_rfl) Tryz.func6 (by kernel_rfl)
  (of_decide_eq_true (by kernel_rfl)) (by unfold Func.isWrapper; first | (rw [if_pos (by decide +kernel)]; kernel_rfl) | (rw [if_neg (by decide +kernel)]; exact ⟨rfl,rfl⟩))
  (fun os started H enc _=>fnReachMore_lifted os started H enc)
theorem fnReachMore_holds:Rows.FnReachMoreCardSaid:=
 Claim7.holds_tied_plain_at .later [] [.data,.pinned] true (true, "4a974c8493bd74bb2fbd3ad2fdecf81a6a6d593d7ff1e24642cadbe5817ecccf") true fnReachMore_row (fun _ h=>by cases h) (by kernel_rfl) (fun _ h=>by cases h) fnReachMore_row_tie rfl ⟨rfl,rfl⟩ (by kernel_rfl) rfl
  (fun f fn hf hfn=>by
   obtain rfl:f=6:=Option.some.inj ((show Tryz.prog.funcNamed "loop.example/pedlar/laws.FnReachMore" =some 6 by kernel_rfl).symm.trans hf) |>.symm
   obtain rfl:fn=Tryz.f6:=(Option.some.inj (Tryz.func6.symm.trans hfn)).symm
   exact ⟨by kernel_rfl,fun j t ht=>by
    rw [Tryz.params6] at ht
    have hm:t∈[34,34]:=by simpa using Array.mem_of_getElem? ht
    have hall:([34,34].all fun u=>!Tryz.prog.wantsStandIn u)=true:=by kernel_rfl
    exact (show Tryz.prog.wantsStandIn t=false by simpa using List.all_eq_true.1 hall t hm)⟩)
  (by kernel_rfl)
end Go.Proofs.YtencelmnogiamaaGreatDoor
