/-
  laws.FnWorldLets returns true for every slice of bytes and leaves it as it was; conditions: the listed tables lie as the program's text lays them.
-/
import Derived.Test.YthliifpcaahnnaaGreatDoorWlC
set_option linter.unusedVariables false
set_option linter.unusedSimpArgs false
set_option linter.unnecessarySimpa false
set_option linter.unusedSectionVars false
namespace Go.Proofs.YthliifpcaahnnaaGreatDoor
open Go Go.Abs Go.RowKit Go.Pd
set_option maxRecDepth 20000
theorem u8_of {k:Nat} (h:k < 256):uN k=uN (UInt8.ofNat k).toNat:=by rw [UInt8.toNat_ofNat_of_lt' (by simpa using h)]
abbrev l71Rules_k0 (b:List UInt8) (p:Nat) (g:Nat) (n:Nat) (e:List Rul) (q:Nat) (u:Nat) (f:Nat) (k:Nat):Prop:=e.length+n≤4∧(∀ r,r∈e→r.path∈ruleL)∧p≤q∧q+2 * n≤p+9
theorem l71Rules_ok (b:List UInt8) (p g:Nat) (hb:b.length≤2000) (hp:p≤900000):PF Tryz.prog 128 [.ptr (.key 1000) [] g 0] [(1000,(g,.agg [.sl false (b.map u8V),iN p]))] (fun r h=> ∃ x:List Rul×Nat,(x.1.length≤4∧(∀ r,r∈x.1→r.path∈ruleL)∧p≤x.2∧x.2≤p+9)∧r=(.sl false (x.1.map ruleV))∧h=[(1000,(g,.agg [.sl false (b.map u8V),iN x.2]))]):=by
 refine PF_go (N:=22) (rs:=[.tmp 2]) (X:=List Rul×Nat) (post:=fun x=>x.1.length≤4∧(∀ r,r∈x.1→r.path∈ruleL)∧p≤x.2∧x.2≤p+9) (E:=fun x=>.sl false (x.1.map ruleV)) (H':=fun x=>[(1000,(g,.agg [.sl false (b.map u8V),iN x.2]))]) Tryz.func128 (by kernel_rfl) rfl rfl rfl (by kernel_rfl) [(1000,(0,.dead))] (by intro _ k hk; simpa [lk] using hk)
  (.r 1 [] <| .bs <| .r 1 [] <| .r 1 [] <| .cx (pick_c b p g 5) [(1000,1000)] (fun (x2_1:Nat)=>.r 1 [] <| .h (.own0 3 2) <| .loop (Nat×(List Rul)×Nat×Nat×Nat×Nat) (fun (n,e,q,u,f,k)=>⟨[(0,.ptr (.key 1000) [] g 0),(3,.own 2 (e.map ruleV) u f k),(4,iN n)],[(1000,(g,.agg [.sl false (b.map u8V),iN q]))]⟩) (fun (n,e,q,u,f,k)=>l71Rules_k0 b p g n e q u f k) (fun (n,e,q,u,f,k)=>n) (fun (n,e,q,u,f,k)=>.r 2 [] <| .br (.r 2 [] <| .cx (pick_c b q g 2) [(1000,1000)] (fun (x5_2:Nat)=>.r 2 [] <| .cx (l71Rule_c b (q+1) g) [(1000,1000)] (fun (x5_5:List UInt8)=>.bd zt68 <| .bs <| .ap (fun g20 o20 c20=>.h (.eqt 20 (.own 2 ((e++[(⟨eqB (x5_2:Int) 0,x5_5⟩:Rul)]).map ruleV) g20 o20 c20)) <| .r 1 [] <| .r 2 [] <| .h (.eqt 11 (iN (n - 1))) <| .r 1 [] <| .nil)))) (.r 2 [] <| .h (.claim 2) <| .h (.fz 2) <| .h (.eqt 2 (.sl false (e.map ruleV))) <| .nil))))
  (True∧True∧True∧(pick_c b p g 5).sm∧(((((g,.agg [.sl false (b.map u8V),iN p])):Nat×V)=(g,.agg [.sl false (b.map u8V),iN p]))∧True)∧((b.length≤2000)∧(p≤1000000)∧(5≤1000000))∧∀ x2_1:Nat,(5=0∧x2_1=0∨x2_1 < 5)→True∧(∃ x:Nat×(List Rul)×Nat×Nat×Nat×Nat,match x with | (n₀,e₀,q₀,u₀,f₀,k₀)=>(l71Rules_k0 b p g n₀ e₀ q₀ u₀ f₀ k₀)∧(E (.ptr (.key 1000) [] g 0)∧Q (.own 2 ([].map ruleV) 0 0 0) (.own 2 (e₀.map ruleV) u₀ f₀ k₀)∧Q (iN x2_1) (iN n₀)∧True)∧(Qr g (.agg [.sl false (b.map u8V),iN (p+1)]) g (.agg [.sl false (b.map u8V),iN q₀])∧True))∧∀ x:Nat×(List Rul)×Nat×Nat×Nat×Nat,match x with | (n,e,q,u,f,k)=>(l71Rules_k0 b p g n e q u f k)→True∧Br (gtB (n:Int) 0) (True∧(pick_c b q g 2).sm∧(((((g,.agg [.sl false (b.map u8V),iN q])):Nat×V)=(g,.agg [.sl false (b.map u8V),iN q]))∧True)∧((b.length≤2000)∧(q≤1000000)∧(2≤1000000))∧∀ x5_2:Nat,(2=0∧x5_2=0∨x5_2 < 2)→(fun v1:Bool=>True∧(l71Rule_c b (q+1) g).sm∧(((((g,.agg [.sl false (b.map u8V),iN (q+1)])):Nat×V)=(g,.agg [.sl false (b.map u8V),iN (q+1)]))∧True)∧((b.length≤2000)∧((q+1)≤1000000))∧∀ x5_5:List UInt8,(x5_5∈ruleL)→(fun v2:List V=>((2,2,u,f,k,(e.map ruleV).length)=(2,2,u,f,k,(e.map ruleV).length))∧(True)∧(V.ownsL v2=false)∧(AllN 2 v2)∧(((e.map ruleV).length+v2.length) * 24≤140737488355328)∧∀ g20 o20 c20:Nat,((.own 2 ((e.map ruleV)++v2) g20 o20 c20:V)=.own 2 ((e++[(⟨eqB (x5_2:Int) 0,x5_5⟩:Rul)]).map ruleV) g20 o20 c20)∧True∧(I64 ((n:Int) - 1)∧True)∧Q (iV ((n:Int) - 1)) (iN (n - 1))∧True∧∃ x:Nat×(List Rul)×Nat×Nat×Nat×Nat,match x with | (n₂,e₂,q₂,u₂,f₂,k₂)=>(l71Rules_k0 b p g n₂ e₂ q₂ u₂ f₂ k₂)∧(n₂ < n)∧(E (.ptr (.key 1000) [] g 0)∧Q (.own 2 ((e++[(⟨eqB (x5_2:Int) 0,x5_5⟩:Rul)]).map ruleV) g20 o20 c20) (.own 2 (e₂.map ruleV) u₂ f₂ k₂)∧Q (iN (n - 1)) (iN n₂)∧True)∧(Qr g (.agg [.sl false (b.map u8V),iN ((q+1)+1)]) g (.agg [.sl false (b.map u8V),iN q₂])∧True)) ([.agg [bV v1,sV x5_5]]:List V)) (eqB (x5_2:Int) 0)) (True∧((2,u,f,k,(e.map ruleV).length)=(2,u,f,k,(e.map ruleV).length))∧((.sl false (V.erL (e.map ruleV)):V)=.sl false (e.map ruleV))∧True∧∃ x:List Rul×Nat,(x.1.length≤4∧(∀ r,r∈x.1→r.path∈ruleL)∧p≤x.2∧x.2≤p+9)∧Q (.sl false (e.map ruleV)) (.sl false (x.1.map ruleV))∧(Qr g (.agg [.sl false (b.map u8V),iN q]) g (.agg [.sl false (b.map u8V),iN x.2])∧True)))
  (by kernel_rfl) ?_
 refine ⟨trivial,trivial,trivial,rfl,⟨rfl,trivial⟩,⟨by first | assumption | omega | (simp; omega),by first | assumption | omega | (simp; omega),by first | assumption | omega | (simp; omega)⟩,?_⟩
 intro x2_1 hx2_1
 refine ⟨trivial,?_⟩
 refine ⟨⟨(x2_1,[],p+1,0,0,0),?_,⟨rfl,rfl,rfl,trivial⟩,⟨rfl,trivial⟩⟩,?_⟩
 · unfold l71Rules_k0
   simp; omega
 rintro ⟨n,e,q,u,f,k⟩ ⟨h1,h2,h3,h4⟩
 refine ⟨trivial,?_⟩
 refine ⟨fun hb1=>?_,fun hb1=>?_⟩
 · try simp only [nb] at hb1
   refine ⟨trivial,rfl,⟨rfl,trivial⟩,⟨by first | assumption | omega | (simp; omega),by first | assumption | omega | (simp; omega),by first | assumption | omega | (simp; omega)⟩,?_⟩
   intro x5_2 hx5_2
   refine ⟨trivial,rfl,⟨rfl,trivial⟩,⟨by first | assumption | omega | (simp; omega),by first | assumption | omega | (simp; omega)⟩,?_⟩
   intro x5_5 hx5_5
   refine ⟨rfl,trivial,rfl,by simp [AllN,V.n,V.ns],by simp; omega,?_⟩
   intro g20 o20 c20
   refine ⟨congrArg (V.own 2 · g20 o20 c20) (by simp),trivial,⟨by omega,trivial⟩,by simp [Q]; omega,trivial,?_⟩
   refine ⟨(n - 1,e++[(⟨eqB (x5_2:Int) 0,x5_5⟩:Rul)],q+2,g20,o20,c20),?_,?_,⟨rfl,rfl,rfl,trivial⟩,⟨by first | rfl | simp | (simp; omega),trivial⟩⟩
   · unfold l71Rules_k0
     refine ⟨by simp; omega,?_,by omega,by omega⟩
     intro r hr
     rcases List.mem_append.1 hr with h | h
     · exact h2 r h
     · rw [List.mem_singleton.1 h]; exact hx5_5
   · first | (simp; done) | omega | (simp; omega)
 · try simp only [nb] at hb1
   refine ⟨trivial,rfl,congrArg (V.sl false) (erL_map_id (fun _=>rfl) _),?_⟩
   refine ⟨trivial,(e,q),?_,?_,?_⟩
   · try dsimp only
     exact ⟨by omega,h2,by omega,by omega⟩
   · first | rfl | simp_all
   · first | exact ⟨rfl,trivial⟩ | trivial | simp_all
def l71Rules_c (b:List UInt8) (p:Nat) (g:Nat):ConX Tryz.prog:={ X:=List Rul×Nat,f:=128,args:=[.ptr (.key 1000) [] g 0],H:=[(1000,(g,.agg [.sl false (b.map u8V),iN p]))],pre:=(b.length≤2000)∧(p≤900000),post:=fun x=>x.1.length≤4∧(∀ r,r∈x.1→r.path∈ruleL)∧p≤x.2∧x.2≤p+9,res:=fun x=>.sl false (x.1.map ruleV),H':=fun x=>[(1000,(g,.agg [.sl false (b.map u8V),iN x.2]))],ok:=fun h=>l71Rules_ok b p g h.1 h.2 }
abbrev l71Groups_k0 (b:List UInt8) (p:Nat) (g:Nat) (n:Nat) (e:List Grp) (q:Nat) (u:Nat) (f:Nat) (k:Nat):Prop:=e.length+n≤3∧(∀ y,y∈e→GrpOk y)∧p≤q∧q+15 * n≤p+50
theorem l71Groups_ok (b:List UInt8) (p g:Nat) (hb:b.length≤2000) (hp:p≤800000):PF Tryz.prog 90 [.ptr (.key 1000) [] g 0] [(1000,(g,.agg [.sl false (b.map u8V),iN p]))] (fun r h=> ∃ x:List Grp×Nat,(x.1.length≤4∧(∀ y,y∈x.1→GrpOk y)∧p≤x.2∧x.2≤p+60)∧r=(.sl false (x.1.map grpV))∧h=[(1000,(g,.agg [.sl false (b.map u8V),iN x.2]))]):=by
 refine PF_go (N:=72) (rs:=[.tmp 2]) (X:=List Grp×Nat) (post:=fun x=>x.1.length≤4∧(∀ y,y∈x.1→GrpOk y)∧p≤x.2∧x.2≤p+60) (E:=fun x=>.sl false (x.1.map grpV)) (H':=fun x=>[(1000,(g,.agg [.sl false (b.map u8V),iN x.2]))]) Tryz.func90 (by kernel_rfl) rfl rfl rfl (by kernel_rfl) [(1000,(0,.dead))] (by intro _ k hk; simpa [lk] using hk)
  (.r 1 [] <| .bs <| .r 1 [] <| .r 1 [] <| .cx (pick_c b p g 4) [(1000,1000)] (fun (x2_1:Nat)=>.r 1 [] <| .h (.own0 3 3) <| .loop (Nat×(List Grp)×Nat×Nat×Nat×Nat) (fun (n,e,q,u,f,k)=>⟨[(0,.ptr (.key 1000) [] g 0),(3,.own 3 (e.map grpV) u f k),(4,iN n)],[(1000,(g,.agg [.sl false (b.map u8V),iN q]))]⟩) (fun (n,e,q,u,f,k)=>l71Groups_k0 b p g n e q u f k) (fun (n,e,q,u,f,k)=>n) (fun (n,e,q,u,f,k)=>.r 2 [] <| .br (.r 1 [] <| .bs <| .cx (of_c b q g ([([42]:List UInt8),([114,111,118,101,114]:List UInt8),([115,99,111,117,116]:List UInt8)]:List (List UInt8))) [(1000,1000)] (fun (x5_2:List UInt8)=>.bs <| .r 1 [] <| .cx (l71Rules_c b (q+1) g) [(1000,1000)] (fun (x5_5:List Rul×Nat)=>.r 1 [] <| .cx (pick_c b x5_5.2 g 4) [(1000,1000)] (fun (x5_7:Nat)=>.r 1 [] <| .cx (pick_c b (x5_5.2+1) g 3) [(1000,1000)] (fun (x5_9:Nat)=>.r 1 [] <| .bd zt36 <| .al zt36 (fun g5=>.st none <| .r 1 [] <| .cx (pick_c b ((x5_5.2+1)+1) g 4) [(1000,1000)] (fun (x6_1:Nat)=>.r 1 [] <| .join (List (List UInt8)×Nat) (fun y=>⟨[(0,.ptr (.key 1000) [] g 0),(3,.own 3 (e.map grpV) u f k),(4,iN n),(5,.ptr (.key 5) [] g5 0)],[(1000,(g,.agg [.sl false (b.map u8V),iN y.2])),(5,(g5,.agg [.sl false (y.1.map sV),.sl false (x5_5.1.map ruleV),iN (x5_7 * x5_9)]))]⟩) (fun y=>y.1.length≤2∧(∀ x,x∈y.1→x.length≤5)∧q≤y.2∧y.2≤q+15) (.dx 7 [0,1,2,3,4,5,6] [(1,⟨false,[],some [5],[29],[]⟩),(4,⟨true,[],some [1000],[32],[1000]⟩),(6,⟨true,[],none,[34],[]⟩)] [] <| .r 1 [] <| .r 1 [.dead] <| .r 1 [] <| .bs <| .cx (of_c b (((x5_5.2+1)+1)+1) g ([([42]:List UInt8),([114,111,118,101,114]:List UInt8),([120]:List UInt8)]:List (List UInt8))) [(1000,1000)] (fun (x7_4:List UInt8)=>.bs <| .ux none (fun g34 o34 c34=>.h (.eqt 34 (.own 1 ([x5_2,x7_4].map sV) g34 o34 c34)) <| .r 1 [] <| .h (.fz 34) <| .h (.eqt 34 (.sl false ([x5_2,x7_4].map sV))) <| .st none <| .nil))) (.nil) (fun y=>.r 9 [.dead,.dead] <| .br (.r 2 [.dead] <| .bs <| .ap (fun g48 o48 c48=>.h (.eqt 48 (.own 3 ((e++[(⟨y.1,x5_5.1,x5_7 * x5_9⟩:Grp)]).map grpV) g48 o48 c48)) <| .r 1 [] <| .r 2 [] <| .h (.eqt 12 (iN (n - 1))) <| .r 1 [] <| .nil)) (.r 2 [] <| .h (.eqt 12 (iN (n - 1))) <| .r 1 [] <| .nil))))))))) (.r 1 [] <| .cx (pick_c b q g 24) [(1000,1000)] (fun (x10_1:Nat)=>.r 2 [] <| .br (.r 1 [] <| .bs <| .bd zt36 <| .h (.wkt 55 (.agg [.sl false ([[120]].map sV),.sl false ([].map ruleV),iN 0])) <| .bs <| .ap (fun g57 o57 c57=>.h (.eqt 57 (.own 3 ((e++[(⟨[[120]],[],0⟩:Grp)]).map grpV) g57 o57 c57)) <| .r 1 [] <| .r 2 [] <| .h (.claim 2) <| .h (.fz 2) <| .h (.eqt 2 (.sl false ((e++[(⟨[[120]],[],0⟩:Grp)]).map grpV))) <| .nil)) (.r 2 [] <| .br (.r 1 [] <| .bd zt36 <| .h (.wkt 61 (.agg [.sl false ([].map sV),.sl false ([].map ruleV),iN 2])) <| .bs <| .ap (fun g63 o63 c63=>.h (.eqt 63 (.own 3 ((e++[(⟨[],[],2⟩:Grp)]).map grpV) g63 o63 c63)) <| .r 1 [] <| .r 2 [] <| .h (.claim 2) <| .h (.fz 2) <| .h (.eqt 2 (.sl false ((e++[(⟨[],[],2⟩:Grp)]).map grpV))) <| .nil)) (.r 2 [] <| .br (.r 1 [] <| .bs <| .bd zt36 <| .h (.wkt 68 (.agg [.sl false ([[88]].map sV),.sl false ([].map ruleV),iN 2])) <| .bs <| .ap (fun g70 o70 c70=>.h (.eqt 70 (.own 3 ((e++[(⟨[[88]],[],2⟩:Grp)]).map grpV) g70 o70 c70)) <| .r 1 [] <| .r 2 [] <| .h (.claim 2) <| .h (.fz 2) <| .h (.eqt 2 (.sl false ((e++[(⟨[[88]],[],2⟩:Grp)]).map grpV))) <| .nil)) (.r 2 [] <| .h (.claim 2) <| .h (.fz 2) <| .h (.eqt 2 (.sl false (e.map grpV))) <| .nil))))))))
  ((fun v1:List UInt8=>(fun v2:List V=>(fun v3:List V=>(fun v4:List V=>(fun v5:List UInt8=>(fun v6:List UInt8=>(fun v7:V=>(fun v8:List UInt8=>(True∧True∧True∧(pick_c b p g 4).sm∧(((((g,.agg [.sl false (b.map u8V),iN p])):Nat×V)=(g,.agg [.sl false (b.map u8V),iN p]))∧True)∧((b.length≤2000)∧(p≤1000000)∧(4≤1000000))∧∀ x2_1:Nat,(4=0∧x2_1=0∨x2_1 < 4)→True∧(∃ x:Nat×(List Grp)×Nat×Nat×Nat×Nat,match x with | (n₀,e₀,q₀,u₀,f₀,k₀)=>(l71Groups_k0 b p g n₀ e₀ q₀ u₀ f₀ k₀)∧(E v7∧Q (.own 3 ([].map grpV) 0 0 0) (.own 3 (e₀.map grpV) u₀ f₀ k₀)∧Q (iN x2_1) (iN n₀)∧True)∧(Qr g (.agg [.sl false (b.map u8V),iN (p+1)]) g (.agg [.sl false (b.map u8V),iN q₀])∧True))∧∀ x:Nat×(List Grp)×Nat×Nat×Nat×Nat,match x with | (n,e,q,u,f,k)=>(l71Groups_k0 b p g n e q u f k)→(fun v9:V=>(fun v10:V=>True∧Br (gtB (n:Int) 0) (True∧(of_c b q g ([v5,v1,v6]:List (List UInt8))).sm∧(((((g,.agg [.sl false (b.map u8V),iN q])):Nat×V)=(g,.agg [.sl false (b.map u8V),iN q]))∧True)∧((b.length≤2000)∧(q≤1000000)∧(1≤([v5,v1,v6]:List (List UInt8)).length)∧(([v5,v1,v6]:List (List UInt8)).length≤1000))∧∀ x5_2:List UInt8,(x5_2∈([v5,v1,v6]:List (List UInt8)))→True∧(l71Rules_c b (q+1) g).sm∧(((((g,.agg [.sl false (b.map u8V),iN (q+1)])):Nat×V)=(g,.agg [.sl false (b.map u8V),iN (q+1)]))∧True)∧((b.length≤2000)∧((q+1)≤900000))∧∀ x5_5:List Rul×Nat,(x5_5.1.length≤4∧(∀ r,r∈x5_5.1→r.path∈ruleL)∧(q+1)≤x5_5.2∧x5_5.2≤(q+1)+9)→(fun v11:Bool=>(fun v12:Bool=>True∧(pick_c b x5_5.2 g 4).sm∧(((((g,.agg [.sl false (b.map u8V),iN x5_5.2])):Nat×V)=(g,.agg [.sl false (b.map u8V),iN x5_5.2]))∧True)∧((b.length≤2000)∧(x5_5.2≤1000000)∧(4≤1000000))∧∀ x5_7:Nat,(4=0∧x5_7=0∨x5_7 < 4)→True∧(pick_c b (x5_5.2+1) g 3).sm∧(((((g,.agg [.sl false (b.map u8V),iN (x5_5.2+1)])):Nat×V)=(g,.agg [.sl false (b.map u8V),iN (x5_5.2+1)]))∧True)∧((b.length≤2000)∧((x5_5.2+1)≤1000000)∧(3≤1000000))∧∀ x5_9:Nat,(3=0∧x5_9=0∨x5_9 < 3)→(I64 ((x5_7:Int) * (x5_9:Int))∧True)∧∀ g5:Nat,Z g5 0∧True∧(pick_c b ((x5_5.2+1)+1) g 4).sm∧(((((g,.agg [.sl false (b.map u8V),iN ((x5_5.2+1)+1)])):Nat×V)=(g,.agg [.sl false (b.map u8V),iN ((x5_5.2+1)+1)]))∧True)∧((b.length≤2000)∧(((x5_5.2+1)+1)≤1000000)∧(4≤1000000))∧∀ x6_1:Nat,(4=0∧x6_1=0∨x6_1 < 4)→True∧((eqB (x6_1:Int) 0)=true→True∧(Z g5 0∧True)∧True∧(of_c b (((x5_5.2+1)+1)+1) g ([v5,v1,v8]:List (List UInt8))).sm∧(((((g,.agg [.sl false (b.map u8V),iN (((x5_5.2+1)+1)+1)])):Nat×V)=(g,.agg [.sl false (b.map u8V),iN (((x5_5.2+1)+1)+1)]))∧True)∧((b.length≤2000)∧((((x5_5.2+1)+1)+1)≤1000000)∧(1≤([v5,v1,v8]:List (List UInt8)).length)∧(([v5,v1,v8]:List (List UInt8)).length≤1000))∧∀ x7_4:List UInt8,(x7_4∈([v5,v1,v8]:List (List UInt8)))→(fun v13:List V=>(((AllN 1 [sV x5_2]∧0 < v13.length))∧(V.ownsL v13=false)∧(AllN 1 v13)∧((([sV x5_2]:List V).length+v13.length) * 16≤140737488355328))∧∀ g34 o34 c34:Nat,((.own 1 (([sV x5_2]:List V)++v13) g34 o34 c34:V)=.own 1 ([x5_2,x7_4].map sV) g34 o34 c34)∧True∧((.sl false (V.erL ([x5_2,x7_4].map sV)):V)=.sl false ([x5_2,x7_4].map sV))∧Z g5 0∧∃ y:List (List UInt8)×Nat,(y.1.length≤2∧(∀ x,x∈y.1→x.length≤5)∧q≤y.2∧y.2≤q+15)∧(E v7∧E v10∧E (iN n)∧E (.ptr (.key 5) [] g5 0)∧True)∧(Qr g (.agg [.sl false (b.map u8V),iN ((((x5_5.2+1)+1)+1)+1)]) g (.agg [.sl false (b.map u8V),iN y.2])∧Qr g5 (.agg [.sl false ([x5_2,x7_4].map sV),.sl false (x5_5.1.map ruleV),iN (x5_7 * x5_9)]) g5 (.agg [.sl false (y.1.map sV),.sl false (x5_5.1.map ruleV),iN (x5_7 * x5_9)])∧True)) ([sV x7_4]:List V))∧((eqB (x6_1:Int) 0)=false→∃ y:List (List UInt8)×Nat,(y.1.length≤2∧(∀ x,x∈y.1→x.length≤5)∧q≤y.2∧y.2≤q+15)∧(E v7∧E v10∧E (iN n)∧E (.ptr (.key 5) [] g5 0)∧True)∧(Qr g (.agg [.sl false (b.map u8V),iN (((x5_5.2+1)+1)+1)]) g (.agg [.sl false (b.map u8V),iN y.2])∧Qr g5 (.agg [.sl false [sV x5_2],.sl false (x5_5.1.map ruleV),iN (x5_7 * x5_9)]) g5 (.agg [.sl false (y.1.map sV),.sl false (x5_5.1.map ruleV),iN (x5_7 * x5_9)])∧True))∧(∀ y:List (List UInt8)×Nat,(y.1.length≤2∧(∀ x,x∈y.1→x.length≤5)∧q≤y.2∧y.2≤q+15)→(fun v14:List V=>(Z g5 1∧Gd v12 (True∧True)∧Gd v12 ((Gd v12 (v12=true)∧True)∧Z g5 2)∧Gd v12 ((Gd v12 (v12=true)∧True)∧True)∧Pk v11 true v12∧True)∧Br (v11||(gtB ((x5_7 * x5_9:Nat):Int) 0)) ((Z g5 0∧True)∧((3,3,u,f,k,(e.map grpV).length)=(3,3,u,f,k,(e.map grpV).length))∧(True)∧(V.ownsL v14=false)∧(AllN 3 v14)∧(((e.map grpV).length+v14.length) * 56≤140737488355328)∧∀ g48 o48 c48:Nat,((.own 3 ((e.map grpV)++v14) g48 o48 c48:V)=.own 3 ((e++[(⟨y.1,x5_5.1,x5_7 * x5_9⟩:Grp)]).map grpV) g48 o48 c48)∧True∧(I64 ((n:Int) - 1)∧True)∧Q (iV ((n:Int) - 1)) (iN (n - 1))∧True∧∃ x:Nat×(List Grp)×Nat×Nat×Nat×Nat,match x with | (n₂,e₂,q₂,u₂,f₂,k₂)=>(l71Groups_k0 b p g n₂ e₂ q₂ u₂ f₂ k₂)∧(n₂ < n)∧(E v7∧Q (.own 3 ((e++[(⟨y.1,x5_5.1,x5_7 * x5_9⟩:Grp)]).map grpV) g48 o48 c48) (.own 3 (e₂.map grpV) u₂ f₂ k₂)∧Q (iN (n - 1)) (iN n₂)∧True)∧(Qr g (.agg [.sl false (b.map u8V),iN y.2]) g (.agg [.sl false (b.map u8V),iN q₂])∧True)) ((I64 ((n:Int) - 1)∧True)∧Q (iV ((n:Int) - 1)) (iN (n - 1))∧True∧∃ x:Nat×(List Grp)×Nat×Nat×Nat×Nat,match x with | (n₂,e₂,q₂,u₂,f₂,k₂)=>(l71Groups_k0 b p g n₂ e₂ q₂ u₂ f₂ k₂)∧(n₂ < n)∧(E v7∧Q v10 (.own 3 (e₂.map grpV) u₂ f₂ k₂)∧Q (iN (n - 1)) (iN n₂)∧True)∧(Qr g (.agg [.sl false (b.map u8V),iN y.2]) g (.agg [.sl false (b.map u8V),iN q₂])∧True))) ([.agg [.sl false (y.1.map sV),.sl false (x5_5.1.map ruleV),iN (x5_7 * x5_9)]]:List V))) (v11==false)) (gtB (((x5_5.1.map ruleV).length:Nat):Int) 0)) (True∧(pick_c b q g 24).sm∧(((((g,.agg [.sl false (b.map u8V),iN q])):Nat×V)=(g,.agg [.sl false (b.map u8V),iN q]))∧True)∧((b.length≤2000)∧(q≤1000000)∧(24≤1000000))∧∀ x10_1:Nat,(24=0∧x10_1=0∨x10_1 < 24)→True∧Br (eqB (x10_1:Int) 0) (True∧((3,3,u,f,k,(e.map grpV).length)=(3,3,u,f,k,(e.map grpV).length))∧(True)∧(V.ownsL v2=false)∧(AllN 3 v2)∧(((e.map grpV).length+v2.length) * 56≤140737488355328)∧∀ g57 o57 c57:Nat,((.own 3 ((e.map grpV)++v2) g57 o57 c57:V)=.own 3 ((e++[(⟨[[120]],[],0⟩:Grp)]).map grpV) g57 o57 c57)∧True∧True∧((3,g57,o57,c57,((e++[(⟨[[120]],[],0⟩:Grp)]).map grpV).length)=(3,g57,o57,c57,((e++[(⟨[[120]],[],0⟩:Grp)]).map grpV).length))∧((.sl false (V.erL ((e++[(⟨[[120]],[],0⟩:Grp)]).map grpV)):V)=.sl false ((e++[(⟨[[120]],[],0⟩:Grp)]).map grpV))∧True∧∃ x:List Grp×Nat,(x.1.length≤4∧(∀ y,y∈x.1→GrpOk y)∧p≤x.2∧x.2≤p+60)∧Q (.sl false ((e++[(⟨[[120]],[],0⟩:Grp)]).map grpV)) (.sl false (x.1.map grpV))∧(Qr g v9 g (.agg [.sl false (b.map u8V),iN x.2])∧True)) (True∧Br (eqB (x10_1:Int) 1) (True∧((3,3,u,f,k,(e.map grpV).length)=(3,3,u,f,k,(e.map grpV).length))∧(True)∧(V.ownsL v4=false)∧(AllN 3 v4)∧(((e.map grpV).length+v4.length) * 56≤140737488355328)∧∀ g63 o63 c63:Nat,((.own 3 ((e.map grpV)++v4) g63 o63 c63:V)=.own 3 ((e++[(⟨[],[],2⟩:Grp)]).map grpV) g63 o63 c63)∧True∧True∧((3,g63,o63,c63,((e++[(⟨[],[],2⟩:Grp)]).map grpV).length)=(3,g63,o63,c63,((e++[(⟨[],[],2⟩:Grp)]).map grpV).length))∧((.sl false (V.erL ((e++[(⟨[],[],2⟩:Grp)]).map grpV)):V)=.sl false ((e++[(⟨[],[],2⟩:Grp)]).map grpV))∧True∧∃ x:List Grp×Nat,(x.1.length≤4∧(∀ y,y∈x.1→GrpOk y)∧p≤x.2∧x.2≤p+60)∧Q (.sl false ((e++[(⟨[],[],2⟩:Grp)]).map grpV)) (.sl false (x.1.map grpV))∧(Qr g v9 g (.agg [.sl false (b.map u8V),iN x.2])∧True)) (True∧Br (eqB (x10_1:Int) 2) (True∧((3,3,u,f,k,(e.map grpV).length)=(3,3,u,f,k,(e.map grpV).length))∧(True)∧(V.ownsL v3=false)∧(AllN 3 v3)∧(((e.map grpV).length+v3.length) * 56≤140737488355328)∧∀ g70 o70 c70:Nat,((.own 3 ((e.map grpV)++v3) g70 o70 c70:V)=.own 3 ((e++[(⟨[[88]],[],2⟩:Grp)]).map grpV) g70 o70 c70)∧True∧True∧((3,g70,o70,c70,((e++[(⟨[[88]],[],2⟩:Grp)]).map grpV).length)=(3,g70,o70,c70,((e++[(⟨[[88]],[],2⟩:Grp)]).map grpV).length))∧((.sl false (V.erL ((e++[(⟨[[88]],[],2⟩:Grp)]).map grpV)):V)=.sl false ((e++[(⟨[[88]],[],2⟩:Grp)]).map grpV))∧True∧∃ x:List Grp×Nat,(x.1.length≤4∧(∀ y,y∈x.1→GrpOk y)∧p≤x.2∧x.2≤p+60)∧Q (.sl false ((e++[(⟨[[88]],[],2⟩:Grp)]).map grpV)) (.sl false (x.1.map grpV))∧(Qr g v9 g (.agg [.sl false (b.map u8V),iN x.2])∧True)) (True∧((3,u,f,k,(e.map grpV).length)=(3,u,f,k,(e.map grpV).length))∧((.sl false (V.erL (e.map grpV)):V)=.sl false (e.map grpV))∧True∧∃ x:List Grp×Nat,(x.1.length≤4∧(∀ y,y∈x.1→GrpOk y)∧p≤x.2∧x.2≤p+60)∧Q (.sl false (e.map grpV)) (.sl false (x.1.map grpV))∧(Qr g v9 g (.agg [.sl false (b.map u8V),iN x.2])∧True)))))) (.own 3 (e.map grpV) u f k)) (.agg [.sl false (b.map u8V),iN (q+1)]))) ([120]:List UInt8)) (.ptr (.key 1000) [] g 0)) ([115,99,111,117,116]:List UInt8)) ([42]:List UInt8)) ([.agg [.sl false ([].map sV),.sl false ([].map ruleV),iN 2]]:List V)) ([.agg [.sl false ([[88]].map sV),.sl false ([].map ruleV),iN 2]]:List V)) ([.agg [.sl false ([[120]].map sV),.sl false ([].map ruleV),iN 0]]:List V)) ([114,111,118,101,114]:List UInt8))
  (by kernel_rfl) ?_
 refine ⟨trivial,trivial,trivial,rfl,⟨rfl,trivial⟩,⟨by omega,by omega,by omega⟩,?_⟩
 intro x2_1 hx2_1
 refine ⟨trivial,?_⟩
 refine ⟨⟨(x2_1,[],p+1,0,0,0),?_,⟨rfl,rfl,rfl,trivial⟩,⟨rfl,trivial⟩⟩,?_⟩
 · unfold l71Groups_k0
   simp; omega
 rintro ⟨n,e,q,u,f,k⟩ ⟨h1,h2,h3,h4⟩
 refine ⟨trivial,?_⟩
 refine ⟨fun hb1=>?_,fun hb1=>?_⟩
 · try simp only [nb] at hb1
   refine ⟨trivial,rfl,⟨rfl,trivial⟩,⟨by omega,by omega,by simp,by simp⟩,?_⟩
   intro x5_2 hx5_2
   refine ⟨trivial,rfl,⟨rfl,trivial⟩,⟨by omega,by omega⟩,?_⟩
   intro x5_5 hx5_5
   refine ⟨trivial,rfl,⟨rfl,trivial⟩,⟨by omega,by omega,by omega⟩,?_⟩
   intro x5_7 hx5_7
   refine ⟨trivial,rfl,⟨rfl,trivial⟩,⟨by omega,by omega,by omega⟩,?_⟩
   intro x5_9 hx5_9
   refine ⟨⟨by have:=Nat.mul_le_mul (show x5_7≤3 by omega) (show x5_9≤2 by omega); omega,trivial⟩,?_⟩
   intro g5
   refine ⟨rfl,trivial,rfl,⟨rfl,trivial⟩,⟨by omega,by omega,by omega⟩,?_⟩
   intro x6_1 hx6_1
   refine ⟨trivial,?_⟩
   refine ⟨fun hb2=>?_,fun hb2=>?_,fun y hy=>?_⟩
   · try simp only [nb] at hb2
     refine ⟨trivial,⟨rfl,trivial⟩,trivial,rfl,⟨rfl,trivial⟩,⟨by omega,by omega,by simp,by simp⟩,?_⟩
     intro x7_4 hx7_4
     refine ⟨⟨⟨by simp [AllN,V.n,V.ns],by simp⟩,rfl,by simp [AllN,V.n,V.ns],by simp⟩,?_⟩
     intro g34 o34 c34
     refine ⟨congrArg (V.own 1 · g34 o34 c34) (by simp),trivial,congrArg (V.sl false) (erL_map_id (fun _=>rfl) _),rfl,?_⟩
     exact ⟨([x5_2,x7_4],(((x5_5.2+1)+1)+1)+1),⟨by simp,fun x hx=>(List.mem_cons.1 hx).elim (fun h=>h ▸ len_mem rfl hx5_2) fun h=>List.mem_singleton.1 h ▸ len_mem rfl hx7_4,by omega,by omega⟩,⟨rfl,rfl,rfl,rfl,trivial⟩,⟨by first | rfl | simp | (simp; omega),by first | rfl | simp | (simp; omega),trivial⟩⟩
   · try simp only [nb] at hb2
     exact ⟨([x5_2],((x5_5.2+1)+1)+1),⟨by simp,fun x hx=>List.mem_singleton.1 hx ▸ len_mem rfl hx5_2,by omega,by omega⟩,⟨rfl,rfl,rfl,rfl,trivial⟩,⟨by first | rfl | simp | (simp; omega),by first | rfl | simp | (simp; omega),trivial⟩⟩
   refine ⟨⟨rfl,fun hG=>⟨trivial,trivial⟩,fun hG=>⟨⟨fun h=>h,trivial⟩,rfl⟩,fun hG=>⟨⟨fun h=>h,trivial⟩,trivial⟩,⟨fun _=>rfl,fun h=>by first | (rw [h]; done) | (rw [h]; rfl)⟩,trivial⟩,?_⟩
   refine ⟨fun hb3=>?_,fun hb3=>?_⟩
   · try simp only [nb,List.length_map] at hb3
     refine ⟨⟨rfl,trivial⟩,rfl,trivial,rfl,by simp [AllN,V.n,V.ns],by simp; omega,?_⟩
     intro g48 o48 c48
     refine ⟨congrArg (V.own 3 · g48 o48 c48) (by simp),trivial,⟨by omega,trivial⟩,by simp [Q]; omega,trivial,?_⟩
     refine ⟨(n - 1,e++[(⟨y.1,x5_5.1,x5_7 * x5_9⟩:Grp)],y.2,g48,o48,c48),?_,?_,⟨rfl,rfl,rfl,trivial⟩,⟨rfl,trivial⟩⟩
     · unfold l71Groups_k0
       refine ⟨by simp; omega,all_app h2 ⟨hy.1,hy.2.1,hx5_5.1,hx5_5.2.1,?_⟩,by omega,by omega⟩
       exact Nat.mul_le_mul (show x5_7≤3 by omega) (show x5_9≤2 by omega)
     · first | (simp; done) | omega | (simp; omega)
   · try simp only [nb,List.length_map] at hb3
     refine ⟨⟨by omega,trivial⟩,by simp [Q]; omega,trivial,?_⟩
     refine ⟨(n - 1,e,y.2,u,f,k),?_,?_,⟨rfl,rfl,rfl,trivial⟩,⟨rfl,trivial⟩⟩
     · unfold l71Groups_k0
       exact ⟨by omega,h2,by omega,by omega⟩
     · first | (simp; done) | omega | (simp; omega)
 · try simp only [nb] at hb1
   refine ⟨trivial,rfl,⟨rfl,trivial⟩,⟨by omega,by omega,by omega⟩,?_⟩
   intro x10_1 hx10_1
   refine ⟨trivial,?_⟩
   refine ⟨fun hb4=>?_,fun hb4=>?_⟩
   · try simp only [nb] at hb4
     refine ⟨trivial,rfl,trivial,rfl,by simp [AllN,V.n,V.ns],by simp; omega,?_⟩
     intro g57 o57 c57
     refine ⟨congrArg (V.own 3 · g57 o57 c57) (by simp),trivial,trivial,rfl,congrArg (V.sl false) (erL_map_id (fun _=>rfl) _),?_⟩
     refine ⟨trivial,(e++[(⟨[[120]],[],0⟩:Grp)],q+1),?_,?_,?_⟩
     · try dsimp only
       exact ⟨by simp; omega,all_app h2 ⟨by simp,by simp,by simp,by simp,by simp⟩,by omega,by omega⟩
     · first | rfl | simp_all
     · first | exact ⟨rfl,trivial⟩ | trivial | simp_all
   · try simp only [nb] at hb4
     refine ⟨trivial,?_⟩
     refine ⟨fun hb5=>?_,fun hb5=>?_⟩
     · try simp only [nb] at hb5
       refine ⟨trivial,rfl,trivial,rfl,by simp [AllN,V.n,V.ns],by simp; omega,?_⟩
       intro g63 o63 c63
       refine ⟨congrArg (V.own 3 · g63 o63 c63) (by simp),trivial,trivial,rfl,congrArg (V.sl false) (erL_map_id (fun _=>rfl) _),?_⟩
       refine ⟨trivial,(e++[(⟨[],[],2⟩:Grp)],q+1),?_,?_,?_⟩
       · try dsimp only
         exact ⟨by simp; omega,all_app h2 ⟨by simp,by simp,by simp,by simp,by simp⟩,by omega,by omega⟩
       · first | rfl | simp_all
       · first | exact ⟨rfl,trivial⟩ | trivial | simp_all
     · try simp only [nb] at hb5
       refine ⟨trivial,?_⟩
       refine ⟨fun hb6=>?_,fun hb6=>?_⟩
       · try simp only [nb] at hb6
         refine ⟨trivial,rfl,trivial,rfl,by simp [AllN,V.n,V.ns],by simp; omega,?_⟩
         intro g70 o70 c70
         refine ⟨congrArg (V.own 3 · g70 o70 c70) (by simp),trivial,trivial,rfl,congrArg (V.sl false) (erL_map_id (fun _=>rfl) _),?_⟩
         refine ⟨trivial,(e++[(⟨[[88]],[],2⟩:Grp)],q+1),?_,?_,?_⟩
         · try dsimp only
           exact ⟨by simp; omega,all_app h2 ⟨by simp,by simp,by simp,by simp,by simp⟩,by omega,by omega⟩
         · first | rfl | simp_all
         · first | exact ⟨rfl,trivial⟩ | trivial | simp_all
       · try simp only [nb] at hb6
         refine ⟨trivial,rfl,congrArg (V.sl false) (erL_map_id (fun _=>rfl) _),?_⟩
         refine ⟨trivial,(e,q+1),?_,?_,?_⟩
         · try dsimp only
           exact ⟨by omega,h2,by omega,by omega⟩
         · first | rfl | simp_all
         · first | exact ⟨rfl,trivial⟩ | trivial | simp_all
def l71Groups_c (b:List UInt8) (p:Nat) (g:Nat):ConX Tryz.prog:={ X:=List Grp×Nat,f:=90,args:=[.ptr (.key 1000) [] g 0],H:=[(1000,(g,.agg [.sl false (b.map u8V),iN p]))],pre:=(b.length≤2000)∧(p≤800000),post:=fun x=>x.1.length≤4∧(∀ y,y∈x.1→GrpOk y)∧p≤x.2∧x.2≤p+60,res:=fun x=>.sl false (x.1.map grpV),H':=fun x=>[(1000,(g,.agg [.sl false (b.map u8V),iN x.2]))],ok:=fun h=>l71Groups_ok b p g h.1 h.2 }
abbrev l71Addr_k0 (b:List UInt8) (p:Nat) (g:Nat) (n:Nat) (e:List (List UInt8)) (q:Nat) (u:Nat) (f:Nat) (k:Nat):Prop:=e.length+n≤2∧(∀ y,y∈e→y.length≤6∧Asc y)∧p≤q∧q+n≤p+4
theorem l71Addr_ok (b:List UInt8) (p g:Nat) (hb:b.length≤2000) (hp:p≤900000):PF Tryz.prog 58 [.ptr (.key 1000) [] g 0] [(1000,(g,.agg [.sl false (b.map u8V),iN p]))] (fun r h=> ∃ x:List UInt8×Nat,(x.1.length≤25∧p≤x.2∧x.2≤p+6∧Asc x.1)∧r=(sV x.1)∧h=[(1000,(g,.agg [.sl false (b.map u8V),iN x.2]))]):=by
 refine PF_go (N:=35) (rs:=[.tmp 2]) (X:=List UInt8×Nat) (post:=fun x=>x.1.length≤25∧p≤x.2∧x.2≤p+6∧Asc x.1) (E:=fun x=>sV x.1) (H':=fun x=>[(1000,(g,.agg [.sl false (b.map u8V),iN x.2]))]) Tryz.func58 (by kernel_rfl) rfl rfl rfl (by kernel_rfl) [(1000,(0,.dead))] (by intro _ k hk; simpa [lk] using hk)
  (.r 1 [] <| .c (l71Houses_c) [] <| .r 1 [] <| .cx (pick_c b p g 4) [(1000,1000)] (fun (x1_2:Nat)=>.r 2 [sV (housesL.getD x1_2 [])] <| .bd zt29 <| .al zt29 (fun g3=>.st none <| .r 1 [] <| .cx (pick_c b (p+1) g 3) [(1000,1000)] (fun (x2_1:Nat)=>.r 1 [] <| .h (.own0R (.key 3) [1] 1) <| .loop (Nat×(List (List UInt8))×Nat×Nat×Nat×Nat) (fun (n,e,q,u,f,k)=>⟨[(0,.ptr (.key 1000) [] g 0),(3,.ptr (.key 3) [] g3 0),(4,iN n)],[(1000,(g,.agg [.sl false (b.map u8V),iN q])),(3,(g3,.agg [sV (housesL.getD x1_2 []),.own 1 (e.map sV) u f k,bV false,sV []]))]⟩) (fun (n,e,q,u,f,k)=>l71Addr_k0 b p g n e q u f k) (fun (n,e,q,u,f,k)=>n) (fun (n,e,q,u,f,k)=>.r 2 [] <| .br (.dx 7 [0,1,2,3,4,5,6] [(1,⟨false,[],some [3],[18],[]⟩),(4,⟨true,[],some [1000],[21],[1000]⟩),(6,⟨true,[],none,[23],[3]⟩)] [] <| .r 1 [] <| .r 1 [.dead] <| .r 1 [] <| .bs <| .cx (of_c b q g ([([97]:List UInt8),([98]:List UInt8),([99]:List UInt8),([110,111,116,105,99,101]:List UInt8)]:List (List UInt8))) [(1000,1000)] (fun (x5_4:List UInt8)=>.bs <| .ux none (fun g23 o23 c23=>.h (.eqt 23 (.own 1 ((e++[x5_4]).map sV) g23 o23 c23)) <| .r 1 [] <| .st none <| .r 2 [] <| .h (.eqt 16 (iN (n - 1))) <| .r 1 [] <| .nil))) (.r 1 [] <| .cx (pick_c b q g 8) [(1000,1000)] (fun (x6_1:Nat)=>.r 1 [] <| .br (.r 1 [] <| .st none <| .r 1 [] <| .bs <| .cx (of_c b (q+1) g ([[],([97]:List UInt8),([98,37,51,68]:List UInt8)]:List (List UInt8))) [(1000,1000)] (fun (x8_2:List UInt8)=>.r 1 [] <| .st none <| .mv <| .h (.fz 33) <| .h (.eqt 33 (.agg [sV (housesL.getD x1_2 []),.sl false (e.map sV),bV true,sV x8_2])) <| .c (addrText_c (⟨(housesL.getD x1_2 []),e,true,x8_2⟩:Adr)) [] <| .r 1 [] <| .nil)) (.mv <| .h (.fz 33) <| .h (.eqt 33 (.agg [sV (housesL.getD x1_2 []),.sl false (e.map sV),bV false,sV []])) <| .c (addrText_c (⟨(housesL.getD x1_2 []),e,false,[]⟩:Adr)) [] <| .r 1 [] <| .nil))))))))
  ((fun v1:List UInt8=>(fun v2:List UInt8=>(fun v3:List UInt8=>(fun v4:List UInt8=>(fun v5:List UInt8=>(True∧(l71Houses_c).sm∧(True)∧(True)∧True∧(pick_c b p g 4).sm∧(((((g,.agg [.sl false (b.map u8V),iN p])):Nat×V)=(g,.agg [.sl false (b.map u8V),iN p]))∧True)∧((b.length≤2000)∧(p≤1000000)∧(4≤1000000))∧∀ x1_2:Nat,(4=0∧x1_2=0∨x1_2 < 4)→(Ex (x1_2:Int) (housesL.map sV) (sV (housesL.getD x1_2 []))∧True∧True)∧∀ g3:Nat,Z g3 0∧True∧(pick_c b (p+1) g 3).sm∧(((((g,.agg [.sl false (b.map u8V),iN (p+1)])):Nat×V)=(g,.agg [.sl false (b.map u8V),iN (p+1)]))∧True)∧((b.length≤2000)∧((p+1)≤1000000)∧(3≤1000000))∧∀ x2_1:Nat,(3=0∧x2_1=0∨x2_1 < 3)→True∧(∃ x:Nat×(List (List UInt8))×Nat×Nat×Nat×Nat,match x with | (n₀,e₀,q₀,u₀,f₀,k₀)=>(l71Addr_k0 b p g n₀ e₀ q₀ u₀ f₀ k₀)∧(E (.ptr (.key 1000) [] g 0)∧E (.ptr (.key 3) [] g3 0)∧Q (iN x2_1) (iN n₀)∧True)∧(Qr g (.agg [.sl false (b.map u8V),iN ((p+1)+1)]) g (.agg [.sl false (b.map u8V),iN q₀])∧Qr g3 (.agg [sV (housesL.getD x1_2 []),.own 1 ([].map sV) 0 0 0,bV false,sV []]) g3 (.agg [sV (housesL.getD x1_2 []),.own 1 (e₀.map sV) u₀ f₀ k₀,bV false,sV []])∧True))∧∀ x:Nat×(List (List UInt8))×Nat×Nat×Nat×Nat,match x with | (n,e,q,u,f,k)=>(l71Addr_k0 b p g n e q u f k)→True∧Br (gtB (n:Int) 0) (True∧(Z g3 1∧True)∧True∧(of_c b q g ([v2,v4,v5,v1]:List (List UInt8))).sm∧(((((g,.agg [.sl false (b.map u8V),iN q])):Nat×V)=(g,.agg [.sl false (b.map u8V),iN q]))∧True)∧((b.length≤2000)∧(q≤1000000)∧(1≤([v2,v4,v5,v1]:List (List UInt8)).length)∧(([v2,v4,v5,v1]:List (List UInt8)).length≤1000))∧∀ x5_4:List UInt8,(x5_4∈([v2,v4,v5,v1]:List (List UInt8)))→(fun v6:List V=>(((1,1,u,f,k,(e.map sV).length)=(1,1,u,f,k,(e.map sV).length))∧(V.ownsL v6=false)∧(AllN 1 v6)∧(((e.map sV).length+v6.length) * 16≤140737488355328))∧∀ g23 o23 c23:Nat,((.own 1 ((e.map sV)++v6) g23 o23 c23:V)=.own 1 ((e++[x5_4]).map sV) g23 o23 c23)∧True∧Z g3 1∧(I64 ((n:Int) - 1)∧True)∧Q (iV ((n:Int) - 1)) (iN (n - 1))∧True∧∃ x:Nat×(List (List UInt8))×Nat×Nat×Nat×Nat,match x with | (n₂,e₂,q₂,u₂,f₂,k₂)=>(l71Addr_k0 b p g n₂ e₂ q₂ u₂ f₂ k₂)∧(n₂ < n)∧(E (.ptr (.key 1000) [] g 0)∧E (.ptr (.key 3) [] g3 0)∧Q (iN (n - 1)) (iN n₂)∧True)∧(Qr g (.agg [.sl false (b.map u8V),iN (q+1)]) g (.agg [.sl false (b.map u8V),iN q₂])∧Qr g3 (.agg [sV (housesL.getD x1_2 []),.own 1 ((e++[x5_4]).map sV) g23 o23 c23,bV false,sV []]) g3 (.agg [sV (housesL.getD x1_2 []),.own 1 (e₂.map sV) u₂ f₂ k₂,bV false,sV []])∧True)) ([sV x5_4]:List V)) (True∧(pick_c b q g 8).sm∧(((((g,.agg [.sl false (b.map u8V),iN q])):Nat×V)=(g,.agg [.sl false (b.map u8V),iN q]))∧True)∧((b.length≤2000)∧(q≤1000000)∧(8≤1000000))∧∀ x6_1:Nat,(8=0∧x6_1=0∨x6_1 < 8)→True∧Br (eqB (x6_1:Int) 0) (True∧Z g3 2∧True∧(of_c b (q+1) g ([[],v2,v3]:List (List UInt8))).sm∧(((((g,.agg [.sl false (b.map u8V),iN (q+1)])):Nat×V)=(g,.agg [.sl false (b.map u8V),iN (q+1)]))∧True)∧((b.length≤2000)∧((q+1)≤1000000)∧(1≤([[],v2,v3]:List (List UInt8)).length)∧(([[],v2,v3]:List (List UInt8)).length≤1000))∧∀ x8_2:List UInt8,(x8_2∈([[],v2,v3]:List (List UInt8)))→True∧Z g3 3∧Z g3 0∧((.agg [sV (housesL.getD x1_2 []),.sl false (V.erL (e.map sV)),bV true,sV x8_2]:V)=.agg [sV (housesL.getD x1_2 []),.sl false (e.map sV),bV true,sV x8_2])∧(addrText_c (⟨(housesL.getD x1_2 []),e,true,x8_2⟩:Adr)).sm∧(True)∧((AdrSz (⟨(housesL.getD x1_2 []),e,true,x8_2⟩:Adr)))∧True∧True∧∃ x:List UInt8×Nat,(x.1.length≤25∧p≤x.2∧x.2≤p+6∧Asc x.1)∧Q (sV (adrTextL (⟨(housesL.getD x1_2 []),e,true,x8_2⟩:Adr))) (sV x.1)∧(Qr g (.agg [.sl false (b.map u8V),iN ((q+1)+1)]) g (.agg [.sl false (b.map u8V),iN x.2])∧True)) (Z g3 0∧((.agg [sV (housesL.getD x1_2 []),.sl false (V.erL (e.map sV)),bV false,sV []]:V)=.agg [sV (housesL.getD x1_2 []),.sl false (e.map sV),bV false,sV []])∧(addrText_c (⟨(housesL.getD x1_2 []),e,false,[]⟩:Adr)).sm∧(True)∧((AdrSz (⟨(housesL.getD x1_2 []),e,false,[]⟩:Adr)))∧True∧True∧∃ x:List UInt8×Nat,(x.1.length≤25∧p≤x.2∧x.2≤p+6∧Asc x.1)∧Q (sV (adrTextL (⟨(housesL.getD x1_2 []),e,false,[]⟩:Adr))) (sV x.1)∧(Qr g (.agg [.sl false (b.map u8V),iN (q+1)]) g (.agg [.sl false (b.map u8V),iN x.2])∧True))))) ([99]:List UInt8)) ([98]:List UInt8)) ([98,37,51,68]:List UInt8)) ([97]:List UInt8)) ([110,111,116,105,99,101]:List UInt8))
  (by kernel_rfl) ?_
 refine ⟨trivial,rfl,trivial,trivial,trivial,rfl,⟨rfl,trivial⟩,⟨by omega,by omega,by omega⟩,?_⟩
 intro x1_2 hx1_2
 refine ⟨⟨ex_s (by show _ < 4; omega),trivial,trivial⟩,?_⟩
 intro g3
 refine ⟨rfl,trivial,rfl,⟨rfl,trivial⟩,⟨by omega,by omega,by omega⟩,?_⟩
 intro x2_1 hx2_1
 refine ⟨trivial,?_⟩
 refine ⟨⟨(x2_1,[],p+1+1,0,0,0),?_,⟨rfl,rfl,rfl,trivial⟩,⟨by first | rfl | simp | (simp; omega),rfl,trivial⟩⟩,?_⟩
 · unfold l71Addr_k0
   simp; omega
 rintro ⟨n,e,q,u,f,k⟩ ⟨h1,h2,h3,h4⟩
 refine ⟨trivial,?_⟩
 refine ⟨fun hb1=>?_,fun hb1=>?_⟩
 · try simp only [nb] at hb1
   refine ⟨trivial,⟨rfl,trivial⟩,trivial,rfl,⟨rfl,trivial⟩,⟨by omega,by omega,by simp,by simp⟩,?_⟩
   intro x5_4 hx5_4
   refine ⟨⟨rfl,rfl,by simp [AllN,V.n,V.ns],by simp; omega⟩,?_⟩
   intro g23 o23 c23
   refine ⟨congrArg (V.own 1 · g23 o23 c23) (by simp),trivial,rfl,⟨by omega,trivial⟩,by simp [Q]; omega,trivial,?_⟩
   refine ⟨(n - 1,e++[x5_4],q+1,g23,o23,c23),?_,?_,⟨rfl,rfl,rfl,trivial⟩,⟨rfl,rfl,trivial⟩⟩
   · unfold l71Addr_k0
     exact ⟨by simp; omega,all_app h2 ⟨len_mem rfl hx5_4,asc_mem rfl hx5_4⟩,by omega,by omega⟩
   · first | (simp; done) | omega | (simp; omega)
 · try simp only [nb] at hb1
   refine ⟨trivial,rfl,⟨rfl,trivial⟩,⟨by omega,by omega,by omega⟩,?_⟩
   intro x6_1 hx6_1
   refine ⟨trivial,?_⟩
   refine ⟨fun hb2=>?_,fun hb2=>?_⟩
   · try simp only [nb] at hb2
     refine ⟨trivial,rfl,trivial,rfl,⟨rfl,trivial⟩,⟨by omega,by omega,by simp,by simp⟩,?_⟩
     intro x8_2 hx8_2
     refine ⟨trivial,rfl,rfl,by simp only [erL_map_id (f:=sV) (fun _=>rfl)],rfl,trivial,(adr_small (getD_lenb rfl _) (by simp only; omega) (fun x hx=>(h2 x hx).1) (by first | exact len_mem rfl hx8_2 | simp)).1,trivial,?_⟩
     refine ⟨trivial,(adrTextL (⟨(housesL.getD x1_2 []),e,true,x8_2⟩:Adr),(q+1)+1),?_,?_,?_⟩
     · try dsimp only
       exact ⟨(adr_small (getD_lenb rfl _) (by simp only; omega) (fun x hx=>(h2 x hx).1) (len_mem rfl hx8_2)).2,by omega,by omega,adr_asc (asc_getD rfl _) (fun x hx=>(h2 x hx).2) (asc_mem rfl hx8_2)⟩
     · first | rfl | simp_all
     · first | exact ⟨rfl,trivial⟩ | trivial | simp_all
   · try simp only [nb] at hb2
     refine ⟨rfl,by simp only [erL_map_id (f:=sV) (fun _=>rfl)],rfl,trivial,(adr_small (getD_lenb rfl _) (by simp only; omega) (fun x hx=>(h2 x hx).1) (by first | exact len_mem rfl hx8_2 | simp)).1,trivial,?_⟩
     refine ⟨trivial,(adrTextL (⟨(housesL.getD x1_2 []),e,false,[]⟩:Adr),q+1),?_,?_,?_⟩
     · try dsimp only
       exact ⟨(adr_small (getD_lenb rfl _) (by simp only; omega) (fun x hx=>(h2 x hx).1) (by simp)).2,by omega,by omega,adr_asc (asc_getD rfl _) (fun x hx=>(h2 x hx).2) asc_nil⟩
     · first | rfl | simp_all
     · first | exact ⟨rfl,trivial⟩ | trivial | simp_all
def l71Addr_c (b:List UInt8) (p:Nat) (g:Nat):ConX Tryz.prog:={ X:=List UInt8×Nat,f:=58,args:=[.ptr (.key 1000) [] g 0],H:=[(1000,(g,.agg [.sl false (b.map u8V),iN p]))],pre:=(b.length≤2000)∧(p≤900000),post:=fun x=>x.1.length≤25∧p≤x.2∧x.2≤p+6∧Asc x.1,res:=fun x=>sV x.1,H':=fun x=>[(1000,(g,.agg [.sl false (b.map u8V),iN x.2]))],ok:=fun h=>l71Addr_ok b p g h.1 h.2 }
theorem l71Ref_ok (b:List UInt8) (p g:Nat) (hb:b.length≤2000) (hp:p≤890000):PF Tryz.prog 129 [.ptr (.key 1000) [] g 0] [(1000,(g,.agg [.sl false (b.map u8V),iN p]))] (fun r h=> ∃ x:List UInt8×Nat,(x.1.length≤25∧p≤x.2∧x.2≤p+7)∧r=(sV x.1)∧h=[(1000,(g,.agg [.sl false (b.map u8V),iN x.2]))]):=by
 refine PF_go (N:=34) (rs:=[.tmp 2]) (X:=List UInt8×Nat) (post:=fun x=>x.1.length≤25∧p≤x.2∧x.2≤p+7) (E:=fun x=>sV x.1) (H':=fun x=>[(1000,(g,.agg [.sl false (b.map u8V),iN x.2]))]) Tryz.func129 (by kernel_rfl) rfl rfl rfl (by kernel_rfl) [(1000,(0,.dead))] (by intro _ k hk; simpa [lk] using hk)
  (.r 1 [] <| .r 1 [] <| .cx (pick_c b p g 8) [(1000,1000)] (fun (x1_1:Nat)=>.r 2 [] <| .join (Bool) (fun c=>⟨[(0,.ptr (.key 1000) [] g 0),(4,iN x1_1),(5,bV c)],[(1000,(g,.agg [.sl false (b.map u8V),iN (p+1)]))]⟩) (fun c=>True) (.nil) (.r 2 [] <| .nil) (fun c=>.br (.r 1 [] <| .cx (l71Addr_c b (p+1) g) [(1000,1000)] (fun (x4_1:List UInt8×Nat)=>.r 1 [] <| .nil)) (.r 2 [] <| .br (.r 1 [] <| .bs <| .cx (of_c b (p+1) g ([([97]:List UInt8),([98]:List UInt8),([97,47,98]:List UInt8),([99,47,46,46,47,98]:List UInt8),[],([120,47,46,47,99]:List UInt8)]:List (List UInt8))) [(1000,1000)] (fun (x6_2:List UInt8)=>.r 2 [] <| .nil)) (.r 2 [] <| .br (.r 1 [] <| .bs <| .cx (of_c b (p+1) g ([([46,46]:List UInt8),([46,46,47,99]:List UInt8),([46,46,47,46,46,47,46,46]:List UInt8),([46]:List UInt8),([46,47,97]:List UInt8)]:List (List UInt8))) [(1000,1000)] (fun (x8_2:List UInt8)=>.r 1 [] <| .nil)) (.r 2 [] <| .br (.r 1 [] <| .bs <| .cx (of_c b (p+1) g ([([63,97]:List UInt8),([63]:List UInt8),([35,116,111,112]:List UInt8),[],([97,35,98]:List UInt8),([98,63,97]:List UInt8)]:List (List UInt8))) [(1000,1000)] (fun (x10_2:List UInt8)=>.r 1 [] <| .nil)) (.r 2 [] <| .br (.r 1 [] <| .bs <| .cx (of_c b (p+1) g ([([47,47,65,66,47,97]:List UInt8),([47,47,99,100]:List UInt8),([47,47,99,100,63,120]:List UInt8),([47,47,97,98,47,37,54,49]:List UInt8),([47,47,116,111,111,108,111,110,103,47,97]:List UInt8),([47,47,97,49,47,98]:List UInt8),([47,47,47,97]:List UInt8)]:List (List UInt8))) [(1000,1000)] (fun (x12_2:List UInt8)=>.r 1 [] <| .nil)) (.r 1 [] <| .bs <| .cx (of_c b (p+1) g ([([97]:List UInt8),([98]:List UInt8),([99]:List UInt8),([97,47,98]:List UInt8)]:List (List UInt8))) [(1000,1000)] (fun (x13_2:List UInt8)=>.r 1 [] <| .nil)))))))))
  ((fun v1:List UInt8=>(fun v2:V=>(fun v3:List UInt8=>(fun v4:List UInt8=>(fun v5:List UInt8=>(fun v6:List UInt8=>(fun v7:List UInt8=>(fun v8:List UInt8=>(fun v9:List UInt8=>(fun v10:List UInt8=>(fun v11:List UInt8=>(fun v12:List UInt8=>(fun v13:List UInt8=>(fun v14:List UInt8=>(fun v15:List UInt8=>(fun v16:List UInt8=>(fun v17:List UInt8=>(fun v18:List UInt8=>(fun v19:List UInt8=>(fun v20:List UInt8=>(fun v21:List UInt8=>(fun v22:List UInt8=>(fun v23:List UInt8=>(fun v24:List UInt8=>(True∧True∧(pick_c b p g 8).sm∧(((((g,.agg [.sl false (b.map u8V),iN p])):Nat×V)=(g,.agg [.sl false (b.map u8V),iN p]))∧True)∧((b.length≤2000)∧(p≤1000000)∧(8≤1000000))∧∀ x1_1:Nat,(8=0∧x1_1=0∨x1_1 < 8)→True∧((eqB (x1_1:Int) 0)=true→∃ c:Bool,(True)∧(E (.ptr (.key 1000) [] g 0)∧E (iN x1_1)∧Q (bV (eqB (x1_1:Int) 0)) (bV c)∧True)∧(Er g (.agg [.sl false (b.map u8V),iN (p+1)])∧True))∧((eqB (x1_1:Int) 0)=false→True∧∃ c:Bool,(True)∧(E (.ptr (.key 1000) [] g 0)∧E (iN x1_1)∧Q (bV (eqB (x1_1:Int) 1)) (bV c)∧True)∧(Er g (.agg [.sl false (b.map u8V),iN (p+1)])∧True))∧(∀ c:Bool,(True)→Br c (True∧(l71Addr_c b (p+1) g).sm∧(((((g,.agg [.sl false (b.map u8V),iN (p+1)])):Nat×V)=(g,.agg [.sl false (b.map u8V),iN (p+1)]))∧True)∧((b.length≤2000)∧((p+1)≤900000))∧∀ x4_1:List UInt8×Nat,(x4_1.1.length≤25∧(p+1)≤x4_1.2∧x4_1.2≤(p+1)+6∧Asc x4_1.1)→True∧True∧∃ x:List UInt8×Nat,(x.1.length≤25∧p≤x.2∧x.2≤p+7)∧Q (sV x4_1.1) (sV x.1)∧(Qr g (.agg [.sl false (b.map u8V),iN x4_1.2]) g (.agg [.sl false (b.map u8V),iN x.2])∧True)) (True∧Br (eqB (x1_1:Int) 2) (True∧(of_c b (p+1) g ([v7,v8,v3,v9,[],v12]:List (List UInt8))).sm∧(((((g,.agg [.sl false (b.map u8V),iN (p+1)])):Nat×V)=(g,.agg [.sl false (b.map u8V),iN (p+1)]))∧True)∧((b.length≤2000)∧((p+1)≤1000000)∧(1≤([v7,v8,v3,v9,[],v12]:List (List UInt8)).length)∧(([v7,v8,v3,v9,[],v12]:List (List UInt8)).length≤1000))∧∀ x6_2:List UInt8,(x6_2∈([v7,v8,v3,v9,[],v12]:List (List UInt8)))→((([47]:List UInt8).length+x6_2.length≤4611686018427387904)∧True)∧True∧∃ x:List UInt8×Nat,(x.1.length≤25∧p≤x.2∧x.2≤p+7)∧Q (sV (([47]:List UInt8)++x6_2)) (sV x.1)∧(Qr g v2 g (.agg [.sl false (b.map u8V),iN x.2])∧True)) (True∧Br (eqB (x1_1:Int) 3) (True∧(of_c b (p+1) g ([v20,v15,v4,v22,v17]:List (List UInt8))).sm∧(((((g,.agg [.sl false (b.map u8V),iN (p+1)])):Nat×V)=(g,.agg [.sl false (b.map u8V),iN (p+1)]))∧True)∧((b.length≤2000)∧((p+1)≤1000000)∧(1≤([v20,v15,v4,v22,v17]:List (List UInt8)).length)∧(([v20,v15,v4,v22,v17]:List (List UInt8)).length≤1000))∧∀ x8_2:List UInt8,(x8_2∈([v20,v15,v4,v22,v17]:List (List UInt8)))→True∧True∧∃ x:List UInt8×Nat,(x.1.length≤25∧p≤x.2∧x.2≤p+7)∧Q (sV x8_2) (sV x.1)∧(Qr g v2 g (.agg [.sl false (b.map u8V),iN x.2])∧True)) (True∧Br (eqB (x1_1:Int) 4) (True∧(of_c b (p+1) g ([v21,v23,v13,[],v18,v19]:List (List UInt8))).sm∧(((((g,.agg [.sl false (b.map u8V),iN (p+1)])):Nat×V)=(g,.agg [.sl false (b.map u8V),iN (p+1)]))∧True)∧((b.length≤2000)∧((p+1)≤1000000)∧(1≤([v21,v23,v13,[],v18,v19]:List (List UInt8)).length)∧(([v21,v23,v13,[],v18,v19]:List (List UInt8)).length≤1000))∧∀ x10_2:List UInt8,(x10_2∈([v21,v23,v13,[],v18,v19]:List (List UInt8)))→True∧True∧∃ x:List UInt8×Nat,(x.1.length≤25∧p≤x.2∧x.2≤p+7)∧Q (sV x10_2) (sV x.1)∧(Qr g v2 g (.agg [.sl false (b.map u8V),iN x.2])∧True)) (True∧Br (eqB (x1_1:Int) 5) (True∧(of_c b (p+1) g ([v10,v14,v6,v5,v1,v11,v16]:List (List UInt8))).sm∧(((((g,.agg [.sl false (b.map u8V),iN (p+1)])):Nat×V)=(g,.agg [.sl false (b.map u8V),iN (p+1)]))∧True)∧((b.length≤2000)∧((p+1)≤1000000)∧(1≤([v10,v14,v6,v5,v1,v11,v16]:List (List UInt8)).length)∧(([v10,v14,v6,v5,v1,v11,v16]:List (List UInt8)).length≤1000))∧∀ x12_2:List UInt8,(x12_2∈([v10,v14,v6,v5,v1,v11,v16]:List (List UInt8)))→True∧True∧∃ x:List UInt8×Nat,(x.1.length≤25∧p≤x.2∧x.2≤p+7)∧Q (sV x12_2) (sV x.1)∧(Qr g v2 g (.agg [.sl false (b.map u8V),iN x.2])∧True)) (True∧(of_c b (p+1) g ([v7,v8,v24,v3]:List (List UInt8))).sm∧(((((g,.agg [.sl false (b.map u8V),iN (p+1)])):Nat×V)=(g,.agg [.sl false (b.map u8V),iN (p+1)]))∧True)∧((b.length≤2000)∧((p+1)≤1000000)∧(1≤([v7,v8,v24,v3]:List (List UInt8)).length)∧(([v7,v8,v24,v3]:List (List UInt8)).length≤1000))∧∀ x13_2:List UInt8,(x13_2∈([v7,v8,v24,v3]:List (List UInt8)))→True∧True∧∃ x:List UInt8×Nat,(x.1.length≤25∧p≤x.2∧x.2≤p+7)∧Q (sV x13_2) (sV x.1)∧(Qr g v2 g (.agg [.sl false (b.map u8V),iN x.2])∧True))))))))) ([99]:List UInt8)) ([63]:List UInt8)) ([46]:List UInt8)) ([63,97]:List UInt8)) ([46,46]:List UInt8)) ([98,63,97]:List UInt8)) ([97,35,98]:List UInt8)) ([46,47,97]:List UInt8)) ([47,47,47,97]:List UInt8)) ([46,46,47,99]:List UInt8)) ([47,47,99,100]:List UInt8)) ([35,116,111,112]:List UInt8)) ([120,47,46,47,99]:List UInt8)) ([47,47,97,49,47,98]:List UInt8)) ([47,47,65,66,47,97]:List UInt8)) ([99,47,46,46,47,98]:List UInt8)) ([98]:List UInt8)) ([97]:List UInt8)) ([47,47,99,100,63,120]:List UInt8)) ([47,47,97,98,47,37,54,49]:List UInt8)) ([46,46,47,46,46,47,46,46]:List UInt8)) ([97,47,98]:List UInt8)) (.agg [.sl false (b.map u8V),iN ((p+1)+1)])) ([47,47,116,111,111,108,111,110,103,47,97]:List UInt8))
  (by kernel_rfl) ?_
 refine ⟨trivial,trivial,rfl,⟨rfl,trivial⟩,⟨by omega,by omega,by omega⟩,?_⟩
 intro x1_1 hx1_1
 refine ⟨trivial,?_⟩
 refine ⟨fun hb1=>?_,fun hb1=>?_,fun c hc=>?_⟩
 · try simp only [nb] at hb1
   exact ⟨eqB (x1_1:Int) 0,trivial,⟨rfl,rfl,rfl,trivial⟩,⟨rfl,trivial⟩⟩
 · try simp only [nb] at hb1
   refine ⟨trivial,?_⟩
   exact ⟨eqB (x1_1:Int) 1,trivial,⟨rfl,rfl,rfl,trivial⟩,⟨rfl,trivial⟩⟩
 refine ⟨fun hb2=>?_,fun hb2=>?_⟩
 · try simp only [nb] at hb2
   refine ⟨trivial,rfl,⟨rfl,trivial⟩,⟨by omega,by omega⟩,?_⟩
   intro x4_1 hx4_1
   refine ⟨trivial,?_⟩
   refine ⟨trivial,(x4_1.1,x4_1.2),?_,?_,?_⟩
   · try dsimp only
     exact ⟨by omega,by omega,by omega⟩
   · first | rfl | simp_all
   · first | exact ⟨rfl,trivial⟩ | trivial | simp_all
 · try simp only [nb] at hb2
   refine ⟨trivial,?_⟩
   refine ⟨fun hb3=>?_,fun hb3=>?_⟩
   · try simp only [nb] at hb3
     refine ⟨trivial,rfl,⟨rfl,trivial⟩,⟨by omega,by omega,by simp,by simp⟩,?_⟩
     intro x6_2 hx6_2
     refine ⟨⟨by (try have:=len_mem (n:=11) rfl hx6_2); (try simp only [List.length_append,List.length_cons,List.length_nil]); omega,trivial⟩,?_⟩
     refine ⟨trivial,(([47]:List UInt8)++x6_2,(p+1)+1),?_,?_,?_⟩
     · try dsimp only
       have:=len_mem (n:=11) rfl hx6_2
       exact ⟨by first | omega | (simp; omega),by omega,by omega⟩
     · first | rfl | simp_all
     · first | exact ⟨rfl,trivial⟩ | trivial | simp_all
   · try simp only [nb] at hb3
     refine ⟨trivial,?_⟩
     refine ⟨fun hb4=>?_,fun hb4=>?_⟩
     · try simp only [nb] at hb4
       refine ⟨trivial,rfl,⟨rfl,trivial⟩,⟨by omega,by omega,by simp,by simp⟩,?_⟩
       intro x8_2 hx8_2
       refine ⟨trivial,?_⟩
       refine ⟨trivial,(x8_2,(p+1)+1),?_,?_,?_⟩
       · try dsimp only
         have:=len_mem (n:=11) rfl hx8_2
         exact ⟨by first | omega | (simp; omega),by omega,by omega⟩
       · first | rfl | simp_all
       · first | exact ⟨rfl,trivial⟩ | trivial | simp_all
     · try simp only [nb] at hb4
       refine ⟨trivial,?_⟩
       refine ⟨fun hb5=>?_,fun hb5=>?_⟩
       · try simp only [nb] at hb5
         refine ⟨trivial,rfl,⟨rfl,trivial⟩,⟨by omega,by omega,by simp,by simp⟩,?_⟩
         intro x10_2 hx10_2
         refine ⟨trivial,?_⟩
         refine ⟨trivial,(x10_2,(p+1)+1),?_,?_,?_⟩
         · try dsimp only
           have:=len_mem (n:=11) rfl hx10_2
           exact ⟨by first | omega | (simp; omega),by omega,by omega⟩
         · first | rfl | simp_all
         · first | exact ⟨rfl,trivial⟩ | trivial | simp_all
       · try simp only [nb] at hb5
         refine ⟨trivial,?_⟩
         refine ⟨fun hb6=>?_,fun hb6=>?_⟩
         · try simp only [nb] at hb6
           refine ⟨trivial,rfl,⟨rfl,trivial⟩,⟨by omega,by omega,by simp,by simp⟩,?_⟩
           intro x12_2 hx12_2
           refine ⟨trivial,?_⟩
           refine ⟨trivial,(x12_2,(p+1)+1),?_,?_,?_⟩
           · try dsimp only
             have:=len_mem (n:=11) rfl hx12_2
             exact ⟨by first | omega | (simp; omega),by omega,by omega⟩
           · first | rfl | simp_all
           · first | exact ⟨rfl,trivial⟩ | trivial | simp_all
         · try simp only [nb] at hb6
           refine ⟨trivial,rfl,⟨rfl,trivial⟩,⟨by omega,by omega,by simp,by simp⟩,?_⟩
           intro x13_2 hx13_2
           refine ⟨trivial,?_⟩
           refine ⟨trivial,(x13_2,(p+1)+1),?_,?_,?_⟩
           · try dsimp only
             have:=len_mem (n:=11) rfl hx13_2
             exact ⟨by first | omega | (simp; omega),by omega,by omega⟩
           · first | rfl | simp_all
           · first | exact ⟨rfl,trivial⟩ | trivial | simp_all
def l71Ref_c (b:List UInt8) (p:Nat) (g:Nat):ConX Tryz.prog:={ X:=List UInt8×Nat,f:=129,args:=[.ptr (.key 1000) [] g 0],H:=[(1000,(g,.agg [.sl false (b.map u8V),iN p]))],pre:=(b.length≤2000)∧(p≤890000),post:=fun x=>x.1.length≤25∧p≤x.2∧x.2≤p+7,res:=fun x=>sV x.1,H':=fun x=>[(1000,(g,.agg [.sl false (b.map u8V),iN x.2]))],ok:=fun h=>l71Ref_ok b p g h.1 h.2 }
abbrev l71Page_k0 (b:List UInt8) (p:Nat) (g:Nat) (n:Nat) (o:List UInt8) (q:Nat):Prop:=o.length+60 * n≤240∧p≤q∧q+16 * n≤p+66
theorem l71Page_ok (b:List UInt8) (p g:Nat) (hb:b.length≤2000) (hp:p≤880000):PF Tryz.prog 91 [.ptr (.key 1000) [] g 0] [(1000,(g,.agg [.sl false (b.map u8V),iN p]))] (fun r h=> ∃ x:List UInt8×Nat,(x.1.length≤240∧p≤x.2∧x.2≤p+70)∧r=(sV x.1)∧h=[(1000,(g,.agg [.sl false (b.map u8V),iN x.2]))]):=by
 refine PF_go (N:=55) (rs:=[.tmp 2]) (X:=List UInt8×Nat) (post:=fun x=>x.1.length≤240∧p≤x.2∧x.2≤p+70) (E:=fun x=>sV x.1) (H':=fun x=>[(1000,(g,.agg [.sl false (b.map u8V),iN x.2]))]) Tryz.func91 (by kernel_rfl) rfl rfl rfl (by kernel_rfl) [(1000,(0,.dead))] (by intro _ k hk; simpa [lk] using hk)
  (.r 1 [] <| .r 1 [] <| .r 1 [] <| .cx (pick_c b p g 5) [(1000,1000)] (fun (x2_1:Nat)=>.r 1 [] <| .loop (Nat×(List UInt8)×Nat) (fun (n,o,q)=>⟨[(0,.ptr (.key 1000) [] g 0),(3,sV o),(4,iN n)],[(1000,(g,.agg [.sl false (b.map u8V),iN q]))]⟩) (fun (n,o,q)=>l71Page_k0 b p g n o q) (fun (n,o,q)=>n) (fun (n,o,q)=>.r 2 [] <| .br (.r 1 [] <| .cx (pick_c b q g 9) [(1000,1000)] (fun (x5_1:Nat)=>.r 2 [] <| .br (.r 3 [] <| .cx (l71Ref_c b (q+1) g) [(1000,1000)] (fun (x8_3:List UInt8×Nat)=>.r 3 [] <| .cx (l71Ref_c b x8_3.2 g) [(1000,1000)] (fun (x8_7:List UInt8×Nat)=>.r 3 [] <| .r 2 [] <| .h (.eqt 10 (iN (n - 1))) <| .r 1 [] <| .nil))) (.r 2 [] <| .br (.r 3 [] <| .cx (l71Ref_c b (q+1) g) [(1000,1000)] (fun (x10_3:List UInt8×Nat)=>.r 3 [] <| .r 2 [] <| .h (.eqt 10 (iN (n - 1))) <| .r 1 [] <| .nil)) (.r 2 [] <| .br (.r 3 [] <| .cx (l71Ref_c b (q+1) g) [(1000,1000)] (fun (x12_3:List UInt8×Nat)=>.r 3 [] <| .r 2 [] <| .h (.eqt 10 (iN (n - 1))) <| .r 1 [] <| .nil)) (.r 2 [] <| .br (.r 2 [] <| .bs <| .cx (of_c b (q+1) g ([([116,101,120,116,32]:List UInt8),([60]:List UInt8),([62]:List UInt8),([40]:List UInt8),([41]:List UInt8),([60,97]:List UInt8)]:List (List UInt8))) [(1000,1000)] (fun (x14_3:List UInt8)=>.r 2 [] <| .r 2 [] <| .h (.eqt 10 (iN (n - 1))) <| .r 1 [] <| .nil)) (.r 3 [] <| .cx (l71Ref_c b (q+1) g) [(1000,1000)] (fun (x6_3:List UInt8×Nat)=>.r 3 [] <| .r 2 [] <| .h (.eqt 10 (iN (n - 1))) <| .r 1 [] <| .nil))))))) (.r 2 [] <| .nil))))
  ((fun v1:List UInt8=>(fun v2:List UInt8=>(fun v3:List UInt8=>(fun v4:V=>(fun v5:List UInt8=>(fun v6:List UInt8=>(fun v7:List UInt8=>(fun v8:List UInt8=>(fun v9:List UInt8=>(True∧True∧True∧(pick_c b p g 5).sm∧(((((g,.agg [.sl false (b.map u8V),iN p])):Nat×V)=(g,.agg [.sl false (b.map u8V),iN p]))∧True)∧((b.length≤2000)∧(p≤1000000)∧(5≤1000000))∧∀ x2_1:Nat,(5=0∧x2_1=0∨x2_1 < 5)→True∧(∃ x:Nat×(List UInt8)×Nat,match x with | (n₀,o₀,q₀)=>(l71Page_k0 b p g n₀ o₀ q₀)∧(E v4∧Q (sV []) (sV o₀)∧Q (iN x2_1) (iN n₀)∧True)∧(Qr g (.agg [.sl false (b.map u8V),iN (p+1)]) g (.agg [.sl false (b.map u8V),iN q₀])∧True))∧∀ x:Nat×(List UInt8)×Nat,match x with | (n,o,q)=>(l71Page_k0 b p g n o q)→True∧Br (gtB (n:Int) 0) (True∧(pick_c b q g 9).sm∧(((((g,.agg [.sl false (b.map u8V),iN q])):Nat×V)=(g,.agg [.sl false (b.map u8V),iN q]))∧True)∧((b.length≤2000)∧(q≤1000000)∧(9≤1000000))∧∀ x5_1:Nat,(9=0∧x5_1=0∨x5_1 < 9)→True∧Br (eqB (x5_1:Int) 0) (((o.length+v2.length≤4611686018427387904)∧True)∧(l71Ref_c b (q+1) g).sm∧(((((g,.agg [.sl false (b.map u8V),iN (q+1)])):Nat×V)=(g,.agg [.sl false (b.map u8V),iN (q+1)]))∧True)∧((b.length≤2000)∧((q+1)≤890000))∧∀ x8_3:List UInt8×Nat,(x8_3.1.length≤25∧(q+1)≤x8_3.2∧x8_3.2≤(q+1)+7)→(((o++v2).length+x8_3.1.length≤4611686018427387904)∧(((o++v2)++x8_3.1).length+v1.length≤4611686018427387904)∧True)∧(l71Ref_c b x8_3.2 g).sm∧(((((g,.agg [.sl false (b.map u8V),iN x8_3.2])):Nat×V)=(g,.agg [.sl false (b.map u8V),iN x8_3.2]))∧True)∧((b.length≤2000)∧(x8_3.2≤890000))∧∀ x8_7:List UInt8×Nat,(x8_7.1.length≤25∧x8_3.2≤x8_7.2∧x8_7.2≤x8_3.2+7)→(((((o++v2)++x8_3.1)++v1).length+x8_7.1.length≤4611686018427387904)∧(((((o++v2)++x8_3.1)++v1)++x8_7.1).length+([62,41]:List UInt8).length≤4611686018427387904)∧True)∧(I64 ((n:Int) - 1)∧True)∧Q (iV ((n:Int) - 1)) (iN (n - 1))∧True∧∃ x:Nat×(List UInt8)×Nat,match x with | (n₂,o₂,q₂)=>(l71Page_k0 b p g n₂ o₂ q₂)∧(n₂ < n)∧(E v4∧Q (sV (((((o++v2)++x8_3.1)++v1)++x8_7.1)++([62,41]:List UInt8))) (sV o₂)∧Q (iN (n - 1)) (iN n₂)∧True)∧(Qr g (.agg [.sl false (b.map u8V),iN x8_7.2]) g (.agg [.sl false (b.map u8V),iN q₂])∧True)) (True∧Br (eqB (x5_1:Int) 1) (((o.length+v6.length≤4611686018427387904)∧True)∧(l71Ref_c b (q+1) g).sm∧(((((g,.agg [.sl false (b.map u8V),iN (q+1)])):Nat×V)=(g,.agg [.sl false (b.map u8V),iN (q+1)]))∧True)∧((b.length≤2000)∧((q+1)≤890000))∧∀ x10_3:List UInt8×Nat,(x10_3.1.length≤25∧(q+1)≤x10_3.2∧x10_3.2≤(q+1)+7)→(((o++v6).length+x10_3.1.length≤4611686018427387904)∧(((o++v6)++x10_3.1).length+v3.length≤4611686018427387904)∧True)∧(I64 ((n:Int) - 1)∧True)∧Q (iV ((n:Int) - 1)) (iN (n - 1))∧True∧∃ x:Nat×(List UInt8)×Nat,match x with | (n₂,o₂,q₂)=>(l71Page_k0 b p g n₂ o₂ q₂)∧(n₂ < n)∧(E v4∧Q (sV (((o++v6)++x10_3.1)++v3)) (sV o₂)∧Q (iN (n - 1)) (iN n₂)∧True)∧(Qr g (.agg [.sl false (b.map u8V),iN x10_3.2]) g (.agg [.sl false (b.map u8V),iN q₂])∧True)) (True∧Br (eqB (x5_1:Int) 2) (((o.length+v7.length≤4611686018427387904)∧True)∧(l71Ref_c b (q+1) g).sm∧(((((g,.agg [.sl false (b.map u8V),iN (q+1)])):Nat×V)=(g,.agg [.sl false (b.map u8V),iN (q+1)]))∧True)∧((b.length≤2000)∧((q+1)≤890000))∧∀ x12_3:List UInt8×Nat,(x12_3.1.length≤25∧(q+1)≤x12_3.2∧x12_3.2≤(q+1)+7)→(((o++v7).length+x12_3.1.length≤4611686018427387904)∧(((o++v7)++x12_3.1).length+v3.length≤4611686018427387904)∧True)∧(I64 ((n:Int) - 1)∧True)∧Q (iV ((n:Int) - 1)) (iN (n - 1))∧True∧∃ x:Nat×(List UInt8)×Nat,match x with | (n₂,o₂,q₂)=>(l71Page_k0 b p g n₂ o₂ q₂)∧(n₂ < n)∧(E v4∧Q (sV (((o++v7)++x12_3.1)++v3)) (sV o₂)∧Q (iN (n - 1)) (iN n₂)∧True)∧(Qr g (.agg [.sl false (b.map u8V),iN x12_3.2]) g (.agg [.sl false (b.map u8V),iN q₂])∧True)) (True∧Br (eqB (x5_1:Int) 3) (True∧(of_c b (q+1) g ([v5,v1,v3,v2,v9,v8]:List (List UInt8))).sm∧(((((g,.agg [.sl false (b.map u8V),iN (q+1)])):Nat×V)=(g,.agg [.sl false (b.map u8V),iN (q+1)]))∧True)∧((b.length≤2000)∧((q+1)≤1000000)∧(1≤([v5,v1,v3,v2,v9,v8]:List (List UInt8)).length)∧(([v5,v1,v3,v2,v9,v8]:List (List UInt8)).length≤1000))∧∀ x14_3:List UInt8,(x14_3∈([v5,v1,v3,v2,v9,v8]:List (List UInt8)))→((o.length+x14_3.length≤4611686018427387904)∧True)∧(I64 ((n:Int) - 1)∧True)∧Q (iV ((n:Int) - 1)) (iN (n - 1))∧True∧∃ x:Nat×(List UInt8)×Nat,match x with | (n₂,o₂,q₂)=>(l71Page_k0 b p g n₂ o₂ q₂)∧(n₂ < n)∧(E v4∧Q (sV (o++x14_3)) (sV o₂)∧Q (iN (n - 1)) (iN n₂)∧True)∧(Qr g (.agg [.sl false (b.map u8V),iN ((q+1)+1)]) g (.agg [.sl false (b.map u8V),iN q₂])∧True)) (((o.length+v1.length≤4611686018427387904)∧True)∧(l71Ref_c b (q+1) g).sm∧(((((g,.agg [.sl false (b.map u8V),iN (q+1)])):Nat×V)=(g,.agg [.sl false (b.map u8V),iN (q+1)]))∧True)∧((b.length≤2000)∧((q+1)≤890000))∧∀ x6_3:List UInt8×Nat,(x6_3.1.length≤25∧(q+1)≤x6_3.2∧x6_3.2≤(q+1)+7)→(((o++v1).length+x6_3.1.length≤4611686018427387904)∧(((o++v1)++x6_3.1).length+v3.length≤4611686018427387904)∧True)∧(I64 ((n:Int) - 1)∧True)∧Q (iV ((n:Int) - 1)) (iN (n - 1))∧True∧∃ x:Nat×(List UInt8)×Nat,match x with | (n₂,o₂,q₂)=>(l71Page_k0 b p g n₂ o₂ q₂)∧(n₂ < n)∧(E v4∧Q (sV (((o++v1)++x6_3.1)++v3)) (sV o₂)∧Q (iN (n - 1)) (iN n₂)∧True)∧(Qr g (.agg [.sl false (b.map u8V),iN x6_3.2]) g (.agg [.sl false (b.map u8V),iN q₂])∧True)))))) (True∧True∧∃ x:List UInt8×Nat,(x.1.length≤240∧p≤x.2∧x.2≤p+70)∧Q (sV o) (sV x.1)∧(Qr g (.agg [.sl false (b.map u8V),iN q]) g (.agg [.sl false (b.map u8V),iN x.2])∧True)))) ([41]:List UInt8)) ([60,97]:List UInt8)) ([60,64]:List UInt8)) ([60,33]:List UInt8)) ([116,101,120,116,32]:List UInt8)) (.ptr (.key 1000) [] g 0)) ([62]:List UInt8)) ([40]:List UInt8)) ([60]:List UInt8))
  (by kernel_rfl) ?_
 refine ⟨trivial,trivial,trivial,rfl,⟨rfl,trivial⟩,⟨by omega,by omega,by omega⟩,?_⟩
 intro x2_1 hx2_1
 refine ⟨trivial,?_⟩
 refine ⟨⟨(x2_1,[],p+1),?_,⟨rfl,rfl,rfl,trivial⟩,⟨rfl,trivial⟩⟩,?_⟩
 · unfold l71Page_k0
   simp; omega
 rintro ⟨n,o,q⟩ ⟨h1,h2,h3⟩
 refine ⟨trivial,?_⟩
 refine ⟨fun hb1=>?_,fun hb1=>?_⟩
 · try simp only [nb] at hb1
   refine ⟨trivial,rfl,⟨rfl,trivial⟩,⟨by omega,by omega,by omega⟩,?_⟩
   intro x5_1 hx5_1
   refine ⟨trivial,?_⟩
   refine ⟨fun hb2=>?_,fun hb2=>?_⟩
   · try simp only [nb] at hb2
     refine ⟨⟨by (try simp only [List.length_append,List.length_cons,List.length_nil]); (try have:=len_mem (n:=11) rfl hx14_3); omega,trivial⟩,rfl,⟨rfl,trivial⟩,⟨by omega,by omega⟩,?_⟩
     intro x8_3 hx8_3
     refine ⟨⟨by (try simp only [List.length_append,List.length_cons,List.length_nil]); (try have:=len_mem (n:=11) rfl hx14_3); omega,by (try simp only [List.length_append,List.length_cons,List.length_nil]); (try have:=len_mem (n:=11) rfl hx14_3); omega,trivial⟩,rfl,⟨rfl,trivial⟩,⟨by omega,by omega⟩,?_⟩
     intro x8_7 hx8_7
     refine ⟨⟨by (try simp only [List.length_append,List.length_cons,List.length_nil]); (try have:=len_mem (n:=11) rfl hx14_3); omega,by (try simp only [List.length_append,List.length_cons,List.length_nil]); (try have:=len_mem (n:=11) rfl hx14_3); omega,trivial⟩,⟨by omega,trivial⟩,by simp [Q]; omega,trivial,?_⟩
     refine ⟨(n - 1,((((o++([40]:List UInt8))++x8_3.1)++([60]:List UInt8))++x8_7.1)++([62,41]:List UInt8),x8_7.2),?_,?_,⟨rfl,rfl,rfl,trivial⟩,⟨rfl,trivial⟩⟩
     · unfold l71Page_k0
       try have:=len_mem (n:=11) rfl hx14_3
       exact ⟨by simp only [List.length_append,List.length_cons,List.length_nil]; omega,by omega,by omega⟩
     · first | (simp; done) | omega | (simp; omega)
   · try simp only [nb] at hb2
     refine ⟨trivial,?_⟩
     refine ⟨fun hb3=>?_,fun hb3=>?_⟩
     · try simp only [nb] at hb3
       refine ⟨⟨by (try simp only [List.length_append,List.length_cons,List.length_nil]); (try have:=len_mem (n:=11) rfl hx14_3); omega,trivial⟩,rfl,⟨rfl,trivial⟩,⟨by omega,by omega⟩,?_⟩
       intro x10_3 hx10_3
       refine ⟨⟨by (try simp only [List.length_append,List.length_cons,List.length_nil]); (try have:=len_mem (n:=11) rfl hx14_3); omega,by (try simp only [List.length_append,List.length_cons,List.length_nil]); (try have:=len_mem (n:=11) rfl hx14_3); omega,trivial⟩,⟨by omega,trivial⟩,by simp [Q]; omega,trivial,?_⟩
       refine ⟨(n - 1,((o++([60,33]:List UInt8))++x10_3.1)++([62]:List UInt8),x10_3.2),?_,?_,⟨rfl,rfl,rfl,trivial⟩,⟨rfl,trivial⟩⟩
       · unfold l71Page_k0
         try have:=len_mem (n:=11) rfl hx14_3
         exact ⟨by simp only [List.length_append,List.length_cons,List.length_nil]; omega,by omega,by omega⟩
       · first | (simp; done) | omega | (simp; omega)
     · try simp only [nb] at hb3
       refine ⟨trivial,?_⟩
       refine ⟨fun hb4=>?_,fun hb4=>?_⟩
       · try simp only [nb] at hb4
         refine ⟨⟨by (try simp only [List.length_append,List.length_cons,List.length_nil]); (try have:=len_mem (n:=11) rfl hx14_3); omega,trivial⟩,rfl,⟨rfl,trivial⟩,⟨by omega,by omega⟩,?_⟩
         intro x12_3 hx12_3
         refine ⟨⟨by (try simp only [List.length_append,List.length_cons,List.length_nil]); (try have:=len_mem (n:=11) rfl hx14_3); omega,by (try simp only [List.length_append,List.length_cons,List.length_nil]); (try have:=len_mem (n:=11) rfl hx14_3); omega,trivial⟩,⟨by omega,trivial⟩,by simp [Q]; omega,trivial,?_⟩
         refine ⟨(n - 1,((o++([60,64]:List UInt8))++x12_3.1)++([62]:List UInt8),x12_3.2),?_,?_,⟨rfl,rfl,rfl,trivial⟩,⟨rfl,trivial⟩⟩
         · unfold l71Page_k0
           try have:=len_mem (n:=11) rfl hx14_3
           exact ⟨by simp only [List.length_append,List.length_cons,List.length_nil]; omega,by omega,by omega⟩
         · first | (simp; done) | omega | (simp; omega)
       · try simp only [nb] at hb4
         refine ⟨trivial,?_⟩
         refine ⟨fun hb5=>?_,fun hb5=>?_⟩
         · try simp only [nb] at hb5
           refine ⟨trivial,rfl,⟨rfl,trivial⟩,⟨by omega,by omega,by simp,by simp⟩,?_⟩
           intro x14_3 hx14_3
           refine ⟨⟨by (try simp only [List.length_append,List.length_cons,List.length_nil]); (try have:=len_mem (n:=11) rfl hx14_3); omega,trivial⟩,⟨by omega,trivial⟩,by simp [Q]; omega,trivial,?_⟩
           refine ⟨(n - 1,o++x14_3,(q+1)+1),?_,?_,⟨rfl,rfl,rfl,trivial⟩,⟨rfl,trivial⟩⟩
           · unfold l71Page_k0
             try have:=len_mem (n:=11) rfl hx14_3
             exact ⟨by simp only [List.length_append,List.length_cons,List.length_nil]; omega,by omega,by omega⟩
           · first | (simp; done) | omega | (simp; omega)
         · try simp only [nb] at hb5
           refine ⟨⟨by (try simp only [List.length_append,List.length_cons,List.length_nil]); (try have:=len_mem (n:=11) rfl hx14_3); omega,trivial⟩,rfl,⟨rfl,trivial⟩,⟨by omega,by omega⟩,?_⟩
           intro x6_3 hx6_3
           refine ⟨⟨by (try simp only [List.length_append,List.length_cons,List.length_nil]); (try have:=len_mem (n:=11) rfl hx14_3); omega,by (try simp only [List.length_append,List.length_cons,List.length_nil]); (try have:=len_mem (n:=11) rfl hx14_3); omega,trivial⟩,⟨by omega,trivial⟩,by simp [Q]; omega,trivial,?_⟩
           refine ⟨(n - 1,((o++([60]:List UInt8))++x6_3.1)++([62]:List UInt8),x6_3.2),?_,?_,⟨rfl,rfl,rfl,trivial⟩,⟨rfl,trivial⟩⟩
           · unfold l71Page_k0
             try have:=len_mem (n:=11) rfl hx14_3
             exact ⟨by simp only [List.length_append,List.length_cons,List.length_nil]; omega,by omega,by omega⟩
           · first | (simp; done) | omega | (simp; omega)
 · try simp only [nb] at hb1
   refine ⟨trivial,?_⟩
   refine ⟨trivial,(o,q),?_,?_,?_⟩
   · try dsimp only
     exact ⟨by omega,by omega,by omega⟩
   · first | rfl | simp_all
   · first | exact ⟨rfl,trivial⟩ | trivial | simp_all
def l71Page_c (b:List UInt8) (p:Nat) (g:Nat):ConX Tryz.prog:={ X:=List UInt8×Nat,f:=91,args:=[.ptr (.key 1000) [] g 0],H:=[(1000,(g,.agg [.sl false (b.map u8V),iN p]))],pre:=(b.length≤2000)∧(p≤880000),post:=fun x=>x.1.length≤240∧p≤x.2∧x.2≤p+70,res:=fun x=>sV x.1,H':=fun x=>[(1000,(g,.agg [.sl false (b.map u8V),iN x.2]))],ok:=fun h=>l71Page_ok b p g h.1 h.2 }
abbrev l11At_r (w:List Pg) (a:List UInt8):V:=.tup [.agg [sV ((atL w a).1.addr),sV ((atL w a).1.text),sV ((atL w a).1.lead),iV ((atL w a).1.fails)],bV ((atL w a).2)]
abbrev l11At_k0 (w:List Pg) (a:List UInt8) (i:Nat):Prop:=i≤w.length∧atL w a=atL (w.drop i) a
theorem l11At_ok (w:List Pg) (a:List UInt8) (hw:w.length≤1000000):PF Tryz.prog 92 [.sl false (w.map pgV),sV a] [] (fun r h=>r=(l11At_r w a)∧h=[]):=by
 refine PF_go1 (N:=25) (rs:=[.cell 4 65,.tmp 5]) Tryz.func92 (by kernel_rfl) rfl rfl rfl (by kernel_rfl)
  (.al zt65 (fun g4=>.r 1 [] <| .r 1 [] <| .loop (Nat) (fun (i:Nat)=>⟨[(0,.sl false (w.map pgV)),(1,sV a),(4,.ptr (.key 4) [] g4 0),(6,iN i)],[(4,(g4,.agg [sV [],sV [],sV [],iN 0]))]⟩) (fun (i:Nat)=>l11At_k0 w a i) (fun (i:Nat)=>w.length - i) (fun (i:Nat)=>.r 4 [] <| .br (.r 7 [.agg [sV ((w.getD i pg0).addr),sV ((w.getD i pg0).text),sV ((w.getD i pg0).lead),iV ((w.getD i pg0).fails)]] <| .br (.r 4 [.agg [sV ((w.getD i pg0).addr),sV ((w.getD i pg0).text),sV ((w.getD i pg0).lead),iV ((w.getD i pg0).fails)]] <| .st none <| .r 1 [] <| .nil) (.r 3 [] <| .nil)) (.bd zt65 <| .st none <| .r 1 [] <| .nil))))
  (∀ g4:Nat,True∧True∧(∃ i₀:Nat,(l11At_k0 w a i₀)∧(E (.sl false (w.map pgV))∧E (sV a)∧E (.ptr (.key 4) [] g4 0)∧Q (iN 0) (iN i₀)∧True)∧(Er g4 (.agg [sV [],sV [],sV [],iN 0])∧True))∧∀ i:Nat,(l11At_k0 w a i)→(fun v1:V=>True∧Br (ltB (i:Int) (((w.map pgV).length:Nat):Int)) ((Ex (i:Int) (w.map pgV) v1∧True∧True)∧Br (((w.getD i pg0).addr)==a) ((Ex (i:Int) (w.map pgV) v1∧True∧True)∧Z g4 0∧True∧(g4=g4∧True)∧Q (.tup [.agg [sV ((w.getD i pg0).addr),sV ((w.getD i pg0).text),sV ((w.getD i pg0).lead),iV ((w.getD i pg0).fails)],bV true]) (l11At_r w a)∧(True)) ((I64 ((i:Int)+1)∧True)∧∃ i₂:Nat,(l11At_k0 w a i₂)∧(w.length - i₂ < w.length - i)∧(E (.sl false (w.map pgV))∧E (sV a)∧E (.ptr (.key 4) [] g4 0)∧Q (iN (i+1)) (iN i₂)∧True)∧(Er g4 (.agg [sV [],sV [],sV [],iN 0])∧True))) (Z g4 0∧True∧(g4=g4∧True)∧Q (.tup [.agg [sV [],sV [],sV [],iN 0],bV false]) (l11At_r w a)∧(True))) (.agg [sV ((w.getD i pg0).addr),sV ((w.getD i pg0).text),sV ((w.getD i pg0).lead),iV ((w.getD i pg0).fails)]))
  (by kernel_rfl) ?_
 intro g4
 refine ⟨trivial,trivial,?_⟩
 refine ⟨⟨0,?_,⟨rfl,rfl,rfl,rfl,trivial⟩,⟨rfl,trivial⟩⟩,?_⟩
 · unfold l11At_k0
   simp
 rintro i ⟨h1,h2⟩
 refine ⟨trivial,?_⟩
 refine ⟨fun hb1=>?_,fun hb1=>?_⟩
 · try simp only [nb,List.length_map] at hb1
   refine ⟨⟨⟨by omega,getE_map (d:=pg0) (by omega)⟩,trivial,trivial⟩,?_⟩
   refine ⟨fun hb2=>?_,fun hb2=>?_⟩
   · try simp only [nb] at hb2
     refine ⟨⟨⟨by omega,getE_map (d:=pg0) (by omega)⟩,trivial,trivial⟩,rfl,trivial,?_⟩
     refine ⟨⟨rfl,trivial⟩,?_,trivial⟩
     unfold Q l11At_r
     rw [h2,drop_cons (by omega:i < w.length) pg0,atL,if_pos hb2]
   · try simp only [nb] at hb2
     refine ⟨⟨by omega,trivial⟩,?_⟩
     refine ⟨i+1,?_,?_,⟨rfl,rfl,rfl,rfl,trivial⟩,⟨rfl,trivial⟩⟩
     · unfold l11At_k0
       refine ⟨by omega,?_⟩
       rw [h2,drop_cons (by omega:i < w.length) pg0,atL,if_neg hb2]
     · first | (simp; done) | omega | (simp; omega)
 · try simp only [nb,List.length_map] at hb1
   refine ⟨rfl,trivial,?_⟩
   refine ⟨⟨rfl,trivial⟩,?_,trivial⟩
   unfold Q l11At_r
   rw [h2,List.drop_eq_nil_of_le (by omega)]; rfl
def l11At_c (w:List Pg) (a:List UInt8):Con Tryz.prog:={ f:=92,args:=[.sl false (w.map pgV),sV a],H:=[],pre:=(w.length≤1000000),res:=l11At_r w a,H':=[],ok:=fun h=>l11At_ok w a h }
def l6Dec_rc (n m:Nat) (ih:∀ m,m < n→(m≤1000000)→PF Tryz.prog 57 [iN m] [] (fun r h=>r=(sV (decL m))∧h=[])):Con Tryz.prog:={ f:=57,args:=[iN m],pre:=m < n∧(m≤1000000),res:=sV (decL m),ok:=fun h=>ih m h.1 h.2 }
theorem l6Dec_ok (n:Nat) (hn:n≤1000000):PF Tryz.prog 57 [iN n] [] (fun r h=>r=(sV (decL n))∧h=[]):=by
 revert hn
 induction n using Nat.strongRecOn with
 | ind n ih=>
 intro hn
 refine PF_go1 (N:=28) (rs:=[.tmp 2]) Tryz.func57 (by kernel_rfl) rfl rfl rfl (by kernel_rfl)
  (.r 1 [] <| .r 2 [] <| .br (.r 1 [] <| .nil) (.r 2 [] <| .br (.r 2 [] <| .c (l6Dec_rc n (Int.toNat (-(n:Int))) ih) [] <| .r 2 [] <| .nil) (.r 2 [] <| .br (.r 3 [] <| .h (.eqt 15 (uN ((UInt8.ofNat (48+n)).toNat))) <| .bs <| .by_ [(UInt8.ofNat (48+n))] <| .r 1 [] <| .nil) (.dx 9 [0,1,2,3,4,5,6,7,8] [] [] <| .r 1 [] <| .r 1 [] <| .c (l6Dec_rc n (n / 10) ih) [] <| .r 1 [] <| .r 1 [] <| .r 1 [] <| .r 1 [] <| .h (.eqt 24 (uN ((UInt8.ofNat (48+n % 10)).toNat))) <| .bs <| .by_ [(UInt8.ofNat (48+n % 10))] <| .r 2 [] <| .nil))))
  (True∧True∧Br (ltB (n:Int) (-9223372036854775807)) (True∧True∧Q (sV ([45,57,50,50,51,51,55,50,48,51,54,56,53,52,55,55,53,56,48,56]:List UInt8)) (sV (decL n))∧(True)) (True∧Br (ltB (n:Int) 0) ((I64 (-(n:Int))∧True)∧(([iV (-(n:Int))]:List V)=[iN (Int.toNat (-(n:Int)))])∧(True)∧(((Int.toNat (-(n:Int))) < n)∧((Int.toNat (-(n:Int)))≤1000000))∧((([45]:List UInt8).length+(decL (Int.toNat (-(n:Int)))).length≤4611686018427387904)∧True)∧True∧Q (sV (([45]:List UInt8)++(decL (Int.toNat (-(n:Int)))))) (sV (decL n))∧(True)) (True∧Br (ltB (n:Int) 10) ((I64 (48+(n:Int))∧U8r ((48+n:Nat):Int)∧True)∧Q (uN (48+n)) (uN ((UInt8.ofNat (48+n)).toNat))∧(True)∧([uN ((UInt8.ofNat (48+n)).toNat)]=[(UInt8.ofNat (48+n))].map u8V)∧True∧True∧Q (sV [(UInt8.ofNat (48+n))]) (sV (decL n))∧(True)) (True∧(((0:Int)≤(n:Int)∧(0:Int) < 10∧I64 (n:Int))∧True)∧(l6Dec_rc n (n / 10) ih).sm∧(((n / 10) < n)∧((n / 10)≤1000000))∧True∧(((0:Int)≤(n:Int)∧(0:Int) < 10)∧True)∧(I64 (48+((n % 10:Nat):Int))∧True)∧(U8r ((48+(n % 10):Nat):Int)∧True)∧Q (uN (48+(n % 10))) (uN ((UInt8.ofNat (48+n % 10)).toNat))∧([uN ((UInt8.ofNat (48+n % 10)).toNat)]=[(UInt8.ofNat (48+n % 10))].map u8V)∧(((decL (n / 10)).length+([(UInt8.ofNat (48+n % 10))]:List UInt8).length≤4611686018427387904)∧True)∧True∧Q (sV ((decL (n / 10))++[(UInt8.ofNat (48+n % 10))])) (sV (decL n))∧(True)))))
  (by kernel_rfl) ?_
 refine ⟨trivial,trivial,?_⟩
 refine ⟨fun hb1=>?_,fun hb1=>?_⟩
 · try simp only [nb] at hb1
   exfalso; omega
 · try simp only [nb] at hb1
   refine ⟨trivial,?_⟩
   refine ⟨fun hb2=>?_,fun hb2=>?_⟩
   · try simp only [nb] at hb2
     exfalso; omega
   · try simp only [nb] at hb2
     refine ⟨trivial,?_⟩
     refine ⟨fun hb3=>?_,fun hb3=>?_⟩
     · try simp only [nb] at hb3
       refine ⟨⟨by omega,by omega,trivial⟩,by exact u8_of (by omega),trivial,rfl,trivial,?_⟩
       refine ⟨trivial,?_,trivial⟩
       unfold Q
       rw [show decL n=[UInt8.ofNat (48+n)] from by rw [decL,if_pos (by omega)]]
     · try simp only [nb] at hb3
       refine ⟨trivial,⟨by omega,trivial⟩,rfl,⟨by omega,by omega⟩,trivial,⟨by omega,trivial⟩,⟨by omega,trivial⟩,⟨by omega,trivial⟩,by exact u8_of (by omega),rfl,⟨by have:=decL_len (n / 10) (by omega); simp; omega,trivial⟩,?_⟩
       refine ⟨trivial,?_,trivial⟩
       unfold Q
       rw [show decL n=decL (n / 10)++[UInt8.ofNat (48+n % 10)] from by rw [decL,if_neg (by omega)]]
def l6Dec_c (n:Nat):Con Tryz.prog:={ f:=57,args:=[iN n],H:=[],pre:=(n≤1000000),res:=sV (decL n),H':=[],ok:=fun h=>l6Dec_ok n h }
end Go.Proofs.YthliifpcaahnnaaGreatDoor
namespace Go.Proofs.YthliifpcaahnnaaGreatDoor
open Go Go.Abs Go.RowKit Go.Pd
set_option maxRecDepth 20000
theorem ex_i {l:List Int} {i:Nat} (h:i < l.length):Ex (i:Int) (l.map iV) (iV (l.getD i 0)):=⟨Int.natCast_nonneg _,by simp [List.getD_eq_getElem?_getD,h]⟩
theorem noticeOk_ok (gs:List Grp) (hl:gs.length≤4) (hg:∀ y,y∈gs→GrpOk y):PF Tryz.prog 127 [.sl false (gs.map grpV)] [] (fun r h=> ∃ x:Bool,(True)∧r=(bV x)∧h=[]):=by
 refine PF_go (N:=94) (rs:=[.tmp 2]) (X:=Bool) (post:=fun x=>True) (E:=fun x=>bV x) (H':=fun x=>[]) Tryz.func127 (by kernel_rfl) rfl rfl rfl (by kernel_rfl) [] (by intro _ k hk; simpa [lk] using hk)
  (.r 1 [] <| .r 1 [] <| .r 1 [] <| .loop (Nat×Nat) (fun (i,m)=>⟨[(0,.sl false (gs.map grpV)),(3,iN m),(4,iN i)],[]⟩) (fun (i,m)=>i≤gs.length∧m≤10 * i) (fun (i,m)=>gs.length - i) (fun (i,m)=>.r 4 [] <| .br (.r 4 [.agg [.sl false (((gs.getD i (⟨[],[],0⟩:Grp)).na).map sV),.sl false (((gs.getD i (⟨[],[],0⟩:Grp)).ru).map ruleV),iN ((gs.getD i (⟨[],[],0⟩:Grp)).wa)]] <| .al zt36 (fun g5=>.st none <| .r 24 [.dead,.dead,.dead,.dead,.dead] <| .cg (l6In_c (((gs.getD i (⟨[],[],0⟩:Grp)).wa:Nat):Int) (0:Int) (20:Int)) <| .r 2 [] <| .br (.r 1 [] <| .nil) (.r 1 [] <| .loop (Nat) (fun (k:Nat)=>⟨[(0,.sl false (gs.map grpV)),(3,iN m),(4,iN i),(5,.ptr (.key 5) [] g5 0),(6,iN k)],[(5,(g5,.agg [.sl false (((gs.getD i (⟨[],[],0⟩:Grp)).na).map sV),.sl false (((gs.getD i (⟨[],[],0⟩:Grp)).ru).map ruleV),iN ((gs.getD i (⟨[],[],0⟩:Grp)).wa)]))]⟩) (fun (k:Nat)=>k≤(gs.getD i ⟨[],[],0⟩).na.length) (fun (k:Nat)=>(gs.getD i ⟨[],[],0⟩).na.length - k) (fun (k:Nat)=>.r 5 [.dead] <| .br (.r 12 [.dead,sV (((gs.getD i (⟨[],[],0⟩:Grp)).na).getD k []),.dead,sV (((gs.getD i (⟨[],[],0⟩:Grp)).na).getD k [])] <| .cg (l2Name_c (((gs.getD i (⟨[],[],0⟩:Grp)).na).getD k [])) <| .r 2 [] <| .br (.r 1 [] <| .nil) (.r 3 [] <| .nil)) (.r 1 [] <| .loop (Nat) (fun (k:Nat)=>⟨[(0,.sl false (gs.map grpV)),(3,iN m),(4,iN i),(5,.ptr (.key 5) [] g5 0),(7,iN k)],[(5,(g5,.agg [.sl false (((gs.getD i (⟨[],[],0⟩:Grp)).na).map sV),.sl false (((gs.getD i (⟨[],[],0⟩:Grp)).ru).map ruleV),iN ((gs.getD i (⟨[],[],0⟩:Grp)).wa)]))]⟩) (fun (k:Nat)=>k≤(gs.getD i ⟨[],[],0⟩).ru.length) (fun (k:Nat)=>(gs.getD i ⟨[],[],0⟩).ru.length - k) (fun (k:Nat)=>.r 5 [.dead] <| .br (.r 6 [.dead,.agg [bV ((((gs.getD i (⟨[],[],0⟩:Grp)).ru).getD k (⟨false,[]⟩:Rul)).let_),sV ((((gs.getD i (⟨[],[],0⟩:Grp)).ru).getD k (⟨false,[]⟩:Rul)).path)]] <| .c (ruleOk_c ((((gs.getD i (⟨[],[],0⟩:Grp)).ru).getD k (⟨false,[]⟩:Rul)).path)) [] <| .r 1 [] <| .br (.r 1 [] <| .nil) (.r 3 [] <| .nil)) (.r 11 [.dead,.dead] <| .r 3 [] <| .nil))))))) (.r 3 [] <| .nil)))
  ((fun v1:List UInt8=>(fun v2:V=>(True∧True∧True∧(∃ x:Nat×Nat,match x with | (i₀,m₀)=>(i₀≤gs.length∧m₀≤10 * i₀)∧(E v2∧Q (iN 0) (iN m₀)∧Q (iN 0) (iN i₀)∧True)∧True)∧∀ x:Nat×Nat,match x with | (i,m)=>(i≤gs.length∧m≤10 * i)→(fun v9:Int=>(fun v3:Bool=>(fun v4:Int=>(fun v10:Int=>(fun v5:Bool=>(fun v6:V=>(fun v7:Bool=>(fun v8:Bool=>True∧Br (ltB (i:Int) (((gs.map grpV).length:Nat):Int)) ((Ex (i:Int) (gs.map grpV) v6∧True∧True)∧∀ g5:Nat,(fun v11:V=>Z g5 0∧(Z g5 0∧Gd (v3==false) (True∧True)∧Gd (v3==false) ((Gd (v3==false) ((v3==false)=true)∧True)∧Z g5 1)∧Gd (v3==false) ((Gd (v3==false) ((v3==false)=true)∧True)∧True)∧Gd (v3==false) ((Gd (v3==false) ((v3==false)=true)∧True)∧True)∧Gd (v3==false) ((Gd (v3==false) ((v3==false)=true)∧True)∧True)∧Gd ((v3==false)&&((eqB v4 0)==true)) (True∧True)∧Gd ((v3==false)&&((eqB v4 0)==true)) ((Gd ((v3==false)&&((eqB v4 0)==true)) (((v3==false)&&((eqB v4 0)==true))=true)∧True)∧Z g5 2)∧Gd ((v3==false)&&((eqB v4 0)==true)) ((Gd ((v3==false)&&((eqB v4 0)==true)) (((v3==false)&&((eqB v4 0)==true))=true)∧True)∧True)∧Gd (v3==false) ((Gd (v3==false) ((v3==false)=true)∧True)∧Pk (eqB v4 0) ((v3==false)&&((eqB v4 0)==true)) true)∧Pk v3 true (v3==false)∧Gd v8 (True∧True)∧Gd v8 ((Gd v8 (v8=true)∧True)∧Z g5 1)∧Gd v8 ((Gd v8 (v8=true)∧True)∧True)∧Gd v8 ((Gd v8 (v8=true)∧True)∧True)∧Pk (v3||((eqB v4 0)&&v5)) true v8∧Gd v7 (True∧True)∧Gd v7 ((Gd v7 (v7=true)∧True)∧Z g5 2)∧True)∧Gd v7 ((Gd v7 (v7=true)∧True)∧(True)∧(l6In_c v10 (0:Int) (20:Int)).sm)∧(Gd v7 ((Gd v7 (v7=true)∧True)∧True)∧Pk ((v3||((eqB v4 0)&&v5))||(gtB v4 6)) true v7∧True)∧Br (((v3||((eqB v4 0)&&v5))||(gtB v4 6))||(!(inL v10 (0:Int) (20:Int)))) (True∧True∧∃ x:Bool,(True)∧Q (bV false) (bV x)∧(True)) (True∧(∃ k₀:Nat,(k₀≤(gs.getD i ⟨[],[],0⟩).na.length)∧(E v2∧E (iN m)∧E (iN i)∧E v11∧Q (iN 0) (iN k₀)∧True)∧(Er g5 v6∧True))∧∀ k:Nat,(k≤(gs.getD i ⟨[],[],0⟩).na.length)→(Z g5 0∧True)∧Br (ltB (k:Int) v9) ((Z g5 0∧Ex (k:Int) (((gs.getD i (⟨[],[],0⟩:Grp)).na).map sV) (sV (((gs.getD i (⟨[],[],0⟩:Grp)).na).getD k []))∧True∧Gd ((!((((gs.getD i (⟨[],[],0⟩:Grp)).na).getD k [])==v1))==true) (True∧True)∧Gd ((!((((gs.getD i (⟨[],[],0⟩:Grp)).na).getD k [])==v1))==true) ((Gd ((!((((gs.getD i (⟨[],[],0⟩:Grp)).na).getD k [])==v1))==true) (((!((((gs.getD i (⟨[],[],0⟩:Grp)).na).getD k [])==v1))==true)=true)∧True)∧Z g5 0)∧Gd ((!((((gs.getD i (⟨[],[],0⟩:Grp)).na).getD k [])==v1))==true) (True∧True)∧Gd ((!((((gs.getD i (⟨[],[],0⟩:Grp)).na).getD k [])==v1))==true) ((Gd ((!((((gs.getD i (⟨[],[],0⟩:Grp)).na).getD k [])==v1))==true) (((!((((gs.getD i (⟨[],[],0⟩:Grp)).na).getD k [])==v1))==true)=true)∧(Gd ((!((((gs.getD i (⟨[],[],0⟩:Grp)).na).getD k [])==v1))==true) (((!((((gs.getD i (⟨[],[],0⟩:Grp)).na).getD k [])==v1))==true)=true)∧True))∧Ex (k:Int) (((gs.getD i (⟨[],[],0⟩:Grp)).na).map sV) (sV (((gs.getD i (⟨[],[],0⟩:Grp)).na).getD k [])))∧Gd ((!((((gs.getD i (⟨[],[],0⟩:Grp)).na).getD k [])==v1))==true) ((Gd ((!((((gs.getD i (⟨[],[],0⟩:Grp)).na).getD k [])==v1))==true) (((!((((gs.getD i (⟨[],[],0⟩:Grp)).na).getD k [])==v1))==true)=true)∧True)∧True)∧True)∧Gd ((!((((gs.getD i (⟨[],[],0⟩:Grp)).na).getD k [])==v1))==true) ((Gd ((!((((gs.getD i (⟨[],[],0⟩:Grp)).na).getD k [])==v1))==true) (((!((((gs.getD i (⟨[],[],0⟩:Grp)).na).getD k [])==v1))==true)=true)∧True)∧(((((gs.getD i (⟨[],[],0⟩:Grp)).na).getD k []).length≤4611686018427387904))∧(l2Name_c (((gs.getD i (⟨[],[],0⟩:Grp)).na).getD k [])).sm)∧(Gd ((!((((gs.getD i (⟨[],[],0⟩:Grp)).na).getD k [])==v1))==true) ((Gd ((!((((gs.getD i (⟨[],[],0⟩:Grp)).na).getD k [])==v1))==true) (((!((((gs.getD i (⟨[],[],0⟩:Grp)).na).getD k [])==v1))==true)=true)∧True)∧True)∧Pk (!((((gs.getD i (⟨[],[],0⟩:Grp)).na).getD k [])==v1)) ((!((((gs.getD i (⟨[],[],0⟩:Grp)).na).getD k [])==v1))==true) true∧True)∧Br ((!((((gs.getD i (⟨[],[],0⟩:Grp)).na).getD k [])==v1))&&(!(nameL (((gs.getD i (⟨[],[],0⟩:Grp)).na).getD k [])))) (True∧True∧∃ x:Bool,(True)∧Q (bV false) (bV x)∧(True)) ((I64 ((k:Int)+1)∧True)∧∃ k₂:Nat,(k₂≤(gs.getD i ⟨[],[],0⟩).na.length)∧((gs.getD i ⟨[],[],0⟩).na.length - k₂ < (gs.getD i ⟨[],[],0⟩).na.length - k)∧(E v2∧E (iN m)∧E (iN i)∧E v11∧Q (iN (k+1)) (iN k₂)∧True)∧(Er g5 v6∧True))) (True∧(∃ k₀:Nat,(k₀≤(gs.getD i ⟨[],[],0⟩).ru.length)∧(E v2∧E (iN m)∧E (iN i)∧E v11∧Q (iN 0) (iN k₀)∧True)∧(Er g5 v6∧True))∧∀ k:Nat,(k≤(gs.getD i ⟨[],[],0⟩).ru.length)→(Z g5 1∧True)∧Br (ltB (k:Int) v4) ((Z g5 1∧Ex (k:Int) (((gs.getD i (⟨[],[],0⟩:Grp)).ru).map ruleV) (.agg [bV ((((gs.getD i (⟨[],[],0⟩:Grp)).ru).getD k (⟨false,[]⟩:Rul)).let_),sV ((((gs.getD i (⟨[],[],0⟩:Grp)).ru).getD k (⟨false,[]⟩:Rul)).path)])∧True∧True)∧(ruleOk_c ((((gs.getD i (⟨[],[],0⟩:Grp)).ru).getD k (⟨false,[]⟩:Rul)).path)).sm∧(True)∧((((((gs.getD i (⟨[],[],0⟩:Grp)).ru).getD k (⟨false,[]⟩:Rul)).path).length≤4611686018427387904))∧True∧Br (!(ruleOkL ((((gs.getD i (⟨[],[],0⟩:Grp)).ru).getD k (⟨false,[]⟩:Rul)).path))) (True∧True∧∃ x:Bool,(True)∧Q (bV false) (bV x)∧(True)) ((I64 ((k:Int)+1)∧True)∧∃ k₂:Nat,(k₂≤(gs.getD i ⟨[],[],0⟩).ru.length)∧((gs.getD i ⟨[],[],0⟩).ru.length - k₂ < (gs.getD i ⟨[],[],0⟩).ru.length - k)∧(E v2∧E (iN m)∧E (iN i)∧E v11∧Q (iN (k+1)) (iN k₂)∧True)∧(Er g5 v6∧True))) ((Z g5 0∧I64 ((m:Int)+v9)∧Z g5 1∧I64 (((m+((((gs.getD i (⟨[],[],0⟩:Grp)).na).map sV).length):Nat):Int)+v4)∧I64 ((((m+((((gs.getD i (⟨[],[],0⟩:Grp)).na).map sV).length))+((((gs.getD i (⟨[],[],0⟩:Grp)).ru).map ruleV).length):Nat):Int)+1)∧True)∧(I64 ((i:Int)+1)∧True)∧∃ x:Nat×Nat,match x with | (i₂,m₂)=>(i₂≤gs.length∧m₂≤10 * i₂)∧(gs.length - i₂ < gs.length - i)∧(E v2∧Q (iN (((m+((((gs.getD i (⟨[],[],0⟩:Grp)).na).map sV).length))+((((gs.getD i (⟨[],[],0⟩:Grp)).ru).map ruleV).length))+1)) (iN m₂)∧Q (iN (i+1)) (iN i₂)∧True)∧True)))) (.ptr (.key 5) [] g5 0)) (True∧True∧∃ x:Bool,(True)∧Q (bV (leB (m:Int) 40)) (bV x)∧(True))) ((v3||((eqB v4 0)&&v5))==false)) (((v3||((eqB v4 0)&&v5))||(gtB v4 6))==false)) (.agg [.sl false (((gs.getD i (⟨[],[],0⟩:Grp)).na).map sV),.sl false (((gs.getD i (⟨[],[],0⟩:Grp)).ru).map ruleV),iN ((gs.getD i (⟨[],[],0⟩:Grp)).wa)])) (eqB v10 0)) (((gs.getD i (⟨[],[],0⟩:Grp)).wa:Nat):Int)) (((((gs.getD i (⟨[],[],0⟩:Grp)).ru).map ruleV).length:Nat):Int)) (eqB v9 0)) (((((gs.getD i (⟨[],[],0⟩:Grp)).na).map sV).length:Nat):Int))) (.sl false (gs.map grpV))) ([42]:List UInt8))
  (by kernel_rfl) ?_
 refine ⟨trivial,trivial,trivial,?_⟩
 refine ⟨⟨(0,0),?_,⟨rfl,rfl,rfl,trivial⟩,trivial⟩,?_⟩
 · simp
 rintro ⟨i,m⟩ ⟨h1,h2⟩
 have hgi:=grp_i hg i
 have hn1:=hgi.nl
 have hn2:=hgi.rl
 have hn3:=hgi.w
 refine ⟨trivial,?_⟩
 refine ⟨fun hb1=>?_,fun hb1=>?_⟩
 · try simp only [nb,List.length_map] at hb1
   refine ⟨⟨⟨by omega,getE_map (d:=(⟨[],[],0⟩:Grp)) (by omega)⟩,trivial,trivial⟩,?_⟩
   intro g5
   refine ⟨rfl,⟨rfl,fun hG=>⟨trivial,trivial⟩,fun hG=>⟨⟨fun h=>h,trivial⟩,rfl⟩,fun hG=>⟨⟨fun h=>h,trivial⟩,trivial⟩,fun hG=>⟨⟨fun h=>h,trivial⟩,trivial⟩,fun hG=>⟨⟨fun h=>h,trivial⟩,trivial⟩,fun hG=>⟨trivial,trivial⟩,fun hG=>⟨⟨fun h=>h,trivial⟩,rfl⟩,fun hG=>⟨⟨fun h=>h,trivial⟩,trivial⟩,fun hG=>⟨⟨fun h=>h,trivial⟩,⟨fun h=>by rw [h]; exact (Bool.and_eq_true _ _).mpr ⟨hG,rfl⟩,fun _=>rfl⟩⟩,⟨fun _=>rfl,fun h=>by first | (rw [h]; done) | (rw [h]; rfl)⟩,fun hG=>⟨trivial,trivial⟩,fun hG=>⟨⟨fun h=>h,trivial⟩,rfl⟩,fun hG=>⟨⟨fun h=>h,trivial⟩,trivial⟩,fun hG=>⟨⟨fun h=>h,trivial⟩,trivial⟩,⟨fun _=>rfl,fun h=>by first | (rw [h]; done) | (rw [h]; rfl)⟩,fun hG=>⟨trivial,trivial⟩,fun hG=>⟨⟨fun h=>h,trivial⟩,rfl⟩,trivial⟩,fun hG=>⟨⟨fun h=>h,trivial⟩,trivial,rfl⟩,⟨fun hG=>⟨⟨fun h=>h,trivial⟩,trivial⟩,⟨fun _=>rfl,fun h=>by first | (rw [h]; done) | (rw [h]; rfl)⟩,trivial⟩,?_⟩
   refine ⟨fun hb2=>?_,fun hb2=>?_⟩
   · try simp only [nb,List.length_map] at hb2
     refine ⟨trivial,?_⟩
     refine ⟨trivial,false,?_,?_,?_⟩
     · try dsimp only
       skip
     · first | rfl | simp_all
     · first | exact ⟨rfl,trivial⟩ | trivial | simp_all
   · try simp only [nb,List.length_map] at hb2
     refine ⟨trivial,?_⟩
     refine ⟨⟨0,?_,⟨rfl,rfl,rfl,rfl,rfl,trivial⟩,⟨rfl,trivial⟩⟩,?_⟩
     · simp
     rintro k h3
     refine ⟨⟨rfl,trivial⟩,?_⟩
     refine ⟨fun hb3=>?_,fun hb3=>?_⟩
     · try simp only [nb,List.length_map] at hb3
       refine ⟨⟨rfl,⟨by omega,getE_map (d:=[]) (by omega)⟩,trivial,fun hG=>⟨trivial,trivial⟩,fun hG=>⟨⟨fun h=>h,trivial⟩,rfl⟩,fun hG=>⟨trivial,trivial⟩,fun hG=>⟨⟨fun h=>h,⟨fun h=>h,trivial⟩⟩,⟨by omega,getE_map (d:=[]) (by omega)⟩⟩,fun hG=>⟨⟨fun h=>h,trivial⟩,trivial⟩,trivial⟩,fun hG=>⟨⟨fun h=>h,trivial⟩,by (try simp only [nb] at hG); have:=grp_nb (gs:=gs) hg i k; omega,rfl⟩,⟨fun hG=>⟨⟨fun h=>h,trivial⟩,trivial⟩,⟨fun h=>by first | (rw [h]; done) | (rw [h]; rfl),fun _=>rfl⟩,trivial⟩,?_⟩
       refine ⟨fun hb4=>?_,fun hb4=>?_⟩
       · try simp only [nb] at hb4
         refine ⟨trivial,?_⟩
         refine ⟨trivial,false,?_,?_,?_⟩
         · try dsimp only
           skip
         · first | rfl | simp_all
         · first | exact ⟨rfl,trivial⟩ | trivial | simp_all
       · try simp only [nb] at hb4
         refine ⟨⟨by omega,trivial⟩,?_⟩
         refine ⟨k+1,?_,?_,⟨rfl,rfl,rfl,rfl,rfl,trivial⟩,⟨rfl,trivial⟩⟩
         · (try simp only [List.length_append,List.length_cons,List.length_nil,List.length_map]); omega
         · first | (simp; done) | omega | (simp; omega)
     · try simp only [nb,List.length_map] at hb3
       refine ⟨trivial,?_⟩
       refine ⟨⟨0,?_,⟨rfl,rfl,rfl,rfl,rfl,trivial⟩,⟨rfl,trivial⟩⟩,?_⟩
       · simp
       rintro k h3
       refine ⟨⟨rfl,trivial⟩,?_⟩
       refine ⟨fun hb5=>?_,fun hb5=>?_⟩
       · try simp only [nb,List.length_map] at hb5
         refine ⟨⟨rfl,⟨by omega,getE_map (d:=(⟨false,[]⟩:Rul)) (by omega)⟩,trivial,trivial⟩,rfl,trivial,by have:=grp_rb (gs:=gs) hg i k; omega,trivial,?_⟩
         refine ⟨fun hb6=>?_,fun hb6=>?_⟩
         · try simp only [nb] at hb6
           refine ⟨trivial,?_⟩
           refine ⟨trivial,false,?_,?_,?_⟩
           · try dsimp only
             skip
           · first | rfl | simp_all
           · first | exact ⟨rfl,trivial⟩ | trivial | simp_all
         · try simp only [nb] at hb6
           refine ⟨⟨by omega,trivial⟩,?_⟩
           refine ⟨k+1,?_,?_,⟨rfl,rfl,rfl,rfl,rfl,trivial⟩,⟨rfl,trivial⟩⟩
           · (try simp only [List.length_append,List.length_cons,List.length_nil,List.length_map]); omega
           · first | (simp; done) | omega | (simp; omega)
       · try simp only [nb,List.length_map] at hb5
         refine ⟨⟨rfl,by (try simp only [List.length_map] at *); omega,rfl,by (try simp only [List.length_map] at *); omega,by (try simp only [List.length_map] at *); omega,trivial⟩,⟨by omega,trivial⟩,?_⟩
         refine ⟨(i+1,((m+((((gs.getD i (⟨[],[],0⟩:Grp)).na).map sV).length))+((((gs.getD i (⟨[],[],0⟩:Grp)).ru).map ruleV).length))+1),?_,?_,⟨rfl,rfl,rfl,trivial⟩,trivial⟩
         · refine ⟨by omega,?_⟩
           (try simp only [List.length_append,List.length_cons,List.length_nil,List.length_map]); omega
         · first | (simp; done) | omega | (simp; omega)
 · try simp only [nb,List.length_map] at hb1
   refine ⟨trivial,?_⟩
   refine ⟨trivial,leB (m:Int) 40,?_,?_,?_⟩
   · try dsimp only
     skip
   · first | rfl | simp_all
   · first | exact ⟨rfl,trivial⟩ | trivial | simp_all
def noticeOk_c (gs:List Grp):ConX Tryz.prog:={ X:=Bool,f:=127,args:=[.sl false (gs.map grpV)],H:=[],pre:=(gs.length≤4)∧(∀ y,y∈gs→GrpOk y),post:=fun x=>True,res:=fun x=>bV x,H':=fun x=>[],ok:=fun h=>noticeOk_ok gs h.1 h.2 }
abbrev noticeText_k0 (gs:List Grp) (i:Nat) (o:List UInt8):Prop:=i≤gs.length∧o.length≤200 * i
theorem noticeText_ok (gs:List Grp) (hl:gs.length≤4) (hg:∀ y,y∈gs→GrpOk y):PF Tryz.prog 89 [.sl false (gs.map grpV)] [] (fun r h=> ∃ x:List UInt8,(x.length≤1000)∧r=(sV x)∧h=[]):=by
 refine PF_go (N:=89) (rs:=[.tmp 2]) (X:=List UInt8) (post:=fun x=>x.length≤1000) (E:=fun x=>sV x) (H':=fun x=>[]) Tryz.func89 (by kernel_rfl) rfl rfl rfl (by kernel_rfl) [] (by intro _ k hk; simpa [lk] using hk)
  (.r 1 [] <| .r 1 [] <| .cx (noticeOk_c gs) [] (fun (x1_1:Bool)=>.r 1 [] <| .br (.r 1 [] <| .nil) (.r 1 [] <| .r 1 [] <| .loop (Nat×(List UInt8)) (fun (i,o)=>⟨[(0,.sl false (gs.map grpV)),(3,sV o),(4,iN i)],[]⟩) (fun (i,o)=>noticeText_k0 gs i o) (fun (i,o)=>gs.length - i) (fun (i,o)=>.r 4 [] <| .br (.r 1 [] <| .loop (Nat×(List UInt8)) (fun (k,q)=>⟨[(0,.sl false (gs.map grpV)),(3,sV q),(4,iN i),(5,iN k)],[]⟩) (fun (k,q)=>k≤(gs.getD i ⟨[],[],0⟩).na.length∧q.length≤200 * i+20 * k) (fun (k,q)=>(gs.getD i ⟨[],[],0⟩).na.length - k) (fun (k,q)=>.r 8 [.agg [.sl false (((gs.getD i (⟨[],[],0⟩:Grp)).na).map sV),.sl false (((gs.getD i (⟨[],[],0⟩:Grp)).ru).map ruleV),iN ((gs.getD i (⟨[],[],0⟩:Grp)).wa)]] <| .br (.r 13 [.agg [.sl false (((gs.getD i (⟨[],[],0⟩:Grp)).na).map sV),.sl false (((gs.getD i (⟨[],[],0⟩:Grp)).ru).map ruleV),iN ((gs.getD i (⟨[],[],0⟩:Grp)).wa)],sV (((gs.getD i (⟨[],[],0⟩:Grp)).na).getD k [])] <| .r 3 [] <| .nil) (.r 1 [] <| .loop (Nat×(List UInt8)) (fun (l,r)=>⟨[(0,.sl false (gs.map grpV)),(3,sV r),(4,iN i),(6,iN l)],[]⟩) (fun (l,r)=>l≤(gs.getD i ⟨[],[],0⟩).ru.length∧r.length≤200 * i+40+20 * l) (fun (l,r)=>(gs.getD i ⟨[],[],0⟩).ru.length - l) (fun (l,r)=>.r 8 [.agg [.sl false (((gs.getD i (⟨[],[],0⟩:Grp)).na).map sV),.sl false (((gs.getD i (⟨[],[],0⟩:Grp)).ru).map ruleV),iN ((gs.getD i (⟨[],[],0⟩:Grp)).wa)]] <| .br (.r 1 [] <| .r 9 [.agg [.sl false (((gs.getD i (⟨[],[],0⟩:Grp)).na).map sV),.sl false (((gs.getD i (⟨[],[],0⟩:Grp)).ru).map ruleV),iN ((gs.getD i (⟨[],[],0⟩:Grp)).wa)],.agg [bV ((((gs.getD i (⟨[],[],0⟩:Grp)).ru).getD l (⟨false,[]⟩:Rul)).let_),sV ((((gs.getD i (⟨[],[],0⟩:Grp)).ru).getD l (⟨false,[]⟩:Rul)).path)]] <| .br (.r 1 [] <| .r 15 [.agg [.sl false (((gs.getD i (⟨[],[],0⟩:Grp)).na).map sV),.sl false (((gs.getD i (⟨[],[],0⟩:Grp)).ru).map ruleV),iN ((gs.getD i (⟨[],[],0⟩:Grp)).wa)],.agg [bV ((((gs.getD i (⟨[],[],0⟩:Grp)).ru).getD l (⟨false,[]⟩:Rul)).let_),sV ((((gs.getD i (⟨[],[],0⟩:Grp)).ru).getD l (⟨false,[]⟩:Rul)).path)]] <| .r 3 [] <| .nil) (.r 15 [.agg [.sl false (((gs.getD i (⟨[],[],0⟩:Grp)).na).map sV),.sl false (((gs.getD i (⟨[],[],0⟩:Grp)).ru).map ruleV),iN ((gs.getD i (⟨[],[],0⟩:Grp)).wa)],.agg [bV ((((gs.getD i (⟨[],[],0⟩:Grp)).ru).getD l (⟨false,[]⟩:Rul)).let_),sV ((((gs.getD i (⟨[],[],0⟩:Grp)).ru).getD l (⟨false,[]⟩:Rul)).path)]] <| .r 3 [] <| .nil)) (.r 6 [.agg [.sl false (((gs.getD i (⟨[],[],0⟩:Grp)).na).map sV),.sl false (((gs.getD i (⟨[],[],0⟩:Grp)).ru).map ruleV),iN ((gs.getD i (⟨[],[],0⟩:Grp)).wa)]] <| .br (.r 7 [.agg [.sl false (((gs.getD i (⟨[],[],0⟩:Grp)).na).map sV),.sl false (((gs.getD i (⟨[],[],0⟩:Grp)).ru).map ruleV),iN ((gs.getD i (⟨[],[],0⟩:Grp)).wa)]] <| .c (l6Dec_c ((gs.getD i (⟨[],[],0⟩:Grp)).wa)) [] <| .r 3 [] <| .r 3 [] <| .nil) (.r 3 [] <| .nil)))))) (.r 2 [] <| .nil)))))
  ((fun v1:V=>(fun v2:List UInt8=>(fun v3:List UInt8=>(fun v4:List UInt8=>(fun v5:List UInt8=>(fun v6:List UInt8=>(True∧True∧(noticeOk_c gs).sm∧(True)∧((gs.length≤4)∧(∀ y,y∈gs→GrpOk y))∧∀ x1_1:Bool,(True)→True∧Br (!x1_1) (True∧True∧∃ x:List UInt8,(x.length≤1000)∧Q (sV []) (sV x)∧(True)) (True∧True∧(∃ x:Nat×(List UInt8),match x with | (i₀,o₀)=>(noticeText_k0 gs i₀ o₀)∧(E v1∧Q (sV []) (sV o₀)∧Q (iN 0) (iN i₀)∧True)∧True)∧∀ x:Nat×(List UInt8),match x with | (i,o)=>(noticeText_k0 gs i o)→(fun v7:V=>True∧Br (ltB (i:Int) (((gs.map grpV).length:Nat):Int)) (True∧(∃ x:Nat×(List UInt8),match x with | (k₀,q₀)=>(k₀≤(gs.getD i ⟨[],[],0⟩).na.length∧q₀.length≤200 * i+20 * k₀)∧(E v1∧Q (sV o) (sV q₀)∧E (iN i)∧Q (iN 0) (iN k₀)∧True)∧True)∧∀ x:Nat×(List UInt8),match x with | (k,q)=>(k≤(gs.getD i ⟨[],[],0⟩).na.length∧q.length≤200 * i+20 * k)→(Ex (i:Int) (gs.map grpV) v7∧True∧True)∧Br (ltB (k:Int) (((((gs.getD i (⟨[],[],0⟩:Grp)).na).map sV).length:Nat):Int)) (((q.length+v2.length≤4611686018427387904)∧Ex (i:Int) (gs.map grpV) v7∧True∧Ex (k:Int) (((gs.getD i (⟨[],[],0⟩:Grp)).na).map sV) (sV (((gs.getD i (⟨[],[],0⟩:Grp)).na).getD k []))∧True∧((q++v2).length+(((gs.getD i (⟨[],[],0⟩:Grp)).na).getD k []).length≤4611686018427387904)∧(((q++v2)++(((gs.getD i (⟨[],[],0⟩:Grp)).na).getD k [])).length+v3.length≤4611686018427387904)∧True)∧(I64 ((k:Int)+1)∧True)∧∃ x:Nat×(List UInt8),match x with | (k₂,q₂)=>(k₂≤(gs.getD i ⟨[],[],0⟩).na.length∧q₂.length≤200 * i+20 * k₂)∧((gs.getD i ⟨[],[],0⟩).na.length - k₂ < (gs.getD i ⟨[],[],0⟩).na.length - k)∧(E v1∧Q (sV (((q++v2)++(((gs.getD i (⟨[],[],0⟩:Grp)).na).getD k []))++v3)) (sV q₂)∧E (iN i)∧Q (iN (k+1)) (iN k₂)∧True)∧True) (True∧(∃ x:Nat×(List UInt8),match x with | (l₀,r₀)=>(l₀≤(gs.getD i ⟨[],[],0⟩).ru.length∧r₀.length≤200 * i+40+20 * l₀)∧(E v1∧Q (sV q) (sV r₀)∧E (iN i)∧Q (iN 0) (iN l₀)∧True)∧True)∧∀ x:Nat×(List UInt8),match x with | (l,r)=>(l≤(gs.getD i ⟨[],[],0⟩).ru.length∧r.length≤200 * i+40+20 * l)→(fun v8:V=>(Ex (i:Int) (gs.map grpV) v7∧True∧True)∧Br (ltB (l:Int) (((((gs.getD i (⟨[],[],0⟩:Grp)).ru).map ruleV).length:Nat):Int)) (True∧(Ex (i:Int) (gs.map grpV) v7∧True∧Ex (l:Int) (((gs.getD i (⟨[],[],0⟩:Grp)).ru).map ruleV) v8∧True∧True)∧Br ((((gs.getD i (⟨[],[],0⟩:Grp)).ru).getD l (⟨false,[]⟩:Rul)).let_) (True∧((r.length+v5.length≤4611686018427387904)∧Ex (i:Int) (gs.map grpV) v7∧True∧Ex (l:Int) (((gs.getD i (⟨[],[],0⟩:Grp)).ru).map ruleV) v8∧True∧((r++v5).length+((((gs.getD i (⟨[],[],0⟩:Grp)).ru).getD l (⟨false,[]⟩:Rul)).path).length≤4611686018427387904)∧(((r++v5)++((((gs.getD i (⟨[],[],0⟩:Grp)).ru).getD l (⟨false,[]⟩:Rul)).path)).length+v3.length≤4611686018427387904)∧True)∧(I64 ((l:Int)+1)∧True)∧∃ x:Nat×(List UInt8),match x with | (l₂,r₂)=>(l₂≤(gs.getD i ⟨[],[],0⟩).ru.length∧r₂.length≤200 * i+40+20 * l₂)∧((gs.getD i ⟨[],[],0⟩).ru.length - l₂ < (gs.getD i ⟨[],[],0⟩).ru.length - l)∧(E v1∧Q (sV (((r++v5)++((((gs.getD i (⟨[],[],0⟩:Grp)).ru).getD l (⟨false,[]⟩:Rul)).path))++v3)) (sV r₂)∧E (iN i)∧Q (iN (l+1)) (iN l₂)∧True)∧True) (((r.length+v6.length≤4611686018427387904)∧Ex (i:Int) (gs.map grpV) v7∧True∧Ex (l:Int) (((gs.getD i (⟨[],[],0⟩:Grp)).ru).map ruleV) v8∧True∧((r++v6).length+((((gs.getD i (⟨[],[],0⟩:Grp)).ru).getD l (⟨false,[]⟩:Rul)).path).length≤4611686018427387904)∧(((r++v6)++((((gs.getD i (⟨[],[],0⟩:Grp)).ru).getD l (⟨false,[]⟩:Rul)).path)).length+v3.length≤4611686018427387904)∧True)∧(I64 ((l:Int)+1)∧True)∧∃ x:Nat×(List UInt8),match x with | (l₂,r₂)=>(l₂≤(gs.getD i ⟨[],[],0⟩).ru.length∧r₂.length≤200 * i+40+20 * l₂)∧((gs.getD i ⟨[],[],0⟩).ru.length - l₂ < (gs.getD i ⟨[],[],0⟩).ru.length - l)∧(E v1∧Q (sV (((r++v6)++((((gs.getD i (⟨[],[],0⟩:Grp)).ru).getD l (⟨false,[]⟩:Rul)).path))++v3)) (sV r₂)∧E (iN i)∧Q (iN (l+1)) (iN l₂)∧True)∧True)) ((Ex (i:Int) (gs.map grpV) v7∧True∧True)∧Br (gtB (((gs.getD i (⟨[],[],0⟩:Grp)).wa:Nat):Int) 0) (((r.length+v4.length≤4611686018427387904)∧Ex (i:Int) (gs.map grpV) v7∧True∧True)∧(l6Dec_c ((gs.getD i (⟨[],[],0⟩:Grp)).wa)).sm∧(True)∧((((gs.getD i (⟨[],[],0⟩:Grp)).wa)≤1000000))∧(((r++v4).length+(decL ((gs.getD i (⟨[],[],0⟩:Grp)).wa)).length≤4611686018427387904)∧(((r++v4)++(decL ((gs.getD i (⟨[],[],0⟩:Grp)).wa))).length+v3.length≤4611686018427387904)∧True)∧(I64 ((i:Int)+1)∧True)∧∃ x:Nat×(List UInt8),match x with | (i₂,o₂)=>(noticeText_k0 gs i₂ o₂)∧(gs.length - i₂ < gs.length - i)∧(E v1∧Q (sV (((r++v4)++(decL ((gs.getD i (⟨[],[],0⟩:Grp)).wa)))++v3)) (sV o₂)∧Q (iN (i+1)) (iN i₂)∧True)∧True) ((I64 ((i:Int)+1)∧True)∧∃ x:Nat×(List UInt8),match x with | (i₂,o₂)=>(noticeText_k0 gs i₂ o₂)∧(gs.length - i₂ < gs.length - i)∧(E v1∧Q (sV r) (sV o₂)∧Q (iN (i+1)) (iN i₂)∧True)∧True))) (.agg [bV ((((gs.getD i (⟨[],[],0⟩:Grp)).ru).getD l (⟨false,[]⟩:Rul)).let_),sV ((((gs.getD i (⟨[],[],0⟩:Grp)).ru).getD l (⟨false,[]⟩:Rul)).path)]))) (True∧True∧∃ x:List UInt8,(x.length≤1000)∧Q (sV o) (sV x)∧(True))) (.agg [.sl false (((gs.getD i (⟨[],[],0⟩:Grp)).na).map sV),.sl false (((gs.getD i (⟨[],[],0⟩:Grp)).ru).map ruleV),iN ((gs.getD i (⟨[],[],0⟩:Grp)).wa)])))) ([98,97,114,32]:List UInt8)) ([108,101,116,32]:List UInt8)) ([119,97,105,116,32]:List UInt8)) ([10]:List UInt8)) ([99,97,108,108,101,114,32]:List UInt8)) (.sl false (gs.map grpV)))
  (by kernel_rfl) ?_
 refine ⟨trivial,trivial,rfl,trivial,⟨hl,hg⟩,?_⟩
 intro x1_1 hx1_1
 refine ⟨trivial,?_⟩
 refine ⟨fun hb1=>?_,fun hb1=>?_⟩
 · try simp only [nb] at hb1
   refine ⟨trivial,?_⟩
   refine ⟨trivial,[],?_,?_,?_⟩
   · try dsimp only
     simp
   · first | rfl | simp_all
   · first | exact ⟨rfl,trivial⟩ | trivial | simp_all
 · try simp only [nb] at hb1
   refine ⟨trivial,trivial,?_⟩
   refine ⟨⟨(0,[]),?_,⟨rfl,rfl,rfl,trivial⟩,trivial⟩,?_⟩
   · unfold noticeText_k0
     simp
   rintro ⟨i,o⟩ ⟨h1,h2⟩
   have hgi:=grp_i hg i
   have hn1:=hgi.nl
   have hn2:=hgi.rl
   have hn3:=hgi.w
   have hn4:=decL_len (gs.getD i ⟨[],[],0⟩).wa (by omega)
   refine ⟨trivial,?_⟩
   refine ⟨fun hb2=>?_,fun hb2=>?_⟩
   · try simp only [nb,List.length_map] at hb2
     refine ⟨trivial,?_⟩
     refine ⟨⟨(0,o),?_,⟨rfl,rfl,rfl,rfl,trivial⟩,trivial⟩,?_⟩
     · simp; omega
     rintro ⟨k,q⟩ ⟨h3,h4⟩
     have hk1:=grp_nb (gs:=gs) hg i k
     refine ⟨⟨⟨by omega,getE_map (d:=(⟨[],[],0⟩:Grp)) (by omega)⟩,trivial,trivial⟩,?_⟩
     refine ⟨fun hb3=>?_,fun hb3=>?_⟩
     · try simp only [nb,List.length_map] at hb3
       refine ⟨⟨by (try have:=grp_nb (gs:=gs) hg i k); (try have:=grp_rb (gs:=gs) hg i k); (try simp only [List.length_append,List.length_cons,List.length_nil]); omega,⟨by omega,getE_map (d:=(⟨[],[],0⟩:Grp)) (by omega)⟩,trivial,⟨by omega,getE_map (d:=[]) (by omega)⟩,trivial,by (try have:=grp_nb (gs:=gs) hg i k); (try have:=grp_rb (gs:=gs) hg i k); (try simp only [List.length_append,List.length_cons,List.length_nil]); omega,by (try have:=grp_nb (gs:=gs) hg i k); (try have:=grp_rb (gs:=gs) hg i k); (try simp only [List.length_append,List.length_cons,List.length_nil]); omega,trivial⟩,⟨by omega,trivial⟩,?_⟩
       refine ⟨(k+1,((q++([99,97,108,108,101,114,32]:List UInt8))++(((gs.getD i (⟨[],[],0⟩:Grp)).na).getD k []))++([10]:List UInt8)),?_,?_,⟨rfl,rfl,rfl,rfl,trivial⟩,trivial⟩
       · refine ⟨by omega,?_⟩
         (try simp only [List.length_append,List.length_cons,List.length_nil,List.length_map]); omega
       · first | (simp; done) | omega | (simp; omega)
     · try simp only [nb,List.length_map] at hb3
       refine ⟨trivial,?_⟩
       refine ⟨⟨(0,q),?_,⟨rfl,rfl,rfl,rfl,trivial⟩,trivial⟩,?_⟩
       · simp; omega
       rintro ⟨l,r⟩ ⟨h5,h6⟩
       have hk2:=grp_rb (gs:=gs) hg i l
       refine ⟨⟨⟨by omega,getE_map (d:=(⟨[],[],0⟩:Grp)) (by omega)⟩,trivial,trivial⟩,?_⟩
       refine ⟨fun hb4=>?_,fun hb4=>?_⟩
       · try simp only [nb,List.length_map] at hb4
         refine ⟨trivial,⟨⟨by omega,getE_map (d:=(⟨[],[],0⟩:Grp)) (by omega)⟩,trivial,⟨by omega,getE_map (d:=(⟨false,[]⟩:Rul)) (by omega)⟩,trivial,trivial⟩,?_⟩
         refine ⟨fun hb5=>?_,fun hb5=>?_⟩
         · try simp only [nb] at hb5
           refine ⟨trivial,⟨by (try have:=grp_nb (gs:=gs) hg i k); (try have:=grp_rb (gs:=gs) hg i k); (try simp only [List.length_append,List.length_cons,List.length_nil]); omega,⟨by omega,getE_map (d:=(⟨[],[],0⟩:Grp)) (by omega)⟩,trivial,⟨by omega,getE_map (d:=(⟨false,[]⟩:Rul)) (by omega)⟩,trivial,by (try have:=grp_nb (gs:=gs) hg i k); (try have:=grp_rb (gs:=gs) hg i k); (try simp only [List.length_append,List.length_cons,List.length_nil]); omega,by (try have:=grp_nb (gs:=gs) hg i k); (try have:=grp_rb (gs:=gs) hg i k); (try simp only [List.length_append,List.length_cons,List.length_nil]); omega,trivial⟩,⟨by omega,trivial⟩,?_⟩
           refine ⟨(l+1,((r++([108,101,116,32]:List UInt8))++((((gs.getD i (⟨[],[],0⟩:Grp)).ru).getD l (⟨false,[]⟩:Rul)).path))++([10]:List UInt8)),?_,?_,⟨rfl,rfl,rfl,rfl,trivial⟩,trivial⟩
           · refine ⟨by omega,?_⟩
             (try simp only [List.length_append,List.length_cons,List.length_nil,List.length_map]); omega
           · first | (simp; done) | omega | (simp; omega)
         · try simp only [nb] at hb5
           refine ⟨⟨by (try have:=grp_nb (gs:=gs) hg i k); (try have:=grp_rb (gs:=gs) hg i k); (try simp only [List.length_append,List.length_cons,List.length_nil]); omega,⟨by omega,getE_map (d:=(⟨[],[],0⟩:Grp)) (by omega)⟩,trivial,⟨by omega,getE_map (d:=(⟨false,[]⟩:Rul)) (by omega)⟩,trivial,by (try have:=grp_nb (gs:=gs) hg i k); (try have:=grp_rb (gs:=gs) hg i k); (try simp only [List.length_append,List.length_cons,List.length_nil]); omega,by (try have:=grp_nb (gs:=gs) hg i k); (try have:=grp_rb (gs:=gs) hg i k); (try simp only [List.length_append,List.length_cons,List.length_nil]); omega,trivial⟩,⟨by omega,trivial⟩,?_⟩
           refine ⟨(l+1,((r++([98,97,114,32]:List UInt8))++((((gs.getD i (⟨[],[],0⟩:Grp)).ru).getD l (⟨false,[]⟩:Rul)).path))++([10]:List UInt8)),?_,?_,⟨rfl,rfl,rfl,rfl,trivial⟩,trivial⟩
           · refine ⟨by omega,?_⟩
             (try simp only [List.length_append,List.length_cons,List.length_nil,List.length_map]); omega
           · first | (simp; done) | omega | (simp; omega)
       · try simp only [nb,List.length_map] at hb4
         refine ⟨⟨⟨by omega,getE_map (d:=(⟨[],[],0⟩:Grp)) (by omega)⟩,trivial,trivial⟩,?_⟩
         refine ⟨fun hb6=>?_,fun hb6=>?_⟩
         · try simp only [nb] at hb6
           refine ⟨⟨by (try have:=grp_nb (gs:=gs) hg i k); (try have:=grp_rb (gs:=gs) hg i k); (try simp only [List.length_append,List.length_cons,List.length_nil]); omega,⟨by omega,getE_map (d:=(⟨[],[],0⟩:Grp)) (by omega)⟩,trivial,trivial⟩,rfl,trivial,by omega,⟨by (try have:=grp_nb (gs:=gs) hg i k); (try have:=grp_rb (gs:=gs) hg i k); (try simp only [List.length_append,List.length_cons,List.length_nil]); omega,by (try have:=grp_nb (gs:=gs) hg i k); (try have:=grp_rb (gs:=gs) hg i k); (try simp only [List.length_append,List.length_cons,List.length_nil]); omega,trivial⟩,⟨by omega,trivial⟩,?_⟩
           refine ⟨(i+1,((r++([119,97,105,116,32]:List UInt8))++(decL ((gs.getD i (⟨[],[],0⟩:Grp)).wa)))++([10]:List UInt8)),?_,?_,⟨rfl,rfl,rfl,trivial⟩,trivial⟩
           · unfold noticeText_k0
             refine ⟨by omega,?_⟩
             (try simp only [List.length_append,List.length_cons,List.length_nil,List.length_map]); omega
           · first | (simp; done) | omega | (simp; omega)
         · try simp only [nb] at hb6
           refine ⟨⟨by omega,trivial⟩,?_⟩
           refine ⟨(i+1,r),?_,?_,⟨rfl,rfl,rfl,trivial⟩,trivial⟩
           · unfold noticeText_k0
             refine ⟨by omega,?_⟩
             (try simp only [List.length_append,List.length_cons,List.length_nil,List.length_map]); omega
           · first | (simp; done) | omega | (simp; omega)
   · try simp only [nb,List.length_map] at hb2
     refine ⟨trivial,?_⟩
     refine ⟨trivial,o,?_,?_,?_⟩
     · try dsimp only
       omega
     · first | rfl | simp_all
     · first | exact ⟨rfl,trivial⟩ | trivial | simp_all
def noticeText_c (gs:List Grp):ConX Tryz.prog:={ X:=List UInt8,f:=89,args:=[.sl false (gs.map grpV)],H:=[],pre:=(gs.length≤4)∧(∀ y,y∈gs→GrpOk y),post:=fun x=>x.length≤1000,res:=fun x=>sV x,H':=fun x=>[],ok:=fun h=>noticeText_ok gs h.1 h.2 }
abbrev l71World_k0 (b:List UInt8) (p:Nat) (g:Nat) (i:Nat) (e:List Pg) (q:Nat) (u:Nat) (f:Nat) (k:Nat):Prop:=i≤4∧e.length≤i∧(∀ y,y∈e→PgSz y)∧p≤q∧q≤p+90 * i
abbrev l71World_k1 (b:List UInt8) (p:Nat) (g:Nat) (n:Nat) (e':List Pg) (q':Nat) (u':Nat) (f':Nat) (k':Nat):Prop:=e'.length+n≤12∧(1≤e'.length∨2≤n)∧(∀ y,y∈e'→PgSz y)∧p≤q'∧q'+100 * n≤p+1300
theorem l71World_ok (b:List UInt8) (p g:Nat) (hb:b.length≤2000) (hp:p≤700000):PF Tryz.prog 54 [.ptr (.key 1000) [] g 0] [(1000,(g,.agg [.sl false (b.map u8V),iN p]))] (fun r h=> ∃ x:List Pg×Nat,(1≤x.1.length∧x.1.length≤12∧(∀ y,y∈x.1→PgSz y)∧p≤x.2∧x.2≤p+1500)∧r=(.ow 4 (x.1.map pgV))∧h=[(1000,(g,.agg [.sl false (b.map u8V),iN x.2]))]):=by
 refine PF_go (N:=94) (rs:=[.tmp 2]) (X:=List Pg×Nat) (post:=fun x=>1≤x.1.length∧x.1.length≤12∧(∀ y,y∈x.1→PgSz y)∧p≤x.2∧x.2≤p+1500) (E:=fun x=>.ow 4 (x.1.map pgV)) (H':=fun x=>[(1000,(g,.agg [.sl false (b.map u8V),iN x.2]))]) Tryz.func54 (by kernel_rfl) rfl rfl rfl (by kernel_rfl) [(1000,(0,.dead))] (by intro _ k hk; simpa [lk] using hk)
  (.r 1 [] <| .bs <| .r 1 [] <| .c (l71Houses_c) [] <| .r 1 [] <| .r 1 [] <| .h (.own0 3 4) <| .loop (Nat×(List Pg)×Nat×Nat×Nat×Nat) (fun (i,e,q,u,f,k)=>⟨[(0,.ptr (.key 1000) [] g 0),(3,.own 4 (e.map pgV) u f k),(4,.sl false (housesL.map sV)),(5,iN i)],[(1000,(g,.agg [.sl false (b.map u8V),iN q]))]⟩) (fun (i,e,q,u,f,k)=>l71World_k0 b p g i e q u f k) (fun (i,e,q,u,f,k)=>4 - i) (fun (i,e,q,u,f,k)=>.r 2 [] <| .br (.r 1 [] <| .cx (pick_c b q g 2) [(1000,1000)] (fun (x6_1:Nat)=>.r 1 [] <| .br (.dx 16 [0,1,2,3,4,5,6,9,10,7,8,11,12,13,14,15] [(3,⟨false,[],some [],[23],[]⟩),(7,⟨true,[],some [1000],[27],[1000]⟩),(8,⟨true,[],some [],[28],[]⟩),(11,⟨true,[],some [1000],[31],[1000]⟩),(13,⟨false,[],some [],[33],[]⟩)] [(15,zt65)] <| .r 1 [] <| .r 1 [] <| .r 1 [sV (housesL.getD i [])] <| .r 1 [] <| .r 1 [] <| .r 1 [] <| .r 1 [] <| .bs <| .r 1 [] <| .cx (l71Groups_c b (q+1) g) [(1000,1000)] (fun (x7_7:List Grp×Nat)=>.cx (noticeText_c x7_7.1) [] (fun (x7_8:List UInt8)=>.cx (pick_c b x7_7.2 g 6) [(1000,1000)] (fun (x7_11:Nat)=>.r 1 [iV ([0,0,0,1,2,5].getD x7_11 0)] <| .r 1 [] <| .bd zt65 <| .ua (fun g6=>.st none <| .r 1 [] <| .cx (pick_c b (x7_7.2+1) g 12) [(1000,1000)] (fun (x8_1:Nat)=>.r 1 [] <| .join (Pg×Nat) (fun y=>⟨[(0,.ptr (.key 1000) [] g 0),(3,.own 4 (e.map pgV) u f k),(4,.sl false (housesL.map sV)),(5,iN i),(13,iN i),(14,bV (ltB (i:Int) 4)),(17,.ptr (.key 1000) [] g 0),(18,iN x6_1),(19,bV (eqB (x6_1:Int) 0)),(20,.sl false (housesL.map sV)),(21,iN i),(22,.ep (sV (housesL.getD i []))),(23,sV (housesL.getD i [])),(24,sV (([47,47]:List UInt8)++(housesL.getD i []))),(25,sV ((([47,47]:List UInt8)++(housesL.getD i []))++([47,110,111,116,105,99,101]:List UInt8))),(26,.ptr (.key 1000) [] g 0),(29,.sl true ([0,0,0,1,2,5].map iV)),(30,.ptr (.key 1000) [] g 0),(27,.sl false (x7_7.1.map grpV)),(28,sV x7_8),(31,iN x7_11),(32,.ep (iV ([0,0,0,1,2,5].getD x7_11 0))),(33,iV ([0,0,0,1,2,5].getD x7_11 0)),(34,.agg [sV ((([47,47]:List UInt8)++(housesL.getD i []))++([47,110,111,116,105,99,101]:List UInt8)),sV x7_8,sV [],iV ([0,0,0,1,2,5].getD x7_11 0)]),(6,.ptr (.key 6) [] g6 0),(35,.ptr (.key 1000) [] g 0),(36,iN x8_1),(37,bV (eqB (x8_1:Int) 0))],[(1000,(g,.agg [.sl false (b.map u8V),iN y.2])),(6,(g6,.agg [sV y.1.addr,sV y.1.text,sV y.1.lead,iV y.1.fails]))]⟩) (fun y=>y.1.addr.length≤30∧y.1.lead.length≤30∧y.1.text.length≤1000∧(0≤y.1.fails∧y.1.fails≤10)∧q≤y.2∧y.2≤q+80∧Asc y.1.addr∧Asc y.1.lead) (.r 1 [] <| .st none <| .r 1 [] <| .cx (l71Addr_c b ((x7_7.2+1)+1) g) [(1000,1000)] (fun (x10_1:List UInt8×Nat)=>.r 1 [] <| .st none <| .nil)) (.nil) (fun y=>.r 4 [.dead] <| .br (.r 2 [.dead] <| .bs <| .ap (fun g49 o49 c49=>.h (.eqt 49 (.own 4 ((e++[y.1]).map pgV) g49 o49 c49)) <| .r 1 [] <| .r 3 [] <| .nil)) (.r 3 [] <| .nil)))))))) (.r 3 [] <| .nil))) (.r 1 [] <| .cx (pick_c b q g 7) [(1000,1000)] (fun (x13_1:Nat)=>.r 2 [] <| .loop (Nat×(List Pg)×Nat×Nat×Nat×Nat) (fun (n,e',q',u',f',k')=>⟨[(0,.ptr (.key 1000) [] g 0),(3,.own 4 (e'.map pgV) u' f' k'),(7,iN n)],[(1000,(g,.agg [.sl false (b.map u8V),iN q']))]⟩) (fun (n,e',q',u',f',k')=>l71World_k1 b p g n e' q' u' f' k') (fun (n,e',q',u',f',k')=>n) (fun (n,e',q',u',f',k')=>.r 2 [] <| .br (.r 1 [] <| .cx (l71Addr_c b q' g) [(1000,1000)] (fun (x16_1:List UInt8×Nat)=>.r 1 [] <| .cx (l71Page_c b x16_1.2 g) [(1000,1000)] (fun (x16_3:List UInt8×Nat)=>.bs <| .r 1 [] <| .cx (pick_c b x16_3.2 g 7) [(1000,1000)] (fun (x16_6:Nat)=>.r 2 [iV ([0,0,0,0,1,2,4].getD x16_6 0)] <| .bd zt65 <| .al zt65 (fun g8=>.st none <| .r 1 [] <| .cx (pick_c b (x16_3.2+1) g 8) [(1000,1000)] (fun (x17_1:Nat)=>.r 1 [] <| .join (Pg×Nat) (fun y=>⟨[(0,.ptr (.key 1000) [] g 0),(3,.own 4 (e'.map pgV) u' f' k'),(7,iN n),(53,iN n),(54,bV (gtB (n:Int) 0)),(57,.ptr (.key 1000) [] g 0),(58,sV x16_1.1),(59,.ptr (.key 1000) [] g 0),(60,sV x16_3.1),(61,.sl true ([0,0,0,0,1,2,4].map iV)),(62,.ptr (.key 1000) [] g 0),(63,iN x16_6),(64,.ep (iV ([0,0,0,0,1,2,4].getD x16_6 0))),(65,iV ([0,0,0,0,1,2,4].getD x16_6 0)),(66,.agg [sV x16_1.1,sV x16_3.1,sV [],iV ([0,0,0,0,1,2,4].getD x16_6 0)]),(8,.ptr (.key 8) [] g8 0),(67,.ptr (.key 1000) [] g 0),(68,iN x17_1),(69,bV (eqB (x17_1:Int) 0))],[(1000,(g,.agg [.sl false (b.map u8V),iN y.2])),(8,(g8,.agg [sV y.1.addr,sV y.1.text,sV y.1.lead,iV y.1.fails]))]⟩) (fun y=>PgSz y.1∧q'≤y.2∧y.2≤q'+90) (.r 1 [] <| .st none <| .r 1 [] <| .cx (l71Addr_c b ((x16_3.2+1)+1) g) [(1000,1000)] (fun (x19_1:List UInt8×Nat)=>.r 1 [] <| .st none <| .nil)) (.nil) (fun y=>.r 3 [.dead] <| .cl (l11At_c e' y.1.addr) <| .r 3 [] <| .al zt65 (fun g9=>.st none <| .r 1 [] <| .r 8 [.dead] <| .br (.r 2 [.dead] <| .bs <| .ap (fun g92 o92 c92=>.h (.eqt 92 (.own 4 ((e'++[y.1]).map pgV) g92 o92 c92)) <| .r 1 [] <| .r 2 [] <| .h (.eqt 56 (iN (n - 1))) <| .r 1 [] <| .nil)) (.r 2 [] <| .h (.eqt 56 (iN (n - 1))) <| .r 1 [] <| .nil))))))))) (.r 2 [] <| .h (.claim 2) <| .nil))))))
  ((fun v1:V=>(fun v2:List UInt8=>(fun v3:List UInt8=>(fun v4:V=>(True∧True∧(l71Houses_c).sm∧(True)∧(True)∧True∧True∧(∃ x:Nat×(List Pg)×Nat×Nat×Nat×Nat,match x with | (i₀,e₀,q₀,u₀,f₀,k₀)=>(l71World_k0 b p g i₀ e₀ q₀ u₀ f₀ k₀)∧(E v1∧Q (.own 4 ([].map pgV) 0 0 0) (.own 4 (e₀.map pgV) u₀ f₀ k₀)∧E v4∧Q (iN 0) (iN i₀)∧True)∧(Qr g (.agg [.sl false (b.map u8V),iN p]) g (.agg [.sl false (b.map u8V),iN q₀])∧True))∧∀ x:Nat×(List Pg)×Nat×Nat×Nat×Nat,match x with | (i,e,q,u,f,k)=>(l71World_k0 b p g i e q u f k)→(fun v5:V=>(fun v6:V=>True∧Br (ltB (i:Int) 4) (True∧(pick_c b q g 2).sm∧(((((g,.agg [.sl false (b.map u8V),iN q])):Nat×V)=(g,.agg [.sl false (b.map u8V),iN q]))∧True)∧((b.length≤2000)∧(q≤1000000)∧(2≤1000000))∧∀ x6_1:Nat,(2=0∧x6_1=0∨x6_1 < 2)→True∧Br (eqB (x6_1:Int) 0) (True∧True∧(Ex (i:Int) (housesL.map sV) v6∧True)∧(True∧True)∧((v3.length+(housesL.getD i []).length≤4611686018427387904)∧True)∧(((v3++(housesL.getD i [])).length+v2.length≤4611686018427387904)∧True)∧True∧True∧(l71Groups_c b (q+1) g).sm∧(((((g,.agg [.sl false (b.map u8V),iN (q+1)])):Nat×V)=(g,.agg [.sl false (b.map u8V),iN (q+1)]))∧True)∧((b.length≤2000)∧((q+1)≤800000))∧∀ x7_7:List Grp×Nat,(x7_7.1.length≤4∧(∀ y,y∈x7_7.1→GrpOk y)∧(q+1)≤x7_7.2∧x7_7.2≤(q+1)+60)→(noticeText_c x7_7.1).sm∧(True)∧((x7_7.1.length≤4)∧(∀ y,y∈x7_7.1→GrpOk y))∧∀ x7_8:List UInt8,(x7_8.length≤1000)→(pick_c b x7_7.2 g 6).sm∧(((((g,.agg [.sl false (b.map u8V),iN x7_7.2])):Nat×V)=(g,.agg [.sl false (b.map u8V),iN x7_7.2]))∧True)∧((b.length≤2000)∧(x7_7.2≤1000000)∧(6≤1000000))∧∀ x7_11:Nat,(6=0∧x7_11=0∨x7_11 < 6)→(fun v7:V=>(Ex (x7_11:Int) ([0,0,0,1,2,5].map iV) (iV ([0,0,0,1,2,5].getD x7_11 0))∧True)∧(True∧True)∧∀ g6:Nat,Z g6 0∧True∧(pick_c b (x7_7.2+1) g 12).sm∧(((((g,.agg [.sl false (b.map u8V),iN (x7_7.2+1)])):Nat×V)=(g,.agg [.sl false (b.map u8V),iN (x7_7.2+1)]))∧True)∧((b.length≤2000)∧((x7_7.2+1)≤1000000)∧(12≤1000000))∧∀ x8_1:Nat,(12=0∧x8_1=0∨x8_1 < 12)→(fun v8:Bool=>True∧(v8=true→True∧Z g6 1∧True∧(l71Addr_c b ((x7_7.2+1)+1) g).sm∧(((((g,.agg [.sl false (b.map u8V),iN ((x7_7.2+1)+1)])):Nat×V)=(g,.agg [.sl false (b.map u8V),iN ((x7_7.2+1)+1)]))∧True)∧((b.length≤2000)∧(((x7_7.2+1)+1)≤900000))∧∀ x10_1:List UInt8×Nat,(x10_1.1.length≤25∧((x7_7.2+1)+1)≤x10_1.2∧x10_1.2≤((x7_7.2+1)+1)+6∧Asc x10_1.1)→True∧Z g6 2∧∃ y:Pg×Nat,(y.1.addr.length≤30∧y.1.lead.length≤30∧y.1.text.length≤1000∧(0≤y.1.fails∧y.1.fails≤10)∧q≤y.2∧y.2≤q+80∧Asc y.1.addr∧Asc y.1.lead)∧(E v1∧E v5∧E v4∧E (iN i)∧E (iN i)∧E (bV (ltB (i:Int) 4))∧E v1∧E (iN x6_1)∧E (bV (eqB (x6_1:Int) 0))∧E v4∧E (iN i)∧E (.ep v6)∧E v6∧E (sV (v3++(housesL.getD i [])))∧E (sV ((v3++(housesL.getD i []))++v2))∧E v1∧E (.sl true ([0,0,0,1,2,5].map iV))∧E v1∧E (.sl false (x7_7.1.map grpV))∧E (sV x7_8)∧E (iN x7_11)∧E (.ep (iV ([0,0,0,1,2,5].getD x7_11 0)))∧E (iV ([0,0,0,1,2,5].getD x7_11 0))∧E v7∧E (.ptr (.key 6) [] g6 0)∧E v1∧E (iN x8_1)∧E (bV v8)∧True)∧(Qr g (.agg [.sl false (b.map u8V),iN x10_1.2]) g (.agg [.sl false (b.map u8V),iN y.2])∧Qr g6 (.agg [sV ((v3++(housesL.getD i []))++v2),sV [],sV x10_1.1,iV ([0,0,0,1,2,5].getD x7_11 0)]) g6 (.agg [sV y.1.addr,sV y.1.text,sV y.1.lead,iV y.1.fails])∧True))∧(v8=false→∃ y:Pg×Nat,(y.1.addr.length≤30∧y.1.lead.length≤30∧y.1.text.length≤1000∧(0≤y.1.fails∧y.1.fails≤10)∧q≤y.2∧y.2≤q+80∧Asc y.1.addr∧Asc y.1.lead)∧(E v1∧E v5∧E v4∧E (iN i)∧E (iN i)∧E (bV (ltB (i:Int) 4))∧E v1∧E (iN x6_1)∧E (bV (eqB (x6_1:Int) 0))∧E v4∧E (iN i)∧E (.ep v6)∧E v6∧E (sV (v3++(housesL.getD i [])))∧E (sV ((v3++(housesL.getD i []))++v2))∧E v1∧E (.sl true ([0,0,0,1,2,5].map iV))∧E v1∧E (.sl false (x7_7.1.map grpV))∧E (sV x7_8)∧E (iN x7_11)∧E (.ep (iV ([0,0,0,1,2,5].getD x7_11 0)))∧E (iV ([0,0,0,1,2,5].getD x7_11 0))∧E v7∧E (.ptr (.key 6) [] g6 0)∧E v1∧E (iN x8_1)∧E (bV v8)∧True)∧(Qr g (.agg [.sl false (b.map u8V),iN ((x7_7.2+1)+1)]) g (.agg [.sl false (b.map u8V),iN y.2])∧Qr g6 v7 g6 (.agg [sV y.1.addr,sV y.1.text,sV y.1.lead,iV y.1.fails])∧True))∧(∀ y:Pg×Nat,(y.1.addr.length≤30∧y.1.lead.length≤30∧y.1.text.length≤1000∧(0≤y.1.fails∧y.1.fails≤10)∧q≤y.2∧y.2≤q+80∧Asc y.1.addr∧Asc y.1.lead)→(fun v9:List V=>(Z g6 1∧True)∧Br (leB (y.1.text.length:Int) 300) ((Z g6 0∧True)∧((4,4,u,f,k,(e.map pgV).length)=(4,4,u,f,k,(e.map pgV).length))∧(True)∧(V.ownsL v9=false)∧(AllN 4 v9)∧(((e.map pgV).length+v9.length) * 56≤140737488355328)∧∀ g49 o49 c49:Nat,((.own 4 ((e.map pgV)++v9) g49 o49 c49:V)=.own 4 ((e++[y.1]).map pgV) g49 o49 c49)∧True∧(I64 ((i:Int)+1)∧True)∧∃ x:Nat×(List Pg)×Nat×Nat×Nat×Nat,match x with | (i₂,e₂,q₂,u₂,f₂,k₂)=>(l71World_k0 b p g i₂ e₂ q₂ u₂ f₂ k₂)∧(4 - i₂ < 4 - i)∧(E v1∧Q (.own 4 ((e++[y.1]).map pgV) g49 o49 c49) (.own 4 (e₂.map pgV) u₂ f₂ k₂)∧E v4∧Q (iN (i+1)) (iN i₂)∧True)∧(Qr g (.agg [.sl false (b.map u8V),iN y.2]) g (.agg [.sl false (b.map u8V),iN q₂])∧True)) ((I64 ((i:Int)+1)∧True)∧∃ x:Nat×(List Pg)×Nat×Nat×Nat×Nat,match x with | (i₂,e₂,q₂,u₂,f₂,k₂)=>(l71World_k0 b p g i₂ e₂ q₂ u₂ f₂ k₂)∧(4 - i₂ < 4 - i)∧(E v1∧Q v5 (.own 4 (e₂.map pgV) u₂ f₂ k₂)∧E v4∧Q (iN (i+1)) (iN i₂)∧True)∧(Qr g (.agg [.sl false (b.map u8V),iN y.2]) g (.agg [.sl false (b.map u8V),iN q₂])∧True))) ([.agg [sV y.1.addr,sV y.1.text,sV y.1.lead,iV y.1.fails]]:List V))) (eqB (x8_1:Int) 0)) (.agg [sV ((v3++(housesL.getD i []))++v2),sV x7_8,sV [],iV ([0,0,0,1,2,5].getD x7_11 0)])) ((I64 ((i:Int)+1)∧True)∧∃ x:Nat×(List Pg)×Nat×Nat×Nat×Nat,match x with | (i₂,e₂,q₂,u₂,f₂,k₂)=>(l71World_k0 b p g i₂ e₂ q₂ u₂ f₂ k₂)∧(4 - i₂ < 4 - i)∧(E v1∧Q v5 (.own 4 (e₂.map pgV) u₂ f₂ k₂)∧E v4∧Q (iN (i+1)) (iN i₂)∧True)∧(Qr g (.agg [.sl false (b.map u8V),iN (q+1)]) g (.agg [.sl false (b.map u8V),iN q₂])∧True))) (True∧(pick_c b q g 7).sm∧(((((g,.agg [.sl false (b.map u8V),iN q])):Nat×V)=(g,.agg [.sl false (b.map u8V),iN q]))∧True)∧((b.length≤2000)∧(q≤1000000)∧(7≤1000000))∧∀ x13_1:Nat,(7=0∧x13_1=0∨x13_1 < 7)→(I64 (2+(x13_1:Int))∧True)∧(∃ x:Nat×(List Pg)×Nat×Nat×Nat×Nat,match x with | (n₀,e'₀,q'₀,u'₀,f'₀,k'₀)=>(l71World_k1 b p g n₀ e'₀ q'₀ u'₀ f'₀ k'₀)∧(E v1∧Q v5 (.own 4 (e'₀.map pgV) u'₀ f'₀ k'₀)∧Q (iN (2+x13_1)) (iN n₀)∧True)∧(Qr g (.agg [.sl false (b.map u8V),iN (q+1)]) g (.agg [.sl false (b.map u8V),iN q'₀])∧True))∧∀ x:Nat×(List Pg)×Nat×Nat×Nat×Nat,match x with | (n,e',q',u',f',k')=>(l71World_k1 b p g n e' q' u' f' k')→(fun v10:V=>True∧Br (gtB (n:Int) 0) (True∧(l71Addr_c b q' g).sm∧(((((g,.agg [.sl false (b.map u8V),iN q'])):Nat×V)=(g,.agg [.sl false (b.map u8V),iN q']))∧True)∧((b.length≤2000)∧(q'≤900000))∧∀ x16_1:List UInt8×Nat,(x16_1.1.length≤25∧q'≤x16_1.2∧x16_1.2≤q'+6∧Asc x16_1.1)→True∧(l71Page_c b x16_1.2 g).sm∧(((((g,.agg [.sl false (b.map u8V),iN x16_1.2])):Nat×V)=(g,.agg [.sl false (b.map u8V),iN x16_1.2]))∧True)∧((b.length≤2000)∧(x16_1.2≤880000))∧∀ x16_3:List UInt8×Nat,(x16_3.1.length≤240∧x16_1.2≤x16_3.2∧x16_3.2≤x16_1.2+70)→True∧(pick_c b x16_3.2 g 7).sm∧(((((g,.agg [.sl false (b.map u8V),iN x16_3.2])):Nat×V)=(g,.agg [.sl false (b.map u8V),iN x16_3.2]))∧True)∧((b.length≤2000)∧(x16_3.2≤1000000)∧(7≤1000000))∧∀ x16_6:Nat,(7=0∧x16_6=0∨x16_6 < 7)→(fun v11:V=>(Ex (x16_6:Int) ([0,0,0,0,1,2,4].map iV) (iV ([0,0,0,0,1,2,4].getD x16_6 0))∧True∧True)∧∀ g8:Nat,Z g8 0∧True∧(pick_c b (x16_3.2+1) g 8).sm∧(((((g,.agg [.sl false (b.map u8V),iN (x16_3.2+1)])):Nat×V)=(g,.agg [.sl false (b.map u8V),iN (x16_3.2+1)]))∧True)∧((b.length≤2000)∧((x16_3.2+1)≤1000000)∧(8≤1000000))∧∀ x17_1:Nat,(8=0∧x17_1=0∨x17_1 < 8)→(fun v12:Bool=>True∧(v12=true→True∧Z g8 1∧True∧(l71Addr_c b ((x16_3.2+1)+1) g).sm∧(((((g,.agg [.sl false (b.map u8V),iN ((x16_3.2+1)+1)])):Nat×V)=(g,.agg [.sl false (b.map u8V),iN ((x16_3.2+1)+1)]))∧True)∧((b.length≤2000)∧(((x16_3.2+1)+1)≤900000))∧∀ x19_1:List UInt8×Nat,(x19_1.1.length≤25∧((x16_3.2+1)+1)≤x19_1.2∧x19_1.2≤((x16_3.2+1)+1)+6∧Asc x19_1.1)→True∧Z g8 2∧∃ y:Pg×Nat,(PgSz y.1∧q'≤y.2∧y.2≤q'+90)∧(E v1∧E v10∧E (iN n)∧E (iN n)∧E (bV (gtB (n:Int) 0))∧E v1∧E (sV x16_1.1)∧E v1∧E (sV x16_3.1)∧E (.sl true ([0,0,0,0,1,2,4].map iV))∧E v1∧E (iN x16_6)∧E (.ep (iV ([0,0,0,0,1,2,4].getD x16_6 0)))∧E (iV ([0,0,0,0,1,2,4].getD x16_6 0))∧E v11∧E (.ptr (.key 8) [] g8 0)∧E v1∧E (iN x17_1)∧E (bV v12)∧True)∧(Qr g (.agg [.sl false (b.map u8V),iN x19_1.2]) g (.agg [.sl false (b.map u8V),iN y.2])∧Qr g8 (.agg [sV x16_1.1,sV [],sV x19_1.1,iV ([0,0,0,0,1,2,4].getD x16_6 0)]) g8 (.agg [sV y.1.addr,sV y.1.text,sV y.1.lead,iV y.1.fails])∧True))∧(v12=false→∃ y:Pg×Nat,(PgSz y.1∧q'≤y.2∧y.2≤q'+90)∧(E v1∧E v10∧E (iN n)∧E (iN n)∧E (bV (gtB (n:Int) 0))∧E v1∧E (sV x16_1.1)∧E v1∧E (sV x16_3.1)∧E (.sl true ([0,0,0,0,1,2,4].map iV))∧E v1∧E (iN x16_6)∧E (.ep (iV ([0,0,0,0,1,2,4].getD x16_6 0)))∧E (iV ([0,0,0,0,1,2,4].getD x16_6 0))∧E v11∧E (.ptr (.key 8) [] g8 0)∧E v1∧E (iN x17_1)∧E (bV v12)∧True)∧(Qr g (.agg [.sl false (b.map u8V),iN ((x16_3.2+1)+1)]) g (.agg [.sl false (b.map u8V),iN y.2])∧Qr g8 v11 g8 (.agg [sV y.1.addr,sV y.1.text,sV y.1.lead,iV y.1.fails])∧True))∧(∀ y:Pg×Nat,(PgSz y.1∧q'≤y.2∧y.2≤q'+90)→(fun v13:Bool=>(fun v14:List V=>(Z g8 0∧True)∧(((4=4∧u'=u'∧f'=f')∧0+((e'.map pgV).length)≤(e'.map pgV).length∧V.ownsL (e'.map pgV)=false∧AllN 4 (e'.map pgV))∧True)∧(([.sl false (((e'.map pgV).drop 0).take ((e'.map pgV).length)),sV y.1.addr]:List V)=[.sl false (e'.map pgV),sV y.1.addr])∧((e'.length≤1000000))∧True∧∀ g9:Nat,Z g9 0∧True∧(Gd (v13==true) (True∧True)∧Gd (v13==true) ((Gd (v13==true) ((v13==true)=true)∧True)∧Z g8 1)∧Gd (v13==true) ((Gd (v13==true) ((v13==true)=true)∧True)∧True)∧Gd (v13==true) ((Gd (v13==true) ((v13==true)=true)∧True)∧True)∧Pk v13 (v13==true) true∧True)∧Br (v13&&(leB (y.1.text.length:Int) 300)) ((Z g8 0∧True)∧((4,4,u',f',k',(e'.map pgV).length)=(4,4,u',f',k',(e'.map pgV).length))∧(True)∧(V.ownsL v14=false)∧(AllN 4 v14)∧(((e'.map pgV).length+v14.length) * 56≤140737488355328)∧∀ g92 o92 c92:Nat,((.own 4 ((e'.map pgV)++v14) g92 o92 c92:V)=.own 4 ((e'++[y.1]).map pgV) g92 o92 c92)∧True∧(I64 ((n:Int) - 1)∧True)∧Q (iV ((n:Int) - 1)) (iN (n - 1))∧True∧∃ x:Nat×(List Pg)×Nat×Nat×Nat×Nat,match x with | (n₂,e'₂,q'₂,u'₂,f'₂,k'₂)=>(l71World_k1 b p g n₂ e'₂ q'₂ u'₂ f'₂ k'₂)∧(n₂ < n)∧(E v1∧Q (.own 4 ((e'++[y.1]).map pgV) g92 o92 c92) (.own 4 (e'₂.map pgV) u'₂ f'₂ k'₂)∧Q (iN (n - 1)) (iN n₂)∧True)∧(Qr g (.agg [.sl false (b.map u8V),iN y.2]) g (.agg [.sl false (b.map u8V),iN q'₂])∧True)) ((I64 ((n:Int) - 1)∧True)∧Q (iV ((n:Int) - 1)) (iN (n - 1))∧True∧∃ x:Nat×(List Pg)×Nat×Nat×Nat×Nat,match x with | (n₂,e'₂,q'₂,u'₂,f'₂,k'₂)=>(l71World_k1 b p g n₂ e'₂ q'₂ u'₂ f'₂ k'₂)∧(n₂ < n)∧(E v1∧Q v10 (.own 4 (e'₂.map pgV) u'₂ f'₂ k'₂)∧Q (iN (n - 1)) (iN n₂)∧True)∧(Qr g (.agg [.sl false (b.map u8V),iN y.2]) g (.agg [.sl false (b.map u8V),iN q'₂])∧True))) ([.agg [sV y.1.addr,sV y.1.text,sV y.1.lead,iV y.1.fails]]:List V)) (!((atL e' y.1.addr).2)))) (eqB (x17_1:Int) 0)) (.agg [sV x16_1.1,sV x16_3.1,sV [],iV ([0,0,0,0,1,2,4].getD x16_6 0)])) (True∧((4,u',f',k',(e'.map pgV).length)=(4,u',f',k',(e'.map pgV).length))∧True∧∃ x:List Pg×Nat,(1≤x.1.length∧x.1.length≤12∧(∀ y,y∈x.1→PgSz y)∧p≤x.2∧x.2≤p+1500)∧Q (.ow 4 (e'.map pgV)) (.ow 4 (x.1.map pgV))∧(Qr g (.agg [.sl false (b.map u8V),iN q']) g (.agg [.sl false (b.map u8V),iN x.2])∧True))) (.own 4 (e'.map pgV) u' f' k'))) (sV (housesL.getD i []))) (.own 4 (e.map pgV) u f k))) (.sl false (housesL.map sV))) ([47,47]:List UInt8)) ([47,110,111,116,105,99,101]:List UInt8)) (.ptr (.key 1000) [] g 0))
  (by kernel_rfl) ?_
 refine ⟨trivial,trivial,rfl,trivial,trivial,trivial,trivial,?_⟩
 refine ⟨⟨(0,[],p,0,0,0),?_,⟨rfl,rfl,rfl,rfl,trivial⟩,⟨rfl,trivial⟩⟩,?_⟩
 · unfold l71World_k0
   simp
 rintro ⟨i,e,q,u,f,k⟩ ⟨h1,h2,h3,h4,h5⟩
 refine ⟨trivial,?_⟩
 refine ⟨fun hb1=>?_,fun hb1=>?_⟩
 · try simp only [nb] at hb1
   refine ⟨trivial,rfl,⟨rfl,trivial⟩,⟨by omega,by omega,by omega⟩,?_⟩
   intro x6_1 hx6_1
   refine ⟨trivial,?_⟩
   refine ⟨fun hb2=>?_,fun hb2=>?_⟩
   · try simp only [nb] at hb2
     refine ⟨trivial,trivial,⟨ex_s (by show _ < 4; omega),trivial⟩,⟨trivial,trivial⟩,⟨by have:=getD_lenb (l:=housesL) (n:=3) rfl i; simp only [List.length_append,List.length_cons,List.length_nil]; omega,trivial⟩,⟨by have:=getD_lenb (l:=housesL) (n:=3) rfl i; simp only [List.length_append,List.length_cons,List.length_nil]; omega,trivial⟩,trivial,trivial,rfl,⟨rfl,trivial⟩,⟨by omega,by omega⟩,?_⟩
     intro x7_7 hx7_7
     refine ⟨rfl,trivial,⟨by have:=hx7_7.1; exact this,by have:=hx7_7.2.1; exact this⟩,?_⟩
     intro x7_8 hx7_8
     refine ⟨rfl,⟨rfl,trivial⟩,⟨by omega,by omega,by omega⟩,?_⟩
     intro x7_11 hx7_11
     refine ⟨⟨ex_i (by simp; omega),trivial⟩,⟨trivial,trivial⟩,?_⟩
     intro g6
     refine ⟨rfl,trivial,rfl,⟨rfl,trivial⟩,⟨by omega,by omega,by omega⟩,?_⟩
     intro x8_1 hx8_1
     refine ⟨trivial,?_⟩
     refine ⟨fun hb3=>?_,fun hb3=>?_,fun y hy=>?_⟩
     · try simp only [nb] at hb3
       refine ⟨trivial,rfl,trivial,rfl,⟨rfl,trivial⟩,⟨by omega,by omega⟩,?_⟩
       intro x10_1 hx10_1
       refine ⟨trivial,rfl,?_⟩
       exact ⟨((⟨(([47,47]:List UInt8)++(housesL.getD i []))++([47,110,111,116,105,99,101]:List UInt8),[],x10_1.1,([0,0,0,1,2,5].getD x7_11 0)⟩:Pg),x10_1.2),⟨by (try have:=getD_lenb (l:=housesL) (n:=3) rfl i); (try simp only [List.length_append,List.length_cons,List.length_nil]); omega,by (try have:=getD_lenb (l:=housesL) (n:=3) rfl i); (try simp only [List.length_append,List.length_cons,List.length_nil]); omega,by (try have:=getD_lenb (l:=housesL) (n:=3) rfl i); (try simp only [List.length_append,List.length_cons,List.length_nil]); omega,int_lenb rfl _,by omega,by omega,by (try dsimp only); repeat (first | assumption | exact hx10_1.2.2.2 | exact hx16_1.2.2.2 | exact hx19_1.2.2.2 | exact asc_nil | exact asc_lit rfl | exact asc_getD rfl i | apply Asc.app),by (try dsimp only); repeat (first | assumption | exact hx10_1.2.2.2 | exact hx16_1.2.2.2 | exact hx19_1.2.2.2 | exact asc_nil | exact asc_lit rfl | exact asc_getD rfl i | apply Asc.app)⟩,⟨rfl,rfl,rfl,rfl,rfl,rfl,rfl,rfl,rfl,rfl,rfl,rfl,rfl,rfl,rfl,rfl,rfl,rfl,rfl,rfl,rfl,rfl,rfl,rfl,rfl,rfl,rfl,rfl,trivial⟩,⟨by first | rfl | simp | (simp; omega),by first | rfl | simp | (simp; omega),trivial⟩⟩
     · try simp only [nb] at hb3
       exact ⟨((⟨(([47,47]:List UInt8)++(housesL.getD i []))++([47,110,111,116,105,99,101]:List UInt8),x7_8,[],([0,0,0,1,2,5].getD x7_11 0)⟩:Pg),(x7_7.2+1)+1),⟨by (try have:=getD_lenb (l:=housesL) (n:=3) rfl i); (try simp only [List.length_append,List.length_cons,List.length_nil]); omega,by (try have:=getD_lenb (l:=housesL) (n:=3) rfl i); (try simp only [List.length_append,List.length_cons,List.length_nil]); omega,by (try have:=getD_lenb (l:=housesL) (n:=3) rfl i); (try simp only [List.length_append,List.length_cons,List.length_nil]); omega,int_lenb rfl _,by omega,by omega,by (try dsimp only); repeat (first | assumption | exact hx10_1.2.2.2 | exact hx16_1.2.2.2 | exact hx19_1.2.2.2 | exact asc_nil | exact asc_lit rfl | exact asc_getD rfl i | apply Asc.app),by (try dsimp only); repeat (first | assumption | exact hx10_1.2.2.2 | exact hx16_1.2.2.2 | exact hx19_1.2.2.2 | exact asc_nil | exact asc_lit rfl | exact asc_getD rfl i | apply Asc.app)⟩,⟨rfl,rfl,rfl,rfl,rfl,rfl,rfl,rfl,rfl,rfl,rfl,rfl,rfl,rfl,rfl,rfl,rfl,rfl,rfl,rfl,rfl,rfl,rfl,rfl,rfl,rfl,rfl,rfl,trivial⟩,⟨by first | rfl | simp | (simp; omega),by first | rfl | simp | (simp; omega),trivial⟩⟩
     refine ⟨⟨rfl,trivial⟩,?_⟩
     refine ⟨fun hb4=>?_,fun hb4=>?_⟩
     · try simp only [nb] at hb4
       refine ⟨⟨rfl,trivial⟩,rfl,trivial,rfl,by simp [AllN,V.n,V.ns],by simp; omega,?_⟩
       intro g49 o49 c49
       refine ⟨congrArg (V.own 4 · g49 o49 c49) (by simp),trivial,⟨by omega,trivial⟩,?_⟩
       refine ⟨(i+1,e++[y.1],y.2,g49,o49,c49),?_,?_,⟨rfl,rfl,rfl,rfl,trivial⟩,⟨rfl,trivial⟩⟩
       · unfold l71World_k0
         refine ⟨by omega,by (try simp only [List.length_append,List.length_cons,List.length_nil,List.length_map]); omega,all_app h3 ⟨hy.1,by omega,hy.2.1,hy.2.2.2.1,hy.2.2.2.2.2.2.1,hy.2.2.2.2.2.2.2⟩,by omega,by omega⟩
       · first | (simp; done) | omega | (simp; omega)
     · try simp only [nb] at hb4
       refine ⟨⟨by omega,trivial⟩,?_⟩
       refine ⟨(i+1,e,y.2,u,f,k),?_,?_,⟨rfl,rfl,rfl,rfl,trivial⟩,⟨rfl,trivial⟩⟩
       · unfold l71World_k0
         exact ⟨by omega,by omega,h3,by omega,by omega⟩
       · first | (simp; done) | omega | (simp; omega)
   · try simp only [nb] at hb2
     refine ⟨⟨by omega,trivial⟩,?_⟩
     refine ⟨(i+1,e,q+1,u,f,k),?_,?_,⟨rfl,rfl,rfl,rfl,trivial⟩,⟨rfl,trivial⟩⟩
     · unfold l71World_k0
       exact ⟨by omega,by omega,h3,by omega,by omega⟩
     · first | (simp; done) | omega | (simp; omega)
 · try simp only [nb] at hb1
   refine ⟨trivial,rfl,⟨rfl,trivial⟩,⟨by omega,by omega,by omega⟩,?_⟩
   intro x13_1 hx13_1
   refine ⟨⟨by omega,trivial⟩,?_⟩
   refine ⟨⟨(2+x13_1,e,q+1,u,f,k),?_,⟨rfl,rfl,rfl,trivial⟩,⟨rfl,trivial⟩⟩,?_⟩
   · unfold l71World_k1
     exact ⟨by omega,by omega,h3,by omega,by omega⟩
   rintro ⟨n,e',q',u',f',k'⟩ ⟨k1,k2,k3,k4,k5⟩
   refine ⟨trivial,?_⟩
   refine ⟨fun hb5=>?_,fun hb5=>?_⟩
   · try simp only [nb] at hb5
     refine ⟨trivial,rfl,⟨rfl,trivial⟩,⟨by omega,by omega⟩,?_⟩
     intro x16_1 hx16_1
     refine ⟨trivial,rfl,⟨rfl,trivial⟩,⟨by omega,by omega⟩,?_⟩
     intro x16_3 hx16_3
     refine ⟨trivial,rfl,⟨rfl,trivial⟩,⟨by omega,by omega,by omega⟩,?_⟩
     intro x16_6 hx16_6
     refine ⟨⟨ex_i (by simp; omega),trivial,trivial⟩,?_⟩
     intro g8
     refine ⟨rfl,trivial,rfl,⟨rfl,trivial⟩,⟨by omega,by omega,by omega⟩,?_⟩
     intro x17_1 hx17_1
     refine ⟨trivial,?_⟩
     refine ⟨fun hb6=>?_,fun hb6=>?_,fun y hy=>?_⟩
     · try simp only [nb] at hb6
       refine ⟨trivial,rfl,trivial,rfl,⟨rfl,trivial⟩,⟨by omega,by omega⟩,?_⟩
       intro x19_1 hx19_1
       refine ⟨trivial,rfl,?_⟩
       exact ⟨((⟨x16_1.1,[],x19_1.1,([0,0,0,0,1,2,4].getD x16_6 0)⟩:Pg),x19_1.2),⟨⟨by (try have:=getD_lenb (l:=housesL) (n:=3) rfl i); (try simp only [List.length_append,List.length_cons,List.length_nil]); omega,by (try have:=getD_lenb (l:=housesL) (n:=3) rfl i); (try simp only [List.length_append,List.length_cons,List.length_nil]); omega,by (try have:=getD_lenb (l:=housesL) (n:=3) rfl i); (try simp only [List.length_append,List.length_cons,List.length_nil]); omega,int_lenb rfl _,by (try dsimp only); repeat (first | assumption | exact hx10_1.2.2.2 | exact hx16_1.2.2.2 | exact hx19_1.2.2.2 | exact asc_nil | exact asc_lit rfl | exact asc_getD rfl i | apply Asc.app),by (try dsimp only); repeat (first | assumption | exact hx10_1.2.2.2 | exact hx16_1.2.2.2 | exact hx19_1.2.2.2 | exact asc_nil | exact asc_lit rfl | exact asc_getD rfl i | apply Asc.app)⟩,by omega,by omega⟩,⟨rfl,rfl,rfl,rfl,rfl,rfl,rfl,rfl,rfl,rfl,rfl,rfl,rfl,rfl,rfl,rfl,rfl,rfl,rfl,trivial⟩,⟨by first | rfl | simp | (simp; omega),by first | rfl | simp | (simp; omega),trivial⟩⟩
     · try simp only [nb] at hb6
       exact ⟨((⟨x16_1.1,x16_3.1,[],([0,0,0,0,1,2,4].getD x16_6 0)⟩:Pg),(x16_3.2+1)+1),⟨⟨by (try have:=getD_lenb (l:=housesL) (n:=3) rfl i); (try simp only [List.length_append,List.length_cons,List.length_nil]); omega,by (try have:=getD_lenb (l:=housesL) (n:=3) rfl i); (try simp only [List.length_append,List.length_cons,List.length_nil]); omega,by (try have:=getD_lenb (l:=housesL) (n:=3) rfl i); (try simp only [List.length_append,List.length_cons,List.length_nil]); omega,int_lenb rfl _,by (try dsimp only); repeat (first | assumption | exact hx10_1.2.2.2 | exact hx16_1.2.2.2 | exact hx19_1.2.2.2 | exact asc_nil | exact asc_lit rfl | exact asc_getD rfl i | apply Asc.app),by (try dsimp only); repeat (first | assumption | exact hx10_1.2.2.2 | exact hx16_1.2.2.2 | exact hx19_1.2.2.2 | exact asc_nil | exact asc_lit rfl | exact asc_getD rfl i | apply Asc.app)⟩,by omega,by omega⟩,⟨rfl,rfl,rfl,rfl,rfl,rfl,rfl,rfl,rfl,rfl,rfl,rfl,rfl,rfl,rfl,rfl,rfl,rfl,rfl,trivial⟩,⟨by first | rfl | simp | (simp; omega),by first | rfl | simp | (simp; omega),trivial⟩⟩
     refine ⟨⟨rfl,trivial⟩,⟨⟨⟨rfl,rfl,rfl⟩,by simp,ownsL_map (f:=pgV) (fun _=>rfl) _,allN_map (f:=pgV) (fun _=>rfl) _⟩,trivial⟩,by simp [List.take_of_length_le],by first | assumption | omega | (simp; omega),trivial,?_⟩
     intro g9
     refine ⟨rfl,trivial,⟨fun hG=>⟨trivial,trivial⟩,fun hG=>⟨⟨fun h=>h,trivial⟩,rfl⟩,fun hG=>⟨⟨fun h=>h,trivial⟩,trivial⟩,fun hG=>⟨⟨fun h=>h,trivial⟩,trivial⟩,⟨fun h=>by first | (rw [h]; done) | (rw [h]; rfl),fun _=>rfl⟩,trivial⟩,?_⟩
     refine ⟨fun hb7=>?_,fun hb7=>?_⟩
     · try simp only [nb] at hb7
       refine ⟨⟨rfl,trivial⟩,rfl,trivial,rfl,by simp [AllN,V.n,V.ns],by simp; omega,?_⟩
       intro g92 o92 c92
       refine ⟨congrArg (V.own 4 · g92 o92 c92) (by simp),trivial,⟨by omega,trivial⟩,by simp [Q]; omega,trivial,?_⟩
       refine ⟨(n - 1,e'++[y.1],y.2,g92,o92,c92),?_,?_,⟨rfl,rfl,rfl,trivial⟩,⟨rfl,trivial⟩⟩
       · unfold l71World_k1
         refine ⟨by (try simp only [List.length_append,List.length_cons,List.length_nil,List.length_map]); omega,.inl (by simp),all_app k3 hy.1,by omega,by omega⟩
       · first | (simp; done) | omega | (simp; omega)
     · try simp only [nb] at hb7
       refine ⟨⟨by omega,trivial⟩,by simp [Q]; omega,trivial,?_⟩
       refine ⟨(n - 1,e',y.2,u',f',k'),?_,?_,⟨rfl,rfl,rfl,trivial⟩,⟨rfl,trivial⟩⟩
       · unfold l71World_k1
         have hyt:=hy.1.t
         have hat:(atL e' y.fst.addr).snd=true:=by
           cases hh:(atL e' y.fst.addr).snd with
           | true=>rfl
           | false=>have:=hb7 hh; omega
         exact ⟨by omega,.inl (atL_pos hat),k3,by omega,by omega⟩
       · first | (simp; done) | omega | (simp; omega)
   · try simp only [nb] at hb5
     refine ⟨trivial,rfl,?_⟩
     refine ⟨trivial,(e',q'),?_,?_,?_⟩
     · try dsimp only
       exact ⟨by omega,by omega,k3,by omega,by omega⟩
     · first | rfl | simp_all
     · first | exact ⟨rfl,trivial⟩ | trivial | simp_all
def l71World_c (b:List UInt8) (p:Nat) (g:Nat):ConX Tryz.prog:={ X:=List Pg×Nat,f:=54,args:=[.ptr (.key 1000) [] g 0],H:=[(1000,(g,.agg [.sl false (b.map u8V),iN p]))],pre:=(b.length≤2000)∧(p≤700000),post:=fun x=>1≤x.1.length∧x.1.length≤12∧(∀ y,y∈x.1→PgSz y)∧p≤x.2∧x.2≤p+1500,res:=fun x=>.ow 4 (x.1.map pgV),H':=fun x=>[(1000,(g,.agg [.sl false (b.map u8V),iN x.2]))],ok:=fun h=>l71World_ok b p g h.1 h.2 }
abbrev l71Off_k0 (b:List UInt8) (p:Nat) (g:Nat) (j:Nat) (e:List Pg) (u:Nat) (f:Nat) (k:Nat):Prop:=j≤12∧1≤e.length∧e.length≤12+j∧(∀ y,y∈e→PgSz y)
theorem l71Off_ok (b:List UInt8) (p g:Nat) (hb:b.length≤2000) (hp:p≤600000):PF Tryz.prog 25 [.ptr (.key 1000) [] g 0] [(1000,(g,.agg [.sl false (b.map u8V),iN p]))] (fun r h=> ∃ x:List Pg×Nat,(1≤x.1.length∧x.1.length≤30∧(∀ y,y∈x.1→PgSz y)∧p≤x.2∧x.2≤p+1600)∧r=(.ow 4 (x.1.map pgV))∧h=[(1000,(g,.agg [.sl false (b.map u8V),iN x.2]))]):=by
 have h0:∀ (l:List Pg),(∀ y,y∈l→PgSz y)→PgSz (l.getD 0 pg0):=fun l h=>pg_i h 0
 refine PF_go (N:=51) (rs:=[.tmp 2]) (X:=List Pg×Nat) (post:=fun x=>1≤x.1.length∧x.1.length≤30∧(∀ y,y∈x.1→PgSz y)∧p≤x.2∧x.2≤p+1600) (E:=fun x=>.ow 4 (x.1.map pgV)) (H':=fun x=>[(1000,(g,.agg [.sl false (b.map u8V),iN x.2]))]) Tryz.func25 (by kernel_rfl) rfl rfl rfl (by kernel_rfl) [(1000,(0,.dead))] (by intro _ k hk; simpa [lk] using hk)
  (.r 1 [] <| .r 1 [] <| .cx (l71World_c b p g) [(1000,1000)] (fun (x1_1:List Pg×Nat)=>.r 1 [] <| .ot 3 (fun g3 o3 c3=>.r 1 [] <| .cx (pick_c b x1_1.2 g 16) [(1000,1000)] (fun (x2_1:Nat)=>.r 1 [] <| .br (.r 2 [] <| .h (.claim 2) <| .nil) (.r 1 [] <| .cx (pick_c b (x1_1.2+1) g 5) [(1000,1000)] (fun (x4_1:Nat)=>.r 2 [] <| .br (.r 4 [.agg [sV ((x1_1.1.getD 0 pg0).addr),sV ((x1_1.1.getD 0 pg0).text),sV ((x1_1.1.getD 0 pg0).lead),iV ((x1_1.1.getD 0 pg0).fails)]] <| .bs <| .ap (fun g31 o31 c31=>.h (.eqt 31 (.own 4 ((x1_1.1++[(x1_1.1.getD 0 pg0)]).map pgV) g31 o31 c31)) <| .r 1 [] <| .nil)) (.r 2 [] <| .br (.r 3 [] <| .st (some (iV ((x1_1.1.getD 0 pg0).fails))) <| .h (.eqt 3 (.own 4 ((x1_1.1.set 0 (⟨(x1_1.1.getD 0 pg0).addr,(x1_1.1.getD 0 pg0).text,(x1_1.1.getD 0 pg0).lead,10⟩:Pg)).map pgV) g3 o3 c3)) <| .r 2 [] <| .h (.claim 2) <| .nil) (.r 2 [] <| .br (.r 2 [] <| .bs <| .cx (of_c b ((x1_1.2+1)+1) g ([([47,47,65,66,47,97]:List UInt8),[],([47,47,97,98]:List UInt8)]:List (List UInt8))) [(1000,1000)] (fun (x14_3:List UInt8)=>.r 2 [] <| .st (some (sV ((x1_1.1.getD 0 pg0).addr))) <| .h (.eqt 3 (.own 4 ((x1_1.1.set 0 (⟨x14_3,(x1_1.1.getD 0 pg0).text,(x1_1.1.getD 0 pg0).lead,(x1_1.1.getD 0 pg0).fails⟩:Pg)).map pgV) g3 o3 c3)) <| .r 2 [] <| .h (.claim 2) <| .nil)) (.r 2 [] <| .br (.r 3 [] <| .st (some (sV ((x1_1.1.getD 0 pg0).lead))) <| .h (.eqt 3 (.own 4 ((x1_1.1.set 0 (⟨(x1_1.1.getD 0 pg0).addr,(x1_1.1.getD 0 pg0).text,([120]:List UInt8),(x1_1.1.getD 0 pg0).fails⟩:Pg)).map pgV) g3 o3 c3)) <| .r 2 [] <| .h (.claim 2) <| .nil) (.r 1 [] <| .loop (Nat×(List Pg)×Nat×Nat×Nat) (fun (j,e,u,f,k)=>⟨[(3,.own 4 (e.map pgV) u f k),(4,iN j)],[(1000,(g,.agg [.sl false (b.map u8V),iN ((x1_1.2+1)+1)]))]⟩) (fun (j,e,u,f,k)=>l71Off_k0 b p g j e u f k) (fun (j,e,u,f,k)=>12 - j) (fun (j,e,u,f,k)=>.r 2 [] <| .br (.r 2 [] <| .c (l6Dec_c j) [] <| .r 1 [] <| .bd zt65 <| .bs <| .ap (fun g23 o23 c23=>.h (.eqt 23 (.own 4 ((e++[(⟨([47,47,97,98,47,122]:List UInt8)++(decL j),[],[],0⟩:Pg)]).map pgV) g23 o23 c23)) <| .r 1 [] <| .r 3 [] <| .nil)) (.r 2 [] <| .h (.claim 2) <| .nil))))))))))))
  ((fun v1:List UInt8=>(fun v2:List UInt8=>(fun v3:List UInt8=>(fun v4:List UInt8=>(True∧True∧(l71World_c b p g).sm∧(((((g,.agg [.sl false (b.map u8V),iN p])):Nat×V)=(g,.agg [.sl false (b.map u8V),iN p]))∧True)∧((b.length≤2000)∧(p≤700000))∧∀ x1_1:List Pg×Nat,(1≤x1_1.1.length∧x1_1.1.length≤12∧(∀ y,y∈x1_1.1→PgSz y)∧p≤x1_1.2∧x1_1.2≤p+1500)→(fun v5:List V=>(fun v6:V=>True∧∀ g3 o3 c3:Nat,(fun v7:V=>True∧(pick_c b x1_1.2 g 16).sm∧(((((g,.agg [.sl false (b.map u8V),iN x1_1.2])):Nat×V)=(g,.agg [.sl false (b.map u8V),iN x1_1.2]))∧True)∧((b.length≤2000)∧(x1_1.2≤1000000)∧(16≤1000000))∧∀ x2_1:Nat,(16=0∧x2_1=0∨x2_1 < 16)→True∧Br (gtB (x2_1:Int) 0) (True∧((4,g3,o3,c3,(x1_1.1.map pgV).length)=(4,g3,o3,c3,(x1_1.1.map pgV).length))∧True∧∃ x:List Pg×Nat,(1≤x.1.length∧x.1.length≤30∧(∀ y,y∈x.1→PgSz y)∧p≤x.2∧x.2≤p+1600)∧Q (.ow 4 (x1_1.1.map pgV)) (.ow 4 (x.1.map pgV))∧(Qr g (.agg [.sl false (b.map u8V),iN (x1_1.2+1)]) g (.agg [.sl false (b.map u8V),iN x.2])∧True)) (True∧(pick_c b (x1_1.2+1) g 5).sm∧(((((g,.agg [.sl false (b.map u8V),iN (x1_1.2+1)])):Nat×V)=(g,.agg [.sl false (b.map u8V),iN (x1_1.2+1)]))∧True)∧((b.length≤2000)∧((x1_1.2+1)≤1000000)∧(5≤1000000))∧∀ x4_1:Nat,(5=0∧x4_1=0∨x4_1 < 5)→True∧Br (eqB (x4_1:Int) 0) ((In 0 ((x1_1.1.map pgV).length)∧(V.at g3 o3 v7 [0+0]=some (g3,(o3+(0+0) * 4),.agg [sV ((x1_1.1.getD 0 pg0).addr),sV ((x1_1.1.getD 0 pg0).text),sV ((x1_1.1.getD 0 pg0).lead),iV ((x1_1.1.getD 0 pg0).fails)]))∧True)∧((4,4,g3,o3,c3,(x1_1.1.map pgV).length)=(4,4,g3,o3,c3,(x1_1.1.map pgV).length))∧(True)∧(V.ownsL v5=false)∧(AllN 4 v5)∧(((x1_1.1.map pgV).length+v5.length) * 56≤140737488355328)∧∀ g31 o31 c31:Nat,((.own 4 ((x1_1.1.map pgV)++v5) g31 o31 c31:V)=.own 4 ((x1_1.1++[(x1_1.1.getD 0 pg0)]).map pgV) g31 o31 c31)∧True∧True∧∃ x:List Pg×Nat,(1≤x.1.length∧x.1.length≤30∧(∀ y,y∈x.1→PgSz y)∧p≤x.2∧x.2≤p+1600)∧Q (.ow 4 ((x1_1.1++[(x1_1.1.getD 0 pg0)]).map pgV)) (.ow 4 (x.1.map pgV))∧(Qr g v6 g (.agg [.sl false (b.map u8V),iN x.2])∧True)) (True∧Br (eqB (x4_1:Int) 1) ((In 0 ((x1_1.1.map pgV).length)∧True)∧(V.at g3 o3 v7 [0+0,3]=some (g3,(o3+(0+0) * 4+3),iV ((x1_1.1.getD 0 pg0).fails)))∧(V.set v7 [0+0,3] (iN 10)=.own 4 ((x1_1.1.set 0 (⟨(x1_1.1.getD 0 pg0).addr,(x1_1.1.getD 0 pg0).text,(x1_1.1.getD 0 pg0).lead,10⟩:Pg)).map pgV) g3 o3 c3)∧True∧((4,g3,o3,c3,((x1_1.1.set 0 (⟨(x1_1.1.getD 0 pg0).addr,(x1_1.1.getD 0 pg0).text,(x1_1.1.getD 0 pg0).lead,10⟩:Pg)).map pgV).length)=(4,g3,o3,c3,((x1_1.1.set 0 (⟨(x1_1.1.getD 0 pg0).addr,(x1_1.1.getD 0 pg0).text,(x1_1.1.getD 0 pg0).lead,10⟩:Pg)).map pgV).length))∧True∧∃ x:List Pg×Nat,(1≤x.1.length∧x.1.length≤30∧(∀ y,y∈x.1→PgSz y)∧p≤x.2∧x.2≤p+1600)∧Q (.ow 4 ((x1_1.1.set 0 (⟨(x1_1.1.getD 0 pg0).addr,(x1_1.1.getD 0 pg0).text,(x1_1.1.getD 0 pg0).lead,10⟩:Pg)).map pgV)) (.ow 4 (x.1.map pgV))∧(Qr g v6 g (.agg [.sl false (b.map u8V),iN x.2])∧True)) (True∧Br (eqB (x4_1:Int) 2) (True∧(of_c b ((x1_1.2+1)+1) g ([v2,[],v3]:List (List UInt8))).sm∧(((((g,.agg [.sl false (b.map u8V),iN ((x1_1.2+1)+1)])):Nat×V)=(g,.agg [.sl false (b.map u8V),iN ((x1_1.2+1)+1)]))∧True)∧((b.length≤2000)∧(((x1_1.2+1)+1)≤1000000)∧(1≤([v2,[],v3]:List (List UInt8)).length)∧(([v2,[],v3]:List (List UInt8)).length≤1000))∧∀ x14_3:List UInt8,(x14_3∈([v2,[],v3]:List (List UInt8)))→(In 0 ((x1_1.1.map pgV).length)∧True)∧(V.at g3 o3 v7 [0+0,0]=some (g3,(o3+(0+0) * 4+0),sV ((x1_1.1.getD 0 pg0).addr)))∧(V.set v7 [0+0,0] (sV x14_3)=.own 4 ((x1_1.1.set 0 (⟨x14_3,(x1_1.1.getD 0 pg0).text,(x1_1.1.getD 0 pg0).lead,(x1_1.1.getD 0 pg0).fails⟩:Pg)).map pgV) g3 o3 c3)∧True∧((4,g3,o3,c3,((x1_1.1.set 0 (⟨x14_3,(x1_1.1.getD 0 pg0).text,(x1_1.1.getD 0 pg0).lead,(x1_1.1.getD 0 pg0).fails⟩:Pg)).map pgV).length)=(4,g3,o3,c3,((x1_1.1.set 0 (⟨x14_3,(x1_1.1.getD 0 pg0).text,(x1_1.1.getD 0 pg0).lead,(x1_1.1.getD 0 pg0).fails⟩:Pg)).map pgV).length))∧True∧∃ x:List Pg×Nat,(1≤x.1.length∧x.1.length≤30∧(∀ y,y∈x.1→PgSz y)∧p≤x.2∧x.2≤p+1600)∧Q (.ow 4 ((x1_1.1.set 0 (⟨x14_3,(x1_1.1.getD 0 pg0).text,(x1_1.1.getD 0 pg0).lead,(x1_1.1.getD 0 pg0).fails⟩:Pg)).map pgV)) (.ow 4 (x.1.map pgV))∧(Qr g (.agg [.sl false (b.map u8V),iN (((x1_1.2+1)+1)+1)]) g (.agg [.sl false (b.map u8V),iN x.2])∧True)) (True∧Br (eqB (x4_1:Int) 3) ((In 0 ((x1_1.1.map pgV).length)∧True)∧(V.at g3 o3 v7 [0+0,2]=some (g3,(o3+(0+0) * 4+2),sV ((x1_1.1.getD 0 pg0).lead)))∧(V.set v7 [0+0,2] (sV v4)=.own 4 ((x1_1.1.set 0 (⟨(x1_1.1.getD 0 pg0).addr,(x1_1.1.getD 0 pg0).text,v4,(x1_1.1.getD 0 pg0).fails⟩:Pg)).map pgV) g3 o3 c3)∧True∧((4,g3,o3,c3,((x1_1.1.set 0 (⟨(x1_1.1.getD 0 pg0).addr,(x1_1.1.getD 0 pg0).text,v4,(x1_1.1.getD 0 pg0).fails⟩:Pg)).map pgV).length)=(4,g3,o3,c3,((x1_1.1.set 0 (⟨(x1_1.1.getD 0 pg0).addr,(x1_1.1.getD 0 pg0).text,v4,(x1_1.1.getD 0 pg0).fails⟩:Pg)).map pgV).length))∧True∧∃ x:List Pg×Nat,(1≤x.1.length∧x.1.length≤30∧(∀ y,y∈x.1→PgSz y)∧p≤x.2∧x.2≤p+1600)∧Q (.ow 4 ((x1_1.1.set 0 (⟨(x1_1.1.getD 0 pg0).addr,(x1_1.1.getD 0 pg0).text,v4,(x1_1.1.getD 0 pg0).fails⟩:Pg)).map pgV)) (.ow 4 (x.1.map pgV))∧(Qr g v6 g (.agg [.sl false (b.map u8V),iN x.2])∧True)) (True∧(∃ x:Nat×(List Pg)×Nat×Nat×Nat,match x with | (j₀,e₀,u₀,f₀,k₀)=>(l71Off_k0 b p g j₀ e₀ u₀ f₀ k₀)∧(Q v7 (.own 4 (e₀.map pgV) u₀ f₀ k₀)∧Q (iN 0) (iN j₀)∧True)∧(Er g v6∧True))∧∀ x:Nat×(List Pg)×Nat×Nat×Nat,match x with | (j,e,u,f,k)=>(l71Off_k0 b p g j e u f k)→(fun v8:List V=>True∧Br (ltB (j:Int) 12) (True∧(l6Dec_c j).sm∧(True)∧((j≤1000000))∧((v1.length+(decL j).length≤4611686018427387904)∧True)∧((4,4,u,f,k,(e.map pgV).length)=(4,4,u,f,k,(e.map pgV).length))∧(True)∧(V.ownsL v8=false)∧(AllN 4 v8)∧(((e.map pgV).length+v8.length) * 56≤140737488355328)∧∀ g23 o23 c23:Nat,((.own 4 ((e.map pgV)++v8) g23 o23 c23:V)=.own 4 ((e++[(⟨v1++(decL j),[],[],0⟩:Pg)]).map pgV) g23 o23 c23)∧True∧(I64 ((j:Int)+1)∧True)∧∃ x:Nat×(List Pg)×Nat×Nat×Nat,match x with | (j₂,e₂,u₂,f₂,k₂)=>(l71Off_k0 b p g j₂ e₂ u₂ f₂ k₂)∧(12 - j₂ < 12 - j)∧(Q (.own 4 ((e++[(⟨v1++(decL j),[],[],0⟩:Pg)]).map pgV) g23 o23 c23) (.own 4 (e₂.map pgV) u₂ f₂ k₂)∧Q (iN (j+1)) (iN j₂)∧True)∧(Er g v6∧True)) (True∧((4,u,f,k,(e.map pgV).length)=(4,u,f,k,(e.map pgV).length))∧True∧∃ x:List Pg×Nat,(1≤x.1.length∧x.1.length≤30∧(∀ y,y∈x.1→PgSz y)∧p≤x.2∧x.2≤p+1600)∧Q (.ow 4 (e.map pgV)) (.ow 4 (x.1.map pgV))∧(Qr g v6 g (.agg [.sl false (b.map u8V),iN x.2])∧True))) ([.agg [sV (v1++(decL j)),sV [],sV [],iN 0]]:List V))))))) (.own 4 (x1_1.1.map pgV) g3 o3 c3)) (.agg [.sl false (b.map u8V),iN ((x1_1.2+1)+1)])) ([.agg [sV ((x1_1.1.getD 0 pg0).addr),sV ((x1_1.1.getD 0 pg0).text),sV ((x1_1.1.getD 0 pg0).lead),iV ((x1_1.1.getD 0 pg0).fails)]]:List V))) ([120]:List UInt8)) ([47,47,97,98]:List UInt8)) ([47,47,65,66,47,97]:List UInt8)) ([47,47,97,98,47,122]:List UInt8))
  (by kernel_rfl) ?_
 refine ⟨trivial,trivial,rfl,⟨rfl,trivial⟩,⟨by omega,by omega⟩,?_⟩
 intro x1_1 hx1_1
 refine ⟨trivial,?_⟩
 intro g3 o3 c3
 refine ⟨trivial,rfl,⟨rfl,trivial⟩,⟨by omega,by omega,by omega⟩,?_⟩
 intro x2_1 hx2_1
 refine ⟨trivial,?_⟩
 refine ⟨fun hb1=>?_,fun hb1=>?_⟩
 · try simp only [nb] at hb1
   refine ⟨trivial,rfl,?_⟩
   refine ⟨trivial,(x1_1.1,x1_1.2+1),?_,?_,?_⟩
   · try dsimp only
     exact ⟨by omega,by omega,hx1_1.2.2.1,by omega,by omega⟩
   · first | rfl | simp_all
   · first | exact ⟨rfl,trivial⟩ | trivial | simp_all
 · try simp only [nb] at hb1
   refine ⟨trivial,rfl,⟨rfl,trivial⟩,⟨by omega,by omega,by omega⟩,?_⟩
   intro x4_1 hx4_1
   refine ⟨trivial,?_⟩
   refine ⟨fun hb2=>?_,fun hb2=>?_⟩
   · try simp only [nb] at hb2
     refine ⟨⟨by (try simp only [List.length_map] at *); omega,at_el (by rw [Nat.zero_add]; exact getE_map (d:=pg0) (by omega)),trivial⟩,rfl,trivial,rfl,by simp [AllN,V.n,V.ns],by simp; omega,?_⟩
     intro g31 o31 c31
     refine ⟨congrArg (V.own 4 · g31 o31 c31) (by simp),trivial,?_⟩
     refine ⟨trivial,(x1_1.1++[(x1_1.1.getD 0 pg0)],(x1_1.2+1)+1),?_,?_,?_⟩
     · try dsimp only
       exact ⟨by simp,by simp; omega,all_app hx1_1.2.2.1 (h0 _ hx1_1.2.2.1),by omega,by omega⟩
     · first | rfl | simp_all
     · first | exact ⟨rfl,trivial⟩ | trivial | simp_all
   · try simp only [nb] at hb2
     refine ⟨trivial,?_⟩
     refine ⟨fun hb3=>?_,fun hb3=>?_⟩
     · try simp only [nb] at hb3
       refine ⟨⟨by (try simp only [List.length_map] at *); omega,trivial⟩,at_el2 (by rw [Nat.zero_add]; exact getE_map (d:=pg0) (by omega)) rfl,set_el2 (x:=.agg [sV ((x1_1.1.getD 0 pg0).addr),sV ((x1_1.1.getD 0 pg0).text),sV ((x1_1.1.getD 0 pg0).lead),iV ((x1_1.1.getD 0 pg0).fails)]) (by rw [Nat.zero_add]; exact getE_map (d:=pg0) (by omega)) (List.map_set (f:=pgV) (l:=x1_1.1) (i:=0) (a:=(⟨(x1_1.1.getD 0 pg0).addr,(x1_1.1.getD 0 pg0).text,(x1_1.1.getD 0 pg0).lead,10⟩:Pg))).symm,trivial,rfl,?_⟩
       refine ⟨trivial,(x1_1.1.set 0 (⟨(x1_1.1.getD 0 pg0).addr,(x1_1.1.getD 0 pg0).text,(x1_1.1.getD 0 pg0).lead,10⟩:Pg),(x1_1.2+1)+1),?_,?_,?_⟩
       · try dsimp only
         have hz:=h0 _ hx1_1.2.2.1
         exact ⟨by simp; omega,by simp; omega,all_set hx1_1.2.2.1 ⟨hz.a,hz.t,hz.l,by simp,hz.aa,hz.la⟩,by omega,by omega⟩
       · first | rfl | simp_all
       · first | exact ⟨rfl,trivial⟩ | trivial | simp_all
     · try simp only [nb] at hb3
       refine ⟨trivial,?_⟩
       refine ⟨fun hb4=>?_,fun hb4=>?_⟩
       · try simp only [nb] at hb4
         refine ⟨trivial,rfl,⟨rfl,trivial⟩,⟨by omega,by omega,by simp,by simp⟩,?_⟩
         intro x14_3 hx14_3
         refine ⟨⟨by (try simp only [List.length_map] at *); omega,trivial⟩,at_el2 (by rw [Nat.zero_add]; exact getE_map (d:=pg0) (by omega)) rfl,set_el2 (x:=.agg [sV ((x1_1.1.getD 0 pg0).addr),sV ((x1_1.1.getD 0 pg0).text),sV ((x1_1.1.getD 0 pg0).lead),iV ((x1_1.1.getD 0 pg0).fails)]) (by rw [Nat.zero_add]; exact getE_map (d:=pg0) (by omega)) (List.map_set (f:=pgV) (l:=x1_1.1) (i:=0) (a:=(⟨x14_3,(x1_1.1.getD 0 pg0).text,(x1_1.1.getD 0 pg0).lead,(x1_1.1.getD 0 pg0).fails⟩:Pg))).symm,trivial,rfl,?_⟩
         refine ⟨trivial,(x1_1.1.set 0 (⟨x14_3,(x1_1.1.getD 0 pg0).text,(x1_1.1.getD 0 pg0).lead,(x1_1.1.getD 0 pg0).fails⟩:Pg),((x1_1.2+1)+1)+1),?_,?_,?_⟩
         · try dsimp only
           have hz:=h0 _ hx1_1.2.2.1
           exact ⟨by simp; omega,by simp; omega,all_set hx1_1.2.2.1 ⟨len_mem rfl hx14_3,hz.t,hz.l,hz.f,asc_mem rfl hx14_3,hz.la⟩,by omega,by omega⟩
         · first | rfl | simp_all
         · first | exact ⟨rfl,trivial⟩ | trivial | simp_all
       · try simp only [nb] at hb4
         refine ⟨trivial,?_⟩
         refine ⟨fun hb5=>?_,fun hb5=>?_⟩
         · try simp only [nb] at hb5
           refine ⟨⟨by (try simp only [List.length_map] at *); omega,trivial⟩,at_el2 (by rw [Nat.zero_add]; exact getE_map (d:=pg0) (by omega)) rfl,set_el2 (x:=.agg [sV ((x1_1.1.getD 0 pg0).addr),sV ((x1_1.1.getD 0 pg0).text),sV ((x1_1.1.getD 0 pg0).lead),iV ((x1_1.1.getD 0 pg0).fails)]) (by rw [Nat.zero_add]; exact getE_map (d:=pg0) (by omega)) (List.map_set (f:=pgV) (l:=x1_1.1) (i:=0) (a:=(⟨(x1_1.1.getD 0 pg0).addr,(x1_1.1.getD 0 pg0).text,([120]:List UInt8),(x1_1.1.getD 0 pg0).fails⟩:Pg))).symm,trivial,rfl,?_⟩
           refine ⟨trivial,(x1_1.1.set 0 (⟨(x1_1.1.getD 0 pg0).addr,(x1_1.1.getD 0 pg0).text,([120]:List UInt8),(x1_1.1.getD 0 pg0).fails⟩:Pg),(x1_1.2+1)+1),?_,?_,?_⟩
           · try dsimp only
             have hz:=h0 _ hx1_1.2.2.1
             exact ⟨by simp; omega,by simp; omega,all_set hx1_1.2.2.1 ⟨hz.a,hz.t,by simp,hz.f,hz.aa,asc_lit rfl⟩,by omega,by omega⟩
           · first | rfl | simp_all
           · first | exact ⟨rfl,trivial⟩ | trivial | simp_all
         · try simp only [nb] at hb5
           refine ⟨trivial,?_⟩
           refine ⟨⟨(0,x1_1.1,g3,o3,c3),?_,⟨rfl,rfl,trivial⟩,⟨rfl,trivial⟩⟩,?_⟩
           · unfold l71Off_k0
             exact ⟨by omega,by omega,by omega,hx1_1.2.2.1⟩
           rintro ⟨j,e,u,f,k⟩ ⟨h1,h2,h3,h4⟩
           refine ⟨trivial,?_⟩
           refine ⟨fun hb6=>?_,fun hb6=>?_⟩
           · try simp only [nb] at hb6
             refine ⟨trivial,rfl,trivial,by omega,⟨by have:=decL_len j (by omega); simp only [List.length_append,List.length_cons,List.length_nil]; omega,trivial⟩,rfl,trivial,rfl,by simp [AllN,V.n,V.ns],by simp; omega,?_⟩
             intro g23 o23 c23
             refine ⟨congrArg (V.own 4 · g23 o23 c23) (by simp),trivial,⟨by omega,trivial⟩,?_⟩
             refine ⟨(j+1,e++[(⟨([47,47,97,98,47,122]:List UInt8)++(decL j),[],[],0⟩:Pg)],g23,o23,c23),?_,?_,⟨rfl,rfl,trivial⟩,⟨rfl,trivial⟩⟩
             · unfold l71Off_k0
               have hd:=decL_len j (by omega)
               refine ⟨by omega,by simp,by simp; omega,all_app h4 ⟨?_,by simp,by simp,by simp,(asc_lit rfl).app (decL_asc j),asc_nil⟩⟩
               simp only [List.length_append,List.length_cons,List.length_nil]; omega
             · first | (simp; done) | omega | (simp; omega)
           · try simp only [nb] at hb6
             refine ⟨trivial,rfl,?_⟩
             refine ⟨trivial,(e,(x1_1.2+1)+1),?_,?_,?_⟩
             · try dsimp only
               exact ⟨by omega,by omega,h4,by omega,by omega⟩
             · first | rfl | simp_all
             · first | exact ⟨rfl,trivial⟩ | trivial | simp_all
def l71Off_c (b:List UInt8) (p:Nat) (g:Nat):ConX Tryz.prog:={ X:=List Pg×Nat,f:=25,args:=[.ptr (.key 1000) [] g 0],H:=[(1000,(g,.agg [.sl false (b.map u8V),iN p]))],pre:=(b.length≤2000)∧(p≤600000),post:=fun x=>1≤x.1.length∧x.1.length≤30∧(∀ y,y∈x.1→PgSz y)∧p≤x.2∧x.2≤p+1600,res:=fun x=>.ow 4 (x.1.map pgV),H':=fun x=>[(1000,(g,.agg [.sl false (b.map u8V),iN x.2]))],ok:=fun h=>l71Off_ok b p g h.1 h.2 }
theorem l71Name_ok (b:List UInt8) (p g:Nat) (hb:b.length≤2000) (hp:p≤900000):PF Tryz.prog 26 [.ptr (.key 1000) [] g 0] [(1000,(g,.agg [.sl false (b.map u8V),iN p]))] (fun r h=> ∃ x:List UInt8,(x.length≤5∧nameL x=true)∧r=(sV x)∧h=[(1000,(g,.agg [.sl false (b.map u8V),iN (p+1)]))]):=by
 refine PF_go (N:=6) (rs:=[.tmp 2]) (X:=List UInt8) (post:=fun x=>x.length≤5∧nameL x=true) (E:=fun x=>sV x) (H':=fun x=>[(1000,(g,.agg [.sl false (b.map u8V),iN (p+1)]))]) Tryz.func26 (by kernel_rfl) rfl rfl rfl (by kernel_rfl) [(1000,(0,.dead))] (by intro _ k hk; simpa [lk] using hk)
  (.r 1 [] <| .r 1 [] <| .bs <| .cx (of_c b p g ([([114,111,118,101,114]:List UInt8),([114,111,118,101,114]:List UInt8),([115,99,111,117,116]:List UInt8),([111,116,104,101,114]:List UInt8)]:List (List UInt8))) [(1000,1000)] (fun (x1_2:List UInt8)=>.r 1 [] <| .nil))
  ((fun v1:List UInt8=>(fun v2:List UInt8=>(fun v3:List UInt8=>(True∧True∧(of_c b p g ([v1,v1,v3,v2]:List (List UInt8))).sm∧(((((g,.agg [.sl false (b.map u8V),iN p])):Nat×V)=(g,.agg [.sl false (b.map u8V),iN p]))∧True)∧((b.length≤2000)∧(p≤1000000)∧(1≤([v1,v1,v3,v2]:List (List UInt8)).length)∧(([v1,v1,v3,v2]:List (List UInt8)).length≤1000))∧∀ x1_2:List UInt8,(x1_2∈([v1,v1,v3,v2]:List (List UInt8)))→True∧True∧∃ x:List UInt8,(x.length≤5∧nameL x=true)∧Q (sV x1_2) (sV x)∧(Er g (.agg [.sl false (b.map u8V),iN (p+1)])∧True))) ([115,99,111,117,116]:List UInt8)) ([111,116,104,101,114]:List UInt8)) ([114,111,118,101,114]:List UInt8))
  (by kernel_rfl) ?_
 refine ⟨trivial,trivial,rfl,⟨rfl,trivial⟩,⟨by omega,by omega,by simp,by simp⟩,?_⟩
 intro x1_2 hx1_2
 refine ⟨trivial,?_⟩
 refine ⟨trivial,x1_2,?_,?_,?_⟩
 · try dsimp only
   exact ⟨len_mem rfl hx1_2,List.all_eq_true.1 (show (List.all _ nameL)=true from rfl) _ hx1_2⟩
 · first | rfl | simp_all
 · first | exact ⟨rfl,trivial⟩ | trivial | simp_all
def l71Name_c (b:List UInt8) (p:Nat) (g:Nat):ConX Tryz.prog:={ X:=List UInt8,f:=26,args:=[.ptr (.key 1000) [] g 0],H:=[(1000,(g,.agg [.sl false (b.map u8V),iN p]))],pre:=(b.length≤2000)∧(p≤900000),post:=fun x=>x.length≤5∧nameL x=true,res:=fun x=>sV x,H':=fun x=>[(1000,(g,.agg [.sl false (b.map u8V),iN (p+1)]))],ok:=fun h=>l71Name_ok b p g h.1 h.2 }
theorem l71Where_ok (b:List UInt8) (p g:Nat) (w:List Pg) (hb:b.length≤2000) (hp:p≤800000) (hw:w.length≤30) (hy:∀ y,y∈w→PgSz y):PF Tryz.prog 27 [.ptr (.key 1000) [] g 0,.sl false (w.map pgV)] [(1000,(g,.agg [.sl false (b.map u8V),iN p]))] (fun r h=> ∃ x:List UInt8×Nat,(x.1.length≤30∧p≤x.2∧x.2≤p+8∧Asc x.1)∧r=(sV x.1)∧h=[(1000,(g,.agg [.sl false (b.map u8V),iN x.2]))]):=by
 refine PF_go (N:=23) (rs:=[.tmp 4]) (X:=List UInt8×Nat) (post:=fun x=>x.1.length≤30∧p≤x.2∧x.2≤p+8∧Asc x.1) (E:=fun x=>sV x.1) (H':=fun x=>[(1000,(g,.agg [.sl false (b.map u8V),iN x.2]))]) Tryz.func27 (by kernel_rfl) rfl rfl rfl (by kernel_rfl) [(1000,(0,.dead))] (by intro _ k hk; simpa [lk] using hk)
  (.r 1 [] <| .r 3 [] <| .sp (gtB (((w.map pgV).length:Nat):Int) 0) (.h (.eqt 7 (bV true)) <| .r 1 [] <| .gt <| .r 1 [] <| .gt <| .cx (pick_c b p g 3) [(1000,1000)] (fun (x1_5:Nat)=>.gt <| .r 2 [] <| .br (.r 4 [] <| .cx (pick_c b (p+1) g ((w.map pgV).length)) [(1000,1000)] (fun (x2_4:Nat)=>.r 4 [.agg [sV ((w.getD x2_4 pg0).addr),sV ((w.getD x2_4 pg0).text),sV ((w.getD x2_4 pg0).lead),iV ((w.getD x2_4 pg0).fails)]] <| .nil)) (.r 1 [] <| .cx (l71Addr_c b (p+1) g) [(1000,1000)] (fun (x3_1:List UInt8×Nat)=>.r 1 [] <| .nil)))) (.h (.eqt 7 (bV false)) <| .r 1 [] <| .gf (.dead) <| .gf (.dead) <| .gf (bV false) <| .r 1 [] <| .br (.r 4 [] <| .cx (pick_c b p g ((w.map pgV).length)) [(1000,1000)] (fun (x2_4:Nat)=>.r 4 [.agg [sV ((w.getD x2_4 pg0).addr),sV ((w.getD x2_4 pg0).text),sV ((w.getD x2_4 pg0).lead),iV ((w.getD x2_4 pg0).fails)]] <| .nil)) (.r 1 [] <| .cx (l71Addr_c b p g) [(1000,1000)] (fun (x3_1:List UInt8×Nat)=>.r 1 [] <| .nil))))
  ((fun v1:Bool=>(True∧True∧(v1=true→((bV v1:V)=bV true)∧True∧(true=true)∧True∧(true=true)∧(pick_c b p g 3).sm∧(((((g,.agg [.sl false (b.map u8V),iN p])):Nat×V)=(g,.agg [.sl false (b.map u8V),iN p]))∧True)∧((b.length≤2000)∧(p≤1000000)∧(3≤1000000))∧∀ x1_5:Nat,(3=0∧x1_5=0∨x1_5 < 3)→(true=true)∧(Pk true true true∧True)∧Br (true&&(gtB (x1_5:Int) 0)) (True∧(pick_c b (p+1) g ((w.map pgV).length)).sm∧(((((g,.agg [.sl false (b.map u8V),iN (p+1)])):Nat×V)=(g,.agg [.sl false (b.map u8V),iN (p+1)]))∧True)∧((b.length≤2000)∧((p+1)≤1000000)∧(((w.map pgV).length)≤1000000))∧∀ x2_4:Nat,(((w.map pgV).length)=0∧x2_4=0∨x2_4 < ((w.map pgV).length))→(Ex (x2_4:Int) (w.map pgV) (.agg [sV ((w.getD x2_4 pg0).addr),sV ((w.getD x2_4 pg0).text),sV ((w.getD x2_4 pg0).lead),iV ((w.getD x2_4 pg0).fails)])∧True∧True)∧True∧∃ x:List UInt8×Nat,(x.1.length≤30∧p≤x.2∧x.2≤p+8∧Asc x.1)∧Q (sV ((w.getD x2_4 pg0).addr)) (sV x.1)∧(Qr g (.agg [.sl false (b.map u8V),iN ((p+1)+1)]) g (.agg [.sl false (b.map u8V),iN x.2])∧True)) (True∧(l71Addr_c b (p+1) g).sm∧(((((g,.agg [.sl false (b.map u8V),iN (p+1)])):Nat×V)=(g,.agg [.sl false (b.map u8V),iN (p+1)]))∧True)∧((b.length≤2000)∧((p+1)≤900000))∧∀ x3_1:List UInt8×Nat,(x3_1.1.length≤25∧(p+1)≤x3_1.2∧x3_1.2≤(p+1)+6∧Asc x3_1.1)→True∧True∧∃ x:List UInt8×Nat,(x.1.length≤30∧p≤x.2∧x.2≤p+8∧Asc x.1)∧Q (sV x3_1.1) (sV x.1)∧(Qr g (.agg [.sl false (b.map u8V),iN x3_1.2]) g (.agg [.sl false (b.map u8V),iN x.2])∧True)))∧(v1=false→((bV v1:V)=bV false)∧True∧(false=false)∧(false=false)∧(false=false)∧(Pk false false true∧True)∧Br (false&&false) (True∧(pick_c b p g ((w.map pgV).length)).sm∧(((((g,.agg [.sl false (b.map u8V),iN p])):Nat×V)=(g,.agg [.sl false (b.map u8V),iN p]))∧True)∧((b.length≤2000)∧(p≤1000000)∧(((w.map pgV).length)≤1000000))∧∀ x2_4:Nat,(((w.map pgV).length)=0∧x2_4=0∨x2_4 < ((w.map pgV).length))→(Ex (x2_4:Int) (w.map pgV) (.agg [sV ((w.getD x2_4 pg0).addr),sV ((w.getD x2_4 pg0).text),sV ((w.getD x2_4 pg0).lead),iV ((w.getD x2_4 pg0).fails)])∧True∧True)∧True∧∃ x:List UInt8×Nat,(x.1.length≤30∧p≤x.2∧x.2≤p+8∧Asc x.1)∧Q (sV ((w.getD x2_4 pg0).addr)) (sV x.1)∧(Qr g (.agg [.sl false (b.map u8V),iN (p+1)]) g (.agg [.sl false (b.map u8V),iN x.2])∧True)) (True∧(l71Addr_c b p g).sm∧(((((g,.agg [.sl false (b.map u8V),iN p])):Nat×V)=(g,.agg [.sl false (b.map u8V),iN p]))∧True)∧((b.length≤2000)∧(p≤900000))∧∀ x3_1:List UInt8×Nat,(x3_1.1.length≤25∧p≤x3_1.2∧x3_1.2≤p+6∧Asc x3_1.1)→True∧True∧∃ x:List UInt8×Nat,(x.1.length≤30∧p≤x.2∧x.2≤p+8∧Asc x.1)∧Q (sV x3_1.1) (sV x.1)∧(Qr g (.agg [.sl false (b.map u8V),iN x3_1.2]) g (.agg [.sl false (b.map u8V),iN x.2])∧True))))) (gtB (((w.map pgV).length:Nat):Int) 0))
  (by kernel_rfl) ?_
 refine ⟨trivial,trivial,?_⟩
 refine ⟨fun hs1_3=>?_,fun hs1_3=>?_⟩
 · have hq1_3:=hs1_3
   try simp only [nb,List.length_map] at hq1_3
   refine ⟨congrArg bV hs1_3,trivial,rfl,trivial,rfl,rfl,⟨rfl,trivial⟩,⟨by omega,by omega,by omega⟩,?_⟩
   intro x1_5 hx1_5
   refine ⟨rfl,⟨⟨fun h=>by first | exact h | rfl,fun _=>rfl⟩,trivial⟩,?_⟩
   refine ⟨fun hb1=>?_,fun hb1=>?_⟩
   · try simp only [nb] at hb1
     refine ⟨trivial,rfl,⟨rfl,trivial⟩,⟨by omega,by omega,by simp only [List.length_map]; omega⟩,?_⟩
     intro x2_4 hx2_4
     simp only [List.length_map] at hx2_4
     refine ⟨⟨⟨by omega,getE_map (d:=pg0) (by omega)⟩,trivial,trivial⟩,?_⟩
     refine ⟨trivial,((w.getD x2_4 pg0).addr,(p+1)+1),?_,?_,?_⟩
     · try dsimp only
       exact ⟨(pg_i hy _).a,by omega,by omega,(pg_i hy _).aa⟩
     · first | rfl | simp_all
     · first | exact ⟨rfl,trivial⟩ | trivial | simp_all
   · try simp only [nb] at hb1
     refine ⟨trivial,rfl,⟨rfl,trivial⟩,⟨by omega,by omega⟩,?_⟩
     intro x3_1 hx3_1
     refine ⟨trivial,?_⟩
     refine ⟨trivial,(x3_1.1,x3_1.2),?_,?_,?_⟩
     · try dsimp only
       exact ⟨by omega,by omega,by omega,by first | exact hx3_2.2.2.2 | (rename_i hq; exact hq.2.2.2) | (apply And.right; apply And.right; apply And.right; assumption)⟩
     · first | rfl | simp_all
     · first | exact ⟨rfl,trivial⟩ | trivial | simp_all
 · have hq1_3:=hs1_3
   try simp only [nb,List.length_map] at hq1_3
   refine ⟨congrArg bV hs1_3,trivial,rfl,rfl,rfl,⟨⟨fun h=>by first | exact h | rfl,fun _=>rfl⟩,trivial⟩,?_⟩
   refine ⟨fun hb2=>?_,fun hb2=>?_⟩
   · try simp only [nb] at hb2
     all_goals (simp at hb2)
   · try simp only [nb] at hb2
     refine ⟨trivial,rfl,⟨rfl,trivial⟩,⟨by omega,by omega⟩,?_⟩
     intro x3_1 hx3_1
     refine ⟨trivial,?_⟩
     refine ⟨trivial,(x3_1.1,x3_1.2),?_,?_,?_⟩
     · try dsimp only
       exact ⟨by omega,by omega,by omega,by first | exact hx3_2.2.2.2 | (rename_i hq; exact hq.2.2.2) | (apply And.right; apply And.right; apply And.right; assumption)⟩
     · first | rfl | simp_all
     · first | exact ⟨rfl,trivial⟩ | trivial | simp_all
def l71Where_c (b:List UInt8) (p:Nat) (g:Nat) (w:List Pg):ConX Tryz.prog:={ X:=List UInt8×Nat,f:=27,args:=[.ptr (.key 1000) [] g 0,.sl false (w.map pgV)],H:=[(1000,(g,.agg [.sl false (b.map u8V),iN p]))],pre:=(b.length≤2000)∧(p≤800000)∧(w.length≤30)∧(∀ y,y∈w→PgSz y),post:=fun x=>x.1.length≤30∧p≤x.2∧x.2≤p+8∧Asc x.1,res:=fun x=>sV x.1,H':=fun x=>[(1000,(g,.agg [.sl false (b.map u8V),iN x.2]))],ok:=fun h=>l71Where_ok b p g w h.1 h.2.1 h.2.2.1 h.2.2.2 }
theorem drawWorldLets_ok (b:List UInt8) (hb:b.length≤9223372036854775807):PF Tryz.prog 5 [.sl false (b.map u8V)] [] (fun r h=> ∃ x:List Pg×List UInt8×List UInt8,(1≤x.1.length∧x.1.length≤30∧(∀ y,y∈x.1→PgSz y)∧x.2.1.length≤5∧x.2.2.length≤30∧nameL x.2.1=true∧Asc x.2.2)∧r=(.tup [.sl false (x.1.map pgV),sV x.2.1,sV x.2.2])∧h=[]):=by
 refine PF_go (N:=17) (rs:=[.tmp 2,.tmp 3,.tmp 4]) (X:=List Pg×List UInt8×List UInt8) (post:=fun x=>1≤x.1.length∧x.1.length≤30∧(∀ y,y∈x.1→PgSz y)∧x.2.1.length≤5∧x.2.2.length≤30∧nameL x.2.1=true∧Asc x.2.2) (E:=fun x=>.tup [.sl false (x.1.map pgV),sV x.2.1,sV x.2.2]) (H':=fun x=>[]) Tryz.func5 (by kernel_rfl) rfl rfl rfl (by kernel_rfl) [] (by intro _ k hk; simpa [lk] using hk)
  (.r 3 [] <| .r 1 [] <| .cx (l6Open_c b) [(1000,8)] (fun (x1_1:List UInt8×Nat)=>.r 1 [] <| .r 1 [] <| .cx (l71Off_c x1_1.1 0 x1_1.2) [(1000,8)] (fun (x2_1:List Pg×Nat)=>.r 1 [] <| .h (.fz 6) <| .h (.eqt 6 (.sl false (x2_1.1.map pgV))) <| .r 2 [] <| .cx (l71Name_c x1_1.1 x2_1.2 x1_1.2) [(1000,8)] (fun (x3_2:List UInt8)=>.r 2 [] <| .cx (l71Where_c x1_1.1 (x2_1.2+1) x1_1.2 x2_1.1) [(1000,8)] (fun (x3_5:List UInt8×Nat)=>.r 3 [] <| .nil)))))
  (True∧True∧(l6Open_c b).sm∧(True)∧((b.length≤9223372036854775807))∧∀ x1_1:List UInt8×Nat,(x1_1.1.length≤2000)→True∧True∧(l71Off_c x1_1.1 0 x1_1.2).sm∧(((((x1_1.2,.agg [.sl false (x1_1.1.map u8V),iN 0])):Nat×V)=(x1_1.2,.agg [.sl false (x1_1.1.map u8V),iN 0]))∧True)∧((x1_1.1.length≤2000)∧(0≤600000))∧∀ x2_1:List Pg×Nat,(1≤x2_1.1.length∧x2_1.1.length≤30∧(∀ y,y∈x2_1.1→PgSz y)∧0≤x2_1.2∧x2_1.2≤0+1600)→True∧((.sl false (V.erL (x2_1.1.map pgV)):V)=.sl false (x2_1.1.map pgV))∧True∧(l71Name_c x1_1.1 x2_1.2 x1_1.2).sm∧(((((x1_1.2,.agg [.sl false (x1_1.1.map u8V),iN x2_1.2])):Nat×V)=(x1_1.2,.agg [.sl false (x1_1.1.map u8V),iN x2_1.2]))∧True)∧((x1_1.1.length≤2000)∧(x2_1.2≤900000))∧∀ x3_2:List UInt8,(x3_2.length≤5∧nameL x3_2=true)→True∧(l71Where_c x1_1.1 (x2_1.2+1) x1_1.2 x2_1.1).sm∧(((((x1_1.2,.agg [.sl false (x1_1.1.map u8V),iN (x2_1.2+1)])):Nat×V)=(x1_1.2,.agg [.sl false (x1_1.1.map u8V),iN (x2_1.2+1)]))∧True)∧((x1_1.1.length≤2000)∧((x2_1.2+1)≤800000)∧(x2_1.1.length≤30)∧(∀ y,y∈x2_1.1→PgSz y))∧∀ x3_5:List UInt8×Nat,(x3_5.1.length≤30∧(x2_1.2+1)≤x3_5.2∧x3_5.2≤(x2_1.2+1)+8∧Asc x3_5.1)→True∧True∧∃ x:List Pg×List UInt8×List UInt8,(1≤x.1.length∧x.1.length≤30∧(∀ y,y∈x.1→PgSz y)∧x.2.1.length≤5∧x.2.2.length≤30∧nameL x.2.1=true∧Asc x.2.2)∧Q (.tup [.sl false (x2_1.1.map pgV),sV x3_2,sV x3_5.1]) (.tup [.sl false (x.1.map pgV),sV x.2.1,sV x.2.2])∧(True))
  (by kernel_rfl) ?_
 refine ⟨trivial,trivial,rfl,trivial,by first | assumption | omega | (simp; omega),?_⟩
 intro x1_1 hx1_1
 refine ⟨trivial,trivial,rfl,⟨rfl,trivial⟩,⟨by first | assumption | omega | (simp; omega),by first | assumption | omega | (simp; omega)⟩,?_⟩
 intro x2_1 hx2_1
 refine ⟨trivial,congrArg (V.sl false) (erL_map_id (fun _=>rfl) _),trivial,rfl,⟨rfl,trivial⟩,⟨by first | assumption | omega | (simp; omega),by first | assumption | omega | (simp; omega)⟩,?_⟩
 intro x3_2 hx3_2
 refine ⟨trivial,rfl,⟨rfl,trivial⟩,⟨by omega,by omega,by omega,hx2_1.2.2.1⟩,?_⟩
 intro x3_5 hx3_5
 refine ⟨trivial,?_⟩
 refine ⟨trivial,(x2_1.1,x3_2,x3_5.1),?_,?_,?_⟩
 · try dsimp only
   exact ⟨by omega,by omega,hx2_1.2.2.1,by omega,by omega,hx3_2.2,hx3_5.2.2.2⟩
 · first | rfl | simp_all
 · first | exact ⟨rfl,trivial⟩ | trivial | simp_all
def drawWorldLets_c (b:List UInt8):ConX Tryz.prog:={ X:=List Pg×List UInt8×List UInt8,f:=5,args:=[.sl false (b.map u8V)],H:=[],pre:=(b.length≤9223372036854775807),post:=fun x=>1≤x.1.length∧x.1.length≤30∧(∀ y,y∈x.1→PgSz y)∧x.2.1.length≤5∧x.2.2.length≤30∧nameL x.2.1=true∧Asc x.2.2,res:=fun x=>.tup [.sl false (x.1.map pgV),sV x.2.1,sV x.2.2],H':=fun x=>[],ok:=fun h=>drawWorldLets_ok b h }
end Go.Proofs.YthliifpcaahnnaaGreatDoor
namespace Go.Proofs.YthliifpcaahnnaaGreatDoor
open Go Go.Abs Go.RowKit Go.Pd
set_option maxRecDepth 20000
theorem ne_of_len {α:Type} {l:List α} (h:1≤l.length):l≠[]:=by rintro rfl; simp at h
theorem lt_succ_ne {P:Nat→Prop} {k:Nat} (h:∀ q,q < k→P q) (hk:P k):∀ q,q < k+1→P q:=fun q hq=>by
  rcases Nat.lt_succ_iff_lt_or_eq.1 hq with h' | rfl
  · exact h q h'
  · exact hk
abbrev worldOk_k0 (w:List Pg) (i:Nat):Prop:=i≤w.length∧∀ j,j < i→pgOkL (w.getD j pg0)=true∧∀ k,k < j→(w.getD k pg0).addr≠(w.getD j pg0).addr
theorem worldOk_ok (w:List Pg) (hw:w.length≤1000) (hz:∀ i,(w.getD i pg0).addr.length≤1000000∧(w.getD i pg0).lead.length≤1000000):PF Tryz.prog 9 [.sl false (w.map pgV)] [] (fun r h=>r=(bV (worldOkL w))∧h=[]):=by
 refine PF_go1 (N:=80) (rs:=[.tmp 2]) Tryz.func9 (by kernel_rfl) rfl rfl rfl (by kernel_rfl)
  (.r 1 [] <| .r 1 [] <| .loop (Nat) (fun (i:Nat)=>⟨[(0,.sl false (w.map pgV)),(3,iN i)],[]⟩) (fun (i:Nat)=>worldOk_k0 w i) (fun (i:Nat)=>w.length - i) (fun (i:Nat)=>.r 4 [] <| .br (.r 5 [.agg [sV ((w.getD i pg0).addr),sV ((w.getD i pg0).text),sV ((w.getD i pg0).lead),iV ((w.getD i pg0).fails)]] <| .c (l11Norm_c ((w.getD i pg0).addr)) [] <| .r 16 [.agg [sV ((w.getD i pg0).addr),sV ((w.getD i pg0).text),sV ((w.getD i pg0).lead),iV ((w.getD i pg0).fails)],.agg [sV ((w.getD i pg0).addr),sV ((w.getD i pg0).text),sV ((w.getD i pg0).lead),iV ((w.getD i pg0).fails)]] <| .cg (l6In_c ((w.getD i pg0).fails) (0:Int) (9:Int)) <| .r 22 [.agg [sV ((w.getD i pg0).addr),sV ((w.getD i pg0).text),sV ((w.getD i pg0).lead),iV ((w.getD i pg0).fails)],.agg [sV ((w.getD i pg0).addr),sV ((w.getD i pg0).text),sV ((w.getD i pg0).lead),iV ((w.getD i pg0).fails)],.agg [sV ((w.getD i pg0).addr),sV ((w.getD i pg0).text),sV ((w.getD i pg0).lead),iV ((w.getD i pg0).fails)]] <| .cg (l11Norm_c ((w.getD i pg0).lead)) <| .r 4 [] <| .br (.r 1 [] <| .nil) (.r 1 [] <| .loop (Nat) (fun (k:Nat)=>⟨[(0,.sl false (w.map pgV)),(3,iN i),(4,iN k)],[]⟩) (fun (k:Nat)=>k≤i∧∀ q,q < k→(w.getD q pg0).addr≠(w.getD i pg0).addr) (fun (k:Nat)=>i - k) (fun (k:Nat)=>.r 3 [] <| .br (.d 11 <| .r 11 [.agg [sV ((w.getD k pg0).addr),sV ((w.getD k pg0).text),sV ((w.getD k pg0).lead),iV ((w.getD k pg0).fails)],.agg [sV ((w.getD i pg0).addr),sV ((w.getD i pg0).text),sV ((w.getD i pg0).lead),iV ((w.getD i pg0).fails)]] <| .br (.r 1 [] <| .nil) (.r 3 [] <| .nil)) (.r 3 [] <| .nil)))) (.r 4 [] <| .nil)))
  ((fun v1:V=>(True∧True∧(∃ i₀:Nat,(worldOk_k0 w i₀)∧(E v1∧Q (iN 0) (iN i₀)∧True)∧True)∧∀ i:Nat,(worldOk_k0 w i)→(fun v8:Bool=>(fun v11:Bool=>(fun v9:Bool=>(fun v10:Bool=>(fun v2:Bool=>(fun v3:Bool=>(fun v4:Bool=>(fun v5:Bool=>(fun v6:Bool=>(fun v7:V=>True∧Br (ltB (i:Int) (((w.map pgV).length:Nat):Int)) ((Ex (i:Int) (w.map pgV) v7∧True∧True)∧(l11Norm_c ((w.getD i pg0).addr)).sm∧(True)∧((((w.getD i pg0).addr).length≤4611686018427387904))∧(Gd v5 (True∧True)∧Gd v5 (True∧True)∧Gd v5 ((Gd v5 (v5=true)∧(Gd v5 (v5=true)∧True))∧Ex (i:Int) (w.map pgV) v7)∧Gd v5 ((Gd v5 (v5=true)∧True)∧True)∧Gd v5 ((Gd v5 (v5=true)∧True)∧True)∧Gd v5 ((Gd v5 (v5=true)∧True)∧True)∧Gd v5 ((Gd v5 (v5=true)∧True)∧True)∧Pk v9 true v5∧Gd v3 (True∧True)∧Gd v3 (True∧True)∧Gd v3 ((Gd v3 (v3=true)∧(Gd v3 (v3=true)∧True))∧Ex (i:Int) (w.map pgV) v7)∧Gd v3 ((Gd v3 (v3=true)∧True)∧True)∧Gd v3 ((Gd v3 (v3=true)∧True)∧True)∧True)∧Gd v3 ((Gd v3 (v3=true)∧True)∧(True)∧(l6In_c ((w.getD i pg0).fails) (0:Int) (9:Int)).sm)∧(Gd v3 ((Gd v3 (v3=true)∧True)∧True)∧Pk (v9||v8) true v3∧Gd v2 (True∧True)∧Gd v2 (True∧True)∧Gd v2 ((Gd v2 (v2=true)∧(Gd v2 (v2=true)∧True))∧Ex (i:Int) (w.map pgV) v7)∧Gd v2 ((Gd v2 (v2=true)∧True)∧True)∧Gd v2 ((Gd v2 (v2=true)∧True)∧True)∧Gd v2 ((Gd v2 (v2=true)∧True)∧True)∧Gd v2 ((Gd v2 (v2=true)∧True)∧True)∧Gd (v2&&(v4==true)) (True∧True)∧Gd (v2&&(v4==true)) (True∧True)∧Gd (v2&&(v4==true)) ((Gd (v2&&(v4==true)) ((v2&&(v4==true))=true)∧(Gd (v2&&(v4==true)) ((v2&&(v4==true))=true)∧True))∧Ex (i:Int) (w.map pgV) v7)∧Gd (v2&&(v4==true)) ((Gd (v2&&(v4==true)) ((v2&&(v4==true))=true)∧True)∧True)∧Gd (v2&&(v4==true)) ((Gd (v2&&(v4==true)) ((v2&&(v4==true))=true)∧True)∧True)∧Gd (v2&&(v4==true)) ((Gd (v2&&(v4==true)) ((v2&&(v4==true))=true)∧True)∧True)∧Gd (v2&&(v4==true)) ((Gd (v2&&(v4==true)) ((v2&&(v4==true))=true)∧True)∧True)∧Gd ((v2&&(v4==true))&&v6) (True∧True)∧Gd ((v2&&(v4==true))&&v6) (True∧True)∧Gd ((v2&&(v4==true))&&v6) ((Gd ((v2&&(v4==true))&&v6) (((v2&&(v4==true))&&v6)=true)∧(Gd ((v2&&(v4==true))&&v6) (((v2&&(v4==true))&&v6)=true)∧True))∧Ex (i:Int) (w.map pgV) v7)∧Gd ((v2&&(v4==true))&&v6) ((Gd ((v2&&(v4==true))&&v6) (((v2&&(v4==true))&&v6)=true)∧True)∧True)∧Gd ((v2&&(v4==true))&&v6) ((Gd ((v2&&(v4==true))&&v6) (((v2&&(v4==true))&&v6)=true)∧True)∧True)∧True)∧Gd ((v2&&(v4==true))&&v6) ((Gd ((v2&&(v4==true))&&v6) (((v2&&(v4==true))&&v6)=true)∧True)∧((((w.getD i pg0).lead).length≤4611686018427387904))∧(l11Norm_c ((w.getD i pg0).lead)).sm)∧(Gd ((v2&&(v4==true))&&v6) ((Gd ((v2&&(v4==true))&&v6) (((v2&&(v4==true))&&v6)=true)∧True)∧True)∧Gd (v2&&(v4==true)) ((Gd (v2&&(v4==true)) ((v2&&(v4==true))=true)∧True)∧Pk v11 true ((v2&&(v4==true))&&v6))∧Gd v2 ((Gd v2 (v2=true)∧True)∧Pk v4 (v2&&(v4==true)) true)∧Pk ((v9||v8)||v10) true v2∧True)∧Br (((v9||v8)||v10)||(v4&&(v11||(!(isAdrL ((w.getD i pg0).lead)))))) (True∧True∧Q (bV false) (bV (worldOkL w))∧(True)) (True∧(∃ k₀:Nat,(k₀≤i∧∀ q,q < k₀→(w.getD q pg0).addr≠(w.getD i pg0).addr)∧(E v1∧E (iN i)∧Q (iN 0) (iN k₀)∧True)∧True)∧∀ k:Nat,(k≤i∧∀ q,q < k→(w.getD q pg0).addr≠(w.getD i pg0).addr)→True∧Br (ltB (k:Int) (i:Int)) ((Ex (k:Int) (w.map pgV) (.agg [sV ((w.getD k pg0).addr),sV ((w.getD k pg0).text),sV ((w.getD k pg0).lead),iV ((w.getD k pg0).fails)])∧True∧Ex (i:Int) (w.map pgV) v7∧True∧True)∧Br (((w.getD k pg0).addr)==((w.getD i pg0).addr)) (True∧True∧Q (bV false) (bV (worldOkL w))∧(True)) ((I64 ((k:Int)+1)∧True)∧∃ k₂:Nat,(k₂≤i∧∀ q,q < k₂→(w.getD q pg0).addr≠(w.getD i pg0).addr)∧(i - k₂ < i - k)∧(E v1∧E (iN i)∧Q (iN (k+1)) (iN k₂)∧True)∧True)) ((I64 ((i:Int)+1)∧True)∧∃ i₂:Nat,(worldOk_k0 w i₂)∧(w.length - i₂ < w.length - i)∧(E v1∧Q (iN (i+1)) (iN i₂)∧True)∧True))) (True∧True∧Q (bV (leB (((w.map pgV).length:Nat):Int) 12)) (bV (worldOkL w))∧(True))) (.agg [sV ((w.getD i pg0).addr),sV ((w.getD i pg0).text),sV ((w.getD i pg0).lead),iV ((w.getD i pg0).fails)])) (v11==false)) (v9==false)) (!(((w.getD i pg0).lead)==[]))) ((v9||v8)==false)) (((v9||v8)||v10)==false)) (!(inL ((w.getD i pg0).fails) (0:Int) (9:Int)))) (!(isAdrL ((w.getD i pg0).addr)))) (!(((w.getD i pg0).text)==[]))) (gtB ((((w.getD i pg0).text).length:Nat):Int) 300))) (.sl false (w.map pgV)))
  (by kernel_rfl) ?_
 refine ⟨trivial,trivial,?_⟩
 refine ⟨⟨0,?_,⟨rfl,rfl,trivial⟩,trivial⟩,?_⟩
 · unfold worldOk_k0
   simp
 rintro i ⟨h1,h2⟩
 refine ⟨trivial,?_⟩
 refine ⟨fun hb1=>?_,fun hb1=>?_⟩
 · try simp only [nb,List.length_map] at hb1
   refine ⟨⟨⟨by omega,getE_map (d:=pg0) (by omega)⟩,trivial,trivial⟩,rfl,trivial,by have:=hz i; omega,⟨fun hG=>⟨trivial,trivial⟩,fun hG=>⟨trivial,trivial⟩,fun hG=>⟨⟨fun h=>h,⟨fun h=>h,trivial⟩⟩,⟨by omega,getE_map (d:=pg0) (by omega)⟩⟩,fun hG=>⟨⟨fun h=>h,trivial⟩,trivial⟩,fun hG=>⟨⟨fun h=>h,trivial⟩,trivial⟩,fun hG=>⟨⟨fun h=>h,trivial⟩,trivial⟩,fun hG=>⟨⟨fun h=>h,trivial⟩,trivial⟩,⟨fun _=>rfl,fun h=>by first | (rw [h]; done) | (rw [h]; rfl)⟩,fun hG=>⟨trivial,trivial⟩,fun hG=>⟨trivial,trivial⟩,fun hG=>⟨⟨fun h=>h,⟨fun h=>h,trivial⟩⟩,⟨by omega,getE_map (d:=pg0) (by omega)⟩⟩,fun hG=>⟨⟨fun h=>h,trivial⟩,trivial⟩,fun hG=>⟨⟨fun h=>h,trivial⟩,trivial⟩,trivial⟩,fun hG=>⟨⟨fun h=>h,trivial⟩,trivial,rfl⟩,⟨fun hG=>⟨⟨fun h=>h,trivial⟩,trivial⟩,⟨fun _=>rfl,fun h=>by first | (rw [h]; done) | (rw [h]; rfl)⟩,fun hG=>⟨trivial,trivial⟩,fun hG=>⟨trivial,trivial⟩,fun hG=>⟨⟨fun h=>h,⟨fun h=>h,trivial⟩⟩,⟨by omega,getE_map (d:=pg0) (by omega)⟩⟩,fun hG=>⟨⟨fun h=>h,trivial⟩,trivial⟩,fun hG=>⟨⟨fun h=>h,trivial⟩,trivial⟩,fun hG=>⟨⟨fun h=>h,trivial⟩,trivial⟩,fun hG=>⟨⟨fun h=>h,trivial⟩,trivial⟩,fun hG=>⟨trivial,trivial⟩,fun hG=>⟨trivial,trivial⟩,fun hG=>⟨⟨fun h=>h,⟨fun h=>h,trivial⟩⟩,⟨by omega,getE_map (d:=pg0) (by omega)⟩⟩,fun hG=>⟨⟨fun h=>h,trivial⟩,trivial⟩,fun hG=>⟨⟨fun h=>h,trivial⟩,trivial⟩,fun hG=>⟨⟨fun h=>h,trivial⟩,trivial⟩,fun hG=>⟨⟨fun h=>h,trivial⟩,trivial⟩,fun hG=>⟨trivial,trivial⟩,fun hG=>⟨trivial,trivial⟩,fun hG=>⟨⟨fun h=>h,⟨fun h=>h,trivial⟩⟩,⟨by omega,getE_map (d:=pg0) (by omega)⟩⟩,fun hG=>⟨⟨fun h=>h,trivial⟩,trivial⟩,fun hG=>⟨⟨fun h=>h,trivial⟩,trivial⟩,trivial⟩,fun hG=>⟨⟨fun h=>h,trivial⟩,by (try simp only [nb] at hG); have:=hz i; omega,rfl⟩,⟨fun hG=>⟨⟨fun h=>h,trivial⟩,trivial⟩,fun hG=>⟨⟨fun h=>h,trivial⟩,⟨fun _=>rfl,fun h=>by rw [h]; exact (Bool.and_eq_true _ _).mpr ⟨hG,rfl⟩⟩⟩,fun hG=>⟨⟨fun h=>h,trivial⟩,⟨fun h=>by rw [h]; exact (Bool.and_eq_true _ _).mpr ⟨hG,rfl⟩,fun _=>rfl⟩⟩,⟨fun _=>rfl,fun h=>by first | (rw [h]; done) | (rw [h]; rfl)⟩,trivial⟩,?_⟩
   refine ⟨fun hb2=>?_,fun hb2=>?_⟩
   · try simp only [nb] at hb2
     refine ⟨trivial,?_⟩
     refine ⟨trivial,?_,trivial⟩
     unfold Q
     rw [world_bad (i:=i) (by omega) (fun h=>by rw [pgOk_f hb2] at h; exact absurd h.1 (by decide))]
   · try simp only [nb] at hb2
     refine ⟨trivial,?_⟩
     refine ⟨⟨0,?_,⟨rfl,rfl,rfl,trivial⟩,trivial⟩,?_⟩
     · simp
     rintro k ⟨h3,h4⟩
     refine ⟨trivial,?_⟩
     refine ⟨fun hb3=>?_,fun hb3=>?_⟩
     · try simp only [nb] at hb3
       refine ⟨⟨⟨by omega,getE_map (d:=pg0) (by omega)⟩,trivial,⟨by omega,getE_map (d:=pg0) (by omega)⟩,trivial,trivial⟩,?_⟩
       refine ⟨fun hb4=>?_,fun hb4=>?_⟩
       · try simp only [nb] at hb4
         refine ⟨trivial,?_⟩
         refine ⟨trivial,?_,trivial⟩
         unfold Q
         rw [world_bad (i:=i) (by omega) (fun h=>h.2 k (by omega) hb4)]
       · try simp only [nb] at hb4
         refine ⟨⟨by omega,trivial⟩,?_⟩
         refine ⟨k+1,?_,?_,⟨rfl,rfl,rfl,trivial⟩,trivial⟩
         · exact ⟨by omega,lt_succ_ne h4 hb4⟩
         · first | (simp; done) | omega | (simp; omega)
     · try simp only [nb] at hb3
       refine ⟨⟨by omega,trivial⟩,?_⟩
       refine ⟨i+1,?_,?_,⟨rfl,rfl,trivial⟩,trivial⟩
       · unfold worldOk_k0
         exact ⟨by omega,lt_succ_ne h2 ⟨pgOk_t hb2,fun k' hk'=>h4 k' (by omega)⟩⟩
       · first | (simp; done) | omega | (simp; omega)
 · try simp only [nb,List.length_map] at hb1
   refine ⟨trivial,?_⟩
   refine ⟨trivial,?_,trivial⟩
   unfold Q
   rw [world_good (fun j hj=>h2 j (by omega)),List.length_map]
   refine congrArg bV ?_
   unfold leB
   rw [Bool.eq_iff_iff]; simp; omega
def worldOk_c (w:List Pg):Con Tryz.prog:={ f:=9,args:=[.sl false (w.map pgV)],H:=[],pre:=(w.length≤1000)∧(∀ i,(w.getD i pg0).addr.length≤1000000∧(w.getD i pg0).lead.length≤1000000),res:=bV (worldOkL w),H':=[],ok:=fun h=>worldOk_ok w h.1 h.2 }
theorem l11Door_ok (d:List UInt8) (hh:d.length≤4000000000000000000):PF Tryz.prog 71 [sV d] [] (fun r h=>r=(sV (doorL d))∧h=[]):=by
 refine PF_go1 (N:=6) (rs:=[.tmp 2]) Tryz.func71 (by kernel_rfl) rfl rfl rfl (by kernel_rfl)
  (.r 1 [] <| .r 4 [] <| .nil)
  (True∧((([47,47]:List UInt8).length+d.length≤4611686018427387904)∧((([47,47]:List UInt8)++d).length+([47,110,111,116,105,99,101]:List UInt8).length≤4611686018427387904)∧True)∧True∧Q (sV ((([47,47]:List UInt8)++d)++([47,110,111,116,105,99,101]:List UInt8))) (sV (doorL d))∧(True))
  (by kernel_rfl) ?_
 refine ⟨trivial,⟨by (try simp only [List.length_append,List.length_cons,List.length_nil]); omega,by (try simp only [List.length_append,List.length_cons,List.length_nil]); omega,trivial⟩,?_⟩
 refine ⟨trivial,?_,trivial⟩
 unfold Q
 rfl
def l11Door_c (d:List UInt8):Con Tryz.prog:={ f:=71,args:=[sV d],H:=[],pre:=(d.length≤4000000000000000000),res:=sV (doorL d),H':=[],ok:=fun h=>l11Door_ok d h }
abbrev l11Get_r (w:List Pg) (a:List UInt8) (n:Int):V:=.tup [iV ((getL w a n).1),sV ((getL w a n).2)]
theorem l11Get_ok (w:List Pg) (a:List UInt8) (n:Int) (hw:w.length≤1000000):PF Tryz.prog 84 [.sl false (w.map pgV),sV a,iV n] [] (fun r h=>r=(l11Get_r w a n)∧h=[]):=by
 refine PF_go1 (N:=32) (rs:=[.tmp 6,.tmp 7]) Tryz.func84 (by kernel_rfl) rfl rfl rfl (by kernel_rfl)
  (.r 2 [] <| .r 2 [] <| .c (l11At_c w a) [] <| .r 3 [] <| .al zt65 (fun g8=>.st none <| .r 1 [] <| .r 3 [] <| .br (.r 2 [] <| .nil) (.r 5 [.dead] <| .br (.r 2 [] <| .nil) (.r 4 [.dead] <| .br (.d 3 <| .r 3 [.dead] <| .r 1 [] <| .nil) (.d 3 <| .r 3 [.dead] <| .r 1 [] <| .nil)))))
  (True∧True∧(l11At_c w a).sm∧(True)∧((w.length≤1000000))∧True∧∀ g8:Nat,Z g8 0∧True∧True∧Br (!((atL w a).2)) (True∧True∧Q (.tup [iN 0,sV []]) (l11Get_r w a n)∧(True)) ((Z g8 3∧True)∧Br (ltB n ((atL w a).1.fails)) (True∧True∧Q (.tup [iN 3,sV []]) (l11Get_r w a n)∧(True)) ((Z g8 2∧True)∧Br (!(((atL w a).1.lead)==[])) ((Z g8 2∧True)∧True∧True∧Q (.tup [iN 2,sV ((atL w a).1.lead)]) (l11Get_r w a n)∧(True)) ((Z g8 1∧True)∧True∧True∧Q (.tup [iN 1,sV ((atL w a).1.text)]) (l11Get_r w a n)∧(True)))))
  (by kernel_rfl) ?_
 refine ⟨trivial,trivial,rfl,trivial,by first | assumption | omega | (simp; omega),trivial,?_⟩
 intro g8
 refine ⟨rfl,trivial,trivial,?_⟩
 refine ⟨fun hb1=>?_,fun hb1=>?_⟩
 · try simp only [nb] at hb1
   refine ⟨trivial,?_⟩
   refine ⟨trivial,?_,trivial⟩
   unfold Q l11Get_r
   rw [getL,if_pos (by simpa using hb1)]
   rfl
 · try simp only [nb] at hb1
   refine ⟨⟨rfl,trivial⟩,?_⟩
   refine ⟨fun hb2=>?_,fun hb2=>?_⟩
   · try simp only [nb] at hb2
     refine ⟨trivial,?_⟩
     refine ⟨trivial,?_,trivial⟩
     unfold Q l11Get_r
     rw [getL,if_neg (by simpa using hb1),if_pos (by simpa using hb2)]
     rfl
   · try simp only [nb] at hb2
     refine ⟨⟨rfl,trivial⟩,?_⟩
     refine ⟨fun hb3=>?_,fun hb3=>?_⟩
     · try simp only [nb] at hb3
       refine ⟨⟨rfl,trivial⟩,trivial,?_⟩
       refine ⟨trivial,?_,trivial⟩
       unfold Q l11Get_r
       rw [getL,if_neg (by simpa using hb1),if_neg (by omega),if_neg (by simpa using hb3)]
       rfl
     · try simp only [nb] at hb3
       refine ⟨⟨rfl,trivial⟩,trivial,?_⟩
       refine ⟨trivial,?_,trivial⟩
       unfold Q l11Get_r
       rw [getL,if_neg (by simpa using hb1),if_neg (by omega),if_pos (by simpa using hb3)]
       rfl
def l11Get_c (w:List Pg) (a:List UInt8) (n:Int):Con Tryz.prog:={ f:=84,args:=[.sl false (w.map pgV),sV a,iV n],H:=[],pre:=(w.length≤1000000),res:=l11Get_r w a n,H':=[],ok:=fun h=>l11Get_ok w a n h }
abbrev l11Last_r (w:List Pg) (a:List UInt8):V:=.tup [iV ((getL w a 2).1),sV ((getL w a 2).2)]
theorem l11Last_ok (w:List Pg) (a:List UInt8) (hw:w.length≤1000000):PF Tryz.prog 46 [.sl false (w.map pgV),sV a] [] (fun r h=>r=(l11Last_r w a)∧h=[]):=by
 refine PF_go1 (N:=11) (rs:=[.tmp 4,.tmp 5]) Tryz.func46 (by kernel_rfl) rfl rfl rfl (by kernel_rfl)
  (.r 2 [] <| .r 2 [] <| .c (l11Get_c w a (2:Int)) [] <| .r 4 [] <| .nil)
  (True∧True∧(l11Get_c w a (2:Int)).sm∧(True)∧((w.length≤1000000))∧True∧True∧Q (.tup [iV ((getL w a (2:Int)).1),sV ((getL w a (2:Int)).2)]) (l11Last_r w a)∧(True))
  (by kernel_rfl) ?_
 refine ⟨trivial,trivial,rfl,trivial,by first | assumption | omega | (simp; omega),trivial,?_⟩
 refine ⟨trivial,?_,trivial⟩
 unfold Q l11Last_r
 rfl
def l11Last_c (w:List Pg) (a:List UInt8):Con Tryz.prog:={ f:=46,args:=[.sl false (w.map pgV),sV a],H:=[],pre:=(w.length≤1000000),res:=l11Last_r w a,H':=[],ok:=fun h=>l11Last_ok w a h }
end Go.Proofs.YthliifpcaahnnaaGreatDoor
namespace Go.Proofs.YthliifpcaahnnaaGreatDoor
open Go Go.Abs Go.RowKit Go.Pd
set_option maxRecDepth 20000
abbrev l2Line_r (gs:List Grp) (w:List UInt8) (d:List UInt8) (b:Bool):V:=.tup [.ow 3 (((lineL gs w d b).1).map grpO),bV ((lineL gs w d b).2)]
theorem l2Line_ok (gs:List Grp) (w d:List UInt8) (b:Bool) (hg:gs.length≤1000) (hw:w.length≤1000000) (hr:d.length≤1000000) (hn:∀ y,y∈gs→y.na.length≤1000∧y.ru.length≤6):PF Tryz.prog 146 [.ow 3 (gs.map grpO),sV w,sV d,bV b] [] (fun r h=>r=(l2Line_r gs w d b)∧h=[]):=by
 refine PF_go1 (N:=103) (rs:=[.tmp 8,.tmp 9]) Tryz.func146 (by kernel_rfl) rfl rfl rfl (by kernel_rfl)
  (.ot 0 (fun g0 o0 c0=>.r 2 [] <| .r 4 [] <| .r 7 [] <| .cg (l2Name_c d) <| .r 3 [] <| .br (.r 5 [] <| .br (.r 2 [] <| .bo (fun g32=>.bs <| .h (.own0 33 2) <| .bd zt36 <| .bs <| .ap (fun g36 o36 c36=>.h (.eqt 36 (.own 3 (gs.map grpO++[(.agg [.hd (.slot 32) [] 1 g32 0 0 (([d].map sV).length) 1,.hd (.slot 33) [] 2 0 0 0 (([].map ruleV).length) 0,iN 0]:V)]) g36 o36 c36)) <| .h (.claimX (.slot 36) [gs.length,0] g36 (o36+(gs.length) * 3+0) 32) <| .h (.eqt 36 (.own 3 (gs.map grpO++[(.agg [.own 1 ([d].map sV) g32 0 1,.hd (.slot 33) [] 2 0 0 0 (([].map ruleV).length) 0,iN 0]:V)]) g36 o36 c36)) <| .h (.claimX (.slot 36) [gs.length,1] g36 (o36+(gs.length) * 3+1) 33) <| .h (.eqt 36 (.own 3 (gs.map grpO++[(.agg [.own 1 ([d].map sV) g32 0 1,.own 2 ([].map ruleV) 0 0 0,iN 0]:V)]) g36 o36 c36)) <| .h (.wkX (.slot 36) [gs.length,0] g36 (o36+(gs.length) * 3+0) (.own 1 ([d].map sV) g32 0 1) (.ow 1 ([d].map sV))) <| .h (.eqt 36 (.own 3 (gs.map grpO++[(.agg [.ow 1 ([d].map sV),.own 2 ([].map ruleV) 0 0 0,iN 0]:V)]) g36 o36 c36)) <| .h (.wkX (.slot 36) [gs.length,1] g36 (o36+(gs.length) * 3+1) (.own 2 ([].map ruleV) 0 0 0) (.ow 2 ([].map ruleV))) <| .h (.eqt 36 (.own 3 (gs.map grpO++[(.agg [.ow 1 ([d].map sV),.ow 2 ([].map ruleV),iN 0]:V)]) g36 o36 c36)) <| .h (.eqt 36 (.own 3 ((gs++[(⟨[d],[],0⟩:Grp)]).map grpO) g36 o36 c36)) <| .r 2 [] <| .nil))) (.ex (List Grp×Grp) (fun z=>gs=z.1++[z.2]) (fun (z:List Grp×Grp)=>.h (.eqt 0 (.own 3 (z.1.map grpO++[(.agg [.ow 1 (z.2.na.map sV),.ow 2 (z.2.ru.map ruleV),iN z.2.wa]:V)]) g0 o0 c0)) <| .h (.eqt 13 (iN z.1.length)) <| .h (.eqt 10 (iN z.1.length)) <| .oRx (.slot 0) [0+z.1.length,0] g0 (o0+(0+z.1.length) * 3+0) 1 (z.2.na.map sV) (fun gA oA cA=>.h (.eqt 0 (.own 3 (z.1.map grpO++[(.agg [.own 1 (z.2.na.map sV) gA oA cA,.ow 2 (z.2.ru.map ruleV),iN z.2.wa]:V)]) g0 o0 c0)) <| .r 8 [.own 1 (z.2.na.map sV) gA oA cA] <| .bs <| .apx (z.2.na.map sV) g0 (o0+(0+z.1.length) * 3+0) (fun g46 o46 c46=>.h (.eqt 46 (.own 1 ((z.2.na++[d]).map sV) g46 o46 c46)) <| .h (.eqt 0 (.own 3 (z.1.map grpO++[(.agg [.dead,.ow 2 (z.2.ru.map ruleV),iN z.2.wa]:V)]) g0 o0 c0)) <| .r 2 [] <| .st (some (.dead)) <| .h (.eqt 0 (.own 3 (z.1.map grpO++[(.agg [.own 1 ((z.2.na++[d]).map sV) g46 o46 c46,.ow 2 (z.2.ru.map ruleV),iN z.2.wa]:V)]) g0 o0 c0)) <| .h (.wkX (.slot 0) [0+z.1.length,0] g0 (o0+(0+z.1.length) * 3+0) (.own 1 ((z.2.na++[d]).map sV) g46 o46 c46) (.ow 1 ((z.2.na++[d]).map sV))) <| .h (.eqt 0 (.own 3 (z.1.map grpO++[(.agg [.ow 1 ((z.2.na++[d]).map sV),.ow 2 (z.2.ru.map ruleV),iN z.2.wa]:V)]) g0 o0 c0)) <| .h (.eqt 0 (.own 3 ((z.1++[(⟨z.2.na++[d],z.2.ru,z.2.wa⟩:Grp)]).map grpO) g0 o0 c0)) <| .r 3 [] <| .h (.claim 8) <| .nil))))) (.r 3 [] <| .br (.r 4 [] <| .h (.claim 8) <| .nil) (.ex (List Grp×Grp) (fun z=>gs=z.1++[z.2]) (fun (z:List Grp×Grp)=>.h (.eqt 0 (.own 3 (z.1.map grpO++[(.agg [.ow 1 (z.2.na.map sV),.ow 2 (z.2.ru.map ruleV),iN z.2.wa]:V)]) g0 o0 c0)) <| .h (.eqt 13 (iN z.1.length)) <| .h (.eqt 10 (iN z.1.length)) <| .h (.eqt 51 (iN z.1.length)) <| .oRx (.slot 0) [0+z.1.length,1] g0 (o0+(0+z.1.length) * 3+1) 2 (z.2.ru.map ruleV) (fun gA oA cA=>.h (.eqt 0 (.own 3 (z.1.map grpO++[(.agg [.ow 1 (z.2.na.map sV),.own 2 (z.2.ru.map ruleV) gA oA cA,iN z.2.wa]:V)]) g0 o0 c0)) <| .r 8 [] <| .cg (ruleOk_c d) <| .r 11 [.own 2 (z.2.ru.map ruleV) gA oA cA] <| .br (.r 10 [.own 2 (z.2.ru.map ruleV) gA oA cA] <| .bd zt68 <| .bs <| .apx (z.2.ru.map ruleV) g0 (o0+(0+z.1.length) * 3+1) (fun g87 o87 c87=>.h (.eqt 87 (.own 2 ((z.2.ru++[(⟨w==([108,101,116]:List UInt8),d⟩:Rul)]).map ruleV) g87 o87 c87)) <| .h (.eqt 0 (.own 3 (z.1.map grpO++[(.agg [.ow 1 (z.2.na.map sV),.dead,iN z.2.wa]:V)]) g0 o0 c0)) <| .r 2 [] <| .st (some (.dead)) <| .h (.eqt 0 (.own 3 (z.1.map grpO++[(.agg [.ow 1 (z.2.na.map sV),.own 2 ((z.2.ru++[(⟨w==([108,101,116]:List UInt8),d⟩:Rul)]).map ruleV) g87 o87 c87,iN z.2.wa]:V)]) g0 o0 c0)) <| .h (.wkX (.slot 0) [0+z.1.length,1] g0 (o0+(0+z.1.length) * 3+1) (.own 2 ((z.2.ru++[(⟨w==([108,101,116]:List UInt8),d⟩:Rul)]).map ruleV) g87 o87 c87) (.ow 2 ((z.2.ru++[(⟨w==([108,101,116]:List UInt8),d⟩:Rul)]).map ruleV))) <| .h (.eqt 0 (.own 3 (z.1.map grpO++[(.agg [.ow 1 (z.2.na.map sV),.ow 2 ((z.2.ru++[(⟨w==([108,101,116]:List UInt8),d⟩:Rul)]).map ruleV),iN z.2.wa]:V)]) g0 o0 c0)) <| .h (.eqt 0 (.own 3 ((z.1++[(⟨z.2.na,z.2.ru++[⟨w==[108,101,116],d⟩],z.2.wa⟩:Grp)]).map grpO) g0 o0 c0)) <| .r 3 [] <| .h (.claim 8) <| .nil)) (.r 3 [] <| .br (.r 3 [] <| .c (l2Num_c d (20:Int)) [] <| .r 2 [] <| .st (some (iN z.2.wa)) <| .h (.eqt 0 (.own 3 (z.1.map grpO++[(.agg [.ow 1 (z.2.na.map sV),.own 2 (z.2.ru.map ruleV) gA oA cA,iV (numL d (20:Int))]:V)]) g0 o0 c0)) <| .h (.wkX (.slot 0) [0+z.1.length,1] g0 (o0+(0+z.1.length) * 3+1) (.own 2 (z.2.ru.map ruleV) gA oA cA) (.ow 2 (z.2.ru.map ruleV))) <| .h (.eqt 0 (.own 3 (z.1.map grpO++[(.agg [.ow 1 (z.2.na.map sV),.ow 2 (z.2.ru.map ruleV),iV (numL d (20:Int))]:V)]) g0 o0 c0)) <| .h (.eqt 0 (.own 3 ((z.1++[(⟨z.2.na,z.2.ru,(numL d 20).toNat⟩:Grp)]).map grpO) g0 o0 c0)) <| .r 3 [] <| .h (.claim 8) <| .nil) (.h (.wkX (.slot 0) [0+z.1.length,1] g0 (o0+(0+z.1.length) * 3+1) (.own 2 (z.2.ru.map ruleV) gA oA cA) (.ow 2 (z.2.ru.map ruleV))) <| .h (.eqt 0 (.own 3 (z.1.map grpO++[(.agg [.ow 1 (z.2.na.map sV),.ow 2 (z.2.ru.map ruleV),iN z.2.wa]:V)]) g0 o0 c0)) <| .h (.eqt 0 (.own 3 ((z.1++[z.2]).map grpO) g0 o0 c0)) <| .r 4 [] <| .h (.claim 8) <| .nil))))))))
  ((fun v1:List UInt8=>(fun v2:List UInt8=>(fun v3:List UInt8=>(fun v4:Int=>(fun v5:Bool=>(fun v6:V=>(fun v7:List V=>(fun v8:Bool=>(fun v9:V=>(fun v10:V=>(∀ g0 o0 c0:Nat,True∧(I64 (v4 - 1)∧True)∧(Gd ((w==v2)==true) (True∧True)∧Gd ((w==v2)==true) ((Gd ((w==v2)==true) (((w==v2)==true)=true)∧True)∧True)∧Gd ((w==v2)==true) ((Gd ((w==v2)==true) (((w==v2)==true)=true)∧True)∧True)∧Gd (((w==v2)==true)&&v5) (True∧True)∧True)∧Gd (((w==v2)==true)&&v5) ((Gd (((w==v2)==true)&&v5) ((((w==v2)==true)&&v5)=true)∧True)∧((d.length≤4611686018427387904))∧(l2Name_c d).sm)∧(Gd ((w==v2)==true) ((Gd ((w==v2)==true) (((w==v2)==true)=true)∧True)∧Pk (d==([42]:List UInt8)) true (((w==v2)==true)&&v5))∧Pk (w==v2) ((w==v2)==true) true∧True)∧Br ((w==v2)&&((d==([42]:List UInt8))||(nameL d))) ((Gd (b==false) (True∧True)∧Gd (b==false) ((Gd (b==false) ((b==false)=true)∧True)∧True)∧Pk b true (b==false)∧True)∧Br (b||(ltB (v4 - 1) 0)) (True∧∀ g32:Nat,(fun v11:List V=>(fun v12:V=>(fun v13:V=>(fun v14:V=>((3,3,g0,o0,c0,(gs.map grpO).length)=(3,3,g0,o0,c0,(gs.map grpO).length))∧(True)∧(V.ownsL v11=false)∧(AllN 3 v11)∧(((gs.map grpO).length+v11.length) * 56≤140737488355328)∧∀ g36 o36 c36:Nat,((.own 3 ((gs.map grpO)++v11) g36 o36 c36:V)=.own 3 (gs.map grpO++[v12]) g36 o36 c36)∧(V.at g36 o36 (.own 3 (gs.map grpO++[v12]) g36 o36 c36) [gs.length,0]=some (g36,o36+(gs.length) * 3+0,.hd (.slot 32) [] 1 g32 0 0 (([d].map sV).length) 1))∧(V.set (.own 3 (gs.map grpO++[v12]) g36 o36 c36) [gs.length,0] (.own 1 ([d].map sV) g32 0 1)=.own 3 (gs.map grpO++[v13]) g36 o36 c36)∧(V.at g36 o36 (.own 3 (gs.map grpO++[v13]) g36 o36 c36) [gs.length,1]=some (g36,o36+(gs.length) * 3+1,.hd (.slot 33) [] 2 0 0 0 (([].map ruleV).length) 0))∧(V.set (.own 3 (gs.map grpO++[v13]) g36 o36 c36) [gs.length,1] (.own 2 ([].map ruleV) 0 0 0)=.own 3 (gs.map grpO++[v14]) g36 o36 c36)∧(V.at g36 o36 (.own 3 (gs.map grpO++[v14]) g36 o36 c36) [gs.length,0]=some (g36,o36+(gs.length) * 3+0,.own 1 ([d].map sV) g32 0 1))∧(V.set (.own 3 (gs.map grpO++[v14]) g36 o36 c36) [gs.length,0] (.ow 1 ([d].map sV))=.own 3 (gs.map grpO++[v6]) g36 o36 c36)∧(V.at g36 o36 (.own 3 (gs.map grpO++[v6]) g36 o36 c36) [gs.length,1]=some (g36,o36+(gs.length) * 3+1,.own 2 ([].map ruleV) 0 0 0))∧(V.set (.own 3 (gs.map grpO++[v6]) g36 o36 c36) [gs.length,1] (.ow 2 ([].map ruleV))=.own 3 (gs.map grpO++[v9]) g36 o36 c36)∧((.own 3 (gs.map grpO++[v9]) g36 o36 c36:V)=.own 3 ((gs++[(⟨[d],[],0⟩:Grp)]).map grpO) g36 o36 c36)∧True∧True∧Q (.tup [.ow 3 ((gs++[(⟨[d],[],0⟩:Grp)]).map grpO),bV false]) (l2Line_r gs w d b)∧(True)) (.agg [.own 1 ([d].map sV) g32 0 1,.own 2 ([].map ruleV) 0 0 0,iN 0]:V)) (.agg [.own 1 ([d].map sV) g32 0 1,.hd (.slot 33) [] 2 0 0 0 (([].map ruleV).length) 0,iN 0]:V)) (.agg [.hd (.slot 32) [] 1 g32 0 0 (([d].map sV).length) 1,.hd (.slot 33) [] 2 0 0 0 (([].map ruleV).length) 0,iN 0]:V)) ([.agg [.hd (.slot 32) [] 1 g32 0 0 (([d].map sV).length) 1,.hd (.slot 33) [] 2 0 0 0 (([].map ruleV).length) 0,iN 0]]:List V)) ((∃ z:List Grp×Grp,gs=z.1++[z.2])∧∀ z:List Grp×Grp,(gs=z.1++[z.2])→(fun v15:V=>(fun v16:V=>(fun v17:V=>((.own 3 (gs.map grpO) g0 o0 c0:V)=.own 3 (z.1.map grpO++[v15]) g0 o0 c0)∧(v10=iN z.1.length)∧(v10=iN z.1.length)∧(V.at g0 o0 (.own 3 (z.1.map grpO++[v15]) g0 o0 c0) [0+z.1.length,0]=some (g0,o0+(0+z.1.length) * 3+0,.ow 1 (z.2.na.map sV)))∧∀ gA oA cA:Nat,(fun v18:V=>(fun v19:V=>(V.set (.own 3 (z.1.map grpO++[v15]) g0 o0 c0) [0+z.1.length,0] (.own 1 (z.2.na.map sV) gA oA cA)=.own 3 (z.1.map grpO++[v18]) g0 o0 c0)∧(In (z.1.length:Int) ((z.1.map grpO++[v18]).length)∧(V.at g0 o0 v19 [0+z.1.length,0]=some (g0,(o0+(0+z.1.length) * 3+0),.own 1 (z.2.na.map sV) gA oA cA))∧True)∧((V.at g0 o0 v19 [0+z.1.length,0]=some (g0,o0+(0+z.1.length) * 3+0,.own 1 (z.2.na.map sV) gA oA cA))∧1=1∧(z.2.na.map sV).length=(z.2.na.map sV).length)∧(True)∧(V.ownsL ([sV d]:List V)=false)∧(AllN 1 ([sV d]:List V))∧(((z.2.na.map sV).length+([sV d]:List V).length) * 16≤140737488355328)∧∀ g46 o46 c46:Nat,(fun v20:V=>((.own 1 ((z.2.na.map sV)++([sV d]:List V)) g46 o46 c46:V)=.own 1 ((z.2.na++[d]).map sV) g46 o46 c46)∧(V.set v19 [0+z.1.length,0] (.dead)=.own 3 (z.1.map grpO++[v16]) g0 o0 c0)∧(In (z.1.length:Int) ((z.1.map grpO++[v18]).length)∧True)∧(V.at g0 o0 (.own 3 (z.1.map grpO++[v16]) g0 o0 c0) [0+z.1.length,0]=some (g0,(o0+(0+z.1.length) * 3+0),.dead))∧(V.set (.own 3 (z.1.map grpO++[v16]) g0 o0 c0) [0+z.1.length,0] (.own 1 ((z.2.na++[d]).map sV) g46 o46 c46)=.own 3 (z.1.map grpO++[v20]) g0 o0 c0)∧(V.at g0 o0 (.own 3 (z.1.map grpO++[v20]) g0 o0 c0) [0+z.1.length,0]=some (g0,o0+(0+z.1.length) * 3+0,.own 1 ((z.2.na++[d]).map sV) g46 o46 c46))∧(V.set (.own 3 (z.1.map grpO++[v20]) g0 o0 c0) [0+z.1.length,0] (.ow 1 ((z.2.na++[d]).map sV))=.own 3 (z.1.map grpO++[v17]) g0 o0 c0)∧((.own 3 (z.1.map grpO++[v17]) g0 o0 c0:V)=.own 3 ((z.1++[(⟨z.2.na++[d],z.2.ru,z.2.wa⟩:Grp)]).map grpO) g0 o0 c0)∧True∧((3,g0,o0,c0,((z.1++[(⟨z.2.na++[d],z.2.ru,z.2.wa⟩:Grp)]).map grpO).length)=(3,g0,o0,c0,((z.1++[(⟨z.2.na++[d],z.2.ru,z.2.wa⟩:Grp)]).map grpO).length))∧True∧Q (.tup [.ow 3 ((z.1++[(⟨z.2.na++[d],z.2.ru,z.2.wa⟩:Grp)]).map grpO),bV false]) (l2Line_r gs w d b)∧(True)) (.agg [.own 1 ((z.2.na++[d]).map sV) g46 o46 c46,.ow 2 (z.2.ru.map ruleV),iN z.2.wa]:V)) (.own 3 (z.1.map grpO++[v18]) g0 o0 c0)) (.agg [.own 1 (z.2.na.map sV) gA oA cA,.ow 2 (z.2.ru.map ruleV),iN z.2.wa]:V)) (.agg [.ow 1 ((z.2.na++[d]).map sV),.ow 2 (z.2.ru.map ruleV),iN z.2.wa]:V)) (.agg [.dead,.ow 2 (z.2.ru.map ruleV),iN z.2.wa]:V)) (.agg [.ow 1 (z.2.na.map sV),.ow 2 (z.2.ru.map ruleV),iN z.2.wa]:V))) (True∧Br (ltB (v4 - 1) 0) (True∧((3,g0,o0,c0,(gs.map grpO).length)=(3,g0,o0,c0,(gs.map grpO).length))∧True∧Q (.tup [.ow 3 (gs.map grpO),bV b]) (l2Line_r gs w d b)∧(True)) ((∃ z:List Grp×Grp,gs=z.1++[z.2])∧∀ z:List Grp×Grp,(gs=z.1++[z.2])→(fun v21:V=>(fun v22:V=>(fun v23:V=>(fun v24:V=>((.own 3 (gs.map grpO) g0 o0 c0:V)=.own 3 (z.1.map grpO++[v21]) g0 o0 c0)∧(v10=iN z.1.length)∧(v10=iN z.1.length)∧(v10=iN z.1.length)∧(V.at g0 o0 (.own 3 (z.1.map grpO++[v21]) g0 o0 c0) [0+z.1.length,1]=some (g0,o0+(0+z.1.length) * 3+1,.ow 2 (z.2.ru.map ruleV)))∧∀ gA oA cA:Nat,(fun v25:V=>(fun v26:V=>(fun v27:V=>(V.set (.own 3 (z.1.map grpO++[v21]) g0 o0 c0) [0+z.1.length,1] (.own 2 (z.2.ru.map ruleV) gA oA cA)=.own 3 (z.1.map grpO++[v25]) g0 o0 c0)∧(Gd v8 (True∧True)∧Gd v8 ((Gd v8 (v8=true)∧True)∧True)∧Pk (w==v1) true v8∧Gd (((w==v1)||(w==v3))==true) (True∧True)∧True)∧Gd (((w==v1)||(w==v3))==true) ((Gd (((w==v1)||(w==v3))==true) ((((w==v1)||(w==v3))==true)=true)∧True)∧((d.length≤4611686018427387904))∧(ruleOk_c d).sm)∧(Pk ((w==v1)||(w==v3)) (((w==v1)||(w==v3))==true) true∧Gd ((((w==v1)||(w==v3))&&(ruleOkL d))==true) (True∧True)∧Gd ((((w==v1)||(w==v3))&&(ruleOkL d))==true) (True∧True)∧Gd ((((w==v1)||(w==v3))&&(ruleOkL d))==true) ((Gd ((((w==v1)||(w==v3))&&(ruleOkL d))==true) (((((w==v1)||(w==v3))&&(ruleOkL d))==true)=true)∧(Gd ((((w==v1)||(w==v3))&&(ruleOkL d))==true) (((((w==v1)||(w==v3))&&(ruleOkL d))==true)=true)∧True))∧In (z.1.length:Int) ((z.1.map grpO++[v25]).length))∧Gd ((((w==v1)||(w==v3))&&(ruleOkL d))==true) ((Gd ((((w==v1)||(w==v3))&&(ruleOkL d))==true) (((((w==v1)||(w==v3))&&(ruleOkL d))==true)=true)∧True)∧True)∧Gd ((((w==v1)||(w==v3))&&(ruleOkL d))==true) ((Gd ((((w==v1)||(w==v3))&&(ruleOkL d))==true) (((((w==v1)||(w==v3))&&(ruleOkL d))==true)=true)∧True)∧(V.at g0 o0 v26 [0+z.1.length,1]=some (g0,(o0+(0+z.1.length) * 3+1),.own 2 (z.2.ru.map ruleV) gA oA cA)))∧Gd ((((w==v1)||(w==v3))&&(ruleOkL d))==true) ((Gd ((((w==v1)||(w==v3))&&(ruleOkL d))==true) (((((w==v1)||(w==v3))&&(ruleOkL d))==true)=true)∧True)∧True)∧Gd ((((w==v1)||(w==v3))&&(ruleOkL d))==true) ((Gd ((((w==v1)||(w==v3))&&(ruleOkL d))==true) (((((w==v1)||(w==v3))&&(ruleOkL d))==true)=true)∧True)∧True)∧Pk (((w==v1)||(w==v3))&&(ruleOkL d)) ((((w==v1)||(w==v3))&&(ruleOkL d))==true) true∧True)∧Br ((((w==v1)||(w==v3))&&(ruleOkL d))&&(ltB (((z.2.ru.map ruleV).length:Nat):Int) 6)) ((In (z.1.length:Int) ((z.1.map grpO++[v25]).length)∧(V.at g0 o0 v26 [0+z.1.length,1]=some (g0,(o0+(0+z.1.length) * 3+1),.own 2 (z.2.ru.map ruleV) gA oA cA))∧True)∧((V.at g0 o0 v26 [0+z.1.length,1]=some (g0,o0+(0+z.1.length) * 3+1,.own 2 (z.2.ru.map ruleV) gA oA cA))∧2=2∧(z.2.ru.map ruleV).length=(z.2.ru.map ruleV).length)∧(True)∧(V.ownsL v7=false)∧(AllN 2 v7)∧(((z.2.ru.map ruleV).length+v7.length) * 24≤140737488355328)∧∀ g87 o87 c87:Nat,(fun v28:V=>((.own 2 ((z.2.ru.map ruleV)++v7) g87 o87 c87:V)=.own 2 ((z.2.ru++[(⟨w==v1,d⟩:Rul)]).map ruleV) g87 o87 c87)∧(V.set v26 [0+z.1.length,1] (.dead)=.own 3 (z.1.map grpO++[v23]) g0 o0 c0)∧(In (z.1.length:Int) ((z.1.map grpO++[v25]).length)∧True)∧(V.at g0 o0 (.own 3 (z.1.map grpO++[v23]) g0 o0 c0) [0+z.1.length,1]=some (g0,(o0+(0+z.1.length) * 3+1),.dead))∧(V.set (.own 3 (z.1.map grpO++[v23]) g0 o0 c0) [0+z.1.length,1] (.own 2 ((z.2.ru++[(⟨w==v1,d⟩:Rul)]).map ruleV) g87 o87 c87)=.own 3 (z.1.map grpO++[v28]) g0 o0 c0)∧(V.at g0 o0 (.own 3 (z.1.map grpO++[v28]) g0 o0 c0) [0+z.1.length,1]=some (g0,o0+(0+z.1.length) * 3+1,.own 2 ((z.2.ru++[(⟨w==v1,d⟩:Rul)]).map ruleV) g87 o87 c87))∧(V.set (.own 3 (z.1.map grpO++[v28]) g0 o0 c0) [0+z.1.length,1] (.ow 2 ((z.2.ru++[(⟨w==v1,d⟩:Rul)]).map ruleV))=.own 3 (z.1.map grpO++[v22]) g0 o0 c0)∧((.own 3 (z.1.map grpO++[v22]) g0 o0 c0:V)=.own 3 ((z.1++[(⟨z.2.na,z.2.ru++[⟨w==[108,101,116],d⟩],z.2.wa⟩:Grp)]).map grpO) g0 o0 c0)∧True∧((3,g0,o0,c0,((z.1++[(⟨z.2.na,z.2.ru++[⟨w==[108,101,116],d⟩],z.2.wa⟩:Grp)]).map grpO).length)=(3,g0,o0,c0,((z.1++[(⟨z.2.na,z.2.ru++[⟨w==[108,101,116],d⟩],z.2.wa⟩:Grp)]).map grpO).length))∧True∧Q (.tup [.ow 3 ((z.1++[(⟨z.2.na,z.2.ru++[⟨w==[108,101,116],d⟩],z.2.wa⟩:Grp)]).map grpO),bV true]) (l2Line_r gs w d b)∧(True)) (.agg [.ow 1 (z.2.na.map sV),.own 2 ((z.2.ru++[(⟨w==v1,d⟩:Rul)]).map ruleV) g87 o87 c87,iN z.2.wa]:V)) (True∧Br (w==([119,97,105,116]:List UInt8)) (True∧(l2Num_c d (20:Int)).sm∧(True)∧((d.length≤4611686018427387904)∧(0≤(20:Int))∧((20:Int)≤1000000))∧(In (z.1.length:Int) ((z.1.map grpO++[v25]).length)∧True)∧(V.at g0 o0 v26 [0+z.1.length,2]=some (g0,(o0+(0+z.1.length) * 3+2),iN z.2.wa))∧(V.set v26 [0+z.1.length,2] (iV (numL d (20:Int)))=.own 3 (z.1.map grpO++[v27]) g0 o0 c0)∧(V.at g0 o0 (.own 3 (z.1.map grpO++[v27]) g0 o0 c0) [0+z.1.length,1]=some (g0,o0+(0+z.1.length) * 3+1,.own 2 (z.2.ru.map ruleV) gA oA cA))∧(V.set (.own 3 (z.1.map grpO++[v27]) g0 o0 c0) [0+z.1.length,1] (.ow 2 (z.2.ru.map ruleV))=.own 3 (z.1.map grpO++[v24]) g0 o0 c0)∧((.own 3 (z.1.map grpO++[v24]) g0 o0 c0:V)=.own 3 ((z.1++[(⟨z.2.na,z.2.ru,(numL d 20).toNat⟩:Grp)]).map grpO) g0 o0 c0)∧True∧((3,g0,o0,c0,((z.1++[(⟨z.2.na,z.2.ru,(numL d 20).toNat⟩:Grp)]).map grpO).length)=(3,g0,o0,c0,((z.1++[(⟨z.2.na,z.2.ru,(numL d 20).toNat⟩:Grp)]).map grpO).length))∧True∧Q (.tup [.ow 3 ((z.1++[(⟨z.2.na,z.2.ru,(numL d 20).toNat⟩:Grp)]).map grpO),bV true]) (l2Line_r gs w d b)∧(True)) ((V.at g0 o0 v26 [0+z.1.length,1]=some (g0,o0+(0+z.1.length) * 3+1,.own 2 (z.2.ru.map ruleV) gA oA cA))∧(V.set v26 [0+z.1.length,1] (.ow 2 (z.2.ru.map ruleV))=.own 3 (z.1.map grpO++[v21]) g0 o0 c0)∧((.own 3 (z.1.map grpO++[v21]) g0 o0 c0:V)=.own 3 ((z.1++[z.2]).map grpO) g0 o0 c0)∧True∧((3,g0,o0,c0,((z.1++[z.2]).map grpO).length)=(3,g0,o0,c0,((z.1++[z.2]).map grpO).length))∧True∧Q (.tup [.ow 3 ((z.1++[z.2]).map grpO),bV b]) (l2Line_r gs w d b)∧(True)))) (.agg [.ow 1 (z.2.na.map sV),.own 2 (z.2.ru.map ruleV) gA oA cA,iV (numL d (20:Int))]:V)) (.own 3 (z.1.map grpO++[v25]) g0 o0 c0)) (.agg [.ow 1 (z.2.na.map sV),.own 2 (z.2.ru.map ruleV) gA oA cA,iN z.2.wa]:V)) (.agg [.ow 1 (z.2.na.map sV),.ow 2 (z.2.ru.map ruleV),iV (numL d (20:Int))]:V)) (.agg [.ow 1 (z.2.na.map sV),.dead,iN z.2.wa]:V)) (.agg [.ow 1 (z.2.na.map sV),.ow 2 ((z.2.ru++[(⟨w==v1,d⟩:Rul)]).map ruleV),iN z.2.wa]:V)) (.agg [.ow 1 (z.2.na.map sV),.ow 2 (z.2.ru.map ruleV),iN z.2.wa]:V))))) (iV (v4 - 1):V)) (.agg [.ow 1 ([d].map sV),.ow 2 ([].map ruleV),iN 0]:V)) ((w==v1)==false)) ([.agg [bV (w==v1),sV d]]:List V)) (.agg [.ow 1 ([d].map sV),.own 2 ([].map ruleV) 0 0 0,iN 0]:V)) ((d==([42]:List UInt8))==false)) (((gs.map grpO).length:Nat):Int)) ([98,97,114]:List UInt8)) ([99,97,108,108,101,114]:List UInt8)) ([108,101,116]:List UInt8))
  (by kernel_rfl) ?_
 intro g0 o0 c0
 refine ⟨trivial,⟨by (try simp only [List.length_map] at *); omega,trivial⟩,⟨fun hG=>⟨trivial,trivial⟩,fun hG=>⟨⟨fun h=>h,trivial⟩,trivial⟩,fun hG=>⟨⟨fun h=>h,trivial⟩,trivial⟩,fun hG=>⟨trivial,trivial⟩,trivial⟩,fun hG=>⟨⟨fun h=>h,trivial⟩,by (try simp only [nb] at hG); first | assumption | omega | (simp; omega),rfl⟩,⟨fun hG=>⟨⟨fun h=>h,trivial⟩,⟨fun _=>rfl,fun h=>by rw [h]; exact (Bool.and_eq_true _ _).mpr ⟨hG,rfl⟩⟩⟩,⟨fun h=>by first | (rw [h]; done) | (rw [h]; rfl),fun _=>rfl⟩,trivial⟩,?_⟩
 refine ⟨fun hb1=>?_,fun hb1=>?_⟩
 · try simp only [nb] at hb1
   refine ⟨⟨fun hG=>⟨trivial,trivial⟩,fun hG=>⟨⟨fun h=>h,trivial⟩,trivial⟩,⟨fun _=>rfl,fun h=>by first | (rw [h]; done) | (rw [h]; rfl)⟩,trivial⟩,?_⟩
   refine ⟨fun hb2=>?_,fun hb2=>?_⟩
   · try simp only [nb,List.length_map] at hb2
     refine ⟨trivial,?_⟩
     intro g32
     refine ⟨rfl,trivial,rfl,by simp [AllN,V.n,V.ns],by (try simp only [List.length_map,List.length_cons,List.length_nil]); omega,?_⟩
     intro g36 o36 c36
     refine ⟨congrArg (V.own 3 · g36 o36 c36) (rfl),at_el2 (getE_last) rfl,set_el2 (x:=.agg [.hd (.slot 32) [] 1 g32 0 0 (([d].map sV).length) 1,.hd (.slot 33) [] 2 0 0 0 (([].map ruleV).length) 0,iN 0]) (getE_last) (set_last),at_el2 (getE_last) rfl,set_el2 (x:=.agg [.own 1 ([d].map sV) g32 0 1,.hd (.slot 33) [] 2 0 0 0 (([].map ruleV).length) 0,iN 0]) (getE_last) (set_last),at_el2 (getE_last) rfl,set_el2 (x:=.agg [.own 1 ([d].map sV) g32 0 1,.own 2 ([].map ruleV) 0 0 0,iN 0]) (getE_last) (set_last),at_el2 (getE_last) rfl,set_el2 (x:=.agg [.ow 1 ([d].map sV),.own 2 ([].map ruleV) 0 0 0,iN 0]) (getE_last) (set_last),congrArg (V.own 3 · g36 o36 c36) (by rw [List.map_append (f:=grpO)]; rfl),trivial,?_⟩
     refine ⟨trivial,?_,trivial⟩
     unfold Q l2Line_r
     rw [show lineL gs w d b=_ from by rw [lineL,if_pos hb1,if_pos (hb2.imp id fun h=>List.eq_nil_of_length_eq_zero (by omega))]]
   · try simp only [nb,List.length_map] at hb2
     refine ⟨ex_last (ne_of_len (by omega)),?_⟩
     intro z hz
     have hz2:=hn z.2 (by rw [hz]; simp)
     refine ⟨congrArg (V.own 3 · g0 o0 c0) (by rw [hz,List.map_append]; rfl),(congrArg iV (by rw [hz]; simp)),(congrArg iV (by rw [hz]; simp)),at_el2 (by rw [Nat.zero_add]; exact getE_last) rfl,?_⟩
     intro gA oA cA
     refine ⟨set_el2 (x:=.agg [.ow 1 (z.2.na.map sV),.ow 2 (z.2.ru.map ruleV),iN z.2.wa]) (by rw [Nat.zero_add]; exact getE_last) (by rw [Nat.zero_add]; exact set_last),⟨by (try simp only [List.length_map] at *); (try simp only [List.length_append,List.length_map,List.length_cons,List.length_nil]); omega,at_el2 (by rw [Nat.zero_add]; exact getE_last) rfl,trivial⟩,⟨at_el2 (by rw [Nat.zero_add]; exact getE_last) rfl,rfl,rfl⟩,trivial,rfl,by simp [AllN,V.n,V.ns],by (try simp only [List.length_map,List.length_cons,List.length_nil]); omega,?_⟩
     intro g46 o46 c46
     refine ⟨congrArg (V.own 1 · g46 o46 c46) (by simp),set_el2 (x:=.agg [.own 1 (z.2.na.map sV) gA oA cA,.ow 2 (z.2.ru.map ruleV),iN z.2.wa]) (by rw [Nat.zero_add]; exact getE_last) (by rw [Nat.zero_add]; exact set_last),⟨by (try simp only [List.length_map] at *); (try simp only [List.length_append,List.length_map,List.length_cons,List.length_nil]); omega,trivial⟩,at_el2 (by rw [Nat.zero_add]; exact getE_last) rfl,set_el2 (x:=.agg [.dead,.ow 2 (z.2.ru.map ruleV),iN z.2.wa]) (by rw [Nat.zero_add]; exact getE_last) (by rw [Nat.zero_add]; exact set_last),at_el2 (by rw [Nat.zero_add]; exact getE_last) rfl,set_el2 (x:=.agg [.own 1 ((z.2.na++[d]).map sV) g46 o46 c46,.ow 2 (z.2.ru.map ruleV),iN z.2.wa]) (by rw [Nat.zero_add]; exact getE_last) (by rw [Nat.zero_add]; exact set_last),congrArg (V.own 3 · g0 o0 c0) (by rw [List.map_append (f:=grpO)]; rfl),trivial,rfl,?_⟩
     refine ⟨trivial,?_,trivial⟩
     unfold Q l2Line_r
     rw [show lineL gs w d b=(z.1++[⟨z.2.na++[d],z.2.ru,z.2.wa⟩],false) from by rw [lineL,if_pos hb1,if_neg (by rintro (h | h) <;> simp_all),hz,setLast_app]]
 · try simp only [nb] at hb1
   refine ⟨trivial,?_⟩
   refine ⟨fun hb3=>?_,fun hb3=>?_⟩
   · try simp only [nb,List.length_map] at hb3
     refine ⟨trivial,rfl,?_⟩
     refine ⟨trivial,?_,trivial⟩
     unfold Q l2Line_r
     rw [show lineL gs w d b=(gs,b) from by rw [lineL,if_neg (by grind),if_pos (List.eq_nil_of_length_eq_zero (by omega))]]
   · try simp only [nb,List.length_map] at hb3
     refine ⟨ex_last (ne_of_len (by omega)),?_⟩
     intro z hz
     have hz2:=hn z.2 (by rw [hz]; simp)
     refine ⟨congrArg (V.own 3 · g0 o0 c0) (by rw [hz,List.map_append]; rfl),(congrArg iV (by rw [hz]; simp)),(congrArg iV (by rw [hz]; simp)),(congrArg iV (by rw [hz]; simp)),at_el2 (by rw [Nat.zero_add]; exact getE_last) rfl,?_⟩
     intro gA oA cA
     refine ⟨set_el2 (x:=.agg [.ow 1 (z.2.na.map sV),.ow 2 (z.2.ru.map ruleV),iN z.2.wa]) (by rw [Nat.zero_add]; exact getE_last) (by rw [Nat.zero_add]; exact set_last),⟨fun hG=>⟨trivial,trivial⟩,fun hG=>⟨⟨fun h=>h,trivial⟩,trivial⟩,⟨fun _=>rfl,fun h=>by first | (rw [h]; done) | (rw [h]; rfl)⟩,fun hG=>⟨trivial,trivial⟩,trivial⟩,fun hG=>⟨⟨fun h=>h,trivial⟩,by (try simp only [nb] at hG); first | assumption | omega | (simp; omega),rfl⟩,⟨⟨fun h=>by first | (rw [h]; done) | (rw [h]; rfl),fun _=>rfl⟩,fun hG=>⟨trivial,trivial⟩,fun hG=>⟨trivial,trivial⟩,fun hG=>⟨⟨fun h=>h,⟨fun h=>h,trivial⟩⟩,by (try simp only [nb] at hG); (try simp only [List.length_map] at *); (try simp only [List.length_append,List.length_map,List.length_cons,List.length_nil]); omega⟩,fun hG=>⟨⟨fun h=>h,trivial⟩,trivial⟩,fun hG=>⟨⟨fun h=>h,trivial⟩,at_el2 (by rw [Nat.zero_add]; exact getE_last) rfl⟩,fun hG=>⟨⟨fun h=>h,trivial⟩,trivial⟩,fun hG=>⟨⟨fun h=>h,trivial⟩,trivial⟩,⟨fun h=>by first | (rw [h]; done) | (rw [h]; rfl),fun _=>rfl⟩,trivial⟩,?_⟩
     refine ⟨fun hb4=>?_,fun hb4=>?_⟩
     · try simp only [nb,List.length_map] at hb4
       refine ⟨⟨by (try simp only [List.length_map] at *); (try simp only [List.length_append,List.length_map,List.length_cons,List.length_nil]); omega,at_el2 (by rw [Nat.zero_add]; exact getE_last) rfl,trivial⟩,⟨at_el2 (by rw [Nat.zero_add]; exact getE_last) rfl,rfl,rfl⟩,trivial,rfl,by simp [AllN,V.n,V.ns],by (try simp only [List.length_map,List.length_cons,List.length_nil]); omega,?_⟩
       intro g87 o87 c87
       refine ⟨congrArg (V.own 2 · g87 o87 c87) (by simp),set_el2 (x:=.agg [.ow 1 (z.2.na.map sV),.own 2 (z.2.ru.map ruleV) gA oA cA,iN z.2.wa]) (by rw [Nat.zero_add]; exact getE_last) (by rw [Nat.zero_add]; exact set_last),⟨by (try simp only [List.length_map] at *); (try simp only [List.length_append,List.length_map,List.length_cons,List.length_nil]); omega,trivial⟩,at_el2 (by rw [Nat.zero_add]; exact getE_last) rfl,set_el2 (x:=.agg [.ow 1 (z.2.na.map sV),.dead,iN z.2.wa]) (by rw [Nat.zero_add]; exact getE_last) (by rw [Nat.zero_add]; exact set_last),at_el2 (by rw [Nat.zero_add]; exact getE_last) rfl,set_el2 (x:=.agg [.ow 1 (z.2.na.map sV),.own 2 ((z.2.ru++[(⟨w==([108,101,116]:List UInt8),d⟩:Rul)]).map ruleV) g87 o87 c87,iN z.2.wa]) (by rw [Nat.zero_add]; exact getE_last) (by rw [Nat.zero_add]; exact set_last),congrArg (V.own 3 · g0 o0 c0) (by rw [List.map_append (f:=grpO)]; rfl),trivial,rfl,?_⟩
       refine ⟨trivial,?_,trivial⟩
       unfold Q l2Line_r
       rw [show lineL gs w d b=(z.1++[⟨z.2.na,z.2.ru++[⟨w==[108,101,116],d⟩],z.2.wa⟩],true) from by rw [lineL,if_neg (by grind),if_neg (ne_of_len (by omega)),if_pos (by rw [hz,lastRu_app]; grind),hz,setLast_app]]
     · try simp only [nb,List.length_map] at hb4
       refine ⟨trivial,?_⟩
       refine ⟨fun hb5=>?_,fun hb5=>?_⟩
       · try simp only [nb] at hb5
         refine ⟨trivial,rfl,trivial,⟨by first | assumption | omega | (simp; omega),by first | assumption | omega | (simp; omega),by first | assumption | omega | (simp; omega)⟩,⟨by (try simp only [List.length_map] at *); (try simp only [List.length_append,List.length_map,List.length_cons,List.length_nil]); omega,trivial⟩,at_el2 (by rw [Nat.zero_add]; exact getE_last) rfl,set_el2 (x:=.agg [.ow 1 (z.2.na.map sV),.own 2 (z.2.ru.map ruleV) gA oA cA,iN z.2.wa]) (by rw [Nat.zero_add]; exact getE_last) (by rw [Nat.zero_add]; exact set_last),at_el2 (by rw [Nat.zero_add]; exact getE_last) rfl,set_el2 (x:=.agg [.ow 1 (z.2.na.map sV),.own 2 (z.2.ru.map ruleV) gA oA cA,iV (numL d (20:Int))]) (by rw [Nat.zero_add]; exact getE_last) (by rw [Nat.zero_add]; exact set_last),congrArg (V.own 3 · g0 o0 c0) (by rw [List.map_append]; simp only [List.map_cons,List.map_nil,grpO]; rw [Int.toNat_of_nonneg (numL_ge (by omega))]),trivial,rfl,?_⟩
         refine ⟨trivial,?_,trivial⟩
         unfold Q l2Line_r
         rw [show lineL gs w d b=(z.1++[⟨z.2.na,z.2.ru,(numL d 20).toNat⟩],true) from by rw [lineL,if_neg (by grind),if_neg (ne_of_len (by omega)),if_neg (by rw [hz,lastRu_app]; grind),if_pos (by grind),hz,setLast_app]]
       · try simp only [nb] at hb5
         refine ⟨at_el2 (by rw [Nat.zero_add]; exact getE_last) rfl,set_el2 (x:=.agg [.ow 1 (z.2.na.map sV),.own 2 (z.2.ru.map ruleV) gA oA cA,iN z.2.wa]) (by rw [Nat.zero_add]; exact getE_last) (by rw [Nat.zero_add]; exact set_last),congrArg (V.own 3 · g0 o0 c0) (by rw [List.map_append (f:=grpO)]; rfl),trivial,rfl,?_⟩
         refine ⟨trivial,?_,trivial⟩
         unfold Q l2Line_r
         rw [show lineL gs w d b=(z.1++[z.2],b) from by rw [lineL,if_neg (by grind),if_neg (ne_of_len (by omega)),if_neg (by rw [hz,lastRu_app]; grind),if_neg (by grind),hz]]
def l2Line_c (gs:List Grp) (w:List UInt8) (d:List UInt8) (b:Bool):Con Tryz.prog:={ f:=146,args:=[.ow 3 (gs.map grpO),sV w,sV d,bV b],H:=[],pre:=(gs.length≤1000)∧(w.length≤1000000)∧(d.length≤1000000)∧(∀ y,y∈gs→y.na.length≤1000∧y.ru.length≤6),res:=l2Line_r gs w d b,H':=[],ok:=fun h=>l2Line_ok gs w d b h.1 h.2.1 h.2.2.1 h.2.2.2 }
abbrev noticeRead_k0 (t:List UInt8) (i:Nat) (gs:List Grp) (b:Bool):Prop:=i≤(splitL 10 t).length∧i≤40∧GsOk i gs∧((splitL 10 t).take i).foldl noteStep ([],false)=(gs,b)
theorem noticeRead_ok (t:List UInt8) (ht:t.length≤1000000):PF Tryz.prog 107 [sV t] [] (fun r h=>r=(.ow 3 ((noticeL t).map grpO))∧h=[]):=by
 refine PF_go1 (N:=41) (rs:=[.tmp 2]) Tryz.func107 (by kernel_rfl) rfl rfl rfl (by kernel_rfl)
  (.r 1 [] <| .bs <| .r 1 [] <| .r 1 [] <| .r 1 [] <| .c (l1Split_c t (10:UInt8)) [] <| .r 1 [] <| .r 1 [] <| .h (.own0 3 3) <| .loop (Nat×(List Grp)×Bool) (fun (i,gs,b)=>⟨[(0,sV t),(3,.ow 3 (gs.map grpO)),(4,bV b),(5,.sl false ((splitL 10 t).map sV)),(6,iN i)],[]⟩) (fun (i,gs,b)=>noticeRead_k0 t i gs b) (fun (i,gs,b)=>(splitL 10 t).length - i) (fun (i,gs,b)=>.r 8 [] <| .br (.r 4 [sV ((splitL 10 t).getD i [])] <| .c (l1Cut_c ((splitL 10 t).getD i []) (32:UInt8)) [] <| .r 7 [] <| .ot 3 (fun g3 o3 c3=>.r 4 [] <| .h (.claim 33) <| .c (l2Line_c gs ((cutL (32:UInt8) ((splitL 10 t).getD i [])).1) ((cutL (32:UInt8) ((splitL 10 t).getD i [])).2.1) b) [] <| .mv <| .mv <| .r 3 [] <| .r 3 [] <| .nil)) (.ot 3 (fun g3 o3 c3=>.r 2 [] <| .h (.claim 2) <| .nil))))
  ((fun v1:Int=>(True∧True∧True∧True∧(l1Split_c t (10:UInt8)).sm∧(True)∧((t.length≤1099511627776))∧True∧True∧(∃ x:Nat×(List Grp)×Bool,match x with | (i₀,gs₀,b₀)=>(noticeRead_k0 t i₀ gs₀ b₀)∧(E (sV t)∧Q (.ow 3 ([].map grpO)) (.ow 3 (gs₀.map grpO))∧Q (bV false) (bV b₀)∧Q (.sl false ((splitL (10:UInt8) t).map sV)) (.sl false ((splitL 10 t).map sV))∧Q (iN 0) (iN i₀)∧True)∧True)∧∀ x:Nat×(List Grp)×Bool,match x with | (i,gs,b)=>(noticeRead_k0 t i gs b)→(fun v2:Bool=>(Gd (v2==true) (True∧True)∧Gd (v2==true) ((Gd (v2==true) ((v2==true)=true)∧True)∧True)∧Pk v2 (v2==true) true∧True)∧Br (v2&&(ltB (i:Int) 40)) ((Ex (i:Int) ((splitL 10 t).map sV) (sV ((splitL 10 t).getD i []))∧True∧True)∧(l1Cut_c ((splitL 10 t).getD i []) (32:UInt8)).sm∧(True)∧((((splitL 10 t).getD i []).length≤4611686018427387904))∧True∧∀ g3 o3 c3:Nat,True∧((3,g3,o3,c3,(gs.map grpO).length)=(3,g3,o3,c3,(gs.map grpO).length))∧(l2Line_c gs ((cutL (32:UInt8) ((splitL 10 t).getD i [])).1) ((cutL (32:UInt8) ((splitL 10 t).getD i [])).2.1) b).sm∧(True)∧((gs.length≤1000)∧(((cutL (32:UInt8) ((splitL 10 t).getD i [])).1).length≤1000000)∧(((cutL (32:UInt8) ((splitL 10 t).getD i [])).2.1).length≤1000000)∧(∀ y,y∈gs→y.na.length≤1000∧y.ru.length≤6))∧True∧(I64 ((i:Int)+1)∧True)∧∃ x:Nat×(List Grp)×Bool,match x with | (i₂,gs₂,b₂)=>(noticeRead_k0 t i₂ gs₂ b₂)∧((splitL 10 t).length - i₂ < (splitL 10 t).length - i)∧(E (sV t)∧Q (.ow 3 (((lineL gs ((cutL (32:UInt8) ((splitL 10 t).getD i [])).1) ((cutL (32:UInt8) ((splitL 10 t).getD i [])).2.1) b).1).map grpO)) (.ow 3 (gs₂.map grpO))∧Q (bV ((lineL gs ((cutL (32:UInt8) ((splitL 10 t).getD i [])).1) ((cutL (32:UInt8) ((splitL 10 t).getD i [])).2.1) b).2)) (bV b₂)∧E (.sl false ((splitL 10 t).map sV))∧Q (iN (i+1)) (iN i₂)∧True)∧True) (∀ g3 o3 c3:Nat,True∧((3,g3,o3,c3,(gs.map grpO).length)=(3,g3,o3,c3,(gs.map grpO).length))∧True∧Q (.ow 3 (gs.map grpO)) (.ow 3 ((noticeL t).map grpO))∧(True))) (ltB (i:Int) v1))) ((((splitL 10 t).map sV).length:Nat):Int))
  (by kernel_rfl) ?_
 refine ⟨trivial,trivial,trivial,trivial,rfl,trivial,by first | assumption | omega | (simp; omega),trivial,trivial,?_⟩
 refine ⟨⟨(0,[],false),?_,⟨rfl,rfl,rfl,by first | rfl | simp | (simp; omega),rfl,trivial⟩,trivial⟩,?_⟩
 · unfold noticeRead_k0
   exact ⟨by omega,by omega,⟨by simp,by simp⟩,rfl⟩
 rintro ⟨i,gs,b⟩ ⟨h1,h2,h3,h4⟩
 refine ⟨⟨fun hG=>⟨trivial,trivial⟩,fun hG=>⟨⟨fun h=>h,trivial⟩,trivial⟩,⟨fun h=>by first | (rw [h]; done) | (rw [h]; rfl),fun _=>rfl⟩,trivial⟩,?_⟩
 refine ⟨fun hb1=>?_,fun hb1=>?_⟩
 · try simp only [nb,List.length_map] at hb1
   refine ⟨⟨⟨by omega,getE_map (d:=[]) (by omega)⟩,trivial,trivial⟩,rfl,trivial,by have:=split_get 10 t i; omega,trivial,?_⟩
   intro g3 o3 c3
   refine ⟨trivial,rfl,rfl,trivial,⟨by have:=h3.len; omega,by have:=split_get 10 t i; have:=cut_lens 32 ((splitL 10 t).getD i []); omega,by have:=split_get 10 t i; have:=cut_lens 32 ((splitL 10 t).getD i []); omega,fun y hy=>by have:=h3.each y hy; omega⟩,trivial,⟨by omega,trivial⟩,?_⟩
   refine ⟨(i+1,(lineL gs ((cutL (32:UInt8) ((splitL 10 t).getD i [])).1) ((cutL (32:UInt8) ((splitL 10 t).getD i [])).2.1) b).1,(lineL gs ((cutL (32:UInt8) ((splitL 10 t).getD i [])).1) ((cutL (32:UInt8) ((splitL 10 t).getD i [])).2.1) b).2),?_,?_,⟨rfl,rfl,rfl,rfl,rfl,trivial⟩,trivial⟩
   · unfold noticeRead_k0
     refine ⟨by omega,by omega,line_ok h3,?_⟩
     rw [foldl_succ (d:=[]) (by omega),h4]
     rfl
   · first | (simp; done) | omega | (simp; omega)
 · try simp only [nb,List.length_map] at hb1
   intro g3 o3 c3
   refine ⟨trivial,rfl,?_⟩
   refine ⟨trivial,?_,trivial⟩
   unfold Q
   rw [show noticeL t=gs from by unfold noticeL; rw [take40 h1 h2 hb1,h4]]
def noticeRead_c (t:List UInt8):Con Tryz.prog:={ f:=107,args:=[sV t],H:=[],pre:=(t.length≤1000000),res:=.ow 3 ((noticeL t).map grpO),H':=[],ok:=fun h=>noticeRead_ok t h }
abbrev l11Barred_r (n:List UInt8):V:=.agg [.sl false ([n].map sV),.sl false ([(⟨false,[47]⟩:Rul)].map ruleV),iN 0]
theorem l11Barred_ok (n:List UInt8):PF Tryz.prog 108 [sV n] [] (fun r h=>r=(l11Barred_r n)∧h=[]):=by
 refine PF_go1 (N:=8) (rs:=[.cell 2 36]) Tryz.func108 (by kernel_rfl) rfl rfl rfl (by kernel_rfl)
  (.al zt36 (fun g2=>.r 1 [] <| .bs <| .bd zt68 <| .bs <| .bd zt36 <| .st none <| .nil))
  (∀ g2:Nat,True∧Z g2 0∧(g2=g2∧True)∧Q (.agg [.sl false [sV n],.sl false [.agg [bV false,sV ([47]:List UInt8)]],iN 0]) (l11Barred_r n)∧(True))
  (by kernel_rfl) ?_
 intro g2
 refine ⟨trivial,rfl,?_⟩
 refine ⟨⟨rfl,trivial⟩,?_,trivial⟩
 unfold Q l11Barred_r
 rfl
def l11Barred_c (n:List UInt8):Con Tryz.prog:={ f:=108,args:=[sV n],H:=[],pre:=True,res:=l11Barred_r n,H':=[],ok:=fun _=>l11Barred_ok n }
abbrev l2Of_r (gs:List Grp) (n:List UInt8):V:=.tup [.agg [.sl false ([n].map sV),.sl false (((ofL gs n).1.ru).map ruleV),iN ((ofL gs n).1.wa)],bV ((ofL gs n).2)]
abbrev l2Of_k0 (gs:List Grp) (n:List UInt8) (i:Nat) (e:List Rul) (q:Nat) (s:Bool) (u:Nat) (f:Nat) (k:Nat):Prop:=i≤gs.length∧(gs.take i).foldl (ofStep n) (([],0),false)=((e,q),s)∧e.length≤100 * i
theorem l2Of_ok (gs:List Grp) (n:List UInt8) (hg:gs.length≤1000) (hr:∀ i,(gs.getD i ⟨[],[],0⟩).ru.length≤100) (ha:∀ i,(gs.getD i ⟨[],[],0⟩).na.length≤1000000):PF Tryz.prog 145 [.sl false (gs.map grpV),sV n] [] (fun r h=>r=(l2Of_r gs n)∧h=[]):=by
 refine PF_go1 (N:=65) (rs:=[.cell 4 36,.tmp 5]) Tryz.func145 (by kernel_rfl) rfl rfl rfl (by kernel_rfl)
  (.al zt36 (fun g4=>.r 1 [] <| .r 1 [] <| .bs <| .bs <| .bd zt36 <| .al zt36 (fun g6=>.st none <| .r 1 [] <| .r 1 [] <| .h (.own0R (.key 6) [1] 2) <| .loop (Nat×(List Rul)×Nat×Bool×Nat×Nat×Nat) (fun (i,e,q,s,u,f,k)=>⟨[(0,.sl false (gs.map grpV)),(1,sV n),(4,.ptr (.key 4) [] g4 0),(6,.ptr (.key 6) [] g6 0),(7,bV s),(8,iN i)],[(4,(g4,.agg [.sl true [],.sl true [],iN 0])),(6,(g6,.agg [.sl true [sV n],.own 2 (e.map ruleV) u f k,iN q]))]⟩) (fun (i,e,q,s,u,f,k)=>l2Of_k0 gs n i e q s u f k) (fun (i,e,q,s,u,f,k)=>gs.length - i) (fun (i,e,q,s,u,f,k)=>.r 4 [] <| .br (.r 1 [] <| .r 1 [] <| .loop (Nat×Bool) (fun (j,h)=>⟨[(0,.sl false (gs.map grpV)),(1,sV n),(4,.ptr (.key 4) [] g4 0),(6,.ptr (.key 6) [] g6 0),(7,bV s),(8,iN i),(9,bV h),(10,iN j)],[(4,(g4,.agg [.sl true [],.sl true [],iN 0])),(6,(g6,.agg [.sl true [sV n],.own 2 (e.map ruleV) u f k,iN q]))]⟩) (fun (j,h)=>j≤(gs.getD i ⟨[],[],0⟩).na.length∧((gs.getD i ⟨[],[],0⟩).na.take j).any (fun y=>y==n)=h) (fun (j,h)=>(gs.getD i ⟨[],[],0⟩).na.length - j) (fun (j,h)=>.r 8 [.agg [.sl false (((gs.getD i (⟨[],[],0⟩:Grp)).na).map sV),.sl false (((gs.getD i (⟨[],[],0⟩:Grp)).ru).map ruleV),iN ((gs.getD i (⟨[],[],0⟩:Grp)).wa)]] <| .br (.r 14 [.agg [.sl false (((gs.getD i (⟨[],[],0⟩:Grp)).na).map sV),.sl false (((gs.getD i (⟨[],[],0⟩:Grp)).ru).map ruleV),iN ((gs.getD i (⟨[],[],0⟩:Grp)).wa)],sV (((gs.getD i (⟨[],[],0⟩:Grp)).na).getD j [])] <| .r 3 [] <| .nil) (.r 1 [] <| .br (.r 1 [] <| .du 8 7 [52] [] [6] <| .r 7 [.dead,.agg [.sl false (((gs.getD i (⟨[],[],0⟩:Grp)).na).map sV),.sl false (((gs.getD i (⟨[],[],0⟩:Grp)).ru).map ruleV),iN ((gs.getD i (⟨[],[],0⟩:Grp)).wa)]] <| .ue none <| .ub (fun g52 o52 c52=>.h (.eqt 52 (.own 2 ((e++((gs.getD i (⟨[],[],0⟩:Grp)).ru)).map ruleV) g52 o52 c52)) <| .r 1 [] <| .st none <| .dx 7 [0,1,2,3,4,5,6] [(1,⟨false,[],some [6],[55],[]⟩),(6,⟨false,[],some [],[60],[]⟩)] [] <| .r 1 [] <| .r 1 [.dead] <| .r 1 [] <| .r 1 [] <| .r 1 [.agg [.sl false (((gs.getD i (⟨[],[],0⟩:Grp)).na).map sV),.sl false (((gs.getD i (⟨[],[],0⟩:Grp)).ru).map ruleV),iN ((gs.getD i (⟨[],[],0⟩:Grp)).wa)]] <| .r 1 [] <| .r 1 [] <| .mm <| .r 1 [] <| .st none <| .h (.eqh 6 (.agg [.sl true [sV n],.own 2 ((e++((gs.getD i (⟨[],[],0⟩:Grp)).ru)).map ruleV) g52 o52 c52,iN (max q (gs.getD i ⟨[],[],0⟩).wa)])) <| .r 3 [] <| .nil)) (.r 3 [] <| .nil)))) (.mv <| .h (.fz 63) <| .h (.eqt 63 (.agg [.sl true [sV n],.sl false (e.map ruleV),iN q])) <| .r 1 [] <| .st none <| .r 1 [] <| .nil)))))
  ((fun v1:V=>(fun v2:V=>(∀ g4:Nat,(fun v3:V=>True∧True∧∀ g6:Nat,(fun v4:V=>Z g6 0∧True∧True∧(∃ x:Nat×(List Rul)×Nat×Bool×Nat×Nat×Nat,match x with | (i₀,e₀,q₀,s₀,u₀,f₀,k₀)=>(l2Of_k0 gs n i₀ e₀ q₀ s₀ u₀ f₀ k₀)∧(E v2∧E (sV n)∧E v3∧E v4∧Q (bV false) (bV s₀)∧Q (iN 0) (iN i₀)∧True)∧(Er g4 v1∧Qr g6 (.agg [.sl true [sV n],.own 2 ([].map ruleV) 0 0 0,iN 0]) g6 (.agg [.sl true [sV n],.own 2 (e₀.map ruleV) u₀ f₀ k₀,iN q₀])∧True))∧∀ x:Nat×(List Rul)×Nat×Bool×Nat×Nat×Nat,match x with | (i,e,q,s,u,f,k)=>(l2Of_k0 gs n i e q s u f k)→(fun v5:V=>(fun v6:V=>True∧Br (ltB (i:Int) (((gs.map grpV).length:Nat):Int)) (True∧True∧(∃ x:Nat×Bool,match x with | (j₀,h₀)=>(j₀≤(gs.getD i ⟨[],[],0⟩).na.length∧((gs.getD i ⟨[],[],0⟩).na.take j₀).any (fun y=>y==n)=h₀)∧(E v2∧E (sV n)∧E v3∧E v4∧E (bV s)∧E (iN i)∧Q (bV false) (bV h₀)∧Q (iN 0) (iN j₀)∧True)∧(Er g4 v1∧Er g6 v6∧True))∧∀ x:Nat×Bool,match x with | (j,h)=>(j≤(gs.getD i ⟨[],[],0⟩).na.length∧((gs.getD i ⟨[],[],0⟩).na.take j).any (fun y=>y==n)=h)→(Ex (i:Int) (gs.map grpV) v5∧True∧True)∧Br (ltB (j:Int) (((((gs.getD i (⟨[],[],0⟩:Grp)).na).map sV).length:Nat):Int)) ((Gd (h==false) (True∧True)∧Gd (h==false) (True∧True)∧Gd (h==false) ((Gd (h==false) ((h==false)=true)∧(Gd (h==false) ((h==false)=true)∧True))∧Ex (i:Int) (gs.map grpV) v5)∧Gd (h==false) ((Gd (h==false) ((h==false)=true)∧True)∧True)∧Gd (h==false) ((Gd (h==false) ((h==false)=true)∧True)∧True)∧Gd (h==false) (True∧True)∧Gd (h==false) ((Gd (h==false) ((h==false)=true)∧(Gd (h==false) ((h==false)=true)∧True))∧Ex (j:Int) (((gs.getD i (⟨[],[],0⟩:Grp)).na).map sV) (sV (((gs.getD i (⟨[],[],0⟩:Grp)).na).getD j [])))∧Gd (h==false) ((Gd (h==false) ((h==false)=true)∧True)∧True)∧Gd (h==false) (True∧True)∧Gd (h==false) ((Gd (h==false) ((h==false)=true)∧(Gd (h==false) ((h==false)=true)∧True))∧True)∧Pk h true (h==false)∧True)∧(I64 ((j:Int)+1)∧True)∧∃ x:Nat×Bool,match x with | (j₂,h₂)=>(j₂≤(gs.getD i ⟨[],[],0⟩).na.length∧((gs.getD i ⟨[],[],0⟩).na.take j₂).any (fun y=>y==n)=h₂)∧((gs.getD i ⟨[],[],0⟩).na.length - j₂ < (gs.getD i ⟨[],[],0⟩).na.length - j)∧(E v2∧E (sV n)∧E v3∧E v4∧E (bV s)∧E (iN i)∧Q (bV (h||((((gs.getD i (⟨[],[],0⟩:Grp)).na).getD j [])==n))) (bV h₂)∧Q (iN (j+1)) (iN j₂)∧True)∧(Er g4 v1∧Er g6 v6∧True)) (True∧Br h (True∧(Z g6 1∧Ex (i:Int) (gs.map grpV) v5∧True∧True)∧(((2,2,u,f,k,(e.map ruleV).length)=(2,2,u,f,k,(e.map ruleV).length))∧(V.ownsL (((gs.getD i (⟨[],[],0⟩:Grp)).ru).map ruleV)=false)∧(AllN 2 (((gs.getD i (⟨[],[],0⟩:Grp)).ru).map ruleV))∧(((e.map ruleV).length+(((gs.getD i (⟨[],[],0⟩:Grp)).ru).map ruleV).length) * 24≤140737488355328))∧∀ g52 o52 c52:Nat,((.own 2 ((e.map ruleV)++(((gs.getD i (⟨[],[],0⟩:Grp)).ru).map ruleV)) g52 o52 c52:V)=.own 2 ((e++((gs.getD i (⟨[],[],0⟩:Grp)).ru)).map ruleV) g52 o52 c52)∧True∧Z g6 1∧True∧(Z g6 2∧True)∧True∧True∧(Ex (i:Int) (gs.map grpV) v5∧True)∧True∧(True∧True)∧(IntKind.i64=IntKind.i64)∧True∧Z g6 2∧((.agg [.sl true [sV n],.own 2 ((e++((gs.getD i (⟨[],[],0⟩:Grp)).ru)).map ruleV) g52 o52 c52,iV (max (q:Int) (((gs.getD i (⟨[],[],0⟩:Grp)).wa:Nat):Int))]:V)=.agg [.sl true [sV n],.own 2 ((e++((gs.getD i (⟨[],[],0⟩:Grp)).ru)).map ruleV) g52 o52 c52,iN (max q (gs.getD i ⟨[],[],0⟩).wa)])∧(I64 ((i:Int)+1)∧True)∧∃ x:Nat×(List Rul)×Nat×Bool×Nat×Nat×Nat,match x with | (i₂,e₂,q₂,s₂,u₂,f₂,k₂)=>(l2Of_k0 gs n i₂ e₂ q₂ s₂ u₂ f₂ k₂)∧(gs.length - i₂ < gs.length - i)∧(E v2∧E (sV n)∧E v3∧E v4∧Q (bV true) (bV s₂)∧Q (iN (i+1)) (iN i₂)∧True)∧(Er g4 v1∧Qr g6 (.agg [.sl true [sV n],.own 2 ((e++((gs.getD i (⟨[],[],0⟩:Grp)).ru)).map ruleV) g52 o52 c52,iN (max q (gs.getD i ⟨[],[],0⟩).wa)]) g6 (.agg [.sl true [sV n],.own 2 (e₂.map ruleV) u₂ f₂ k₂,iN q₂])∧True)) ((I64 ((i:Int)+1)∧True)∧∃ x:Nat×(List Rul)×Nat×Bool×Nat×Nat×Nat,match x with | (i₂,e₂,q₂,s₂,u₂,f₂,k₂)=>(l2Of_k0 gs n i₂ e₂ q₂ s₂ u₂ f₂ k₂)∧(gs.length - i₂ < gs.length - i)∧(E v2∧E (sV n)∧E v3∧E v4∧Q (bV s) (bV s₂)∧Q (iN (i+1)) (iN i₂)∧True)∧(Er g4 v1∧Qr g6 v6 g6 (.agg [.sl true [sV n],.own 2 (e₂.map ruleV) u₂ f₂ k₂,iN q₂])∧True)))) (Z g6 0∧((.agg [.sl true [sV n],.sl false (V.erL (e.map ruleV)),iN q]:V)=.agg [.sl true [sV n],.sl false (e.map ruleV),iN q])∧True∧Z g4 0∧True∧(g4=g4∧True)∧Q (.tup [.agg [.sl false [sV n],.sl false (e.map ruleV),iN q],bV s]) (l2Of_r gs n)∧(True))) (.agg [.sl true [sV n],.own 2 (e.map ruleV) u f k,iN q])) (.agg [.sl false (((gs.getD i (⟨[],[],0⟩:Grp)).na).map sV),.sl false (((gs.getD i (⟨[],[],0⟩:Grp)).ru).map ruleV),iN ((gs.getD i (⟨[],[],0⟩:Grp)).wa)])) (.ptr (.key 6) [] g6 0)) (.ptr (.key 4) [] g4 0))) (.sl false (gs.map grpV))) (.agg [.sl true [],.sl true [],iN 0]))
  (by kernel_rfl) ?_
 intro g4
 refine ⟨trivial,trivial,?_⟩
 intro g6
 refine ⟨rfl,trivial,trivial,?_⟩
 refine ⟨⟨(0,[],0,false,0,0,0),?_,⟨rfl,rfl,rfl,rfl,rfl,rfl,trivial⟩,⟨rfl,rfl,trivial⟩⟩,?_⟩
 · unfold l2Of_k0
   simp
 rintro ⟨i,e,q,s,u,f,k⟩ ⟨h1,h2,h3⟩
 have hai:=ha i
 refine ⟨trivial,?_⟩
 refine ⟨fun hb1=>?_,fun hb1=>?_⟩
 · try simp only [nb,List.length_map] at hb1
   refine ⟨trivial,trivial,?_⟩
   refine ⟨⟨(0,false),?_,⟨rfl,rfl,rfl,rfl,rfl,rfl,rfl,rfl,trivial⟩,⟨rfl,rfl,trivial⟩⟩,?_⟩
   · simp
   rintro ⟨j,h⟩ ⟨h4,h5⟩
   refine ⟨⟨⟨by omega,getE_map (d:=(⟨[],[],0⟩:Grp)) (by omega)⟩,trivial,trivial⟩,?_⟩
   refine ⟨fun hb2=>?_,fun hb2=>?_⟩
   · try simp only [nb,List.length_map] at hb2
     refine ⟨⟨fun hG=>⟨trivial,trivial⟩,fun hG=>⟨trivial,trivial⟩,fun hG=>⟨⟨fun h=>h,⟨fun h=>h,trivial⟩⟩,⟨by omega,getE_map (d:=(⟨[],[],0⟩:Grp)) (by omega)⟩⟩,fun hG=>⟨⟨fun h=>h,trivial⟩,trivial⟩,fun hG=>⟨⟨fun h=>h,trivial⟩,trivial⟩,fun hG=>⟨trivial,trivial⟩,fun hG=>⟨⟨fun h=>h,⟨fun h=>h,trivial⟩⟩,⟨by omega,getE_map (d:=[]) (by omega)⟩⟩,fun hG=>⟨⟨fun h=>h,trivial⟩,trivial⟩,fun hG=>⟨trivial,trivial⟩,fun hG=>⟨⟨fun h=>h,⟨fun h=>h,trivial⟩⟩,trivial⟩,⟨fun _=>rfl,fun h=>by first | (rw [h]; done) | (rw [h]; rfl)⟩,trivial⟩,⟨by omega,trivial⟩,?_⟩
     refine ⟨(j+1,(h||((((gs.getD i (⟨[],[],0⟩:Grp)).na).getD j [])==n))),?_,?_,⟨rfl,rfl,rfl,rfl,rfl,rfl,rfl,rfl,trivial⟩,⟨rfl,rfl,trivial⟩⟩
     · refine ⟨by omega,?_⟩
       rw [any_succ (d:=[]) (by omega),h5]
     · first | (simp; done) | omega | (simp; omega)
   · try simp only [nb,List.length_map] at hb2
     refine ⟨trivial,?_⟩
     refine ⟨fun hb3=>?_,fun hb3=>?_⟩
     · try simp only [nb] at hb3
       refine ⟨trivial,⟨rfl,⟨by omega,getE_map (d:=(⟨[],[],0⟩:Grp)) (by omega)⟩,trivial,trivial⟩,⟨rfl,(ownsL_map (f:=ruleV) (fun _=>rfl) _),(allN_map (f:=ruleV) (fun _=>rfl) _),by (try simp only [List.length_map,List.length_cons,List.length_nil]); have:=hr i; omega⟩,?_⟩
       intro g52 o52 c52
       refine ⟨congrArg (V.own 2 · g52 o52 c52) ((List.map_append ..).symm),trivial,rfl,trivial,⟨rfl,trivial⟩,trivial,trivial,⟨⟨by omega,getE_map (d:=(⟨[],[],0⟩:Grp)) (by omega)⟩,trivial⟩,trivial,⟨trivial,trivial⟩,rfl,trivial,rfl,congrArg (fun z:Int=>(.agg [.sl true [sV n],.own 2 ((e++((gs.getD i (⟨[],[],0⟩:Grp)).ru)).map ruleV) g52 o52 c52,iV z]:V)) (by omega),⟨by omega,trivial⟩,?_⟩
       refine ⟨(i+1,e++((gs.getD i (⟨[],[],0⟩:Grp)).ru),max q (gs.getD i ⟨[],[],0⟩).wa,true,g52,o52,c52),?_,?_,⟨rfl,rfl,rfl,rfl,rfl,rfl,trivial⟩,⟨rfl,rfl,trivial⟩⟩
       · unfold l2Of_k0
         have:=hr i
         refine ⟨by omega,?_,by simp only [List.length_append]; omega⟩
         rw [foldl_succ (d:=⟨[],[],0⟩) (by omega),h2,ofStep,if_pos (by rw [← hb3,← h5,List.take_of_length_le (by omega)])]
       · first | (simp; done) | omega | (simp; omega)
     · try simp only [nb] at hb3
       refine ⟨⟨by omega,trivial⟩,?_⟩
       refine ⟨(i+1,e,q,s,u,f,k),?_,?_,⟨rfl,rfl,rfl,rfl,rfl,rfl,trivial⟩,⟨rfl,rfl,trivial⟩⟩
       · unfold l2Of_k0
         refine ⟨by omega,?_,by omega⟩
         rw [foldl_succ (d:=⟨[],[],0⟩) (by omega),h2,ofStep,if_neg (by rw [← List.take_of_length_le (l:=Grp.na _) (i:=j) (by omega),h5,hb3]; decide)]
       · first | (simp; done) | omega | (simp; omega)
 · try simp only [nb,List.length_map] at hb1
   refine ⟨rfl,by simp only [erL_map_id (f:=ruleV) (fun _=>rfl)],trivial,rfl,trivial,?_⟩
   refine ⟨⟨rfl,trivial⟩,?_,trivial⟩
   unfold Q l2Of_r
   rw [List.take_of_length_le (by omega)] at h2
   rw [show ofL gs n=(⟨[n],e,q⟩,s) from by unfold ofL; rw [h2]]
   rfl
def l2Of_c (gs:List Grp) (n:List UInt8):Con Tryz.prog:={ f:=145,args:=[.sl false (gs.map grpV),sV n],H:=[],pre:=(gs.length≤1000)∧(∀ i,(gs.getD i ⟨[],[],0⟩).ru.length≤100)∧(∀ i,(gs.getD i ⟨[],[],0⟩).na.length≤1000000),res:=l2Of_r gs n,H':=[],ok:=fun h=>l2Of_ok gs n h.1 h.2.1 h.2.2 }
abbrev noticeFor_r (gs:List Grp) (n:List UInt8):V:=.agg [.sl false ([n].map sV),.sl false (((forL gs n).ru).map ruleV),iN ((forL gs n).wa)]
theorem noticeFor_ok (gs:List Grp) (n:List UInt8) (hg:gs.length≤1000) (hr:∀ i,(gs.getD i ⟨[],[],0⟩).ru.length≤100) (ha:∀ i,(gs.getD i ⟨[],[],0⟩).na.length≤1000000):PF Tryz.prog 106 [.sl false (gs.map grpV),sV n] [] (fun r h=>r=(noticeFor_r gs n)∧h=[]):=by
 refine PF_go1 (N:=24) (rs:=[.cell 4 36]) Tryz.func106 (by kernel_rfl) rfl rfl rfl (by kernel_rfl)
  (.al zt36 (fun g4=>.r 2 [] <| .c (l2Of_c gs n) [] <| .r 3 [] <| .al zt36 (fun g5=>.st none <| .r 1 [] <| .r 2 [] <| .br (.r 1 [] <| .c (l2Of_c gs ([42]:List UInt8)) [] <| .r 3 [] <| .st none <| .r 1 [] <| .bs <| .r 1 [] <| .st none <| .r 1 [.dead] <| .st none <| .nil) (.r 1 [] <| .bs <| .r 1 [] <| .st none <| .r 1 [.dead] <| .st none <| .nil))))
  (∀ g4:Nat,True∧(l2Of_c gs n).sm∧(True)∧((gs.length≤1000)∧(∀ i,(gs.getD i ⟨[],[],0⟩).ru.length≤100)∧(∀ i,(gs.getD i ⟨[],[],0⟩).na.length≤1000000))∧True∧∀ g5:Nat,Z g5 0∧True∧True∧Br (!((ofL gs n).2)) (True∧(l2Of_c gs ([42]:List UInt8)).sm∧(True)∧((gs.length≤1000)∧(∀ i,(gs.getD i ⟨[],[],0⟩).ru.length≤100)∧(∀ i,(gs.getD i ⟨[],[],0⟩).na.length≤1000000))∧True∧Z g5 0∧True∧True∧Z g5 0∧(Z g5 0∧True)∧Z g4 0∧(g4=g4∧True)∧Q (.agg [.sl false [sV n],.sl false (((ofL gs ([42]:List UInt8)).1.ru).map ruleV),iN ((ofL gs ([42]:List UInt8)).1.wa)]) (noticeFor_r gs n)∧(True)) (True∧True∧Z g5 0∧(Z g5 0∧True)∧Z g4 0∧(g4=g4∧True)∧Q (.agg [.sl false [sV n],.sl false (((ofL gs n).1.ru).map ruleV),iN ((ofL gs n).1.wa)]) (noticeFor_r gs n)∧(True)))
  (by kernel_rfl) ?_
 intro g4
 refine ⟨trivial,rfl,trivial,⟨hg,hr,ha⟩,trivial,?_⟩
 intro g5
 refine ⟨rfl,trivial,trivial,?_⟩
 refine ⟨fun hb1=>?_,fun hb1=>?_⟩
 · try simp only [nb] at hb1
   refine ⟨trivial,rfl,trivial,⟨hg,hr,ha⟩,trivial,rfl,trivial,trivial,rfl,⟨rfl,trivial⟩,rfl,?_⟩
   refine ⟨⟨rfl,trivial⟩,?_,trivial⟩
   unfold Q noticeFor_r
   rw [show forL gs n=_ from by rw [forL,if_neg (by simpa using hb1)]]
   rfl
 · try simp only [nb] at hb1
   refine ⟨trivial,trivial,rfl,⟨rfl,trivial⟩,rfl,?_⟩
   refine ⟨⟨rfl,trivial⟩,?_,trivial⟩
   unfold Q noticeFor_r
   rw [show forL gs n=_ from by rw [forL,if_pos (by simpa using hb1)]]
   rfl
def noticeFor_c (gs:List Grp) (n:List UInt8):Con Tryz.prog:={ f:=106,args:=[.sl false (gs.map grpV),sV n],H:=[],pre:=(gs.length≤1000)∧(∀ i,(gs.getD i ⟨[],[],0⟩).ru.length≤100)∧(∀ i,(gs.getD i ⟨[],[],0⟩).na.length≤1000000),res:=noticeFor_r gs n,H':=[],ok:=fun h=>noticeFor_ok gs n h.1 h.2.1 h.2.2 }
abbrev l11Said_r (k:Int) (t:List UInt8) (n:List UInt8):V:=.agg [.sl false ([n].map sV),.sl false (((saidL k t n).ru).map ruleV),iN ((saidL k t n).wa)]
theorem l11Said_ok (k:Int) (t n:List UInt8) (ht:t.length≤1000000):PF Tryz.prog 72 [iV k,sV t,sV n] [] (fun r h=>r=(l11Said_r k t n)∧h=[]):=by
 refine PF_go1 (N:=21) (rs:=[.cell 6 36]) Tryz.func72 (by kernel_rfl) rfl rfl rfl (by kernel_rfl)
  (.al zt36 (fun g6=>.r 1 [] <| .r 2 [] <| .br (.r 1 [] <| .c (noticeRead_c t) [] <| .h (.fz 11) <| .h (.eqt 11 (.sl false ((noticeL t).map grpV))) <| .r 1 [] <| .c (noticeFor_c (noticeL t) n) [] <| .st none <| .nil) (.r 2 [] <| .br (.r 1 [] <| .c (l11Barred_c n) [] <| .st none <| .nil) (.bs <| .r 1 [] <| .c (noticeFor_c ([]:List Grp) n) [] <| .st none <| .nil))))
  ((fun v1:List Grp=>(∀ g6:Nat,True∧True∧Br (eqB k 1) (True∧(noticeRead_c t).sm∧(True)∧((t.length≤1000000))∧((.sl false (V.erL ((noticeL t).map grpO)):V)=.sl false ((noticeL t).map grpV))∧True∧(noticeFor_c (noticeL t) n).sm∧(True)∧(((noticeL t).length≤1000)∧(∀ i,((noticeL t).getD i ⟨[],[],0⟩).ru.length≤100)∧(∀ i,((noticeL t).getD i ⟨[],[],0⟩).na.length≤1000000))∧Z g6 0∧(g6=g6∧True)∧Q (.agg [.sl false ([n].map sV),.sl false (((forL (noticeL t) n).ru).map ruleV),iN ((forL (noticeL t) n).wa)]) (l11Said_r k t n)∧(True)) (True∧Br (eqB k 3) (True∧(l11Barred_c n).sm∧(True)∧(True)∧Z g6 0∧(g6=g6∧True)∧Q (.agg [.sl false ([n].map sV),.sl false ([(⟨false,[47]⟩:Rul)].map ruleV),iN 0]) (l11Said_r k t n)∧(True)) (True∧(noticeFor_c v1 n).sm∧(True)∧((v1.length≤1000)∧(∀ i,(v1.getD i ⟨[],[],0⟩).ru.length≤100)∧(∀ i,(v1.getD i ⟨[],[],0⟩).na.length≤1000000))∧Z g6 0∧(g6=g6∧True)∧Q (.agg [.sl false ([n].map sV),.sl false (((forL v1 n).ru).map ruleV),iN ((forL v1 n).wa)]) (l11Said_r k t n)∧(True))))) ([]:List Grp))
  (by kernel_rfl) ?_
 intro g6
 refine ⟨trivial,trivial,?_⟩
 refine ⟨fun hb1=>?_,fun hb1=>?_⟩
 · try simp only [nb] at hb1
   refine ⟨trivial,rfl,trivial,by first | assumption | omega | (simp; omega),congrArg (V.sl false) (erL_grpO _),trivial,rfl,trivial,⟨by have:=(notice_ok t).len; omega,fun i=>((notice_ok t).ru i).1,fun i=>by have:=((notice_ok t).ru i).2; omega⟩,rfl,?_⟩
   refine ⟨⟨rfl,trivial⟩,?_,trivial⟩
   unfold Q l11Said_r
   rw [show saidL k t n=forL (noticeL t) n from by rw [saidL,if_pos hb1]]
 · try simp only [nb] at hb1
   refine ⟨trivial,?_⟩
   refine ⟨fun hb2=>?_,fun hb2=>?_⟩
   · try simp only [nb] at hb2
     refine ⟨trivial,rfl,trivial,trivial,rfl,?_⟩
     refine ⟨⟨rfl,trivial⟩,?_,trivial⟩
     unfold Q l11Said_r
     rw [show saidL k t n=_ from by rw [saidL,if_neg hb1,if_pos hb2]]
   · try simp only [nb] at hb2
     refine ⟨trivial,rfl,trivial,⟨by simp,by simp,by simp⟩,rfl,?_⟩
     refine ⟨⟨rfl,trivial⟩,?_,trivial⟩
     unfold Q l11Said_r
     rw [show saidL k t n=_ from by rw [saidL,if_neg hb1,if_neg hb2]]
def l11Said_c (k:Int) (t:List UInt8) (n:List UInt8):Con Tryz.prog:={ f:=72,args:=[iV k,sV t,sV n],H:=[],pre:=(t.length≤1000000),res:=l11Said_r k t n,H':=[],ok:=fun h=>l11Said_ok k t n h }
abbrev worldNotice_r (w:List Pg) (d:List UInt8) (n:List UInt8):V:=.agg [.sl false (((worldNotL w d n).na).map sV),.sl false (((worldNotL w d n).ru).map ruleV),iN ((worldNotL w d n).wa)]
theorem worldNotice_ok (w:List Pg) (d n:List UInt8) (hw:w.length≤1000) (hz:∀ i,(w.getD i pg0).addr.length≤1000000∧(w.getD i pg0).text.length≤1000000∧(w.getD i pg0).lead.length≤1000000) (hd:d.length≤2000000) (hn:n.length≤1000000):PF Tryz.prog 36 [.sl false (w.map pgV),sV d,sV n] [] (fun r h=>r=(worldNotice_r w d n)∧h=[]):=by
 refine PF_go1 (N:=34) (rs:=[.cell 6 36]) Tryz.func36 (by kernel_rfl) rfl rfl rfl (by kernel_rfl)
  (.al zt36 (fun g6=>.r 1 [] <| .c (worldOk_c w) [] <| .r 3 [] <| .cg (l1House_c d) <| .r 4 [] <| .cg (l2Name_c n) <| .r 2 [] <| .br (.bd zt36 <| .st none <| .nil) (.r 2 [] <| .c (l11Door_c d) [] <| .c (l11Last_c w (doorL d)) [] <| .r 5 [] <| .r 3 [] <| .c (l11Said_c ((getL w (doorL d) 2).1) ((getL w (doorL d) 2).2) n) [] <| .st none <| .nil)))
  ((fun v1:Bool=>(fun v2:Bool=>(∀ g6:Nat,True∧(worldOk_c w).sm∧(True)∧((w.length≤1000)∧(∀ i,(w.getD i pg0).addr.length≤1000000∧(w.getD i pg0).lead.length≤1000000))∧(Gd v2 (True∧True)∧True)∧Gd v2 ((Gd v2 (v2=true)∧True)∧((d.length≤4611686018427387904))∧(l1House_c d).sm)∧(Gd v2 ((Gd v2 (v2=true)∧True)∧True)∧Pk (!(worldOkL w)) true v2∧Gd v1 (True∧True)∧True)∧Gd v1 ((Gd v1 (v1=true)∧True)∧((n.length≤4611686018427387904))∧(l2Name_c n).sm)∧(Gd v1 ((Gd v1 (v1=true)∧True)∧True)∧Pk ((!(worldOkL w))||(!(houseL d))) true v1∧True)∧Br (((!(worldOkL w))||(!(houseL d)))||(!(nameL n))) (Z g6 0∧(g6=g6∧True)∧Q (.agg [.sl false [],.sl false [],iN 0]) (worldNotice_r w d n)∧(True)) (True∧(l11Door_c d).sm∧(True)∧((d.length≤4000000000000000000))∧(l11Last_c w (doorL d)).sm∧(True)∧((w.length≤1000000))∧True∧True∧(l11Said_c ((getL w (doorL d) 2).1) ((getL w (doorL d) 2).2) n).sm∧(True)∧((((getL w (doorL d) 2).2).length≤1000000))∧Z g6 0∧(g6=g6∧True)∧Q (.agg [.sl false ([n].map sV),.sl false (((saidL ((getL w (doorL d) 2).1) ((getL w (doorL d) 2).2) n).ru).map ruleV),iN ((saidL ((getL w (doorL d) 2).1) ((getL w (doorL d) 2).2) n).wa)]) (worldNotice_r w d n)∧(True)))) ((!(worldOkL w))==false)) (((!(worldOkL w))||(!(houseL d)))==false))
  (by kernel_rfl) ?_
 intro g6
 refine ⟨trivial,rfl,trivial,⟨hw,fun i=>⟨(hz i).1,(hz i).2.2⟩⟩,⟨fun hG=>⟨trivial,trivial⟩,trivial⟩,fun hG=>⟨⟨fun h=>h,trivial⟩,by (try simp only [nb] at hG); first | assumption | omega | (simp; omega),rfl⟩,⟨fun hG=>⟨⟨fun h=>h,trivial⟩,trivial⟩,⟨fun _=>rfl,fun h=>by first | (rw [h]; done) | (rw [h]; rfl)⟩,fun hG=>⟨trivial,trivial⟩,trivial⟩,fun hG=>⟨⟨fun h=>h,trivial⟩,by (try simp only [nb] at hG); first | assumption | omega | (simp; omega),rfl⟩,⟨fun hG=>⟨⟨fun h=>h,trivial⟩,trivial⟩,⟨fun _=>rfl,fun h=>by first | (rw [h]; done) | (rw [h]; rfl)⟩,trivial⟩,?_⟩
 refine ⟨fun hb1=>?_,fun hb1=>?_⟩
 · try simp only [nb] at hb1
   refine ⟨rfl,?_⟩
   refine ⟨⟨rfl,trivial⟩,?_,trivial⟩
   unfold Q worldNotice_r
   rw [show worldNotL w d n=_ from by rw [worldNotL,if_neg (by grind)]]
   rfl
 · try simp only [nb] at hb1
   refine ⟨trivial,rfl,trivial,by first | assumption | omega | (simp; omega),rfl,trivial,by omega,trivial,trivial,rfl,trivial,getL_len fun i=>(hz i).2,rfl,?_⟩
   refine ⟨⟨rfl,trivial⟩,?_,trivial⟩
   unfold Q worldNotice_r
   rw [show worldNotL w d n=_ from by rw [worldNotL,if_pos (by grind)]]
def worldNotice_c (w:List Pg) (d:List UInt8) (n:List UInt8):Con Tryz.prog:={ f:=36,args:=[.sl false (w.map pgV),sV d,sV n],H:=[],pre:=(w.length≤1000)∧(∀ i,(w.getD i pg0).addr.length≤1000000∧(w.getD i pg0).text.length≤1000000∧(w.getD i pg0).lead.length≤1000000)∧(d.length≤2000000)∧(n.length≤1000000),res:=worldNotice_r w d n,H':=[],ok:=fun h=>worldNotice_ok w d n h.1 h.2.1 h.2.2.1 h.2.2.2 }
theorem l11Lets_ok (g:Grp) (a:Adr) (ha:AdrSz a) (hl:g.ru.length≤1000) (hr:∀ i,(g.ru.getD i ⟨false,[]⟩).path.length≤1000000):PF Tryz.prog 35 [.agg [.sl false (g.na.map sV),.sl false (g.ru.map ruleV),iN g.wa],.agg [sV a.house,.sl false (a.parts.map sV),bV a.asks,sV a.ask]] [] (fun r h=>r=(bV (ruleLetsL g.ru (pathL a)))∧h=[]):=by
 refine PF_go1 (N:=10) (rs:=[.tmp 4]) Tryz.func35 (by kernel_rfl) rfl rfl rfl (by kernel_rfl)
  (.bx (fun g2=>.bx (fun g3=>.r 1 [] <| .d 5 <| .r 3 [.dead,.dead] <| .c (l1Path_c a) [] <| .c (ruleLets_c g.ru (pathL a)) [] <| .r 1 [] <| .nil)))
  (∀ g2:Nat,∀ g3:Nat,True∧(Z g2 1∧Z g3 0∧True)∧(l1Path_c a).sm∧((AdrSz a))∧(ruleLets_c g.ru (pathL a)).sm∧((g.ru.length≤4611686018427387904)∧(∀ i,(g.ru.getD i ⟨false,[]⟩).path.length≤4611686018427387904)∧((pathL a).length≤4611686018427387904))∧True∧True∧Q (bV (ruleLetsL g.ru (pathL a))) (bV (ruleLetsL g.ru (pathL a)))∧(True))
  (by kernel_rfl) ?_
 intro g2
 intro g3
 refine ⟨trivial,⟨rfl,rfl,trivial⟩,rfl,ha,rfl,⟨by omega,fun i=>by have:=hr i; omega,by have:=pathL_len ha; omega⟩,trivial,?_⟩
 refine ⟨trivial,?_,trivial⟩
 unfold Q
 rfl
def l11Lets_c (g:Grp) (a:Adr):Con Tryz.prog:={ f:=35,args:=[.agg [.sl false (g.na.map sV),.sl false (g.ru.map ruleV),iN g.wa],.agg [sV a.house,.sl false (a.parts.map sV),bV a.asks,sV a.ask]],H:=[],pre:=(AdrSz a)∧(g.ru.length≤1000)∧(∀ i,(g.ru.getD i ⟨false,[]⟩).path.length≤1000000),res:=bV (ruleLetsL g.ru (pathL a)),H':=[],ok:=fun h=>l11Lets_ok g a h.1 h.2.1 h.2.2 }
theorem worldLets_ok (w:List Pg) (n p:List UInt8) (hw:w.length≤1000) (hz:∀ i,(w.getD i pg0).addr.length≤1000000∧(w.getD i pg0).text.length≤1000000∧(w.getD i pg0).lead.length≤1000000) (hn:n.length≤1000000) (hp:p.length≤1000000):PF Tryz.prog 8 [.sl false (w.map pgV),sV n,sV p] [] (fun r h=>r=(bV (worldLetsL w n p))∧h=[]):=by
 refine PF_go1 (N:=33) (rs:=[.tmp 6]) Tryz.func8 (by kernel_rfl) rfl rfl rfl (by kernel_rfl)
  (.r 1 [] <| .r 1 [] <| .c (addrRead_c p) [] <| .r 3 [] <| .al zt29 (fun g7=>.st none <| .r 1 [] <| .r 1 [] <| .c (worldOk_c w) [] <| .r 3 [] <| .cg (l2Name_c n) <| .r 6 [] <| .br (.r 1 [] <| .nil) (.d 7 <| .r 4 [.dead] <| .c (worldNotice_c w ((oA (readL p)).house) n) [] <| .r 1 [.dead] <| .c (l11Lets_c (worldNotL w ((oA (readL p)).house) n) (oA (readL p))) [] <| .r 1 [] <| .nil)))
  ((fun v1:Bool=>(fun v2:Bool=>(True∧True∧(addrRead_c p).sm∧(True)∧((p.length≤4611686018427387904))∧True∧∀ g7:Nat,Z g7 0∧True∧True∧(worldOk_c w).sm∧(True)∧((w.length≤1000)∧(∀ i,(w.getD i pg0).addr.length≤1000000∧(w.getD i pg0).lead.length≤1000000))∧(Gd (v1==false) (True∧True)∧True)∧Gd (v1==false) ((Gd (v1==false) ((v1==false)=true)∧True)∧((n.length≤4611686018427387904))∧(l2Name_c n).sm)∧(Gd (v1==false) ((Gd (v1==false) ((v1==false)=true)∧True)∧True)∧Pk v1 true (v1==false)∧Gd v2 (True∧True)∧Gd v2 ((Gd v2 (v2=true)∧True)∧True)∧Pk (v1||(!(nameL n))) true v2∧True)∧Br ((v1||(!(nameL n)))||(!((readL p).isSome))) (True∧True∧Q (bV false) (bV (worldLetsL w n p))∧(True)) ((Z g7 0∧True)∧(worldNotice_c w ((oA (readL p)).house) n).sm∧((w.length≤1000)∧(∀ i,(w.getD i pg0).addr.length≤1000000∧(w.getD i pg0).text.length≤1000000∧(w.getD i pg0).lead.length≤1000000)∧(((oA (readL p)).house).length≤2000000)∧(n.length≤1000000))∧(Z g7 0∧True)∧(l11Lets_c (worldNotL w ((oA (readL p)).house) n) (oA (readL p))).sm∧((AdrSz (oA (readL p)))∧((worldNotL w ((oA (readL p)).house) n).ru.length≤1000)∧(∀ i,((worldNotL w ((oA (readL p)).house) n).ru.getD i ⟨false,[]⟩).path.length≤1000000))∧True∧True∧Q (bV (ruleLetsL (worldNotL w ((oA (readL p)).house) n).ru (pathL (oA (readL p))))) (bV (worldLetsL w n p))∧(True)))) ((v1||(!(nameL n)))==false)) (!(worldOkL w)))
  (by kernel_rfl) ?_
 refine ⟨trivial,trivial,rfl,trivial,by first | assumption | omega | (simp; omega),trivial,?_⟩
 intro g7
 refine ⟨rfl,trivial,trivial,rfl,trivial,⟨hw,fun i=>⟨(hz i).1,(hz i).2.2⟩⟩,⟨fun hG=>⟨trivial,trivial⟩,trivial⟩,fun hG=>⟨⟨fun h=>h,trivial⟩,by (try simp only [nb] at hG); first | assumption | omega | (simp; omega),rfl⟩,⟨fun hG=>⟨⟨fun h=>h,trivial⟩,trivial⟩,⟨fun _=>rfl,fun h=>by first | (rw [h]; done) | (rw [h]; rfl)⟩,fun hG=>⟨trivial,trivial⟩,fun hG=>⟨⟨fun h=>h,trivial⟩,trivial⟩,⟨fun _=>rfl,fun h=>by first | (rw [h]; done) | (rw [h]; rfl)⟩,trivial⟩,?_⟩
 refine ⟨fun hb1=>?_,fun hb1=>?_⟩
 · try simp only [nb] at hb1
   refine ⟨trivial,?_⟩
   refine ⟨trivial,?_,trivial⟩
   unfold Q
   refine congrArg bV ?_
   unfold worldLetsL
   grind
 · try simp only [nb] at hb1
   refine ⟨⟨rfl,trivial⟩,rfl,⟨hw,hz,by have:=(oA_sz p).1; omega,hn⟩,⟨rfl,trivial⟩,rfl,⟨oA_sz p,by have:=(worldNot_ok w (oA (readL p)).house n).1; omega,fun i=>by have:=(worldNot_ok w (oA (readL p)).house n).2 i; omega⟩,trivial,?_⟩
   refine ⟨trivial,?_,trivial⟩
   unfold Q
   refine congrArg bV ?_
   unfold worldLetsL
   grind
def worldLets_c (w:List Pg) (n:List UInt8) (p:List UInt8):Con Tryz.prog:={ f:=8,args:=[.sl false (w.map pgV),sV n,sV p],H:=[],pre:=(w.length≤1000)∧(∀ i,(w.getD i pg0).addr.length≤1000000∧(w.getD i pg0).text.length≤1000000∧(w.getD i pg0).lead.length≤1000000)∧(n.length≤1000000)∧(p.length≤1000000),res:=bV (worldLetsL w n p),H':=[],ok:=fun h=>worldLets_ok w n p h.1 h.2.1 h.2.2.1 h.2.2.2 }
end Go.Proofs.YthliifpcaahnnaaGreatDoor
namespace Go.Proofs.YthliifpcaahnnaaGreatDoor
open Go Go.Abs Go.RowKit Go.Pd
set_option maxRecDepth 20000
theorem hasPrefix_ok (s p:List UInt8) (hs:s.length≤4611686018427387904) (hp:p.length≤4611686018427387904):PF Tryz.prog 134 [sV s,sV p] [] (fun r h=>r=(bV (preL s p))∧h=[]):=by
 refine PF_go1 (N:=18) (rs:=[.tmp 4]) Tryz.func134 (by kernel_rfl) rfl rfl rfl (by kernel_rfl)
  (.r 1 [] <| .r 14 [] <| .nil)
  ((fun v1:Bool=>(True∧(Gd (v1==true) (True∧True)∧Gd (v1==true) (True∧True)∧Gd (v1==true) ((Gd (v1==true) ((v1==true)=true)∧True)∧True)∧Gd (v1==true) ((Gd (v1==true) ((v1==true)=true)∧(Gd (v1==true) ((v1==true)=true)∧True))∧Sx (0:Int) (p.length:Int) s)∧Gd (v1==true) (True∧True)∧Gd (v1==true) ((Gd (v1==true) ((v1==true)=true)∧(Gd (v1==true) ((v1==true)=true)∧True))∧True)∧Pk v1 (v1==true) true∧True)∧True∧Q (bV (v1&&(((s.take p.length).drop ((0:Int).toNat))==p))) (bV (preL s p))∧(True))) (geB (s.length:Int) (p.length:Int)))
  (by kernel_rfl) ?_
 refine ⟨trivial,⟨fun hG=>⟨trivial,trivial⟩,fun hG=>⟨trivial,trivial⟩,fun hG=>⟨⟨fun h=>h,trivial⟩,trivial⟩,fun hG=>⟨⟨fun h=>h,⟨fun h=>h,trivial⟩⟩,by (try simp only [nb] at hG); omega⟩,fun hG=>⟨trivial,trivial⟩,fun hG=>⟨⟨fun h=>h,⟨fun h=>h,trivial⟩⟩,trivial⟩,⟨fun h=>by first | (rw [h]; done) | (rw [h]; rfl),fun _=>rfl⟩,trivial⟩,?_⟩
 refine ⟨trivial,?_,trivial⟩
 unfold Q
 refine congrArg bV ?_
 unfold preL
 rw [Bool.eq_iff_iff]; simp
def hasPrefix_c (s:List UInt8) (p:List UInt8):Con Tryz.prog:={ f:=134,args:=[sV s,sV p],H:=[],pre:=(s.length≤4611686018427387904)∧(p.length≤4611686018427387904),res:=bV (preL s p),H':=[],ok:=fun h=>hasPrefix_ok s p h.1 h.2 }
theorem hasSuffix_ok (s p:List UInt8) (hs:s.length≤4611686018427387904) (hp:p.length≤4611686018427387904):PF Tryz.prog 149 [sV s,sV p] [] (fun r h=>r=(bV (sufL s p))∧h=[]):=by
 refine PF_go1 (N:=21) (rs:=[.tmp 4]) Tryz.func149 (by kernel_rfl) rfl rfl rfl (by kernel_rfl)
  (.r 1 [] <| .r 17 [] <| .nil)
  ((fun v1:Bool=>(True∧(Gd (v1==true) (True∧True)∧Gd (v1==true) (True∧True)∧Gd (v1==true) ((Gd (v1==true) ((v1==true)=true)∧True)∧True)∧Gd (v1==true) (True∧True)∧Gd (v1==true) ((Gd (v1==true) ((v1==true)=true)∧True)∧True)∧Gd (v1==true) ((Gd (v1==true) ((v1==true)=true)∧(Gd (v1==true) ((v1==true)=true)∧True))∧I64 ((s.length:Int) - (p.length:Int)))∧Gd (v1==true) ((Gd (v1==true) ((v1==true)=true)∧(Gd (v1==true) ((v1==true)=true)∧True))∧Sx ((s.length:Int) - (p.length:Int)) (s.length:Int) s)∧Gd (v1==true) (True∧True)∧Gd (v1==true) ((Gd (v1==true) ((v1==true)=true)∧(Gd (v1==true) ((v1==true)=true)∧True))∧True)∧Pk v1 (v1==true) true∧True)∧True∧Q (bV (v1&&(((s.take s.length).drop (Int.toNat ((s.length:Int) - (p.length:Int))))==p))) (bV (sufL s p))∧(True))) (geB (s.length:Int) (p.length:Int)))
  (by kernel_rfl) ?_
 refine ⟨trivial,⟨fun hG=>⟨trivial,trivial⟩,fun hG=>⟨trivial,trivial⟩,fun hG=>⟨⟨fun h=>h,trivial⟩,trivial⟩,fun hG=>⟨trivial,trivial⟩,fun hG=>⟨⟨fun h=>h,trivial⟩,trivial⟩,fun hG=>⟨⟨fun h=>h,⟨fun h=>h,trivial⟩⟩,by (try simp only [nb] at hG); omega⟩,fun hG=>⟨⟨fun h=>h,⟨fun h=>h,trivial⟩⟩,by (try simp only [nb] at hG); omega⟩,fun hG=>⟨trivial,trivial⟩,fun hG=>⟨⟨fun h=>h,⟨fun h=>h,trivial⟩⟩,trivial⟩,⟨fun h=>by first | (rw [h]; done) | (rw [h]; rfl),fun _=>rfl⟩,trivial⟩,?_⟩
 refine ⟨trivial,?_,trivial⟩
 unfold Q
 refine congrArg bV ?_
 unfold sufL
 rw [Bool.eq_iff_iff]; simp
def hasSuffix_c (s:List UInt8) (p:List UInt8):Con Tryz.prog:={ f:=149,args:=[sV s,sV p],H:=[],pre:=(s.length≤4611686018427387904)∧(p.length≤4611686018427387904),res:=bV (sufL s p),H':=[],ok:=fun h=>hasSuffix_ok s p h.1 h.2 }
theorem slTrimSuffix_ok (s p:List UInt8) (hs:s.length≤4611686018427387904) (hp:p.length≤4611686018427387904):PF Tryz.prog 148 [sV s,sV p] [] (fun r h=>r=(sV (trimL s p))∧h=[]):=by
 refine PF_go1 (N:=16) (rs:=[.tmp 4]) Tryz.func148 (by kernel_rfl) rfl rfl rfl (by kernel_rfl)
  (.r 1 [] <| .r 2 [] <| .c (hasSuffix_c s p) [] <| .br (.r 8 [] <| .nil) (.r 2 [] <| .nil))
  (True∧True∧(hasSuffix_c s p).sm∧(True)∧((s.length≤4611686018427387904)∧(p.length≤4611686018427387904))∧Br (sufL s p) ((I64 ((s.length:Int) - (p.length:Int))∧Sx (0:Int) ((s.length:Int) - (p.length:Int)) s∧True)∧True∧Q (sV ((s.take (Int.toNat ((s.length:Int) - (p.length:Int)))).drop ((0:Int).toNat))) (sV (trimL s p))∧(True)) (True∧True∧Q (sV s) (sV (trimL s p))∧(True)))
  (by kernel_rfl) ?_
 refine ⟨trivial,trivial,rfl,trivial,⟨by first | assumption | omega | (simp; omega),by first | assumption | omega | (simp; omega)⟩,?_⟩
 refine ⟨fun hb1=>?_,fun hb1=>?_⟩
 · try simp only [nb] at hb1
   refine ⟨⟨by omega,by have:=suf_le hb1; omega,trivial⟩,?_⟩
   refine ⟨trivial,?_,trivial⟩
   unfold Q
   have:=suf_le hb1
   rw [show trimL s p=s.take (s.length - p.length) from if_pos hb1]
   simp
 · try simp only [nb] at hb1
   refine ⟨trivial,?_⟩
   refine ⟨trivial,?_,trivial⟩
   unfold Q
   rw [show trimL s p=s from if_neg (by rw [hb1]; decide)]
def slTrimSuffix_c (s:List UInt8) (p:List UInt8):Con Tryz.prog:={ f:=148,args:=[sV s,sV p],H:=[],pre:=(s.length≤4611686018427387904)∧(p.length≤4611686018427387904),res:=sV (trimL s p),H':=[],ok:=fun h=>slTrimSuffix_ok s p h.1 h.2 }
theorem noticeAddr_ok (d:List UInt8) (hh:d.length≤4000000000000000000):PF Tryz.prog 78 [sV d] [] (fun r h=>r=(sV (doorL d))∧h=[]):=by
 refine PF_go1 (N:=6) (rs:=[.tmp 2]) Tryz.func78 (by kernel_rfl) rfl rfl rfl (by kernel_rfl)
  (.r 1 [] <| .r 4 [] <| .nil)
  (True∧((([47,47]:List UInt8).length+d.length≤4611686018427387904)∧((([47,47]:List UInt8)++d).length+([47,110,111,116,105,99,101]:List UInt8).length≤4611686018427387904)∧True)∧True∧Q (sV ((([47,47]:List UInt8)++d)++([47,110,111,116,105,99,101]:List UInt8))) (sV (doorL d))∧(True))
  (by kernel_rfl) ?_
 refine ⟨trivial,⟨by (try simp only [List.length_append,List.length_cons,List.length_nil]); omega,by (try simp only [List.length_append,List.length_cons,List.length_nil]); omega,trivial⟩,?_⟩
 refine ⟨trivial,?_,trivial⟩
 unfold Q
 rfl
def noticeAddr_c (d:List UInt8):Con Tryz.prog:={ f:=78,args:=[sV d],H:=[],pre:=(d.length≤4000000000000000000),res:=sV (doorL d),H':=[],ok:=fun h=>noticeAddr_ok d h }
theorem trimSuffix_ok (s p:List UInt8) (hs:s.length≤4611686018427387904) (hp:p.length≤4611686018427387904):PF Tryz.prog 111 [sV s,sV p] [] (fun r h=>r=(sV (trimL s p))∧h=[]):=by
 refine PF_go1 (N:=8) (rs:=[.tmp 4]) Tryz.func111 (by kernel_rfl) rfl rfl rfl (by kernel_rfl)
  (.r 1 [] <| .r 2 [] <| .c (slTrimSuffix_c s p) [] <| .r 1 [] <| .nil)
  (True∧True∧(slTrimSuffix_c s p).sm∧(True)∧((s.length≤4611686018427387904)∧(p.length≤4611686018427387904))∧True∧True∧Q (sV (trimL s p)) (sV (trimL s p))∧(True))
  (by kernel_rfl) ?_
 refine ⟨trivial,trivial,rfl,trivial,⟨by first | assumption | omega | (simp; omega),by first | assumption | omega | (simp; omega)⟩,trivial,?_⟩
 refine ⟨trivial,?_,trivial⟩
 unfold Q
 rfl
def trimSuffix_c (s:List UInt8) (p:List UInt8):Con Tryz.prog:={ f:=111,args:=[sV s,sV p],H:=[],pre:=(s.length≤4611686018427387904)∧(p.length≤4611686018427387904),res:=sV (trimL s p),H':=[],ok:=fun h=>trimSuffix_ok s p h.1 h.2 }
theorem slCutSuffix_ok (s p:List UInt8) (hs:s.length≤4611686018427387904) (hp:p.length≤4611686018427387904):PF Tryz.prog 113 [sV s,sV p] [] (fun r h=>r=(.tup [sV (trimL s p),bV (sufL s p)])∧h=[]):=by
 refine PF_go1 (N:=18) (rs:=[.tmp 4,.tmp 5]) Tryz.func113 (by kernel_rfl) rfl rfl rfl (by kernel_rfl)
  (.r 2 [] <| .r 2 [] <| .c (hasSuffix_c s p) [] <| .r 1 [] <| .br (.r 3 [] <| .nil) (.r 9 [] <| .nil))
  (True∧True∧(hasSuffix_c s p).sm∧(True)∧((s.length≤4611686018427387904)∧(p.length≤4611686018427387904))∧True∧Br (!(sufL s p)) (True∧True∧Q (.tup [sV s,bV false]) (.tup [sV (trimL s p),bV (sufL s p)])∧(True)) ((I64 ((s.length:Int) - (p.length:Int))∧Sx (0:Int) ((s.length:Int) - (p.length:Int)) s∧True)∧True∧Q (.tup [sV ((s.take (Int.toNat ((s.length:Int) - (p.length:Int)))).drop ((0:Int).toNat)),bV true]) (.tup [sV (trimL s p),bV (sufL s p)])∧(True)))
  (by kernel_rfl) ?_
 refine ⟨trivial,trivial,rfl,trivial,⟨by first | assumption | omega | (simp; omega),by first | assumption | omega | (simp; omega)⟩,trivial,?_⟩
 refine ⟨fun hb1=>?_,fun hb1=>?_⟩
 · try simp only [nb] at hb1
   refine ⟨trivial,?_⟩
   refine ⟨trivial,?_,trivial⟩
   unfold Q
   have hb1:sufL s p=false:=by simpa using hb1
   rw [show trimL s p=s from if_neg (by rw [hb1]; decide),hb1]
 · try simp only [nb] at hb1
   refine ⟨⟨by omega,by have:=suf_le (s:=s) (p:=p) (by simpa using hb1); omega,trivial⟩,?_⟩
   refine ⟨trivial,?_,trivial⟩
   unfold Q
   have hb1:sufL s p=true:=by simpa using hb1
   have:=suf_le hb1
   rw [show trimL s p=s.take (s.length - p.length) from if_pos hb1,hb1]
   simp
def slCutSuffix_c (s:List UInt8) (p:List UInt8):Con Tryz.prog:={ f:=113,args:=[sV s,sV p],H:=[],pre:=(s.length≤4611686018427387904)∧(p.length≤4611686018427387904),res:=.tup [sV (trimL s p),bV (sufL s p)],H':=[],ok:=fun h=>slCutSuffix_ok s p h.1 h.2 }
theorem isGroupName_ok (s:List UInt8) (hs:s.length≤4611686018427387904):PF Tryz.prog 152 [sV s] [] (fun r h=>r=(bV ((s==[42])||nameL s))∧h=[]):=by
 refine PF_go1 (N:=9) (rs:=[.tmp 2]) Tryz.func152 (by kernel_rfl) rfl rfl rfl (by kernel_rfl)
  (.r 1 [] <| .r 4 [] <| .cg (isName_c s) <| .r 2 [] <| .nil)
  ((fun v1:Bool=>(True∧(Gd v1 (True∧True)∧True)∧Gd v1 ((Gd v1 (v1=true)∧True)∧((s.length≤4611686018427387904))∧(isName_c s).sm)∧(Pk (s==([42]:List UInt8)) true v1∧True)∧True∧Q (bV ((s==([42]:List UInt8))||(nameL s))) (bV ((s==[42])||nameL s))∧(True))) ((s==([42]:List UInt8))==false))
  (by kernel_rfl) ?_
 refine ⟨trivial,⟨fun hG=>⟨trivial,trivial⟩,trivial⟩,fun hG=>⟨⟨fun h=>h,trivial⟩,by (try simp only [nb] at hG); first | assumption | omega | (simp; omega),rfl⟩,⟨⟨fun _=>rfl,fun h=>by first | (rw [h]; done) | (rw [h]; rfl)⟩,trivial⟩,?_⟩
 refine ⟨trivial,?_,trivial⟩
 unfold Q
 rfl
def isGroupName_c (s:List UInt8):Con Tryz.prog:={ f:=152,args:=[sV s],H:=[],pre:=(s.length≤4611686018427387904),res:=bV ((s==[42])||nameL s),H':=[],ok:=fun h=>isGroupName_ok s h }
theorem cutSuffix_ok (s p:List UInt8) (hs:s.length≤4611686018427387904) (hp:p.length≤4611686018427387904):PF Tryz.prog 75 [sV s,sV p] [] (fun r h=>r=(.tup [sV (trimL s p),bV (sufL s p)])∧h=[]):=by
 refine PF_go1 (N:=11) (rs:=[.tmp 4,.tmp 5]) Tryz.func75 (by kernel_rfl) rfl rfl rfl (by kernel_rfl)
  (.r 2 [] <| .r 2 [] <| .c (slCutSuffix_c s p) [] <| .r 4 [] <| .nil)
  (True∧True∧(slCutSuffix_c s p).sm∧(True)∧((s.length≤4611686018427387904)∧(p.length≤4611686018427387904))∧True∧True∧Q (.tup [sV (trimL s p),bV (sufL s p)]) (.tup [sV (trimL s p),bV (sufL s p)])∧(True))
  (by kernel_rfl) ?_
 refine ⟨trivial,trivial,rfl,trivial,⟨by first | assumption | omega | (simp; omega),by first | assumption | omega | (simp; omega)⟩,trivial,?_⟩
 refine ⟨trivial,?_,trivial⟩
 unfold Q
 rfl
def cutSuffix_c (s:List UInt8) (p:List UInt8):Con Tryz.prog:={ f:=75,args:=[sV s,sV p],H:=[],pre:=(s.length≤4611686018427387904)∧(p.length≤4611686018427387904),res:=.tup [sV (trimL s p),bV (sufL s p)],H':=[],ok:=fun h=>cutSuffix_ok s p h.1 h.2 }
abbrev slCutPrefix_r (s:List UInt8) (p:List UInt8):V:=.tup [sV (if preL s p=true then s.drop p.length else s),bV (preL s p)]
theorem slCutPrefix_ok (s p:List UInt8) (hs:s.length≤4611686018427387904) (hp:p.length≤4611686018427387904):PF Tryz.prog 95 [sV s,sV p] [] (fun r h=>r=(slCutPrefix_r s p)∧h=[]):=by
 refine PF_go1 (N:=15) (rs:=[.tmp 4,.tmp 5]) Tryz.func95 (by kernel_rfl) rfl rfl rfl (by kernel_rfl)
  (.r 2 [] <| .r 2 [] <| .c (hasPrefix_c s p) [] <| .r 1 [] <| .br (.r 3 [] <| .nil) (.r 6 [] <| .nil))
  (True∧True∧(hasPrefix_c s p).sm∧(True)∧((s.length≤4611686018427387904)∧(p.length≤4611686018427387904))∧True∧Br (!(preL s p)) (True∧True∧Q (.tup [sV s,bV false]) (slCutPrefix_r s p)∧(True)) ((Sx (p.length:Int) (s.length:Int) s∧True)∧True∧Q (.tup [sV ((s.take s.length).drop p.length),bV true]) (slCutPrefix_r s p)∧(True)))
  (by kernel_rfl) ?_
 refine ⟨trivial,trivial,rfl,trivial,⟨by first | assumption | omega | (simp; omega),by first | assumption | omega | (simp; omega)⟩,trivial,?_⟩
 refine ⟨fun hb1=>?_,fun hb1=>?_⟩
 · try simp only [nb] at hb1
   refine ⟨trivial,?_⟩
   refine ⟨trivial,?_,trivial⟩
   unfold Q slCutPrefix_r
   have hb1:preL s p=false:=by simpa using hb1
   rw [if_neg (by rw [hb1]; decide),hb1]
 · try simp only [nb] at hb1
   refine ⟨⟨by have:=pre_le (s:=s) (p:=p) (by simpa using hb1); omega,trivial⟩,?_⟩
   refine ⟨trivial,?_,trivial⟩
   unfold Q slCutPrefix_r
   have hb1:preL s p=true:=by simpa using hb1
   rw [if_pos hb1,hb1]
   simp
def slCutPrefix_c (s:List UInt8) (p:List UInt8):Con Tryz.prog:={ f:=95,args:=[sV s,sV p],H:=[],pre:=(s.length≤4611686018427387904)∧(p.length≤4611686018427387904),res:=slCutPrefix_r s p,H':=[],ok:=fun h=>slCutPrefix_ok s p h.1 h.2 }
abbrev cutPrefix_r (s:List UInt8) (p:List UInt8):V:=.tup [sV (if preL s p=true then s.drop p.length else s),bV (preL s p)]
theorem cutPrefix_ok (s p:List UInt8) (hs:s.length≤4611686018427387904) (hp:p.length≤4611686018427387904):PF Tryz.prog 62 [sV s,sV p] [] (fun r h=>r=(cutPrefix_r s p)∧h=[]):=by
 refine PF_go1 (N:=11) (rs:=[.tmp 4,.tmp 5]) Tryz.func62 (by kernel_rfl) rfl rfl rfl (by kernel_rfl)
  (.r 2 [] <| .r 2 [] <| .c (slCutPrefix_c s p) [] <| .r 4 [] <| .nil)
  (True∧True∧(slCutPrefix_c s p).sm∧(True)∧((s.length≤4611686018427387904)∧(p.length≤4611686018427387904))∧True∧True∧Q (.tup [sV (if preL s p=true then s.drop p.length else s),bV (preL s p)]) (cutPrefix_r s p)∧(True))
  (by kernel_rfl) ?_
 refine ⟨trivial,trivial,rfl,trivial,⟨by first | assumption | omega | (simp; omega),by first | assumption | omega | (simp; omega)⟩,trivial,?_⟩
 refine ⟨trivial,?_,trivial⟩
 unfold Q cutPrefix_r
 rfl
def cutPrefix_c (s:List UInt8) (p:List UInt8):Con Tryz.prog:={ f:=62,args:=[sV s,sV p],H:=[],pre:=(s.length≤4611686018427387904)∧(p.length≤4611686018427387904),res:=cutPrefix_r s p,H':=[],ok:=fun h=>cutPrefix_ok s p h.1 h.2 }
theorem isPatternByte_ok (b:UInt8):PF Tryz.prog 112 [uN b.toNat] [] (fun r h=>r=(bV (patB b))∧h=[]):=by
 refine PF_go1 (N:=19) (rs:=[.tmp 2]) Tryz.func112 (by kernel_rfl) rfl rfl rfl (by kernel_rfl)
  (.r 1 [] <| .r 1 [] <| .r 2 [] <| .join (Bool) (fun c=>⟨[(0,uN b.toNat),(4,bV c)],[]⟩) (fun c=>c=decide (b.toNat=47∨b.toNat=42∨b.toNat=63∨b.toNat=37)) (.nil) (.r 2 [] <| .br (.nil) (.r 2 [] <| .br (.nil) (.r 2 [] <| .nil))) (fun c=>.br (.r 1 [] <| .nil) (.r 1 [] <| .c (stands_c b) [] <| .r 9 [] <| .nil)))
  ((fun v1:Bool=>(fun v2:Int=>(True∧True∧True∧((eqB v2 47)=true→∃ c:Bool,(c=decide (b.toNat=47∨b.toNat=42∨b.toNat=63∨b.toNat=37))∧(E (uN b.toNat)∧Q (bV (eqB v2 47)) (bV c)∧True)∧True)∧((eqB v2 47)=false→True∧Br (eqB v2 42) (∃ c:Bool,(c=decide (b.toNat=47∨b.toNat=42∨b.toNat=63∨b.toNat=37))∧(E (uN b.toNat)∧Q (bV (eqB v2 42)) (bV c)∧True)∧True) (True∧Br (eqB v2 63) (∃ c:Bool,(c=decide (b.toNat=47∨b.toNat=42∨b.toNat=63∨b.toNat=37))∧(E (uN b.toNat)∧Q (bV (eqB v2 63)) (bV c)∧True)∧True) (True∧∃ c:Bool,(c=decide (b.toNat=47∨b.toNat=42∨b.toNat=63∨b.toNat=37))∧(E (uN b.toNat)∧Q (bV (eqB v2 37)) (bV c)∧True)∧True)))∧(∀ c:Bool,(c=decide (b.toNat=47∨b.toNat=42∨b.toNat=63∨b.toNat=37))→Br c (True∧True∧Q (bV true) (bV (patB b))∧(True)) (True∧(stands_c b).sm∧(True)∧(True)∧(Gd v1 (True∧True)∧Gd v1 ((Gd v1 (v1=true)∧True)∧True)∧Gd v1 ((Gd v1 (v1=true)∧True)∧True)∧Gd (v1&&((geB v2 65)==true)) (True∧True)∧Gd (v1&&((geB v2 65)==true)) ((Gd (v1&&((geB v2 65)==true)) ((v1&&((geB v2 65)==true))=true)∧True)∧True)∧Gd v1 ((Gd v1 (v1=true)∧True)∧Pk (geB v2 65) (v1&&((geB v2 65)==true)) true)∧Pk (plainB b) true v1∧True)∧True∧Q (bV ((plainB b)||((geB v2 65)&&(leB v2 70)))) (bV (patB b))∧(True))))) (b.toNat:Int)) ((plainB b)==false))
  (by kernel_rfl) ?_
 refine ⟨trivial,trivial,trivial,?_⟩
 refine ⟨fun hb1=>?_,fun hb1=>?_,fun c hc=>?_⟩
 · try simp only [nb] at hb1
   exact ⟨eqB (b.toNat:Int) 47,by first | (rw [Bool.eq_iff_iff]; simp; omega) | (rw [Bool.eq_iff_iff]; simp),⟨rfl,rfl,trivial⟩,trivial⟩
 · try simp only [nb] at hb1
   refine ⟨trivial,?_⟩
   refine ⟨fun hb2=>?_,fun hb2=>?_⟩
   · try simp only [nb] at hb2
     exact ⟨eqB (b.toNat:Int) 42,by first | (rw [Bool.eq_iff_iff]; simp; omega) | (rw [Bool.eq_iff_iff]; simp),⟨rfl,rfl,trivial⟩,trivial⟩
   · try simp only [nb] at hb2
     refine ⟨trivial,?_⟩
     refine ⟨fun hb3=>?_,fun hb3=>?_⟩
     · try simp only [nb] at hb3
       exact ⟨eqB (b.toNat:Int) 63,by first | (rw [Bool.eq_iff_iff]; simp; omega) | (rw [Bool.eq_iff_iff]; simp),⟨rfl,rfl,trivial⟩,trivial⟩
     · try simp only [nb] at hb3
       refine ⟨trivial,?_⟩
       exact ⟨eqB (b.toNat:Int) 37,by first | (rw [Bool.eq_iff_iff]; simp; omega) | (rw [Bool.eq_iff_iff]; simp),⟨rfl,rfl,trivial⟩,trivial⟩
 refine ⟨fun hb4=>?_,fun hb4=>?_⟩
 · try simp only [nb] at hb4
   refine ⟨trivial,?_⟩
   refine ⟨trivial,?_,trivial⟩
   unfold Q
   have h:b.toNat=47∨b.toNat=42∨b.toNat=63∨b.toNat=37:=by rw [hc,decide_eq_true_eq] at hb4; exact hb4
   refine congrArg bV ?_
   unfold patB
   rw [decide_eq_true (by omega),Bool.or_true]
 · try simp only [nb] at hb4
   refine ⟨trivial,rfl,trivial,trivial,⟨fun hG=>⟨trivial,trivial⟩,fun hG=>⟨⟨fun h=>h,trivial⟩,trivial⟩,fun hG=>⟨⟨fun h=>h,trivial⟩,trivial⟩,fun hG=>⟨trivial,trivial⟩,fun hG=>⟨⟨fun h=>h,trivial⟩,trivial⟩,fun hG=>⟨⟨fun h=>h,trivial⟩,⟨fun h=>by rw [h]; exact (Bool.and_eq_true _ _).mpr ⟨hG,rfl⟩,fun _=>rfl⟩⟩,⟨fun _=>rfl,fun h=>by first | (rw [h]; done) | (rw [h]; rfl)⟩,trivial⟩,?_⟩
   refine ⟨trivial,?_,trivial⟩
   unfold Q
   have h: ¬ (b.toNat=47∨b.toNat=42∨b.toNat=63∨b.toNat=37):=by rw [hc,decide_eq_false_iff_not] at hb4; exact hb4
   refine congrArg bV ?_
   unfold patB
   congr 1
   rw [Bool.eq_iff_iff]; simp only [Bool.and_eq_true,decide_eq_true_eq]; omega
def isPatternByte_c (b:UInt8):Con Tryz.prog:={ f:=112,args:=[uN b.toNat],H:=[],pre:=True,res:=bV (patB b),H':=[],ok:=fun _=>isPatternByte_ok b }
abbrev iRuleOk_k0 (p:List UInt8) (i:Nat):Prop:=i≤(trimL p [36]).length∧∀ j,j < i→patB ((trimL p [36]).getD j 0)=true
theorem iRuleOk_ok (p:List UInt8) (hs:p.length≤4611686018427387904):PF Tryz.prog 74 [sV p] [] (fun r h=>r=(bV (iRuleOk p))∧h=[]):=by
 have htl:(trimL p [36]).length≤p.length:=by unfold trimL; split <;> simp
 refine PF_go1 (N:=31) (rs:=[.tmp 2]) Tryz.func74 (by kernel_rfl) rfl rfl rfl (by kernel_rfl)
  (.r 1 [] <| .r 13 [] <| .br (.r 1 [] <| .nil) (.r 1 [] <| .c (trimSuffix_c p ([36]:List UInt8)) [] <| .r 1 [] <| .r 1 [] <| .loop (Nat) (fun (i:Nat)=>⟨[(3,sV (trimL p [36])),(4,iN i)],[]⟩) (fun (i:Nat)=>iRuleOk_k0 p i) (fun (i:Nat)=>(trimL p [36]).length - i) (fun (i:Nat)=>.r 4 [] <| .br (.r 3 [] <| .c (isPatternByte_c ((trimL p [36]).getD i 0)) [] <| .r 1 [] <| .br (.r 1 [] <| .nil) (.r 3 [] <| .nil)) (.r 1 [] <| .nil))))
  ((fun v3:Int=>(fun v1:Bool=>(fun v2:Bool=>(True∧(Gd v2 (True∧True)∧Gd v2 ((Gd v2 (v2=true)∧True)∧True)∧Gd v2 ((Gd v2 (v2=true)∧True)∧True)∧Pk (ltB v3 1) true v2∧Gd v1 (True∧True)∧Gd v1 ((Gd v1 (v1=true)∧True)∧Ix 0 p)∧Gd v1 ((Gd v1 (v1=true)∧True)∧True)∧Pk ((ltB v3 1)||(gtB v3 16)) true v1∧True)∧Br (((ltB v3 1)||(gtB v3 16))||(neB (((p.getD 0 0).toNat:Nat):Int) 47)) (True∧True∧Q (bV false) (bV (iRuleOk p))∧(True)) (True∧(trimSuffix_c p ([36]:List UInt8)).sm∧(True)∧((p.length≤4611686018427387904)∧(([36]:List UInt8).length≤4611686018427387904))∧True∧True∧(∃ i₀:Nat,(iRuleOk_k0 p i₀)∧(Q (sV (trimL p ([36]:List UInt8))) (sV (trimL p [36]))∧Q (iN 0) (iN i₀)∧True)∧True)∧∀ i:Nat,(iRuleOk_k0 p i)→True∧Br (ltB (i:Int) (((trimL p [36]).length:Nat):Int)) ((Ix (i:Int) (trimL p [36])∧True)∧(isPatternByte_c ((trimL p [36]).getD i 0)).sm∧(True)∧(True)∧True∧Br (!(patB ((trimL p [36]).getD i 0))) (True∧True∧Q (bV false) (bV (iRuleOk p))∧(True)) ((I64 ((i:Int)+1)∧True)∧∃ i₂:Nat,(iRuleOk_k0 p i₂)∧((trimL p [36]).length - i₂ < (trimL p [36]).length - i)∧(E (sV (trimL p [36]))∧Q (iN (i+1)) (iN i₂)∧True)∧True)) (True∧True∧Q (bV true) (bV (iRuleOk p))∧(True))))) ((ltB v3 1)==false)) (((ltB v3 1)||(gtB v3 16))==false)) (p.length:Int))
  (by kernel_rfl) ?_
 refine ⟨trivial,⟨fun hG=>⟨trivial,trivial⟩,fun hG=>⟨⟨fun h=>h,trivial⟩,trivial⟩,fun hG=>⟨⟨fun h=>h,trivial⟩,trivial⟩,⟨fun _=>rfl,fun h=>by first | (rw [h]; done) | (rw [h]; rfl)⟩,fun hG=>⟨trivial,trivial⟩,fun hG=>⟨⟨fun h=>h,trivial⟩,by (try simp only [nb] at hG); omega⟩,fun hG=>⟨⟨fun h=>h,trivial⟩,trivial⟩,⟨fun _=>rfl,fun h=>by first | (rw [h]; done) | (rw [h]; rfl)⟩,trivial⟩,?_⟩
 refine ⟨fun hb1=>?_,fun hb1=>?_⟩
 · try simp only [nb] at hb1
   refine ⟨trivial,?_⟩
   refine ⟨trivial,?_,trivial⟩
   unfold Q
   refine congrArg bV ?_
   unfold iRuleOk
   rw [decide_eq_false (by omega)]; rfl
 · try simp only [nb] at hb1
   refine ⟨trivial,rfl,trivial,⟨by omega,by simp⟩,trivial,trivial,?_⟩
   refine ⟨⟨0,?_,⟨by first | rfl | simp | (simp; omega),rfl,trivial⟩,trivial⟩,?_⟩
   · unfold iRuleOk_k0
     simp
   rintro i ⟨h1,h2⟩
   refine ⟨trivial,?_⟩
   refine ⟨fun hb2=>?_,fun hb2=>?_⟩
   · try simp only [nb] at hb2
     refine ⟨⟨by omega,trivial⟩,rfl,trivial,trivial,trivial,?_⟩
     refine ⟨fun hb3=>?_,fun hb3=>?_⟩
     · try simp only [nb] at hb3
       refine ⟨trivial,?_⟩
       refine ⟨trivial,?_,trivial⟩
       unfold Q
       refine congrArg bV ?_
       unfold iRuleOk
       rw [all_false (i:=i) (d:=0) (by omega) (by simpa using hb3),Bool.and_false]
     · try simp only [nb] at hb3
       refine ⟨⟨by omega,trivial⟩,?_⟩
       refine ⟨i+1,?_,?_,⟨rfl,rfl,trivial⟩,trivial⟩
       · unfold iRuleOk_k0
         exact ⟨by omega,lt_succ_of h2 (by simpa using hb3)⟩
       · first | (simp; done) | omega | (simp; omega)
   · try simp only [nb] at hb2
     refine ⟨trivial,?_⟩
     refine ⟨trivial,?_,trivial⟩
     unfold Q
     refine congrArg bV ?_
     unfold iRuleOk
     rw [all_true (d:=0) (fun j hj=>h2 j (by omega)),decide_eq_true (by omega)]; rfl
def iRuleOk_c (p:List UInt8):Con Tryz.prog:={ f:=74,args:=[sV p],H:=[],pre:=(p.length≤4611686018427387904),res:=bV (iRuleOk p),H':=[],ok:=fun h=>iRuleOk_ok p h }
end Go.Proofs.YthliifpcaahnnaaGreatDoor
namespace Go.Pd
def AdrS (a:Adr):Prop:=a.house.length≤1000∧a.ask.length≤1000∧a.parts.length≤500∧∀ i,(a.parts.getD i []).length≤1000
theorem joinS_len {ps:List (List UInt8)} (h:∀ i,(ps.getD i []).length≤1000):∀ i,i≤ps.length→(joinL (ps.take i)).length≤i * 1001
  | 0,_=>by simp [joinL]
  | i+1,hi=>by
    have:=joinS_len h i (by omega)
    have h2:=h i
    rw [take_succ_getD (by omega:i < ps.length) [],joinL_snoc]
    split
    · omega
    · simp only [List.length_append,List.length_cons,List.length_nil]; omega
theorem AdrS.join {a:Adr} (h:AdrS a):(joinL a.parts).length≤500500:=by
  obtain ⟨h1,h2,h3,h4⟩:=h
  have:=joinS_len h4 a.parts.length (Nat.le_refl _)
  rw [List.take_length] at this; omega
theorem AdrS.path {a:Adr} (h:AdrS a):(pathL a).length≤502000:=by
  have:=h.join
  obtain ⟨h1,h2,h3,h4⟩:=h
  unfold pathL
  split <;> simp <;> omega
theorem AdrS.text {a:Adr} (h:AdrS a):(textL a).length≤504000:=by
  have:=h.path
  have:=h.1
  unfold textL
  simp; omega
theorem wayS {h q:List UInt8} {fr ls:List (List UInt8)} {k:Bool} (hh:h.length≤1000) (hf:∀ i,(fr.getD i []).length≤1000) (hl:fr.length+ls.length≤500):AdrS ⟨h,cleanL (fr++ls.map escF),k,escF q⟩:=by
  refine ⟨hh,?_,?_,fun i=>?_⟩
  · have:=escN_len q; simp only [escF]; omega
  · have:=clean_len (fr++ls.map escF); simp only [List.length_append,List.length_map] at this ⊢; omega
  · refine getD_len (n:=1000) (fun p hp'=>?_) i
    rcases List.mem_append.1 (clean_mem hp') with h | h
    · obtain ⟨j,hj,rfl⟩:=List.getElem_of_mem h
      have:=hf j
      rwa [List.getD_eq_getElem?_getD,List.getElem?_eq_getElem hj] at this
    · obtain ⟨y,_,rfl⟩:=List.mem_map.1 h
      have:=escN_len y; simp only [escF]; omega
theorem addrOk_sz {a:Adr} (h:addrOkL a=true):AdrS a:=by
  unfold addrOkL at h
  simp only [Bool.and_eq_true,decide_eq_true_eq] at h
  obtain ⟨⟨⟨⟨⟨h1,h2⟩,h3⟩,h4⟩,h5⟩,h6⟩:=h
  refine ⟨?_,?_,by omega,fun i=>getD_len (n:=1000) (fun p hp=>?_) i⟩
  · have:a.house.length≤(textL a).length:=by unfold textL; simp; omega
    omega
  · have:=normB_len h3; omega
  · have h5:=List.all_eq_true.1 h5 p hp
    unfold partOk at h5
    simp only [Bool.and_eq_true] at h5
    have:=normB_len h5.1.1.1; omega
theorem zadr_S:AdrS (oA none):=⟨by simp [oA],by simp [oA],by simp [oA],by simp [oA]⟩
theorem way_S (h:List UInt8) (fr:List (List UInt8)) (way:List UInt8):AdrS (oA (wayL h fr way)):=by
  unfold wayL
  split
  · split
    · rename_i h2; exact addrOk_sz h2
    · exact zadr_S
  · exact zadr_S
theorem read_S (s:List UInt8):AdrS (oA (readL s)):=by
  unfold readL
  split
  · exact way_S _ _ _
  · exact zadr_S
theorem way_ok2 {h:List UInt8} {fr:List (List UInt8)} {way:List UInt8} (hs:(wayL h fr way).isSome=true):addrOkL (oA (wayL h fr way))=true:=by
  unfold wayL at hs ⊢
  split
  · split
    · rename_i h2; exact h2
    · rename_i h1 h2; rw [if_pos h1,if_neg h2] at hs; simp at hs
  · rename_i h1; rw [if_neg h1] at hs; simp at hs
theorem read_ok2 {s:List UInt8} (hs:(readL s).isSome=true):addrOkL (oA (readL s))=true:=by
  unfold readL at hs ⊢
  split
  · rename_i h; rw [if_pos h] at hs; exact way_ok2 hs
  · rename_i h; rw [if_neg h] at hs; simp at hs
def readWholeL (s:List UInt8):Option Adr:=if preL s [47,47]=true then wholeL (s.drop 2) else none
theorem pre_iff {s p:List UInt8}:preL s p=true↔p.length≤s.length∧s.take p.length=p:=by unfold preL; simp
theorem readL_whole {raw:List UInt8} (h:raw.length≤60):readL raw=readWholeL (cutL 35 raw).1:=by
  unfold readL readWholeL
  by_cases hp:preL (cutL 35 raw).1 [47,47]=true
  · have:=pre_iff.1 hp
    rw [if_pos hp,if_pos ⟨h,this.1,this.2⟩]
  · rw [if_neg hp,if_neg]
    rintro ⟨_,h1,h2⟩
    exact hp (pre_iff.2 ⟨h1,h2⟩)
theorem readL_long {raw:List UInt8} (h: ¬ raw.length≤60):readL raw=none:=if_neg fun c=>h c.1
theorem Asc.take {s:List UInt8} (h:Asc s) (n:Nat):Asc (s.take n):=fun c hc=>h c (List.mem_of_mem_take hc)
theorem Asc.drop {s:List UInt8} (h:Asc s) (n:Nat):Asc (s.drop n):=fun c hc=>h c (List.mem_of_mem_drop hc)
theorem cut_mem (c:UInt8):∀ (s:List UInt8) x,x∈(cutL c s).1→x∈s
  | [],x,h=>by simp [cutL] at h
  | b :: l,x,h=>by
    simp only [cutL] at h
    split at h
    · simp at h
    · simp only [List.mem_cons] at h ⊢
      exact h.imp id (cut_mem c l x)
theorem Asc.cut {s:List UInt8} (h:Asc s) (c:UInt8):Asc (cutL c s).1:=fun x hx=>h x (cut_mem c s x hx)
theorem isAdr_t {s:List UInt8} (h1:(readL s).isSome=true) (h2:textL (oA (readL s))=s):isAdrL s=true:=by
  unfold isAdrL adrTextL
  rw [h1,if_pos (read_ok2 h1),h2]; simp
theorem isAdr_f {s:List UInt8} (h:(readL s).isSome=false∨¬ textL (oA (readL s))=s):isAdrL s=false:=by
  unfold isAdrL adrTextL
  rcases Bool.eq_false_or_eq_true (readL s).isSome with h1 | h1
  · rw [if_pos (read_ok2 h1),h1]
    rcases h with h | h
    · rw [h1] at h; cases h
    · simpa using h
  · rw [h1]; rfl
def isAd (s:List UInt8):Option Adr:=if isAdrL s=true then readL s else none
theorem isAd_some {s:List UInt8}:(isAd s).isSome=isAdrL s:=by
  unfold isAd
  split
  · rename_i h
    rw [h]
    unfold isAdrL at h
    simp only [Bool.and_eq_true] at h; exact h.1
  · rename_i h; simp at h; rw [h]; rfl
end Go.Pd
namespace Go.Pd
open Go.Abs
def pgVal (p:Pg):Value:=.agg #[.string (Str p.addr),.string (Str p.text),.string (Str p.lead),.int .i64 p.fails]
def pgE (p:Pg):List UInt8×Value:=(p.addr,pgVal p)
def wE (w:List Pg):List (List UInt8×Value):=w.foldl (fun es p=>updL es p.addr (pgVal p)) []
theorem wE_succ {w:List Pg} {i:Nat} (h:i < w.length):wE (w.take (i+1))=updL (wE (w.take i)) (w.getD i pg0).addr (pgVal (w.getD i pg0)):=by
  unfold wE; rw [take_succ_getD h pg0,List.foldl_append]; rfl
theorem look_none {k:List UInt8}:∀ {es:List (List UInt8×Value)},lookL es k=none↔∀ p,p∈es→p.1≠k
  | []=>by simp [lookL]
  | q :: r=>by
    unfold lookL
    split
    · rename_i h; simp [h]
    · rename_i h
      rw [look_none (es:=r)]
      simp [h]
theorem upd_len (k:List UInt8) (y:Value):∀ (es:List (List UInt8×Value)),(updL es k y).length=if lookL es k=none then es.length+1 else es.length
  | []=>rfl
  | p :: r=>by
    unfold updL lookL
    split
    · simp
    · have:=upd_len k y r
      rw [List.length_cons,this]
      split <;> simp
theorem upd_keys (k:List UInt8) (y:Value):∀ (es:List (List UInt8×Value)) (a:List UInt8),(∃ p,p∈updL es k y∧p.1=a)↔(a=k∨∃ p,p∈es∧p.1=a)
  | [],a=>by simp [updL]; exact eq_comm
  | p :: r,a=>by
    unfold updL
    split
    · rename_i h
      simp only [List.mem_cons,exists_eq_or_imp]
      constructor
      · rintro (h1 | h1)
        · exact .inl h1.symm
        · exact .inr (.inr h1)
      · rintro (h1 | h1 | h1)
        · exact .inl h1.symm
        · exact .inl (by rw [← h]; exact h1)
        · exact .inr h1
    · have:=upd_keys k y r a
      simp only [List.mem_cons,exists_eq_or_imp,this]
      constructor
      · rintro (h1 | h1 | h1)
        · exact .inr (.inl h1)
        · exact .inl h1
        · exact .inr (.inr h1)
      · rintro (h1 | h1 | h1)
        · exact .inr (.inl h1)
        · exact .inl h1
        · exact .inr (.inr h1)
def DisL (w:List Pg) (n:Nat):Prop:= ∀ i,i < n→∀ k,k < i→(w.getD k pg0).addr≠(w.getD i pg0).addr
theorem wE_keys (w:List Pg):∀ i,i≤w.length→∀ a,(∃ p,p∈wE (w.take i)∧p.1=a)↔∃ k,k < i∧(w.getD k pg0).addr=a
  | 0,_,a=>by simp [wE]
  | i +1,h,a=>by
    rw [wE_succ (by omega),upd_keys,wE_keys w i (by omega)]
    constructor
    · rintro (h1 | ⟨k,h1,h2⟩)
      · exact ⟨i,by omega,h1.symm⟩
      · exact ⟨k,by omega,h2⟩
    · rintro ⟨k,h1,h2⟩
      by_cases e:k=i
      · subst e; exact .inl h2.symm
      · exact .inr ⟨k,by omega,h2⟩
theorem wE_look {w:List Pg} {i:Nat} (h:i≤w.length) {a:List UInt8}:lookL (wE (w.take i)) a=none↔∀ k,k < i→(w.getD k pg0).addr≠a:=by
  rw [look_none]
  have:=wE_keys w i h a
  constructor
  · intro h1 k hk c
    obtain ⟨p,hp,he⟩:=this.2 ⟨k,hk,c⟩
    exact h1 p hp he
  · intro h1 p hp c
    obtain ⟨k,hk,he⟩:=this.1 ⟨p,hp,c⟩
    exact h1 k hk he
theorem wE_len (w:List Pg):∀ i,i≤w.length→(wE (w.take i)).length≤i∧((wE (w.take i)).length=i↔DisL w i)
  | 0,_=>by simp [wE,DisL]
  | i + 1,h=>by
    obtain ⟨h1,h2⟩:=wE_len w i (by omega)
    rw [wE_succ (by omega),upd_len]
    split
    · rename_i hl
      rw [wE_look (by omega)] at hl
      refine ⟨by omega,?_⟩
      constructor
      · intro hq j hj k hk
        by_cases e:j=i
        · subst e; exact hl k hk
        · exact (h2.1 (by omega)) j (by omega) k hk
      · intro hd
        have:=h2.2 fun j hj k hk=>hd j (by omega) k hk
        omega
    · rename_i hl
      refine ⟨by omega,?_⟩
      constructor
      · intro hq; omega
      · intro hd; exact absurd ((wE_look (by omega)).2 fun k hk=>hd i (by omega) k hk) hl
theorem wE_map {w:List Pg}:∀ i,i≤w.length→DisL w i→wE (w.take i)=(w.take i).map pgE
  | 0,_,_=>by simp [wE]
  | i+1,h,hd=>by
    have ih:=wE_map i (by omega) fun j hj k hk=>hd j (by omega) k hk
    rw [wE_succ (by omega),upd_none _ _ _ ((wE_look (by omega)).2 fun k hk=>hd i (by omega) k hk),ih,take_succ_getD (by omega:i < w.length) pg0,List.map_append]
    rfl
theorem world_pg {w:List Pg} (h:worldOkL w=true):w.length≤12∧(∀ i,i < w.length→pgOkL (w.getD i pg0)=true)∧DisL w w.length:=by
  unfold worldOkL at h
  simp only [Bool.and_eq_true,decide_eq_true_eq] at h
  exact ⟨h.2,fun i hi=>(h.1 i hi).1,fun i hi=>(h.1 i hi).2⟩
theorem world_no {w:List Pg} (h:worldOkL w=false) (h1:w.length≤12) (h2:∀ i,i < w.length→pgOkL (w.getD i pg0)=true): ¬ DisL w w.length:=fun c=>by
  have:worldOkL w=true:=by
    unfold worldOkL
    simp only [Bool.and_eq_true,decide_eq_true_eq]
    exact ⟨fun i hi=>⟨h2 i hi,c i hi⟩,h1⟩
  rw [h] at this; cases this
theorem look_at (a:List UInt8):∀ (w:List Pg),(lookL (w.map pgE) a=none∧(atL w a).2=false∧(atL w a).1=pg0)∨(lookL (w.map pgE) a=some (pgVal (atL w a).1)∧(atL w a).2=true)
  | []=>.inl ⟨rfl,rfl,rfl⟩
  | p :: r=>by
    simp only [List.map_cons,lookL,atL,pgE]
    by_cases h:p.addr=a
    · simp [h]
    · simp only [h,if_false]
      exact look_at a r
end Go.Pd
