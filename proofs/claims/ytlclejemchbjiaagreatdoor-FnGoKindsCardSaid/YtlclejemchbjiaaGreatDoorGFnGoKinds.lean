/-
  laws.FnGoKinds returns true for every input and leaves it as it was; conditions: the listed tables lie as the program's text lays them.
-/
import Derived.Test.YtlclejemchbjiaaGreatDoorGE
import Derived.Test.YtlclejemchbjiaaGreatDoorTie
import Derived.Test.YtlclejemchbjiaaGreatDoorCards
set_option linter.unusedVariables false
set_option linter.unusedSimpArgs false
namespace Go.Pd
open Go.Abs Go.Proofs.YtlclejemchbjiaaGreatDoor
def af(w:List Pg)(n:BL)(p:List BL):m5:=oT (aB w (oT (ao n p)) 400)
theorem fF{w:List Pg}{n:BL}{p:List BL}:oT (aB w (oT (ao n p)) 400)=af w n p:=rfl
theorem cJ{w:List Pg}{n:BL}{p:List BL}:((ao n p).isSome&&(aB w (oT (ao n p)) 400).isSome)=((ao n p).isSome&&aq w):=by
 cases h:ao n p with
 | none=>rfl
 | some t=>
   have:=fk h
   simp only[oT,Option.getD_some,Option.isSome_some,Bool.true_and]
   unfold aB
   rw[this,Bool.and_true]
   cases aq w
   rfl
   rfl
theorem ff{w:List Pg}{n:BL}{p:List BL}(h:(ao n p).isSome=true/\(aB w (oT (ao n p)) 400).isSome=true):GI w n (af w n p)/\aq w=true:=by
 have h2:=cJ.symm.trans (show ((ao n p).isSome&&(aB w (oT (ao n p)) 400).isSome)=true by rw[h.1,h.2];rfl)
 cases hn:ao n p with
 | none=>rw[hn]at h;cases h.1
 | some t=>
   have h3:aq w=true:=by
    rw[hn]at h2;exact h2
   refine⟨?_,h3⟩
   unfold af
   rw[hn]
   show GI w n (oT (aB w t 400))
   rw[kM rfl h3 (fk hn)]
   exact lM _ (lN hn)
theorem eU{w:List Pg}{n:BL}{t:m5}(h:GI w n t):(t.lk.length:Int)<=3*((t.se.length:Int)+t.hs.length):=by
 have:=h.po
 have:=lI (f:=hp) (l:=t.hs) fun y hy=>by
  have hI:=h.hi y hy
  have h1:=nq fun x hx=>(hI.it x hx).2.2.2.2.1
  unfold hp
  split
  omega
  rename_i c
  have:=hI.un (by simpa using c)
  omega
 omega
theorem eX{w:List Pg}{n:BL}{t:m5}(h:GI w n t):t.lk.length<=360:=by
 have:=eU h
 have:=h.hl
 have:=h.sn.2
 omega
theorem jj{s:BL}(h:aI s=true):s.length<=60/\m6 s:=by
 constructor
 have:=fA h
 unfold ai at this
 split at this
 rename_i c;exact c.1
 cases this
 have:=h
 unfold aI at this
 rw[Bool.and_eq_true,beq_iff_eq]at this
 rw[<- this.2];exact jK _
theorem HT{w:List Pg}(h:aq w=true)(d:BL)(n:Int):mn w d n=ab w d n:=if_pos h
theorem IZ{w:List Pg}{a:BL}{m:Int}(hw:aq w=true)(h: ¬ (ab w a m).1=3):(ab w a m).1=(ab w a 9).1:=by
 unfold ab at h ⊢
 by_cases hf:(z8 w a).2=false
 rw[if_pos hf,if_pos hf]
 rw[if_neg hf]at h ⊢
 rw[if_neg hf]
 have h9: ¬ 9<(z8 w a).1.m4:=by
  obtain⟨i,e⟩:=nA w a (by simpa using hf)
  rw[e]
  rcases Nat.lt_or_ge i w.length with hi | hi
  have NN:=hw
  unfold aq at NN
  rw[Bool.and_eq_true]at NN
  have:=(of_decide_eq_true NN.1 i hi).1
  unfold di at this
  simp only[Bool.and_eq_true]at this
  have:=of_decide_eq_true this.1.2
  omega
  rw[List.getD_eq_getElem?_getD,List.getElem?_eq_none hi];decide
 rw[if_neg h9]
 split at h
 exact absurd rfl h
 rename_i c;rw[if_neg c]
end Go.Pd
namespace Go.Proofs.YtlclejemchbjiaaGreatDoor
open Go Go.Abs Go.RowKit Go.Pd
set_option maxRecDepth 20000
theorem xA(b:BL)(ea:Addr)(hb:b.length<=9223372036854775807):PF Tryz.prog 6 [eK b] [(9000,(0,.lit (.iface 234 (.pointer (some ea)))))] (fun r h=>r=(bV true)/\h=[(9000,(0,.lit (.iface 234 (.pointer (some ea)))))]):=by
 refine aw (N:=78) (rs:=[.tmp 2]) Tryz.func6
  (.q 1<|.q 3<|.br (.q 1<|.nil) (.q 1<|.cx (bW b) [] (fun (a7:List Pg×BL×List BL)=>.q 7<|.q 3<|.c (eH a7.1 a7.2.1 a7.2.2 (400:Int) ea) [(9000,9000)]<|.mv<|.mv<|.q 1<|.al eN (fun g6=>.h (.fz 25)<|.h (.o9 25 (cf ((af a7.1 a7.2.1 a7.2.2).na) ((af a7.1 a7.2.1 a7.2.2).a8) ((af a7.1 a7.2.1 a7.2.2).hs) ((af a7.1 a7.2.1 a7.2.2).se) ((af a7.1 a7.2.1 a7.2.2).lk)))<|.st none<|.q 1<|.q 4<|.c (bZ a7.1 a7.2.1 a7.2.2) []<|.q 5<|.br (.q 4<|.c (bZ a7.1 a7.2.1 a7.2.2) []<|.q 2<|.nil) (.q 1<|.loop (Nat) (fun (i:Nat)=>⟨[(3,bN a7.1),(6,.ptr (.key 6) [] g6 0),(8,iN i)],[(6,(g6,cf ((af a7.1 a7.2.1 a7.2.2).na) ((af a7.1 a7.2.1 a7.2.2).a8) ((af a7.1 a7.2.1 a7.2.2).hs) ((af a7.1 a7.2.1 a7.2.2).se) ((af a7.1 a7.2.1 a7.2.2).lk))),(9000,(0,.lit (.iface 234 (.pointer (some ea)))))]⟩) (fun (i:Nat)=>i<=(af a7.1 a7.2.1 a7.2.2).lk.length) (fun (i:Nat)=>(af a7.1 a7.2.1 a7.2.2).lk.length-i) (fun (i:Nat)=>.r 5 [.b9]<|.br (.r 7 [.b9,.agg [iV ((((af a7.1 a7.2.1 a7.2.2).lk).getD i l7).ti),sV ((((af a7.1 a7.2.1 a7.2.2).lk).getD i l7).ad),iV ((((af a7.1 a7.2.1 a7.2.2).lk).getD i l7).ki)]]<|.c (sM a7.1 ((((af a7.1 a7.2.1 a7.2.2).lk).getD i l7).ad) (9:Int)) []<|.q 5<|.r 17 [.b9,.agg [iV ((((af a7.1 a7.2.1 a7.2.2).lk).getD i l7).ti),sV ((((af a7.1 a7.2.1 a7.2.2).lk).getD i l7).ad),iV ((((af a7.1 a7.2.1 a7.2.2).lk).getD i l7).ki)],.b9,.agg [iV ((((af a7.1 a7.2.1 a7.2.2).lk).getD i l7).ti),sV ((((af a7.1 a7.2.1 a7.2.2).lk).getD i l7).ad),iV ((((af a7.1 a7.2.1 a7.2.2).lk).getD i l7).ki)]]<|.br (.q 1<|.nil) (.q 3<|.nil)) (.q 1<|.nil)))))))
  ((fun v1:V=>(Br (s9 (((b.map n7).length:Nat):Int) 1048576) (Q (bV true) (bV true)/\Er 0 v1) ((bW b).sm/\((b.length<=9223372036854775807))/\∀ a7:List Pg×BL×List BL,(1<=a7.1.length/\a7.1.length<=30/\(∀ y,y∈a7.1->n0 y)/\a7.2.1.length<=5/\bq a7.2.1=true/\a7.2.2.length<=4/\(∀ y,y∈a7.2.2->y.length<=30/\m6 y))->(fun v2:Bool=>(fun v3:V=>(eH a7.1 a7.2.1 a7.2.2 (400:Int) ea).sm/\Er 0 v1/\((a7.1.length<=30)/\(∀ i,n0 (a7.1.getD i l4))/\(a7.2.1.length<=1000)/\(a7.2.2.length<=400)/\(∀ x,x∈a7.2.2->x.length<=1000/\m6 x))/\∀ g6:Nat,((.agg [sV ((oT (aB a7.1 (oT (ao a7.2.1 a7.2.2)) (400:Int))).na),iV ((oT (aB a7.1 (oT (ao a7.2.1 a7.2.2)) (400:Int))).a8),.sl false (V.A8 (((oT (aB a7.1 (oT (ao a7.2.1 a7.2.2)) (400:Int))).hs).map aA)),.sl false (V.A8 (((oT (aB a7.1 (oT (ao a7.2.1 a7.2.2)) (400:Int))).se).map sV)),.sl false (V.A8 (((oT (aB a7.1 (oT (ao a7.2.1 a7.2.2)) (400:Int))).lk).map aN))]:V)=cf ((af a7.1 a7.2.1 a7.2.2).na) ((af a7.1 a7.2.1 a7.2.2).a8) ((af a7.1 a7.2.1 a7.2.2).hs) ((af a7.1 a7.2.1 a7.2.2).se) ((af a7.1 a7.2.1 a7.2.2).lk))/\Z g6 0/\(bZ a7.1 a7.2.1 a7.2.2).sm/\((a7.1.length<=30)/\(∀ i,n0 (a7.1.getD i l4))/\(a7.2.1.length<=1000)/\(a7.2.2.length<=400)/\(∀ x,x∈a7.2.2->x.length<=1000/\m6 x))/\Pk v2 true (v2==false)/\Br (v2||(!((ao a7.2.1 a7.2.2).isSome&&(aB a7.1 (oT (ao a7.2.1 a7.2.2)) (400:Int)).isSome))) ((bZ a7.1 a7.2.1 a7.2.2).sm/\((a7.1.length<=30)/\(∀ i,n0 (a7.1.getD i l4))/\(a7.2.1.length<=1000)/\(a7.2.2.length<=400)/\(∀ x,x∈a7.2.2->x.length<=1000/\m6 x))/\Q (bV (((ao a7.2.1 a7.2.2).isSome&&(aB a7.1 (oT (ao a7.2.1 a7.2.2)) (400:Int)).isSome)==((ao a7.2.1 a7.2.2).isSome&&aq a7.1))) (bV true)/\Er 0 v1) ((∃ j8:Nat,(j8<=(af a7.1 a7.2.1 a7.2.2).lk.length)/\E (bN a7.1)/\E (.ptr (.key 6) [] g6 0)/\Q (iN 0) (iN j8)/\Er g6 v3/\Er 0 v1/\True)/\∀ i:Nat,(i<=(af a7.1 a7.2.1 a7.2.2).lk.length)->Z g6 4/\Br (s7 (i:Int) (((((af a7.1 a7.2.1 a7.2.2).lk).map aN).length:Nat):Int)) (Z g6 4/\Ex (i:Int) (((af a7.1 a7.2.1 a7.2.2).lk).map aN) (.agg [iV ((((af a7.1 a7.2.1 a7.2.2).lk).getD i l7).ti),sV ((((af a7.1 a7.2.1 a7.2.2).lk).getD i l7).ad),iV ((((af a7.1 a7.2.1 a7.2.2).lk).getD i l7).ki)])/\True/\(sM a7.1 ((((af a7.1 a7.2.1 a7.2.2).lk).getD i l7).ad) (9:Int)).sm/\((a7.1.length<=30)/\(∀ i,n0 (a7.1.getD i l4))/\(0<=(9:Int))/\((9:Int)<=1000))/\Z g6 4/\Ex (i:Int) (((af a7.1 a7.2.1 a7.2.2).lk).map aN) (.agg [iV ((((af a7.1 a7.2.1 a7.2.2).lk).getD i l7).ti),sV ((((af a7.1 a7.2.1 a7.2.2).lk).getD i l7).ad),iV ((((af a7.1 a7.2.1 a7.2.2).lk).getD i l7).ki)])/\True/\Gd ((B9 ((((af a7.1 a7.2.1 a7.2.2).lk).getD i l7).ki) 3)==true) (Z g6 4)/\Gd ((B9 ((((af a7.1 a7.2.1 a7.2.2).lk).getD i l7).ki) 3)==true) (Ex (i:Int) (((af a7.1 a7.2.1 a7.2.2).lk).map aN) (.agg [iV ((((af a7.1 a7.2.1 a7.2.2).lk).getD i l7).ti),sV ((((af a7.1 a7.2.1 a7.2.2).lk).getD i l7).ad),iV ((((af a7.1 a7.2.1 a7.2.2).lk).getD i l7).ki)]))/\Gd ((B9 ((((af a7.1 a7.2.1 a7.2.2).lk).getD i l7).ki) 3)==true) True/\Pk (B9 ((((af a7.1 a7.2.1 a7.2.2).lk).getD i l7).ki) 3) ((B9 ((((af a7.1 a7.2.1 a7.2.2).lk).getD i l7).ki) 3)==true) true/\Br ((B9 ((((af a7.1 a7.2.1 a7.2.2).lk).getD i l7).ki) 3)&&(B9 ((((af a7.1 a7.2.1 a7.2.2).lk).getD i l7).ki) ((mn a7.1 ((((af a7.1 a7.2.1 a7.2.2).lk).getD i l7).ad) (9:Int)).1))) (Q (bV false) (bV true)/\Er 0 v1) (m8 ((i:Int)+1)/\∃ c9:Nat,(c9<=(af a7.1 a7.2.1 a7.2.2).lk.length)/\((af a7.1 a7.2.1 a7.2.2).lk.length-c9<(af a7.1 a7.2.1 a7.2.2).lk.length-i)/\E (bN a7.1)/\E (.ptr (.key 6) [] g6 0)/\Q (iN (i+1)) (iN c9)/\Er g6 v3/\Er 0 v1/\True)) (Q (bV true) (bV true)/\Er 0 v1))) (cf ((af a7.1 a7.2.1 a7.2.2).na) ((af a7.1 a7.2.1 a7.2.2).a8) ((af a7.1 a7.2.1 a7.2.2).hs) ((af a7.1 a7.2.1 a7.2.2).se) ((af a7.1 a7.2.1 a7.2.2).lk))) (!(((ao a7.2.1 a7.2.2).isSome&&(aB a7.1 (oT (ao a7.2.1 a7.2.2)) (400:Int)).isSome)==((ao a7.2.1 a7.2.2).isSome&&aq a7.1)))))) (.lit (.iface 234 (.pointer (some ea))))) ?_
 refine⟨fun j7=>?_,fun j7=>?_⟩
 try simp only[nb]at j7
 refine⟨?_,rfl⟩
 unfold Q
 rfl
 try simp only[nb]at j7
 refine⟨rfl,by omega,?_⟩
 intro a7 n6
 refine⟨rfl,rfl,⟨by omega,fun i=>eV n6.2.2.1 i,by omega,by omega,fun x hx=>⟨by have:=(n6.2.2.2.2.2.2 x hx).1;omega,(n6.2.2.2.2.2.2 x hx).2⟩⟩,?_⟩
 intro g6
 refine⟨by rw[gY,aL (f:=sV) (fun _=>rfl),aL (f:=aN) (fun _=>rfl),fF],rfl,rfl,⟨by omega,fun i=>eV n6.2.2.1 i,by omega,by omega,fun x hx=>⟨by have:=(n6.2.2.2.2.2.2 x hx).1;omega,(n6.2.2.2.2.2.2 x hx).2⟩⟩,⟨fun _=>rfl,fun h=>by rw[h] <;> rfl⟩,?_⟩
 refine⟨fun j9=>?_,fun j9=>?_⟩
 try simp only[nb]at j9
 refine⟨rfl,⟨by omega,fun i=>eV n6.2.2.1 i,by omega,by omega,fun x hx=>⟨by have:=(n6.2.2.2.2.2.2 x hx).1;omega,(n6.2.2.2.2.2.2 x hx).2⟩⟩,?_⟩
 refine⟨?_,rfl⟩
 unfold Q
 rw[cJ];simp
 try simp only[nb]at j9
 obtain⟨hG,hW⟩:=ff j9.2
 have SN:=hG.sn.2
 have Px:=hG.hl
 have TJ:=eX hG
 refine⟨⟨0,?_,rfl,rfl,rfl,rfl,rfl,trivial⟩,?_⟩
 simp
 rintro i h1
 refine⟨rfl,?_⟩
 refine⟨fun l8=>?_,fun l8=>?_⟩
 try simp only[nb]at l8
 refine⟨rfl,⟨by omega,aj (d:=l7) (by omega)⟩,trivial,rfl,⟨by omega,fun i=>eV n6.2.2.1 i,by omega,by omega⟩,rfl,⟨by omega,aj (d:=l7) (by omega)⟩,trivial,fun hG=>rfl,fun hG=>⟨by omega,aj (d:=l7) (by omega)⟩,fun hG=>trivial,⟨fun h=>by rw[h] <;> rfl,fun _=>rfl⟩,?_⟩
 refine⟨fun o4=>?_,fun o4=>?_⟩
 try simp only[nb]at o4
 have M3:=hG.al i (by omega)
 have Qe:=jj M3.rd
 have O5:=M3.tm
 obtain⟨m,hm⟩:=M3.kind
 rw[HT hW]at o4
 rw[hm]at o4
 exact absurd (IZ hW o4.1) o4.2
 try simp only[nb]at o4
 refine⟨by omega,?_⟩
 refine⟨i+1,?_,?_,rfl,rfl,rfl,rfl,rfl,trivial⟩
 omega
 first | (solve | simp) | omega | (simp;omega)
 try simp only[nb]at l8
 refine⟨?_,rfl⟩
 unfold Q
 rfl
end Go.Proofs.YtlclejemchbjiaaGreatDoor
namespace Go.Pd
open Go.Abs Go.Proofs.YtlclejemchbjiaaGreatDoor
end Go.Pd
namespace Go.Proofs.YtlclejemchbjiaaGreatDoor
open Go Go.Abs Go.RowKit Go.Pd
set_option maxRecDepth 20000
end Go.Proofs.YtlclejemchbjiaaGreatDoor
namespace Go.Pd
open Go.Abs Go.Proofs.YtlclejemchbjiaaGreatDoor
end Go.Pd
namespace Go.Proofs.YtlclejemchbjiaaGreatDoor
open Go Go.Abs Go.RowKit Go.Pd
set_option maxRecDepth 20000
end Go.Proofs.YtlclejemchbjiaaGreatDoor
namespace Go.Pd
open Go.Abs Go.Proofs.YtlclejemchbjiaaGreatDoor
end Go.Pd
namespace Go.Proofs.YtlclejemchbjiaaGreatDoor
open Go Go.Abs Go.RowKit Go.Pd
set_option maxRecDepth 20000
end Go.Proofs.YtlclejemchbjiaaGreatDoor
namespace Go.Proofs.YtlclejemchbjiaaGreatDoor
open Go Go.ChangeShapes Go.WideShapes Go.ChangeAt Go.RowKit Go.Abs
theorem own:ownKnob Tryz.prog.godebug=none:=by kernel_rfl
theorem laidOut:laidOutB Tryz.prog=true:=by kernel_rfl
theorem dc:Tryz.prog.globalNamed "loop.example/pedlar/impl.errNoCall" =some 0:=by kernel_rfl
theorem dG:(Tryz.prog.globals[0]?).map (·.type)=some 113:=by kernel_rfl
theorem fw: "*" ++ "errors.errorString" = "*errors.errorString" :=by decide
theorem lE(u:TypeId) (h:Tryz.prog.typeName? 3 u=some "*errors.errorString"):u=234:=
 typeName_ptr_named (nm:= "errors.errorString") (by rw[fw];kernel_rfl) (by kernel_rfl) (by decide) u (by rw[fw];exact h)
theorem jz:Tryz.prog.cellsOf 257=1:=by kernel_rfl
theorem jo:Tryz.prog.cellsOf 9=1:=by kernel_rfl
set_option maxRecDepth 100000 in
theorem fnGoKinds_lifted(os:Os)(started:os.Started)(H:Type)(enc:TypeId×Value->H):
 ReturnsInHanded {} Tryz.checked os 6 .any (fun w args=>(Rows.fnGoKindsSpec.pre enc Tryz.prog Tryz.f6 [] false w args/\laidMetH Tryz.prog Rows.fnGoKindsRow.laid w)/\sizedMet enc Tryz.prog Tryz.f6 (OpenSpec.ofChange Rows.fnGoKindsSpec) false w args)
  (Rows.fnGoKindsSpec.post enc Tryz.prog Tryz.f6 false true false false):=by
 refine returnsInHanded_of_change_and (C:=Tryz.checked) (X:=fun w _=>laidMetH Tryz.prog Rows.fnGoKindsRow.laid w) (fun _ _ _ hh h=>h.of_heap hh) own started (by kernel_rfl) Tryz.func6
  (ChangeSpec.witness_shaped (enc:=enc) (C:=Tryz.checked) (os:=os) (X:=fun w _=>laidMetH Tryz.prog Rows.fnGoKindsRow.laid w) false (World.laidAll Tryz.prog os Rows.fnGoKindsRow.laid) #[.slice none 0 0] 8 (World.laidAll_os _ _ _)
   (World.shaped_of_ZipB (by kernel_rfl) (by kernel_rfl)) (by kernel_rfl) (by kernel_rfl) (by kernel_rfl)
   (by rw[MakeChecks.laidMetH_plain _ _ _ (by kernel_rfl)];exact laidMet_laidAll _ (by kernel_rfl) (by kernel_rfl))) ?_
 intro W base args ds gs before E3 hW _ _ OR _
 have hL:laidMet Tryz.prog Rows.fnGoKindsRow.laid W:=by rw[<- MakeChecks.laidMetH_plain _ _ _ (by kernel_rfl)];exact OR
 have D7:∀ (j:Nat) t v,Tryz.f6.params[j]? =some t->args[j]? =some v->Value.okWide Tryz.prog W .any base t v:=E3
 have OO:=hW
 obtain⟨p,q,MI,OP,rfl,S9,hnd⟩:=hW
 have hV:DataW.TrodVars enc Tryz.prog W (fun _=>true) ["loop.example/pedlar/impl.errNoCall"] gs q:=OP
 have hA:DataW.TrodAll enc Tryz.prog W 0 (fun _=>true) true Tryz.f6.params.toList args.toList ds p:=MI
 rw[Tryz.params6]at hA D7
 obtain⟨v0,d0,rfl,rfl,h0⟩:=trodAll_one hA
 obtain⟨ea,s0,Ls,_,_,_⟩:=laid_sentinel hL.tail dc dG (ms:=_) (tp:=234) (te:=257) (ts:=9) Tryz.underlying113 lE Tryz.underlying234 Tryz.underlying257 rfl rfl Tryz.underlying9 jz jo
 obtain⟨bt,hbk⟩:=il hL.tail dc Ls
 obtain⟨rfl,rfl⟩:=hV.unique (vars_read1 enc dc dG Tryz.underlying113 Ls trivial _)
 obtain⟨a0,Og,OW,rfl⟩:=okWide_slice Tryz.underlying22 (D7 0 22 v0 rfl rfl)
 have Of:∀ x∈p,x.block<W.heap.size:=by obtain⟨m,hm⟩:=h0;exact DataW.trod_lt m _ _ _ hm
 obtain⟨b,rfl,hb,hv⟩:=jJ Tryz.underlying22 Tryz.underlying5 (by kernel_rfl) h0
 clear MI E3
 refine(ic xA hb hv hbk).mono fun e W' ⟨he,Ly⟩=>?_
 subst he
 have Lr:W'.var? Tryz.prog "loop.example/pedlar/impl.errNoCall" =some #[.iface 234 (.pointer (some ea))]:=by
  rw[<- Ls];unfold World.var?;rw[dc,Option.bind_some,Option.bind_some,Ly.block 0 (Array.getElem?_eq_some_iff.1 hbk).1]
 exact⟨_,rfl,_,_,_,[],p,[.cell 0 0],OO,trodAll_mk1 (shut_bool Tryz.underlying4 _),trodAll_mk1 (Below.trod laidOut (by kernel_rfl) (of_decide_eq_true (by kernel_rfl)) h0 Ly Of),vars_read1 enc dc dG Tryz.underlying113 Lr trivial _,Ly.frame _,fun h=>by cases h⟩
theorem fnGoKinds_row:Rows.FnGoKindsSaid:=
 OpenClaim.holds_of_wide 6 Tryz.f6 rfl rfl rfl rfl rfl rfl rfl ⟨rfl,rfl,rfl,rfl,rfl⟩ rfl rfl rfl rfl rfl (by kernel_rfl) Tryz.func6 (by kernel_rfl)
  (of_decide_eq_true (by kernel_rfl)) (by unfold Func.isWrapper;first | (rw[if_pos (by decide +kernel)];kernel_rfl) | (rw[if_neg (by decide +kernel)];exact⟨rfl,rfl⟩))
  (fun os started H enc _=>fnGoKinds_lifted os started H enc)
theorem fnGoKinds_holds:Rows.FnGoKindsCardSaid:=
 Claim7.holds_tied_plain_at .later [] [.data,.sentinel,.pinned] true (true, "773da7cdef9f1d905ad203047b07641d812b42c072bd711d755cb144d4704509") true fnGoKinds_row (fun _ h=>by cases h) (by kernel_rfl) (fun _ h=>by cases h) fnGoKinds_row_tie rfl ⟨rfl,rfl⟩ (by kernel_rfl) rfl
  (fun f fn hf OG=>by
   obtain rfl:f=6:=Option.some.inj ((show Tryz.prog.funcNamed "loop.example/pedlar/laws.FnGoKinds" =some 6 by kernel_rfl).symm.trans hf) |>.symm
   obtain rfl:fn=Tryz.f6:=(Option.some.inj (Tryz.func6.symm.trans OG)).symm
   exact⟨by kernel_rfl,fun j t ht=>by
    rw[Tryz.params6]at ht
    have hm:t∈[22]:=by simpa using Array.mem_of_getElem? ht
    have D4:([22].all fun u=>!Tryz.prog.wantsStandIn u)=true:=by kernel_rfl
    exact(show Tryz.prog.wantsStandIn t=false by simpa using List.all_eq_true.1 D4 t hm)⟩)
  (by kernel_rfl)
end Go.Proofs.YtlclejemchbjiaaGreatDoor
