/-
  laws.FnGoFail returns true for every input and leaves it as it was; conditions: the listed tables lie as the program's text lays them.
-/
import Derived.Test.YtlclejemchbjiaaGreatDoorGE
import Derived.Test.YtlclejemchbjiaaGreatDoorTie
import Derived.Test.YtlclejemchbjiaaGreatDoorCards
set_option linter.unusedVariables false
set_option linter.unusedSimpArgs false
namespace Go.Pd
open Go.Abs Go.Proofs.YtlclejemchbjiaaGreatDoor
def af(w:List Pg)(n:BL)(p:List BL):m5:=oT (aB w (oT (ao n p)) 400)
theorem fF{w:List Pg}{n:BL}{p:List BL}:oT (aB w (oT (ao n p)) 400)=af w n p:=rfl
theorem cJ{w:List Pg}{n:BL}{p:List BL}:((ao n p).isSome&&(aB w (oT (ao n p)) 400).isSome)=((ao n p).isSome&&aq w):=by
 cases h:ao n p with
 | none=>rfl
 | some t=>
   have:=fk h
   simp only[oT,Option.getD_some,Option.isSome_some,Bool.true_and]
   unfold aB
   rw[this,Bool.and_true]
   cases aq w
   rfl
   rfl
theorem ff{w:List Pg}{n:BL}{p:List BL}(h:(ao n p).isSome=true/\(aB w (oT (ao n p)) 400).isSome=true):GI w n (af w n p)/\aq w=true:=by
 have h2:=cJ.symm.trans (show ((ao n p).isSome&&(aB w (oT (ao n p)) 400).isSome)=true by rw[h.1,h.2];rfl)
 cases hn:ao n p with
 | none=>rw[hn]at h;cases h.1
 | some t=>
   have h3:aq w=true:=by
    rw[hn]at h2;exact h2
   refine⟨?_,h3⟩
   unfold af
   rw[hn]
   show GI w n (oT (aB w t 400))
   rw[kM rfl h3 (fk hn)]
   exact lM _ (lN hn)
theorem eU{w:List Pg}{n:BL}{t:m5}(h:GI w n t):(t.lk.length:Int)<=3*((t.se.length:Int)+t.hs.length):=by
 have:=h.po
 have:=lI (f:=hp) (l:=t.hs) fun y hy=>by
  have hI:=h.hi y hy
  have h1:=nq fun x hx=>(hI.it x hx).2.2.2.2.1
  unfold hp
  split
  omega
  rename_i c
  have:=hI.un (by simpa using c)
  omega
 omega
theorem eX{w:List Pg}{n:BL}{t:m5}(h:GI w n t):t.lk.length<=360:=by
 have:=eU h
 have:=h.hl
 have:=h.sn.2
 omega
theorem jj{s:BL}(h:aI s=true):s.length<=60/\m6 s:=by
 constructor
 have:=fA h
 unfold ai at this
 split at this
 rename_i c;exact c.1
 cases this
 have:=h
 unfold aI at this
 rw[Bool.and_eq_true,beq_iff_eq]at this
 rw[<- this.2];exact jK _
theorem rL{L:List m9}{i k:Nat}(h:i<k)(hk:k<=L.length):L.getD i l7∈L.take k:=by
 have:(L.take k)[i]? =L[i]? :=List.getElem?_take_of_lt h
 rw[List.getD_eq_getElem?_getD,List.getElem?_eq_getElem (by omega)]
 exact List.mem_of_getElem? (by rw[this,List.getElem?_eq_getElem (by omega)];rfl)
theorem AP{w:List Pg}{n:BL}{t:m5}{i k:Nat}(h:GI w n t)(hi:i<k)(hk:k<t.lk.length)(e:(oA (ai (t.lk.getD i l7).ad)).c5=(oA (ai (t.lk.getD k l7).ad)).c5)(e3:(t.lk.getD i l7).ki=3): ¬ (t.lk.getD k l7).ti-(t.lk.getD i l7).ti<1+cP 1:=by
 have hbk:cP 1=2:=rfl
 have:=(h.al k hk).fail _ (rL hi (by omega)) e e3
 omega
end Go.Pd
namespace Go.Proofs.YtlclejemchbjiaaGreatDoor
open Go Go.Abs Go.RowKit Go.Pd
set_option maxRecDepth 20000
theorem yc(b:BL)(ea:Addr)(hb:b.length<=9223372036854775807):PF Tryz.prog 3 [eK b] [(9000,(0,.lit (.iface 234 (.pointer (some ea)))))] (fun r h=>r=(bV true)/\h=[(9000,(0,.lit (.iface 234 (.pointer (some ea)))))]):=by
 refine aw (N:=114) (rs:=[.tmp 2]) Tryz.func3
  (.q 1<|.q 3<|.br (.q 1<|.nil) (.q 1<|.cx (bW b) [] (fun (a7:List Pg×BL×List BL)=>.q 7<|.q 3<|.c (eH a7.1 a7.2.1 a7.2.2 (400:Int) ea) [(9000,9000)]<|.mv<|.mv<|.q 1<|.al eN (fun g6=>.h (.fz 28)<|.h (.o9 28 (cf ((af a7.1 a7.2.1 a7.2.2).na) ((af a7.1 a7.2.1 a7.2.2).a8) ((af a7.1 a7.2.1 a7.2.2).hs) ((af a7.1 a7.2.1 a7.2.2).se) ((af a7.1 a7.2.1 a7.2.2).lk)))<|.st none<|.q 1<|.q 4<|.c (bZ a7.1 a7.2.1 a7.2.2) []<|.q 5<|.br (.q 4<|.c (bZ a7.1 a7.2.1 a7.2.2) []<|.q 2<|.nil) (.q 1<|.loop (Nat) (fun (i:Nat)=>⟨[(6,.ptr (.key 6) [] g6 0),(8,iN i)],[(6,(g6,cf ((af a7.1 a7.2.1 a7.2.2).na) ((af a7.1 a7.2.1 a7.2.2).a8) ((af a7.1 a7.2.1 a7.2.2).hs) ((af a7.1 a7.2.1 a7.2.2).se) ((af a7.1 a7.2.1 a7.2.2).lk))),(9000,(0,.lit (.iface 234 (.pointer (some ea)))))]⟩) (fun (i:Nat)=>i<=(af a7.1 a7.2.1 a7.2.2).lk.length) (fun (i:Nat)=>(af a7.1 a7.2.1 a7.2.2).lk.length-i) (fun (i:Nat)=>.r 5 [.b9]<|.br (.r 6 [.b9,.agg [iV ((((af a7.1 a7.2.1 a7.2.2).lk).getD i l7).ti),sV ((((af a7.1 a7.2.1 a7.2.2).lk).getD i l7).ad),iV ((((af a7.1 a7.2.1 a7.2.2).lk).getD i l7).ki)]]<|.c (dE ((((af a7.1 a7.2.1 a7.2.2).lk).getD i l7).ad)) []<|.q 3<|.al cy (fun g9=>.st none<|.q 1<|.q 3<|.loop (Nat) (fun (k:Nat)=>⟨[(6,.ptr (.key 6) [] g6 0),(8,iN i),(9,.ptr (.key 9) [] g9 0),(11,iN k)],[(6,(g6,cf ((af a7.1 a7.2.1 a7.2.2).na) ((af a7.1 a7.2.1 a7.2.2).a8) ((af a7.1 a7.2.1 a7.2.2).hs) ((af a7.1 a7.2.1 a7.2.2).se) ((af a7.1 a7.2.1 a7.2.2).lk))),(9,(g9,bc ((oA (ai ((((af a7.1 a7.2.1 a7.2.2).lk).getD i l7).ad))).c5) ((oA (ai ((((af a7.1 a7.2.1 a7.2.2).lk).getD i l7).ad))).b7) ((oA (ai ((((af a7.1 a7.2.1 a7.2.2).lk).getD i l7).ad))).asks) ((oA (ai ((((af a7.1 a7.2.1 a7.2.2).lk).getD i l7).ad))).ask))),(9000,(0,.lit (.iface 234 (.pointer (some ea)))))]⟩) (fun (k:Nat)=>i+1<=k/\k<=(af a7.1 a7.2.1 a7.2.2).lk.length) (fun (k:Nat)=>(af a7.1 a7.2.1 a7.2.2).lk.length-k) (fun (k:Nat)=>.r 14 [.b9,.b9,.agg [iV ((((af a7.1 a7.2.1 a7.2.2).lk).getD i l7).ti),sV ((((af a7.1 a7.2.1 a7.2.2).lk).getD i l7).ad),iV ((((af a7.1 a7.2.1 a7.2.2).lk).getD i l7).ki)]]<|.br (.r 6 [.b9,.agg [iV ((((af a7.1 a7.2.1 a7.2.2).lk).getD k l7).ti),sV ((((af a7.1 a7.2.1 a7.2.2).lk).getD k l7).ad),iV ((((af a7.1 a7.2.1 a7.2.2).lk).getD k l7).ki)]]<|.c (dE ((((af a7.1 a7.2.1 a7.2.2).lk).getD k l7).ad)) []<|.q 3<|.al cy (fun g12=>.st none<|.q 1<|.dx 23 [0,1,2,3,4,5,6,7,8,9,10,11,12,13,14,15,16,17,18,19,20,21,22] [(1,⟨false,[],some [9],[92],[]⟩),(3,⟨false,[],some [12],[94],[]⟩),(7,⟨false,[],some [6],[98],[]⟩),(11,⟨false,[],some [],[102],[]⟩),(13,⟨false,[],some [6],[104],[]⟩),(17,⟨false,[],some [],[108],[]⟩)] []<|.q 1<|.r 1 [.b9]<|.q 1<|.r 1 [.b9]<|.q 1<|.q 1<|.q 1<|.r 1 [.b9]<|.q 1<|.r 1 [.agg [iV ((((af a7.1 a7.2.1 a7.2.2).lk).getD k l7).ti),sV ((((af a7.1 a7.2.1 a7.2.2).lk).getD k l7).ad),iV ((((af a7.1 a7.2.1 a7.2.2).lk).getD k l7).ki)]]<|.q 1<|.q 1<|.q 1<|.r 1 [.b9]<|.q 1<|.r 1 [.agg [iV ((((af a7.1 a7.2.1 a7.2.2).lk).getD i l7).ti),sV ((((af a7.1 a7.2.1 a7.2.2).lk).getD i l7).ad),iV ((((af a7.1 a7.2.1 a7.2.2).lk).getD i l7).ki)]]<|.q 1<|.q 1<|.q 1<|.cg (rU (1:Int))<|.q 1<|.q 1<|.q 1<|.br (.q 1<|.nil) (.q 3<|.nil))) (.q 3<|.nil)))) (.q 1<|.nil)))))))
  ((fun v1:V=>(Br (s9 (((b.map n7).length:Nat):Int) 1048576) (Q (bV true) (bV true)/\Er 0 v1) ((bW b).sm/\((b.length<=9223372036854775807))/\∀ a7:List Pg×BL×List BL,(1<=a7.1.length/\a7.1.length<=30/\(∀ y,y∈a7.1->n0 y)/\a7.2.1.length<=5/\bq a7.2.1=true/\a7.2.2.length<=4/\(∀ y,y∈a7.2.2->y.length<=30/\m6 y))->(fun v2:V=>(fun v3:Int=>(fun v4:Bool=>(eH a7.1 a7.2.1 a7.2.2 (400:Int) ea).sm/\Er 0 v1/\((a7.1.length<=30)/\(∀ i,n0 (a7.1.getD i l4))/\(a7.2.1.length<=1000)/\(a7.2.2.length<=400)/\(∀ x,x∈a7.2.2->x.length<=1000/\m6 x))/\∀ g6:Nat,(fun v5:V=>((.agg [sV ((oT (aB a7.1 (oT (ao a7.2.1 a7.2.2)) (400:Int))).na),iV ((oT (aB a7.1 (oT (ao a7.2.1 a7.2.2)) (400:Int))).a8),.sl false (V.A8 (((oT (aB a7.1 (oT (ao a7.2.1 a7.2.2)) (400:Int))).hs).map aA)),.sl false (V.A8 (((oT (aB a7.1 (oT (ao a7.2.1 a7.2.2)) (400:Int))).se).map sV)),.sl false (V.A8 (((oT (aB a7.1 (oT (ao a7.2.1 a7.2.2)) (400:Int))).lk).map aN))]:V)=cf ((af a7.1 a7.2.1 a7.2.2).na) ((af a7.1 a7.2.1 a7.2.2).a8) ((af a7.1 a7.2.1 a7.2.2).hs) ((af a7.1 a7.2.1 a7.2.2).se) ((af a7.1 a7.2.1 a7.2.2).lk))/\Z g6 0/\(bZ a7.1 a7.2.1 a7.2.2).sm/\((a7.1.length<=30)/\(∀ i,n0 (a7.1.getD i l4))/\(a7.2.1.length<=1000)/\(a7.2.2.length<=400)/\(∀ x,x∈a7.2.2->x.length<=1000/\m6 x))/\Pk v4 true (v4==false)/\Br (v4||(!((ao a7.2.1 a7.2.2).isSome&&(aB a7.1 (oT (ao a7.2.1 a7.2.2)) (400:Int)).isSome))) ((bZ a7.1 a7.2.1 a7.2.2).sm/\((a7.1.length<=30)/\(∀ i,n0 (a7.1.getD i l4))/\(a7.2.1.length<=1000)/\(a7.2.2.length<=400)/\(∀ x,x∈a7.2.2->x.length<=1000/\m6 x))/\Q (bV (((ao a7.2.1 a7.2.2).isSome&&(aB a7.1 (oT (ao a7.2.1 a7.2.2)) (400:Int)).isSome)==((ao a7.2.1 a7.2.2).isSome&&aq a7.1))) (bV true)/\Er 0 v1) ((∃ j8:Nat,(j8<=(af a7.1 a7.2.1 a7.2.2).lk.length)/\E v5/\Q (iN 0) (iN j8)/\Er g6 v2/\Er 0 v1/\True)/\∀ i:Nat,(i<=(af a7.1 a7.2.1 a7.2.2).lk.length)->(fun v6:V=>(fun v7:V=>Z g6 4/\Br (s7 (i:Int) v3) (Z g6 4/\Ex (i:Int) (((af a7.1 a7.2.1 a7.2.2).lk).map aN) v6/\True/\(dE ((((af a7.1 a7.2.1 a7.2.2).lk).getD i l7).ad)).sm/\((((((af a7.1 a7.2.1 a7.2.2).lk).getD i l7).ad).length<=1000000)/\(m6 ((((af a7.1 a7.2.1 a7.2.2).lk).getD i l7).ad)))/\∀ g9:Nat,Z g9 0/\m8 ((i:Int)+1)/\(∃ r6:Nat,(i+1<=r6/\r6<=(af a7.1 a7.2.1 a7.2.2).lk.length)/\E v5/\E (iN i)/\E (.ptr (.key 9) [] g9 0)/\Q (iN (i+1)) (iN r6)/\Er g6 v2/\Er g9 v7/\Er 0 v1/\True)/\∀ k:Nat,(i+1<=k/\k<=(af a7.1 a7.2.1 a7.2.2).lk.length)->(fun v8:V=>(fun v9:Bool=>Z g6 4/\Gd (v9==true) (Z g6 4)/\Gd (v9==true) (Ex (i:Int) (((af a7.1 a7.2.1 a7.2.2).lk).map aN) v6)/\Gd (v9==true) True/\Pk v9 (v9==true) true/\Br (v9&&(r4 ((((af a7.1 a7.2.1 a7.2.2).lk).getD i l7).ki) 3)) (Z g6 4/\Ex (k:Int) (((af a7.1 a7.2.1 a7.2.2).lk).map aN) v8/\True/\(dE ((((af a7.1 a7.2.1 a7.2.2).lk).getD k l7).ad)).sm/\((((((af a7.1 a7.2.1 a7.2.2).lk).getD k l7).ad).length<=1000000)/\(m6 ((((af a7.1 a7.2.1 a7.2.2).lk).getD k l7).ad)))/\∀ g12:Nat,Z g12 0/\Z g9 0/\Z g12 0/\Gd ((((oA (ai ((((af a7.1 a7.2.1 a7.2.2).lk).getD i l7).ad))).c5)==((oA (ai ((((af a7.1 a7.2.1 a7.2.2).lk).getD k l7).ad))).c5))==true) (((((oA (ai ((((af a7.1 a7.2.1 a7.2.2).lk).getD i l7).ad))).c5)==((oA (ai ((((af a7.1 a7.2.1 a7.2.2).lk).getD k l7).ad))).c5))==true)=true)/\Gd ((((oA (ai ((((af a7.1 a7.2.1 a7.2.2).lk).getD i l7).ad))).c5)==((oA (ai ((((af a7.1 a7.2.1 a7.2.2).lk).getD k l7).ad))).c5))==true) (Z g6 4)/\Gd ((((oA (ai ((((af a7.1 a7.2.1 a7.2.2).lk).getD i l7).ad))).c5)==((oA (ai ((((af a7.1 a7.2.1 a7.2.2).lk).getD k l7).ad))).c5))==true) (((((oA (ai ((((af a7.1 a7.2.1 a7.2.2).lk).getD i l7).ad))).c5)==((oA (ai ((((af a7.1 a7.2.1 a7.2.2).lk).getD k l7).ad))).c5))==true)=true)/\Gd ((((oA (ai ((((af a7.1 a7.2.1 a7.2.2).lk).getD i l7).ad))).c5)==((oA (ai ((((af a7.1 a7.2.1 a7.2.2).lk).getD k l7).ad))).c5))==true) (((((oA (ai ((((af a7.1 a7.2.1 a7.2.2).lk).getD i l7).ad))).c5)==((oA (ai ((((af a7.1 a7.2.1 a7.2.2).lk).getD k l7).ad))).c5))==true)=true)/\Gd ((((oA (ai ((((af a7.1 a7.2.1 a7.2.2).lk).getD i l7).ad))).c5)==((oA (ai ((((af a7.1 a7.2.1 a7.2.2).lk).getD k l7).ad))).c5))==true) (Ex (k:Int) (((af a7.1 a7.2.1 a7.2.2).lk).map aN) v8)/\Gd ((((oA (ai ((((af a7.1 a7.2.1 a7.2.2).lk).getD i l7).ad))).c5)==((oA (ai ((((af a7.1 a7.2.1 a7.2.2).lk).getD k l7).ad))).c5))==true) (((((oA (ai ((((af a7.1 a7.2.1 a7.2.2).lk).getD i l7).ad))).c5)==((oA (ai ((((af a7.1 a7.2.1 a7.2.2).lk).getD k l7).ad))).c5))==true)=true)/\Gd ((((oA (ai ((((af a7.1 a7.2.1 a7.2.2).lk).getD i l7).ad))).c5)==((oA (ai ((((af a7.1 a7.2.1 a7.2.2).lk).getD k l7).ad))).c5))==true) (((((oA (ai ((((af a7.1 a7.2.1 a7.2.2).lk).getD i l7).ad))).c5)==((oA (ai ((((af a7.1 a7.2.1 a7.2.2).lk).getD k l7).ad))).c5))==true)=true)/\Gd ((((oA (ai ((((af a7.1 a7.2.1 a7.2.2).lk).getD i l7).ad))).c5)==((oA (ai ((((af a7.1 a7.2.1 a7.2.2).lk).getD k l7).ad))).c5))==true) True/\Gd ((((oA (ai ((((af a7.1 a7.2.1 a7.2.2).lk).getD i l7).ad))).c5)==((oA (ai ((((af a7.1 a7.2.1 a7.2.2).lk).getD k l7).ad))).c5))==true) (((((oA (ai ((((af a7.1 a7.2.1 a7.2.2).lk).getD i l7).ad))).c5)==((oA (ai ((((af a7.1 a7.2.1 a7.2.2).lk).getD k l7).ad))).c5))==true)=true)/\Gd ((((oA (ai ((((af a7.1 a7.2.1 a7.2.2).lk).getD i l7).ad))).c5)==((oA (ai ((((af a7.1 a7.2.1 a7.2.2).lk).getD k l7).ad))).c5))==true) (Z g6 4)/\Gd ((((oA (ai ((((af a7.1 a7.2.1 a7.2.2).lk).getD i l7).ad))).c5)==((oA (ai ((((af a7.1 a7.2.1 a7.2.2).lk).getD k l7).ad))).c5))==true) (((((oA (ai ((((af a7.1 a7.2.1 a7.2.2).lk).getD i l7).ad))).c5)==((oA (ai ((((af a7.1 a7.2.1 a7.2.2).lk).getD k l7).ad))).c5))==true)=true)/\Gd ((((oA (ai ((((af a7.1 a7.2.1 a7.2.2).lk).getD i l7).ad))).c5)==((oA (ai ((((af a7.1 a7.2.1 a7.2.2).lk).getD k l7).ad))).c5))==true) (((((oA (ai ((((af a7.1 a7.2.1 a7.2.2).lk).getD i l7).ad))).c5)==((oA (ai ((((af a7.1 a7.2.1 a7.2.2).lk).getD k l7).ad))).c5))==true)=true)/\Gd ((((oA (ai ((((af a7.1 a7.2.1 a7.2.2).lk).getD i l7).ad))).c5)==((oA (ai ((((af a7.1 a7.2.1 a7.2.2).lk).getD k l7).ad))).c5))==true) (Ex (i:Int) (((af a7.1 a7.2.1 a7.2.2).lk).map aN) v6)/\Gd ((((oA (ai ((((af a7.1 a7.2.1 a7.2.2).lk).getD i l7).ad))).c5)==((oA (ai ((((af a7.1 a7.2.1 a7.2.2).lk).getD k l7).ad))).c5))==true) (((((oA (ai ((((af a7.1 a7.2.1 a7.2.2).lk).getD i l7).ad))).c5)==((oA (ai ((((af a7.1 a7.2.1 a7.2.2).lk).getD k l7).ad))).c5))==true)=true)/\Gd ((((oA (ai ((((af a7.1 a7.2.1 a7.2.2).lk).getD i l7).ad))).c5)==((oA (ai ((((af a7.1 a7.2.1 a7.2.2).lk).getD k l7).ad))).c5))==true) (((((oA (ai ((((af a7.1 a7.2.1 a7.2.2).lk).getD i l7).ad))).c5)==((oA (ai ((((af a7.1 a7.2.1 a7.2.2).lk).getD k l7).ad))).c5))==true)=true)/\Gd ((((oA (ai ((((af a7.1 a7.2.1 a7.2.2).lk).getD i l7).ad))).c5)==((oA (ai ((((af a7.1 a7.2.1 a7.2.2).lk).getD k l7).ad))).c5))==true) True/\Gd ((((oA (ai ((((af a7.1 a7.2.1 a7.2.2).lk).getD i l7).ad))).c5)==((oA (ai ((((af a7.1 a7.2.1 a7.2.2).lk).getD k l7).ad))).c5))==true) (((((oA (ai ((((af a7.1 a7.2.1 a7.2.2).lk).getD i l7).ad))).c5)==((oA (ai ((((af a7.1 a7.2.1 a7.2.2).lk).getD k l7).ad))).c5))==true)=true)/\Gd ((((oA (ai ((((af a7.1 a7.2.1 a7.2.2).lk).getD i l7).ad))).c5)==((oA (ai ((((af a7.1 a7.2.1 a7.2.2).lk).getD k l7).ad))).c5))==true) (((((oA (ai ((((af a7.1 a7.2.1 a7.2.2).lk).getD i l7).ad))).c5)==((oA (ai ((((af a7.1 a7.2.1 a7.2.2).lk).getD k l7).ad))).c5))==true)=true)/\Gd ((((oA (ai ((((af a7.1 a7.2.1 a7.2.2).lk).getD i l7).ad))).c5)==((oA (ai ((((af a7.1 a7.2.1 a7.2.2).lk).getD k l7).ad))).c5))==true) (m8 (((((af a7.1 a7.2.1 a7.2.2).lk).getD k l7).ti)-((((af a7.1 a7.2.1 a7.2.2).lk).getD i l7).ti)))/\Gd ((((oA (ai ((((af a7.1 a7.2.1 a7.2.2).lk).getD i l7).ad))).c5)==((oA (ai ((((af a7.1 a7.2.1 a7.2.2).lk).getD k l7).ad))).c5))==true) ((True)/\(rU (1:Int)).sm)/\Gd ((((oA (ai ((((af a7.1 a7.2.1 a7.2.2).lk).getD i l7).ad))).c5)==((oA (ai ((((af a7.1 a7.2.1 a7.2.2).lk).getD k l7).ad))).c5))==true) (((((oA (ai ((((af a7.1 a7.2.1 a7.2.2).lk).getD i l7).ad))).c5)==((oA (ai ((((af a7.1 a7.2.1 a7.2.2).lk).getD k l7).ad))).c5))==true)=true)/\Gd ((((oA (ai ((((af a7.1 a7.2.1 a7.2.2).lk).getD i l7).ad))).c5)==((oA (ai ((((af a7.1 a7.2.1 a7.2.2).lk).getD k l7).ad))).c5))==true) (m8 (1+(cP (1:Int))))/\Gd ((((oA (ai ((((af a7.1 a7.2.1 a7.2.2).lk).getD i l7).ad))).c5)==((oA (ai ((((af a7.1 a7.2.1 a7.2.2).lk).getD k l7).ad))).c5))==true) (((((oA (ai ((((af a7.1 a7.2.1 a7.2.2).lk).getD i l7).ad))).c5)==((oA (ai ((((af a7.1 a7.2.1 a7.2.2).lk).getD k l7).ad))).c5))==true)=true)/\Gd ((((oA (ai ((((af a7.1 a7.2.1 a7.2.2).lk).getD i l7).ad))).c5)==((oA (ai ((((af a7.1 a7.2.1 a7.2.2).lk).getD k l7).ad))).c5))==true) (((((oA (ai ((((af a7.1 a7.2.1 a7.2.2).lk).getD i l7).ad))).c5)==((oA (ai ((((af a7.1 a7.2.1 a7.2.2).lk).getD k l7).ad))).c5))==true)=true)/\Pk (((oA (ai ((((af a7.1 a7.2.1 a7.2.2).lk).getD i l7).ad))).c5)==((oA (ai ((((af a7.1 a7.2.1 a7.2.2).lk).getD k l7).ad))).c5)) ((((oA (ai ((((af a7.1 a7.2.1 a7.2.2).lk).getD i l7).ad))).c5)==((oA (ai ((((af a7.1 a7.2.1 a7.2.2).lk).getD k l7).ad))).c5))==true) true/\Br ((((oA (ai ((((af a7.1 a7.2.1 a7.2.2).lk).getD i l7).ad))).c5)==((oA (ai ((((af a7.1 a7.2.1 a7.2.2).lk).getD k l7).ad))).c5))&&(s7 (((((af a7.1 a7.2.1 a7.2.2).lk).getD k l7).ti)-((((af a7.1 a7.2.1 a7.2.2).lk).getD i l7).ti)) (1+(cP (1:Int))))) (Q (bV false) (bV true)/\Er 0 v1) (m8 ((k:Int)+1)/\∃ k₂:Nat,(i+1<=k₂/\k₂<=(af a7.1 a7.2.1 a7.2.2).lk.length)/\((af a7.1 a7.2.1 a7.2.2).lk.length-k₂<(af a7.1 a7.2.1 a7.2.2).lk.length-k)/\E v5/\E (iN i)/\E (.ptr (.key 9) [] g9 0)/\Q (iN (k+1)) (iN k₂)/\Er g6 v2/\Er g9 v7/\Er 0 v1/\True)) (m8 ((i:Int)+1)/\∃ c9:Nat,(c9<=(af a7.1 a7.2.1 a7.2.2).lk.length)/\((af a7.1 a7.2.1 a7.2.2).lk.length-c9<(af a7.1 a7.2.1 a7.2.2).lk.length-i)/\E v5/\Q (iN (i+1)) (iN c9)/\Er g6 v2/\Er 0 v1/\True)) (s7 (k:Int) v3)) (.agg [iV ((((af a7.1 a7.2.1 a7.2.2).lk).getD k l7).ti),sV ((((af a7.1 a7.2.1 a7.2.2).lk).getD k l7).ad),iV ((((af a7.1 a7.2.1 a7.2.2).lk).getD k l7).ki)])) (Q (bV true) (bV true)/\Er 0 v1)) (bc ((oA (ai ((((af a7.1 a7.2.1 a7.2.2).lk).getD i l7).ad))).c5) ((oA (ai ((((af a7.1 a7.2.1 a7.2.2).lk).getD i l7).ad))).b7) ((oA (ai ((((af a7.1 a7.2.1 a7.2.2).lk).getD i l7).ad))).asks) ((oA (ai ((((af a7.1 a7.2.1 a7.2.2).lk).getD i l7).ad))).ask))) (.agg [iV ((((af a7.1 a7.2.1 a7.2.2).lk).getD i l7).ti),sV ((((af a7.1 a7.2.1 a7.2.2).lk).getD i l7).ad),iV ((((af a7.1 a7.2.1 a7.2.2).lk).getD i l7).ki)]))) (.ptr (.key 6) [] g6 0)) (!(((ao a7.2.1 a7.2.2).isSome&&(aB a7.1 (oT (ao a7.2.1 a7.2.2)) (400:Int)).isSome)==((ao a7.2.1 a7.2.2).isSome&&aq a7.1)))) (((((af a7.1 a7.2.1 a7.2.2).lk).map aN).length:Nat):Int)) (cf ((af a7.1 a7.2.1 a7.2.2).na) ((af a7.1 a7.2.1 a7.2.2).a8) ((af a7.1 a7.2.1 a7.2.2).hs) ((af a7.1 a7.2.1 a7.2.2).se) ((af a7.1 a7.2.1 a7.2.2).lk))))) (.lit (.iface 234 (.pointer (some ea))))) ?_
 refine⟨fun j7=>?_,fun j7=>?_⟩
 try simp only[nb]at j7
 refine⟨?_,rfl⟩
 unfold Q
 rfl
 try simp only[nb]at j7
 refine⟨rfl,by omega,?_⟩
 intro a7 n6
 refine⟨rfl,rfl,⟨by omega,fun i=>eV n6.2.2.1 i,by omega,by omega,fun x hx=>⟨by have:=(n6.2.2.2.2.2.2 x hx).1;omega,(n6.2.2.2.2.2.2 x hx).2⟩⟩,?_⟩
 intro g6
 refine⟨by rw[gY,aL (f:=sV) (fun _=>rfl),aL (f:=aN) (fun _=>rfl),fF],rfl,rfl,⟨by omega,fun i=>eV n6.2.2.1 i,by omega,by omega,fun x hx=>⟨by have:=(n6.2.2.2.2.2.2 x hx).1;omega,(n6.2.2.2.2.2.2 x hx).2⟩⟩,⟨fun _=>rfl,fun h=>by rw[h] <;> rfl⟩,?_⟩
 refine⟨fun j9=>?_,fun j9=>?_⟩
 try simp only[nb]at j9
 refine⟨rfl,⟨by omega,fun i=>eV n6.2.2.1 i,by omega,by omega,fun x hx=>⟨by have:=(n6.2.2.2.2.2.2 x hx).1;omega,(n6.2.2.2.2.2.2 x hx).2⟩⟩,?_⟩
 refine⟨?_,rfl⟩
 unfold Q
 rw[cJ];simp
 try simp only[nb]at j9
 obtain⟨hG,hW⟩:=ff j9.2
 have SN:=hG.sn.2
 have Px:=hG.hl
 have TJ:=eX hG
 refine⟨⟨0,?_,rfl,rfl,rfl,rfl,trivial⟩,?_⟩
 simp
 rintro i h1
 refine⟨rfl,?_⟩
 refine⟨fun l8=>?_,fun l8=>?_⟩
 try simp only[nb]at l8
 have M3:=hG.al i (by omega)
 have Qe:=jj M3.rd
 have O5:=M3.tm
 refine⟨rfl,⟨by omega,aj (d:=l7) (by omega)⟩,trivial,rfl,⟨by omega,Qe.2⟩,?_⟩
 intro g9
 refine⟨rfl,by omega,?_⟩
 refine⟨⟨i+1,?_,rfl,rfl,rfl,rfl,rfl,rfl,rfl,trivial⟩,?_⟩
 omega
 rintro k ⟨h2,h3⟩
 refine⟨rfl,fun hG=>rfl,fun hG=>⟨by omega,aj (d:=l7) (by omega)⟩,fun hG=>trivial,⟨fun h=>by rw[h] <;> rfl,fun _=>rfl⟩,?_⟩
 refine⟨fun o4=>?_,fun o4=>?_⟩
 try simp only[nb]at o4
 have TE:=hG.al k (by omega)
 have hzk:=jj TE.rd
 have htk:=TE.tm
 refine⟨rfl,⟨by omega,aj (d:=l7) (by omega)⟩,trivial,rfl,⟨by omega,hzk.2⟩,?_⟩
 intro g12
 refine⟨rfl,?_⟩
 have hbk:cP 1=2:=rfl
 refine⟨rfl,rfl,fun h=>h,fun hG=>rfl,fun h=>h,fun h=>h,fun hG=>⟨by omega,aj (d:=l7) (by omega)⟩,fun h=>h,fun h=>h,fun hG=>trivial,fun h=>h,fun hG=>rfl,fun h=>h,fun h=>h,fun hG=>⟨by omega,aj (d:=l7) (by omega)⟩,fun h=>h,fun h=>h,fun hG=>trivial,fun h=>h,fun h=>h,fun hG=>by(try simp only[nb]at hG);omega,fun hG=>⟨trivial,rfl⟩,fun h=>h,fun hG=>by(try simp only[nb]at hG);omega,fun h=>h,fun h=>h,⟨fun h=>by rw[h] <;> rfl,fun _=>rfl⟩,?_⟩
 refine⟨fun x4=>?_,fun x4=>?_⟩
 try simp only[nb]at x4
 exact absurd x4.2 (AP hG (by omega) (by omega) x4.1 o4.2)
 try simp only[nb]at x4
 refine⟨by omega,?_⟩
 refine⟨k+1,?_,?_,rfl,rfl,rfl,rfl,rfl,rfl,rfl,trivial⟩
 omega
 first | (solve | simp) | omega | (simp;omega)
 try simp only[nb]at o4
 refine⟨by omega,?_⟩
 refine⟨i+1,?_,?_,rfl,rfl,rfl,rfl,trivial⟩
 omega
 first | (solve | simp) | omega | (simp;omega)
 try simp only[nb]at l8
 refine⟨?_,rfl⟩
 unfold Q
 rfl
end Go.Proofs.YtlclejemchbjiaaGreatDoor
namespace Go.Pd
open Go.Abs Go.Proofs.YtlclejemchbjiaaGreatDoor
end Go.Pd
namespace Go.Proofs.YtlclejemchbjiaaGreatDoor
open Go Go.Abs Go.RowKit Go.Pd
set_option maxRecDepth 20000
end Go.Proofs.YtlclejemchbjiaaGreatDoor
namespace Go.Pd
open Go.Abs Go.Proofs.YtlclejemchbjiaaGreatDoor
end Go.Pd
namespace Go.Proofs.YtlclejemchbjiaaGreatDoor
open Go Go.Abs Go.RowKit Go.Pd
set_option maxRecDepth 20000
end Go.Proofs.YtlclejemchbjiaaGreatDoor
namespace Go.Pd
open Go.Abs Go.Proofs.YtlclejemchbjiaaGreatDoor
end Go.Pd
namespace Go.Proofs.YtlclejemchbjiaaGreatDoor
open Go Go.Abs Go.RowKit Go.Pd
set_option maxRecDepth 20000
end Go.Proofs.YtlclejemchbjiaaGreatDoor
namespace Go.Proofs.YtlclejemchbjiaaGreatDoor
open Go Go.ChangeShapes Go.WideShapes Go.ChangeAt Go.RowKit Go.Abs
theorem own:ownKnob Tryz.prog.godebug=none:=by kernel_rfl
theorem laidOut:laidOutB Tryz.prog=true:=by kernel_rfl
theorem dc:Tryz.prog.globalNamed "loop.example/pedlar/impl.errNoCall" =some 0:=by kernel_rfl
theorem dG:(Tryz.prog.globals[0]?).map (·.type)=some 113:=by kernel_rfl
theorem fw: "*" ++ "errors.errorString" = "*errors.errorString" :=by decide
theorem lE(u:TypeId) (h:Tryz.prog.typeName? 3 u=some "*errors.errorString"):u=234:=
 typeName_ptr_named (nm:= "errors.errorString") (by rw[fw];kernel_rfl) (by kernel_rfl) (by decide) u (by rw[fw];exact h)
theorem jz:Tryz.prog.cellsOf 257=1:=by kernel_rfl
theorem jo:Tryz.prog.cellsOf 9=1:=by kernel_rfl
set_option maxRecDepth 100000 in
theorem fnGoFail_lifted(os:Os)(started:os.Started)(H:Type)(enc:TypeId×Value->H):
 ReturnsInHanded {} Tryz.checked os 3 .any (fun w args=>(Rows.fnGoFailSpec.pre enc Tryz.prog Tryz.f3 [] false w args/\laidMetH Tryz.prog Rows.fnGoFailRow.laid w)/\sizedMet enc Tryz.prog Tryz.f3 (OpenSpec.ofChange Rows.fnGoFailSpec) false w args)
  (Rows.fnGoFailSpec.post enc Tryz.prog Tryz.f3 false true false false):=by
 refine returnsInHanded_of_change_and (C:=Tryz.checked) (X:=fun w _=>laidMetH Tryz.prog Rows.fnGoFailRow.laid w) (fun _ _ _ hh h=>h.of_heap hh) own started (by kernel_rfl) Tryz.func3
  (ChangeSpec.witness_shaped (enc:=enc) (C:=Tryz.checked) (os:=os) (X:=fun w _=>laidMetH Tryz.prog Rows.fnGoFailRow.laid w) false (World.laidAll Tryz.prog os Rows.fnGoFailRow.laid) #[.slice none 0 0] 8 (World.laidAll_os _ _ _)
   (World.shaped_of_ZipB (by kernel_rfl) (by kernel_rfl)) (by kernel_rfl) (by kernel_rfl) (by kernel_rfl)
   (by rw[MakeChecks.laidMetH_plain _ _ _ (by kernel_rfl)];exact laidMet_laidAll _ (by kernel_rfl) (by kernel_rfl))) ?_
 intro W base args ds gs before E3 hW _ _ OR _
 have hL:laidMet Tryz.prog Rows.fnGoFailRow.laid W:=by rw[<- MakeChecks.laidMetH_plain _ _ _ (by kernel_rfl)];exact OR
 have D7:∀ (j:Nat) t v,Tryz.f3.params[j]? =some t->args[j]? =some v->Value.okWide Tryz.prog W .any base t v:=E3
 have OO:=hW
 obtain⟨p,q,MI,OP,rfl,S9,hnd⟩:=hW
 have hV:DataW.TrodVars enc Tryz.prog W (fun _=>true) ["loop.example/pedlar/impl.errNoCall"] gs q:=OP
 have hA:DataW.TrodAll enc Tryz.prog W 0 (fun _=>true) true Tryz.f3.params.toList args.toList ds p:=MI
 rw[Tryz.params3]at hA D7
 obtain⟨v0,d0,rfl,rfl,h0⟩:=trodAll_one hA
 obtain⟨ea,s0,Ls,_,_,_⟩:=laid_sentinel hL.tail dc dG (ms:=_) (tp:=234) (te:=257) (ts:=9) Tryz.underlying113 lE Tryz.underlying234 Tryz.underlying257 rfl rfl Tryz.underlying9 jz jo
 obtain⟨bt,hbk⟩:=il hL.tail dc Ls
 obtain⟨rfl,rfl⟩:=hV.unique (vars_read1 enc dc dG Tryz.underlying113 Ls trivial _)
 obtain⟨a0,Og,OW,rfl⟩:=okWide_slice Tryz.underlying22 (D7 0 22 v0 rfl rfl)
 have Of:∀ x∈p,x.block<W.heap.size:=by obtain⟨m,hm⟩:=h0;exact DataW.trod_lt m _ _ _ hm
 obtain⟨b,rfl,hb,hv⟩:=jJ Tryz.underlying22 Tryz.underlying5 (by kernel_rfl) h0
 clear MI E3
 refine(ic yc hb hv hbk).mono fun e W' ⟨he,Ly⟩=>?_
 subst he
 have Lr:W'.var? Tryz.prog "loop.example/pedlar/impl.errNoCall" =some #[.iface 234 (.pointer (some ea))]:=by
  rw[<- Ls];unfold World.var?;rw[dc,Option.bind_some,Option.bind_some,Ly.block 0 (Array.getElem?_eq_some_iff.1 hbk).1]
 exact⟨_,rfl,_,_,_,[],p,[.cell 0 0],OO,trodAll_mk1 (shut_bool Tryz.underlying4 _),trodAll_mk1 (Below.trod laidOut (by kernel_rfl) (of_decide_eq_true (by kernel_rfl)) h0 Ly Of),vars_read1 enc dc dG Tryz.underlying113 Lr trivial _,Ly.frame _,fun h=>by cases h⟩
theorem fnGoFail_row:Rows.FnGoFailSaid:=
 OpenClaim.holds_of_wide 3 Tryz.f3 rfl rfl rfl rfl rfl rfl rfl ⟨rfl,rfl,rfl,rfl,rfl⟩ rfl rfl rfl rfl rfl (by kernel_rfl) Tryz.func3 (by kernel_rfl)
  (of_decide_eq_true (by kernel_rfl)) (by unfold Func.isWrapper;first | (rw[if_pos (by decide +kernel)];kernel_rfl) | (rw[if_neg (by decide +kernel)];exact⟨rfl,rfl⟩))
  (fun os started H enc _=>fnGoFail_lifted os started H enc)
theorem fnGoFail_holds:Rows.FnGoFailCardSaid:=
 Claim7.holds_tied_plain_at .later [] [.data,.sentinel,.pinned] true (true, "773da7cdef9f1d905ad203047b07641d812b42c072bd711d755cb144d4704509") true fnGoFail_row (fun _ h=>by cases h) (by kernel_rfl) (fun _ h=>by cases h) fnGoFail_row_tie rfl ⟨rfl,rfl⟩ (by kernel_rfl) rfl
  (fun f fn hf OG=>by
   obtain rfl:f=3:=Option.some.inj ((show Tryz.prog.funcNamed "loop.example/pedlar/laws.FnGoFail" =some 3 by kernel_rfl).symm.trans hf) |>.symm
   obtain rfl:fn=Tryz.f3:=(Option.some.inj (Tryz.func3.symm.trans OG)).symm
   exact⟨by kernel_rfl,fun j t ht=>by
    rw[Tryz.params3]at ht
    have hm:t∈[22]:=by simpa using Array.mem_of_getElem? ht
    have D4:([22].all fun u=>!Tryz.prog.wantsStandIn u)=true:=by kernel_rfl
    exact(show Tryz.prog.wantsStandIn t=false by simpa using List.all_eq_true.1 D4 t hm)⟩)
  (by kernel_rfl)
end Go.Proofs.YtlclejemchbjiaaGreatDoor
