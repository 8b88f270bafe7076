/-
  laws.FnGoOnce returns true for every input and leaves it as it was; conditions: the listed tables lie as the program's text lays them.
-/
import Derived.Test.YtlclejemchbjiaaGreatDoorGE
import Derived.Test.YtlclejemchbjiaaGreatDoorTie
import Derived.Test.YtlclejemchbjiaaGreatDoorCards
set_option linter.unusedVariables false
set_option linter.unusedSimpArgs false
namespace Go.Pd
open Go.Abs Go.Proofs.YtlclejemchbjiaaGreatDoor
def af(w:List Pg)(n:BL)(p:List BL):m5:=oT (aB w (oT (ao n p)) 400)
theorem fF{w:List Pg}{n:BL}{p:List BL}:oT (aB w (oT (ao n p)) 400)=af w n p:=rfl
theorem cJ{w:List Pg}{n:BL}{p:List BL}:((ao n p).isSome&&(aB w (oT (ao n p)) 400).isSome)=((ao n p).isSome&&aq w):=by
 cases h:ao n p with
 | none=>rfl
 | some t=>
   have:=fk h
   simp only[oT,Option.getD_some,Option.isSome_some,Bool.true_and]
   unfold aB
   rw[this,Bool.and_true]
   cases aq w
   rfl
   rfl
theorem ff{w:List Pg}{n:BL}{p:List BL}(h:(ao n p).isSome=true/\(aB w (oT (ao n p)) 400).isSome=true):GI w n (af w n p)/\aq w=true:=by
 have h2:=cJ.symm.trans (show ((ao n p).isSome&&(aB w (oT (ao n p)) 400).isSome)=true by rw[h.1,h.2];rfl)
 cases hn:ao n p with
 | none=>rw[hn]at h;cases h.1
 | some t=>
   have h3:aq w=true:=by
    rw[hn]at h2;exact h2
   refine⟨?_,h3⟩
   unfold af
   rw[hn]
   show GI w n (oT (aB w t 400))
   rw[kM rfl h3 (fk hn)]
   exact lM _ (lN hn)
theorem eU{w:List Pg}{n:BL}{t:m5}(h:GI w n t):(t.lk.length:Int)<=3*((t.se.length:Int)+t.hs.length):=by
 have:=h.po
 have:=lI (f:=hp) (l:=t.hs) fun y hy=>by
  have hI:=h.hi y hy
  have h1:=nq fun x hx=>(hI.it x hx).2.2.2.2.1
  unfold hp
  split
  omega
  rename_i c
  have:=hI.un (by simpa using c)
  omega
 omega
theorem eX{w:List Pg}{n:BL}{t:m5}(h:GI w n t):t.lk.length<=360:=by
 have:=eU h
 have:=h.hl
 have:=h.sn.2
 omega
theorem jj{s:BL}(h:aI s=true):s.length<=60/\m6 s:=by
 constructor
 have:=fA h
 unfold ai at this
 split at this
 rename_i c;exact c.1
 cases this
 have:=h
 unfold aI at this
 rw[Bool.and_eq_true,beq_iff_eq]at this
 rw[<- this.2];exact jK _
theorem rL{L:List m9}{i k:Nat}(h:i<k)(hk:k<=L.length):L.getD i l7∈L.take k:=by
 have:(L.take k)[i]? =L[i]? :=List.getElem?_take_of_lt h
 rw[List.getD_eq_getElem?_getD,List.getElem?_eq_getElem (by omega)]
 exact List.mem_of_getElem? (by rw[this,List.getElem?_eq_getElem (by omega)];rfl)
theorem Ha(L:List m9)(k:Nat)(a:BL):(L8 (L.take k) a).length<=k:=by
 have:=List.length_filter_le (fun l:m9=>l.ad==a) (L.take k)
 have h2:=List.length_take_le k L
 show ((L.take k).filter _).length<=k
 omega
theorem BY{w:List Pg}{n:BL}{t:m5}{i k:Nat}(h:GI w n t)(hi:k<i)(hk:i<t.lk.length)(hp: ¬ pathOf (t.lk.getD i l7).ad=fe)(e:(t.lk.getD k l7).ad=(t.lk.getD i l7).ad):(t.lk.getD k l7).ki=3:=
 ((h.al i hk).once hp).1 _ (rL hi (by omega)) e
theorem uf{s:BL}(h:aI s=true):(if aH (oA (ai s))=true then bu (oA (ai s)) else [])=pathOf s:=if_pos (iS (fA h))
theorem oO{L:List m9}{k:Nat}{a:BL}(hk:k<L.length):(L8 (L.take (k+1)) a).length=(L8 (L.take k) a).length+if (L.getD k l7).ad=a then 1 else 0:=by
 have e:L.take (k+1)=L.take k++[L.getD k l7]:=by
  rw[List.take_succ_eq_append_getElem hk,List.getD_eq_getElem?_getD,List.getElem?_eq_getElem hk];rfl
 rw[e,lz,List.length_append]
 split <;> rfl
end Go.Pd
namespace Go.Proofs.YtlclejemchbjiaaGreatDoor
open Go Go.Abs Go.RowKit Go.Pd
set_option maxRecDepth 20000
theorem xY(b:BL)(ea:Addr)(hb:b.length<=9223372036854775807):PF Tryz.prog 4 [eK b] [(9000,(0,.lit (.iface 234 (.pointer (some ea)))))] (fun r h=>r=(bV true)/\h=[(9000,(0,.lit (.iface 234 (.pointer (some ea)))))]):=by
 refine aw (N:=94) (rs:=[.tmp 2]) Tryz.func4
  (.q 1<|.q 3<|.br (.q 1<|.nil) (.q 1<|.cx (bW b) [] (fun (a7:List Pg×BL×List BL)=>.q 7<|.q 3<|.c (eH a7.1 a7.2.1 a7.2.2 (400:Int) ea) [(9000,9000)]<|.mv<|.mv<|.q 1<|.al eN (fun g6=>.h (.fz 27)<|.h (.o9 27 (cf ((af a7.1 a7.2.1 a7.2.2).na) ((af a7.1 a7.2.1 a7.2.2).a8) ((af a7.1 a7.2.1 a7.2.2).hs) ((af a7.1 a7.2.1 a7.2.2).se) ((af a7.1 a7.2.1 a7.2.2).lk)))<|.st none<|.q 1<|.q 4<|.c (bZ a7.1 a7.2.1 a7.2.2) []<|.q 5<|.br (.q 4<|.c (bZ a7.1 a7.2.1 a7.2.2) []<|.q 2<|.nil) (.q 1<|.loop (Nat) (fun (i:Nat)=>⟨[(6,.ptr (.key 6) [] g6 0),(8,iN i)],[(6,(g6,cf ((af a7.1 a7.2.1 a7.2.2).na) ((af a7.1 a7.2.1 a7.2.2).a8) ((af a7.1 a7.2.1 a7.2.2).hs) ((af a7.1 a7.2.1 a7.2.2).se) ((af a7.1 a7.2.1 a7.2.2).lk))),(9000,(0,.lit (.iface 234 (.pointer (some ea)))))]⟩) (fun (i:Nat)=>i<=(af a7.1 a7.2.1 a7.2.2).lk.length) (fun (i:Nat)=>(af a7.1 a7.2.1 a7.2.2).lk.length-i) (fun (i:Nat)=>.r 5 [.b9]<|.br (.r 6 [.b9,.agg [iV ((((af a7.1 a7.2.1 a7.2.2).lk).getD i l7).ti),sV ((((af a7.1 a7.2.1 a7.2.2).lk).getD i l7).ad),iV ((((af a7.1 a7.2.1 a7.2.2).lk).getD i l7).ki)]]<|.c (dE ((((af a7.1 a7.2.1 a7.2.2).lk).getD i l7).ad)) []<|.q 3<|.al cy (fun g9=>.st none<|.q 1<|.r 1 [.b9]<|.c (fg (oA (ai ((((af a7.1 a7.2.1 a7.2.2).lk).getD i l7).ad)))) []<|.q 1<|.br (.q 3<|.nil) (.q 1<|.q 1<|.loop (Nat×Nat) (fun (k,r)=>⟨[(6,.ptr (.key 6) [] g6 0),(8,iN i),(11,iN r),(12,iN k)],[(6,(g6,cf ((af a7.1 a7.2.1 a7.2.2).na) ((af a7.1 a7.2.1 a7.2.2).a8) ((af a7.1 a7.2.1 a7.2.2).hs) ((af a7.1 a7.2.1 a7.2.2).se) ((af a7.1 a7.2.1 a7.2.2).lk))),(9000,(0,.lit (.iface 234 (.pointer (some ea)))))]⟩) (fun (k,r)=>k<=i/\r=(L8 ((af a7.1 a7.2.1 a7.2.2).lk.take k) ((af a7.1 a7.2.1 a7.2.2).lk.getD i l7).ad).length) (fun (k,r)=>i-k) (fun (k,r)=>.q 3<|.br (.dx 13 [0,1,2,3,4,5,6,7,8,9,10,11,12] [(1,⟨false,[],some [6],[71],[]⟩),(5,⟨false,[],some [],[75],[]⟩),(7,⟨false,[],some [6],[77],[]⟩),(11,⟨false,[],some [],[81],[]⟩)] []<|.q 1<|.r 1 [.b9]<|.q 1<|.r 1 [.agg [iV ((((af a7.1 a7.2.1 a7.2.2).lk).getD k l7).ti),sV ((((af a7.1 a7.2.1 a7.2.2).lk).getD k l7).ad),iV ((((af a7.1 a7.2.1 a7.2.2).lk).getD k l7).ki)]]<|.q 1<|.q 1<|.q 1<|.r 1 [.b9]<|.q 1<|.r 1 [.agg [iV ((((af a7.1 a7.2.1 a7.2.2).lk).getD i l7).ti),sV ((((af a7.1 a7.2.1 a7.2.2).lk).getD i l7).ad),iV ((((af a7.1 a7.2.1 a7.2.2).lk).getD i l7).ki)]]<|.q 1<|.q 1<|.q 1<|.br (.q 3<|.r 7 [.b9,.agg [iV ((((af a7.1 a7.2.1 a7.2.2).lk).getD k l7).ti),sV ((((af a7.1 a7.2.1 a7.2.2).lk).getD k l7).ad),iV ((((af a7.1 a7.2.1 a7.2.2).lk).getD k l7).ki)]]<|.br (.q 1<|.nil) (.q 3<|.nil)) (.q 3<|.nil)) (.q 2<|.br (.q 1<|.nil) (.q 3<|.nil)))))) (.q 1<|.nil)))))))
  ((fun v1:V=>(Br (s9 (((b.map n7).length:Nat):Int) 1048576) (Q (bV true) (bV true)/\Er 0 v1) ((bW b).sm/\((b.length<=9223372036854775807))/\∀ a7:List Pg×BL×List BL,(1<=a7.1.length/\a7.1.length<=30/\(∀ y,y∈a7.1->n0 y)/\a7.2.1.length<=5/\bq a7.2.1=true/\a7.2.2.length<=4/\(∀ y,y∈a7.2.2->y.length<=30/\m6 y))->(fun v2:V=>(fun v3:Bool=>(eH a7.1 a7.2.1 a7.2.2 (400:Int) ea).sm/\Er 0 v1/\((a7.1.length<=30)/\(∀ i,n0 (a7.1.getD i l4))/\(a7.2.1.length<=1000)/\(a7.2.2.length<=400)/\(∀ x,x∈a7.2.2->x.length<=1000/\m6 x))/\∀ g6:Nat,(fun v4:V=>((.agg [sV ((oT (aB a7.1 (oT (ao a7.2.1 a7.2.2)) (400:Int))).na),iV ((oT (aB a7.1 (oT (ao a7.2.1 a7.2.2)) (400:Int))).a8),.sl false (V.A8 (((oT (aB a7.1 (oT (ao a7.2.1 a7.2.2)) (400:Int))).hs).map aA)),.sl false (V.A8 (((oT (aB a7.1 (oT (ao a7.2.1 a7.2.2)) (400:Int))).se).map sV)),.sl false (V.A8 (((oT (aB a7.1 (oT (ao a7.2.1 a7.2.2)) (400:Int))).lk).map aN))]:V)=cf ((af a7.1 a7.2.1 a7.2.2).na) ((af a7.1 a7.2.1 a7.2.2).a8) ((af a7.1 a7.2.1 a7.2.2).hs) ((af a7.1 a7.2.1 a7.2.2).se) ((af a7.1 a7.2.1 a7.2.2).lk))/\Z g6 0/\(bZ a7.1 a7.2.1 a7.2.2).sm/\((a7.1.length<=30)/\(∀ i,n0 (a7.1.getD i l4))/\(a7.2.1.length<=1000)/\(a7.2.2.length<=400)/\(∀ x,x∈a7.2.2->x.length<=1000/\m6 x))/\Pk v3 true (v3==false)/\Br (v3||(!((ao a7.2.1 a7.2.2).isSome&&(aB a7.1 (oT (ao a7.2.1 a7.2.2)) (400:Int)).isSome))) ((bZ a7.1 a7.2.1 a7.2.2).sm/\((a7.1.length<=30)/\(∀ i,n0 (a7.1.getD i l4))/\(a7.2.1.length<=1000)/\(a7.2.2.length<=400)/\(∀ x,x∈a7.2.2->x.length<=1000/\m6 x))/\Q (bV (((ao a7.2.1 a7.2.2).isSome&&(aB a7.1 (oT (ao a7.2.1 a7.2.2)) (400:Int)).isSome)==((ao a7.2.1 a7.2.2).isSome&&aq a7.1))) (bV true)/\Er 0 v1) ((∃ j8:Nat,(j8<=(af a7.1 a7.2.1 a7.2.2).lk.length)/\E v4/\Q (iN 0) (iN j8)/\Er g6 v2/\Er 0 v1/\True)/\∀ i:Nat,(i<=(af a7.1 a7.2.1 a7.2.2).lk.length)->(fun v5:V=>Z g6 4/\Br (s7 (i:Int) (((((af a7.1 a7.2.1 a7.2.2).lk).map aN).length:Nat):Int)) (Z g6 4/\Ex (i:Int) (((af a7.1 a7.2.1 a7.2.2).lk).map aN) v5/\True/\(dE ((((af a7.1 a7.2.1 a7.2.2).lk).getD i l7).ad)).sm/\((((((af a7.1 a7.2.1 a7.2.2).lk).getD i l7).ad).length<=1000000)/\(m6 ((((af a7.1 a7.2.1 a7.2.2).lk).getD i l7).ad)))/\∀ g9:Nat,Z g9 0/\Z g9 0/\(fg (oA (ai ((((af a7.1 a7.2.1 a7.2.2).lk).getD i l7).ad)))).sm/\((cq (oA (ai ((((af a7.1 a7.2.1 a7.2.2).lk).getD i l7).ad)))))/\Br ((if aH (oA (ai ((((af a7.1 a7.2.1 a7.2.2).lk).getD i l7).ad)))=true then bu (oA (ai ((((af a7.1 a7.2.1 a7.2.2).lk).getD i l7).ad))) else [])==([47,110,111,116,105,99,101]:BL)) (m8 ((i:Int)+1)/\∃ c9:Nat,(c9<=(af a7.1 a7.2.1 a7.2.2).lk.length)/\((af a7.1 a7.2.1 a7.2.2).lk.length-c9<(af a7.1 a7.2.1 a7.2.2).lk.length-i)/\E v4/\Q (iN (i+1)) (iN c9)/\Er g6 v2/\Er 0 v1/\True) ((∃ x:Nat×Nat,match x with | (r6,Kq)=>(r6<=i/\Kq=(L8 ((af a7.1 a7.2.1 a7.2.2).lk.take r6) ((af a7.1 a7.2.1 a7.2.2).lk.getD i l7).ad).length)/\E v4/\E (iN i)/\Q (iN 0) (iN Kq)/\Q (iN 0) (iN r6)/\Er g6 v2/\Er 0 v1/\True)/\∀ x:Nat×Nat,match x with | (k,r)=>(k<=i/\r=(L8 ((af a7.1 a7.2.1 a7.2.2).lk.take k) ((af a7.1 a7.2.1 a7.2.2).lk.getD i l7).ad).length)->(fun v6:V=>Br (s7 (k:Int) (i:Int)) (Z g6 4/\Ex (k:Int) (((af a7.1 a7.2.1 a7.2.2).lk).map aN) v6/\True/\Z g6 4/\Ex (i:Int) (((af a7.1 a7.2.1 a7.2.2).lk).map aN) v5/\True/\Br (((((af a7.1 a7.2.1 a7.2.2).lk).getD k l7).ad)==((((af a7.1 a7.2.1 a7.2.2).lk).getD i l7).ad)) (m8 ((r:Int)+1)/\Z g6 4/\Ex (k:Int) (((af a7.1 a7.2.1 a7.2.2).lk).map aN) v6/\True/\Br (B9 ((((af a7.1 a7.2.1 a7.2.2).lk).getD k l7).ki) 3) (Q (bV false) (bV true)/\Er 0 v1) (m8 ((k:Int)+1)/\∃ x:Nat×Nat,match x with | (k₂,B4)=>(k₂<=i/\B4=(L8 ((af a7.1 a7.2.1 a7.2.2).lk.take k₂) ((af a7.1 a7.2.1 a7.2.2).lk.getD i l7).ad).length)/\(i-k₂<i-k)/\E v4/\E (iN i)/\Q (iN (r+1)) (iN B4)/\Q (iN (k+1)) (iN k₂)/\Er g6 v2/\Er 0 v1/\True)) (m8 ((k:Int)+1)/\∃ x:Nat×Nat,match x with | (k₂,B4)=>(k₂<=i/\B4=(L8 ((af a7.1 a7.2.1 a7.2.2).lk.take k₂) ((af a7.1 a7.2.1 a7.2.2).lk.getD i l7).ad).length)/\(i-k₂<i-k)/\E v4/\E (iN i)/\Q (iN r) (iN B4)/\Q (iN (k+1)) (iN k₂)/\Er g6 v2/\Er 0 v1/\True)) (Br (y0 (r:Int) 3) (Q (bV false) (bV true)/\Er 0 v1) (m8 ((i:Int)+1)/\∃ c9:Nat,(c9<=(af a7.1 a7.2.1 a7.2.2).lk.length)/\((af a7.1 a7.2.1 a7.2.2).lk.length-c9<(af a7.1 a7.2.1 a7.2.2).lk.length-i)/\E v4/\Q (iN (i+1)) (iN c9)/\Er g6 v2/\Er 0 v1/\True))) (.agg [iV ((((af a7.1 a7.2.1 a7.2.2).lk).getD k l7).ti),sV ((((af a7.1 a7.2.1 a7.2.2).lk).getD k l7).ad),iV ((((af a7.1 a7.2.1 a7.2.2).lk).getD k l7).ki)]))) (Q (bV true) (bV true)/\Er 0 v1)) (.agg [iV ((((af a7.1 a7.2.1 a7.2.2).lk).getD i l7).ti),sV ((((af a7.1 a7.2.1 a7.2.2).lk).getD i l7).ad),iV ((((af a7.1 a7.2.1 a7.2.2).lk).getD i l7).ki)]))) (.ptr (.key 6) [] g6 0)) (!(((ao a7.2.1 a7.2.2).isSome&&(aB a7.1 (oT (ao a7.2.1 a7.2.2)) (400:Int)).isSome)==((ao a7.2.1 a7.2.2).isSome&&aq a7.1)))) (cf ((af a7.1 a7.2.1 a7.2.2).na) ((af a7.1 a7.2.1 a7.2.2).a8) ((af a7.1 a7.2.1 a7.2.2).hs) ((af a7.1 a7.2.1 a7.2.2).se) ((af a7.1 a7.2.1 a7.2.2).lk))))) (.lit (.iface 234 (.pointer (some ea))))) ?_
 refine⟨fun j7=>?_,fun j7=>?_⟩
 try simp only[nb]at j7
 refine⟨?_,rfl⟩
 unfold Q
 rfl
 try simp only[nb]at j7
 refine⟨rfl,by omega,?_⟩
 intro a7 n6
 refine⟨rfl,rfl,⟨by omega,fun i=>eV n6.2.2.1 i,by omega,by omega,fun x hx=>⟨by have:=(n6.2.2.2.2.2.2 x hx).1;omega,(n6.2.2.2.2.2.2 x hx).2⟩⟩,?_⟩
 intro g6
 refine⟨by rw[gY,aL (f:=sV) (fun _=>rfl),aL (f:=aN) (fun _=>rfl),fF],rfl,rfl,⟨by omega,fun i=>eV n6.2.2.1 i,by omega,by omega,fun x hx=>⟨by have:=(n6.2.2.2.2.2.2 x hx).1;omega,(n6.2.2.2.2.2.2 x hx).2⟩⟩,⟨fun _=>rfl,fun h=>by rw[h] <;> rfl⟩,?_⟩
 refine⟨fun j9=>?_,fun j9=>?_⟩
 try simp only[nb]at j9
 refine⟨rfl,⟨by omega,fun i=>eV n6.2.2.1 i,by omega,by omega,fun x hx=>⟨by have:=(n6.2.2.2.2.2.2 x hx).1;omega,(n6.2.2.2.2.2.2 x hx).2⟩⟩,?_⟩
 refine⟨?_,rfl⟩
 unfold Q
 rw[cJ];simp
 try simp only[nb]at j9
 obtain⟨hG,hW⟩:=ff j9.2
 have SN:=hG.sn.2
 have Px:=hG.hl
 have TJ:=eX hG
 refine⟨⟨0,?_,rfl,rfl,rfl,rfl,trivial⟩,?_⟩
 simp
 rintro i h1
 refine⟨rfl,?_⟩
 refine⟨fun l8=>?_,fun l8=>?_⟩
 try simp only[nb]at l8
 have M3:=hG.al i (by omega)
 have Qe:=jj M3.rd
 have O5:=M3.tm
 refine⟨rfl,⟨by omega,aj (d:=l7) (by omega)⟩,trivial,rfl,⟨by omega,Qe.2⟩,?_⟩
 intro g9
 refine⟨rfl,rfl,rfl,by exact kF _,?_⟩
 refine⟨fun o4=>?_,fun o4=>?_⟩
 try simp only[nb]at o4
 refine⟨by omega,?_⟩
 refine⟨i+1,?_,?_,rfl,rfl,rfl,rfl,trivial⟩
 omega
 first | (solve | simp) | omega | (simp;omega)
 try simp only[nb]at o4
 rw[uf M3.rd]at o4
 refine⟨⟨(0,0),?_,rfl,rfl,rfl,rfl,rfl,rfl,trivial⟩,?_⟩
 exact⟨by omega,rfl⟩
 rintro⟨k,r⟩ ⟨h2,h3⟩
 have O6:=Ha (af a7.1 a7.2.1 a7.2.2).lk k ((af a7.1 a7.2.1 a7.2.2).lk.getD i l7).ad
 refine⟨fun x4=>?_,fun x4=>?_⟩
 try simp only[nb]at x4
 refine⟨rfl,⟨by omega,aj (d:=l7) (by omega)⟩,trivial,rfl,⟨by omega,aj (d:=l7) (by omega)⟩,trivial,?_⟩
 refine⟨fun E'=>?_,fun E'=>?_⟩
 try simp only[nb]at E'
 refine⟨by omega,rfl,⟨by omega,aj (d:=l7) (by omega)⟩,trivial,?_⟩
 refine⟨fun PB=>?_,fun PB=>?_⟩
 try simp only[nb]at PB
 exact absurd (BY hG (by omega) (by omega) o4 E') PB
 try simp only[nb]at PB
 refine⟨by omega,?_⟩
 refine⟨(k+1,r+1),?_,?_,rfl,rfl,rfl,rfl,rfl,rfl,trivial⟩
 first | exact⟨by omega,by rw[oO (by omega),if_pos (by assumption)];omega⟩ | exact⟨by omega,by rw[oO (by omega),if_neg (by assumption)];omega⟩
 first | (solve | simp) | omega | (simp;omega)
 try simp only[nb]at E'
 refine⟨by omega,?_⟩
 refine⟨(k+1,r),?_,?_,rfl,rfl,rfl,rfl,rfl,rfl,trivial⟩
 first | exact⟨by omega,by rw[oO (by omega),if_pos (by assumption)];omega⟩ | exact⟨by omega,by rw[oO (by omega),if_neg (by assumption)];omega⟩
 first | (solve | simp) | omega | (simp;omega)
 try simp only[nb]at x4
 refine⟨fun U'=>?_,fun U'=>?_⟩
 try simp only[nb]at U'
 have hki:k=i:=by omega
 have:=(M3.once o4).2
 rw[hki]at h3
 omega
 try simp only[nb]at U'
 refine⟨by omega,?_⟩
 refine⟨i+1,?_,?_,rfl,rfl,rfl,rfl,trivial⟩
 omega
 first | (solve | simp) | omega | (simp;omega)
 try simp only[nb]at l8
 refine⟨?_,rfl⟩
 unfold Q
 rfl
end Go.Proofs.YtlclejemchbjiaaGreatDoor
namespace Go.Pd
open Go.Abs Go.Proofs.YtlclejemchbjiaaGreatDoor
end Go.Pd
namespace Go.Proofs.YtlclejemchbjiaaGreatDoor
open Go Go.Abs Go.RowKit Go.Pd
set_option maxRecDepth 20000
end Go.Proofs.YtlclejemchbjiaaGreatDoor
namespace Go.Pd
open Go.Abs Go.Proofs.YtlclejemchbjiaaGreatDoor
end Go.Pd
namespace Go.Proofs.YtlclejemchbjiaaGreatDoor
open Go Go.Abs Go.RowKit Go.Pd
set_option maxRecDepth 20000
end Go.Proofs.YtlclejemchbjiaaGreatDoor
namespace Go.Pd
open Go.Abs Go.Proofs.YtlclejemchbjiaaGreatDoor
end Go.Pd
namespace Go.Proofs.YtlclejemchbjiaaGreatDoor
open Go Go.Abs Go.RowKit Go.Pd
set_option maxRecDepth 20000
end Go.Proofs.YtlclejemchbjiaaGreatDoor
namespace Go.Proofs.YtlclejemchbjiaaGreatDoor
open Go Go.ChangeShapes Go.WideShapes Go.ChangeAt Go.RowKit Go.Abs
theorem own:ownKnob Tryz.prog.godebug=none:=by kernel_rfl
theorem laidOut:laidOutB Tryz.prog=true:=by kernel_rfl
theorem dc:Tryz.prog.globalNamed "loop.example/pedlar/impl.errNoCall" =some 0:=by kernel_rfl
theorem dG:(Tryz.prog.globals[0]?).map (·.type)=some 113:=by kernel_rfl
theorem fw: "*" ++ "errors.errorString" = "*errors.errorString" :=by decide
theorem lE(u:TypeId) (h:Tryz.prog.typeName? 3 u=some "*errors.errorString"):u=234:=
 typeName_ptr_named (nm:= "errors.errorString") (by rw[fw];kernel_rfl) (by kernel_rfl) (by decide) u (by rw[fw];exact h)
theorem jz:Tryz.prog.cellsOf 257=1:=by kernel_rfl
theorem jo:Tryz.prog.cellsOf 9=1:=by kernel_rfl
set_option maxRecDepth 100000 in
theorem fnGoOnce_lifted(os:Os)(started:os.Started)(H:Type)(enc:TypeId×Value->H):
 ReturnsInHanded {} Tryz.checked os 4 .any (fun w args=>(Rows.fnGoOnceSpec.pre enc Tryz.prog Tryz.f4 [] false w args/\laidMetH Tryz.prog Rows.fnGoOnceRow.laid w)/\sizedMet enc Tryz.prog Tryz.f4 (OpenSpec.ofChange Rows.fnGoOnceSpec) false w args)
  (Rows.fnGoOnceSpec.post enc Tryz.prog Tryz.f4 false true false false):=by
 refine returnsInHanded_of_change_and (C:=Tryz.checked) (X:=fun w _=>laidMetH Tryz.prog Rows.fnGoOnceRow.laid w) (fun _ _ _ hh h=>h.of_heap hh) own started (by kernel_rfl) Tryz.func4
  (ChangeSpec.witness_shaped (enc:=enc) (C:=Tryz.checked) (os:=os) (X:=fun w _=>laidMetH Tryz.prog Rows.fnGoOnceRow.laid w) false (World.laidAll Tryz.prog os Rows.fnGoOnceRow.laid) #[.slice none 0 0] 8 (World.laidAll_os _ _ _)
   (World.shaped_of_ZipB (by kernel_rfl) (by kernel_rfl)) (by kernel_rfl) (by kernel_rfl) (by kernel_rfl)
   (by rw[MakeChecks.laidMetH_plain _ _ _ (by kernel_rfl)];exact laidMet_laidAll _ (by kernel_rfl) (by kernel_rfl))) ?_
 intro W base args ds gs before E3 hW _ _ OR _
 have hL:laidMet Tryz.prog Rows.fnGoOnceRow.laid W:=by rw[<- MakeChecks.laidMetH_plain _ _ _ (by kernel_rfl)];exact OR
 have D7:∀ (j:Nat) t v,Tryz.f4.params[j]? =some t->args[j]? =some v->Value.okWide Tryz.prog W .any base t v:=E3
 have OO:=hW
 obtain⟨p,q,MI,OP,rfl,S9,hnd⟩:=hW
 have hV:DataW.TrodVars enc Tryz.prog W (fun _=>true) ["loop.example/pedlar/impl.errNoCall"] gs q:=OP
 have hA:DataW.TrodAll enc Tryz.prog W 0 (fun _=>true) true Tryz.f4.params.toList args.toList ds p:=MI
 rw[Tryz.params4]at hA D7
 obtain⟨v0,d0,rfl,rfl,h0⟩:=trodAll_one hA
 obtain⟨ea,s0,Ls,_,_,_⟩:=laid_sentinel hL.tail dc dG (ms:=_) (tp:=234) (te:=257) (ts:=9) Tryz.underlying113 lE Tryz.underlying234 Tryz.underlying257 rfl rfl Tryz.underlying9 jz jo
 obtain⟨bt,hbk⟩:=il hL.tail dc Ls
 obtain⟨rfl,rfl⟩:=hV.unique (vars_read1 enc dc dG Tryz.underlying113 Ls trivial _)
 obtain⟨a0,Og,OW,rfl⟩:=okWide_slice Tryz.underlying22 (D7 0 22 v0 rfl rfl)
 have Of:∀ x∈p,x.block<W.heap.size:=by obtain⟨m,hm⟩:=h0;exact DataW.trod_lt m _ _ _ hm
 obtain⟨b,rfl,hb,hv⟩:=jJ Tryz.underlying22 Tryz.underlying5 (by kernel_rfl) h0
 clear MI E3
 refine(ic xY hb hv hbk).mono fun e W' ⟨he,Ly⟩=>?_
 subst he
 have Lr:W'.var? Tryz.prog "loop.example/pedlar/impl.errNoCall" =some #[.iface 234 (.pointer (some ea))]:=by
  rw[<- Ls];unfold World.var?;rw[dc,Option.bind_some,Option.bind_some,Ly.block 0 (Array.getElem?_eq_some_iff.1 hbk).1]
 exact⟨_,rfl,_,_,_,[],p,[.cell 0 0],OO,trodAll_mk1 (shut_bool Tryz.underlying4 _),trodAll_mk1 (Below.trod laidOut (by kernel_rfl) (of_decide_eq_true (by kernel_rfl)) h0 Ly Of),vars_read1 enc dc dG Tryz.underlying113 Lr trivial _,Ly.frame _,fun h=>by cases h⟩
theorem fnGoOnce_row:Rows.FnGoOnceSaid:=
 OpenClaim.holds_of_wide 4 Tryz.f4 rfl rfl rfl rfl rfl rfl rfl ⟨rfl,rfl,rfl,rfl,rfl⟩ rfl rfl rfl rfl rfl (by kernel_rfl) Tryz.func4 (by kernel_rfl)
  (of_decide_eq_true (by kernel_rfl)) (by unfold Func.isWrapper;first | (rw[if_pos (by decide +kernel)];kernel_rfl) | (rw[if_neg (by decide +kernel)];exact⟨rfl,rfl⟩))
  (fun os started H enc _=>fnGoOnce_lifted os started H enc)
theorem fnGoOnce_holds:Rows.FnGoOnceCardSaid:=
 Claim7.holds_tied_plain_at .later [] [.data,.sentinel,.pinned] true (true, "773da7cdef9f1d905ad203047b07641d812b42c072bd711d755cb144d4704509") true fnGoOnce_row (fun _ h=>by cases h) (by kernel_rfl) (fun _ h=>by cases h) fnGoOnce_row_tie rfl ⟨rfl,rfl⟩ (by kernel_rfl) rfl
  (fun f fn hf OG=>by
   obtain rfl:f=4:=Option.some.inj ((show Tryz.prog.funcNamed "loop.example/pedlar/laws.FnGoOnce" =some 4 by kernel_rfl).symm.trans hf) |>.symm
   obtain rfl:fn=Tryz.f4:=(Option.some.inj (Tryz.func4.symm.trans OG)).symm
   exact⟨by kernel_rfl,fun j t ht=>by
    rw[Tryz.params4]at ht
    have hm:t∈[22]:=by simpa using Array.mem_of_getElem? ht
    have D4:([22].all fun u=>!Tryz.prog.wantsStandIn u)=true:=by kernel_rfl
    exact(show Tryz.prog.wantsStandIn t=false by simpa using List.all_eq_true.1 D4 t hm)⟩)
  (by kernel_rfl)
end Go.Proofs.YtlclejemchbjiaaGreatDoor
