/-
  laws.FnGoDoor returns true for every input and leaves it as it was; conditions: the listed tables lie as the program's text lays them.
-/
import Derived.Test.YtlclejemchbjiaaGreatDoorGE
import Derived.Test.YtlclejemchbjiaaGreatDoorTie
import Derived.Test.YtlclejemchbjiaaGreatDoorCards
set_option linter.unusedVariables false
set_option linter.unusedSimpArgs false
namespace Go.Pd
open Go.Abs Go.Proofs.YtlclejemchbjiaaGreatDoor
def af(w:List Pg)(n:BL)(p:List BL):m5:=oT (aB w (oT (ao n p)) 400)
theorem fF{w:List Pg}{n:BL}{p:List BL}:oT (aB w (oT (ao n p)) 400)=af w n p:=rfl
theorem cJ{w:List Pg}{n:BL}{p:List BL}:((ao n p).isSome&&(aB w (oT (ao n p)) 400).isSome)=((ao n p).isSome&&aq w):=by
 cases h:ao n p with
 | none=>rfl
 | some t=>
   have:=fk h
   simp only[oT,Option.getD_some,Option.isSome_some,Bool.true_and]
   unfold aB
   rw[this,Bool.and_true]
   cases aq w
   rfl
   rfl
theorem ff{w:List Pg}{n:BL}{p:List BL}(h:(ao n p).isSome=true/\(aB w (oT (ao n p)) 400).isSome=true):GI w n (af w n p)/\aq w=true:=by
 have h2:=cJ.symm.trans (show ((ao n p).isSome&&(aB w (oT (ao n p)) 400).isSome)=true by rw[h.1,h.2];rfl)
 cases hn:ao n p with
 | none=>rw[hn]at h;cases h.1
 | some t=>
   have h3:aq w=true:=by
    rw[hn]at h2;exact h2
   refine⟨?_,h3⟩
   unfold af
   rw[hn]
   show GI w n (oT (aB w t 400))
   rw[kM rfl h3 (fk hn)]
   exact lM _ (lN hn)
theorem eU{w:List Pg}{n:BL}{t:m5}(h:GI w n t):(t.lk.length:Int)<=3*((t.se.length:Int)+t.hs.length):=by
 have:=h.po
 have:=lI (f:=hp) (l:=t.hs) fun y hy=>by
  have hI:=h.hi y hy
  have h1:=nq fun x hx=>(hI.it x hx).2.2.2.2.1
  unfold hp
  split
  omega
  rename_i c
  have:=hI.un (by simpa using c)
  omega
 omega
theorem eX{w:List Pg}{n:BL}{t:m5}(h:GI w n t):t.lk.length<=360:=by
 have:=eU h
 have:=h.hl
 have:=h.sn.2
 omega
theorem jj{s:BL}(h:aI s=true):s.length<=60/\m6 s:=by
 constructor
 have:=fA h
 unfold ai at this
 split at this
 rename_i c;exact c.1
 cases this
 have:=h
 unfold aI at this
 rw[Bool.and_eq_true,beq_iff_eq]at this
 rw[<- this.2];exact jK _
theorem uf{s:BL}(h:aI s=true):(if aH (oA (ai s))=true then bu (oA (ai s)) else [])=pathOf s:=if_pos (iS (fA h))
end Go.Pd
namespace Go.Proofs.YtlclejemchbjiaaGreatDoor
open Go Go.Abs Go.RowKit Go.Pd
set_option maxRecDepth 20000
end Go.Proofs.YtlclejemchbjiaaGreatDoor
namespace Go.Pd
open Go.Abs Go.Proofs.YtlclejemchbjiaaGreatDoor
theorem zu{w:List Pg}{n:BL}{t:m5}{i:Nat}{ms:List BL}(h:GI w n t)(h2:ms.Nodup)(h3:∀ d,d∈ms↔∃ q,q∈t.lk.take i/\av q.ad=d):ms.length<=t.hs.length:=by
 have:=mD (u:=t.hs.map (·.na)) h2 fun d hd=>by
  obtain⟨q,q1,q2⟩:=(h3 d).1 hd
  obtain⟨y,y1,y2⟩:=(h.lh q (List.mem_of_mem_take q1)).1
  exact List.mem_map.2 ⟨y,y1,y2.trans q2⟩
 simpa using this
theorem qq{L:List m9}{i:Nat}(hi:i<L.length):L.take (i+1)=L.take i++[L.getD i l7]:=by
 rw[List.take_succ_eq_append_getElem hi,List.getD_eq_getElem?_getD,List.getElem?_eq_getElem hi];rfl
theorem yw{L:List m9}{i:Nat}{ms:List BL}(hi:i<L.length)(h2:ms.Nodup)(h3:∀ d,d∈ms↔∃ q,q∈L.take i/\av q.ad=d)(hc:ms.contains (oA (ai (L.getD i l7).ad)).c5=false):
 (ms++[(oA (ai (L.getD i l7).ad)).c5]).Nodup/\∀ d,d∈ms++[(oA (ai (L.getD i l7).ad)).c5]↔∃ q,q∈L.take (i+1)/\av q.ad=d:=by
 refine⟨?_,fun d=>?_⟩
 rw[List.nodup_append]
 refine⟨h2,by simp,fun a ha b hb e=>?_⟩
 subst e
 have:=List.mem_singleton.1 hb
 rw[<- this,List.contains_iff_mem.2 ha]at hc
 cases hc
 rw[qq hi]
 constructor
 intro hd
 rcases List.mem_append.1 hd with hd | hd
 obtain⟨q,q1,q2⟩:=(h3 d).1 hd
 exact⟨q,List.mem_append_left _ q1,q2⟩
 exact⟨_,List.mem_append_right _ (List.mem_singleton.2 rfl),(List.mem_singleton.1 hd).symm⟩
 rintro⟨q,q1,q2⟩
 rcases List.mem_append.1 q1 with q1 | q1
 exact List.mem_append_left _ ((h3 d).2 ⟨q,q1,q2⟩)
 rw[List.mem_singleton.1 q1]at q2
 exact List.mem_append_right _ (List.mem_singleton.2 q2.symm)
theorem yS{L:List m9}{i:Nat}{ms:List BL}(hi:i<L.length)(h2:ms.Nodup)(h3:∀ d,d∈ms↔∃ q,q∈L.take i/\av q.ad=d)(hc:ms.contains (oA (ai (L.getD i l7).ad)).c5=true):
 ms.Nodup/\∀ d,d∈ms↔∃ q,q∈L.take (i+1)/\av q.ad=d:=by
 refine⟨h2,fun d=>?_⟩
 rw[qq hi]
 constructor
 intro hd
 obtain⟨q,q1,q2⟩:=(h3 d).1 hd
 exact⟨q,List.mem_append_left _ q1,q2⟩
 rintro⟨q,q1,q2⟩
 rcases List.mem_append.1 q1 with q1 | q1
 exact(h3 d).2 ⟨q,q1,q2⟩
 rw[List.mem_singleton.1 q1]at q2
 rw[<- q2]
 exact List.contains_iff_mem.1 hc
theorem BW{w:List Pg}{n:BL}{t:m5}{i:Nat}{ms:List BL}(h:GI w n t)(hi:i<t.lk.length)(h3:∀ d,d∈ms↔∃ q,q∈t.lk.take i/\av q.ad=d)(hc:ms.contains (oA (ai (t.lk.getD i l7).ad)).c5=false):
 pathOf (t.lk.getD i l7).ad=fe:=(h.al i hi).Vl fun q hq c=>by
 have hm:(oA (ai (t.lk.getD i l7).ad)).c5∈ms:=(h3 _).2 ⟨q,hq,c⟩
 rw[List.contains_iff_mem.2 hm]at hc
 cases hc
end Go.Pd
namespace Go.Proofs.YtlclejemchbjiaaGreatDoor
open Go Go.Abs Go.RowKit Go.Pd
set_option maxRecDepth 20000
theorem xW(b:BL)(ea:Addr)(hb:b.length<=9223372036854775807):PF Tryz.prog 7 [eK b] [(9000,(0,.lit (.iface 234 (.pointer (some ea)))))] (fun r h=>r=(bV true)/\h=[(9000,(0,.lit (.iface 234 (.pointer (some ea)))))]):=by
 refine aw (N:=81) (rs:=[.tmp 2]) Tryz.func7
  (.q 1<|.q 3<|.br (.q 1<|.nil) (.q 1<|.cx (bW b) [] (fun (a7:List Pg×BL×List BL)=>.q 7<|.q 3<|.c (eH a7.1 a7.2.1 a7.2.2 (400:Int) ea) [(9000,9000)]<|.mv<|.mv<|.q 1<|.al eN (fun g6=>.h (.fz 26)<|.h (.o9 26 (cf ((af a7.1 a7.2.1 a7.2.2).na) ((af a7.1 a7.2.1 a7.2.2).a8) ((af a7.1 a7.2.1 a7.2.2).hs) ((af a7.1 a7.2.1 a7.2.2).se) ((af a7.1 a7.2.1 a7.2.2).lk)))<|.st none<|.q 1<|.q 4<|.c (bZ a7.1 a7.2.1 a7.2.2) []<|.q 5<|.br (.q 4<|.c (bZ a7.1 a7.2.1 a7.2.2) []<|.q 2<|.nil) (.bs<|.q 1<|.q 1<|.h (.H3 8 1)<|.loop (Nat×(List BL)×Nat×Nat×Nat) (fun (i,ms,g8,o8,c8)=>⟨[(6,.ptr (.key 6) [] g6 0),(8,.own 1 (ms.map sV) g8 o8 c8),(9,iN i)],[(6,(g6,cf ((af a7.1 a7.2.1 a7.2.2).na) ((af a7.1 a7.2.1 a7.2.2).a8) ((af a7.1 a7.2.1 a7.2.2).hs) ((af a7.1 a7.2.1 a7.2.2).se) ((af a7.1 a7.2.1 a7.2.2).lk))),(9000,(0,.lit (.iface 234 (.pointer (some ea)))))]⟩) (fun (i,ms,g8,o8,c8)=>i<=(af a7.1 a7.2.1 a7.2.2).lk.length/\ms.Nodup/\(∀ d,d∈ms↔∃ q,q∈(af a7.1 a7.2.1 a7.2.2).lk.take i/\av q.ad=d)) (fun (i,ms,g8,o8,c8)=>(af a7.1 a7.2.1 a7.2.2).lk.length-i) (fun (i,ms,g8,o8,c8)=>.r 5 [.b9]<|.br (.r 6 [.b9,.agg [iV ((((af a7.1 a7.2.1 a7.2.2).lk).getD i l7).ti),sV ((((af a7.1 a7.2.1 a7.2.2).lk).getD i l7).ad),iV ((((af a7.1 a7.2.1 a7.2.2).lk).getD i l7).ki)]]<|.c (dE ((((af a7.1 a7.2.1 a7.2.2).lk).getD i l7).ad)) []<|.q 3<|.al cy (fun g10=>.st none<|.q 1<|.r 3 [.b9]<|.cl (GX ms ((oA (ai ((((af a7.1 a7.2.1 a7.2.2).lk).getD i l7).ad))).c5))<|.q 1<|.br (.r 3 [.b9]<|.bs<|.ap (fun Qz PX QO=>.h (.o9 71 (.own 1 ((ms++[(oA (ai ((((af a7.1 a7.2.1 a7.2.2).lk).getD i l7).ad))).c5]).map sV) Qz PX QO))<|.q 1<|.r 1 [.b9]<|.c (fg (oA (ai ((((af a7.1 a7.2.1 a7.2.2).lk).getD i l7).ad)))) []<|.q 1<|.br (.q 1<|.nil) (.q 3<|.nil))) (.q 3<|.nil))) (.r 7 [.b9]<|.nil)))))))
  ((fun v1:V=>(Br (s9 (((b.map n7).length:Nat):Int) 1048576) (Q (bV true) (bV true)/\Er 0 v1) ((bW b).sm/\((b.length<=9223372036854775807))/\∀ a7:List Pg×BL×List BL,(1<=a7.1.length/\a7.1.length<=30/\(∀ y,y∈a7.1->n0 y)/\a7.2.1.length<=5/\bq a7.2.1=true/\a7.2.2.length<=4/\(∀ y,y∈a7.2.2->y.length<=30/\m6 y))->(fun v2:V=>(fun v3:Bool=>(eH a7.1 a7.2.1 a7.2.2 (400:Int) ea).sm/\Er 0 v1/\((a7.1.length<=30)/\(∀ i,n0 (a7.1.getD i l4))/\(a7.2.1.length<=1000)/\(a7.2.2.length<=400)/\(∀ x,x∈a7.2.2->x.length<=1000/\m6 x))/\∀ g6:Nat,((.agg [sV ((oT (aB a7.1 (oT (ao a7.2.1 a7.2.2)) (400:Int))).na),iV ((oT (aB a7.1 (oT (ao a7.2.1 a7.2.2)) (400:Int))).a8),.sl false (V.A8 (((oT (aB a7.1 (oT (ao a7.2.1 a7.2.2)) (400:Int))).hs).map aA)),.sl false (V.A8 (((oT (aB a7.1 (oT (ao a7.2.1 a7.2.2)) (400:Int))).se).map sV)),.sl false (V.A8 (((oT (aB a7.1 (oT (ao a7.2.1 a7.2.2)) (400:Int))).lk).map aN))]:V)=cf ((af a7.1 a7.2.1 a7.2.2).na) ((af a7.1 a7.2.1 a7.2.2).a8) ((af a7.1 a7.2.1 a7.2.2).hs) ((af a7.1 a7.2.1 a7.2.2).se) ((af a7.1 a7.2.1 a7.2.2).lk))/\Z g6 0/\(bZ a7.1 a7.2.1 a7.2.2).sm/\((a7.1.length<=30)/\(∀ i,n0 (a7.1.getD i l4))/\(a7.2.1.length<=1000)/\(a7.2.2.length<=400)/\(∀ x,x∈a7.2.2->x.length<=1000/\m6 x))/\Pk v3 true (v3==false)/\Br (v3||(!((ao a7.2.1 a7.2.2).isSome&&(aB a7.1 (oT (ao a7.2.1 a7.2.2)) (400:Int)).isSome))) ((bZ a7.1 a7.2.1 a7.2.2).sm/\((a7.1.length<=30)/\(∀ i,n0 (a7.1.getD i l4))/\(a7.2.1.length<=1000)/\(a7.2.2.length<=400)/\(∀ x,x∈a7.2.2->x.length<=1000/\m6 x))/\Q (bV (((ao a7.2.1 a7.2.2).isSome&&(aB a7.1 (oT (ao a7.2.1 a7.2.2)) (400:Int)).isSome)==((ao a7.2.1 a7.2.2).isSome&&aq a7.1))) (bV true)/\Er 0 v1) ((∃ x:Nat×(List BL)×Nat×Nat×Nat,match x with | (j8,Oe,Tm,Su,To)=>(j8<=(af a7.1 a7.2.1 a7.2.2).lk.length/\Oe.Nodup/\(∀ d,d∈Oe↔∃ q,q∈(af a7.1 a7.2.1 a7.2.2).lk.take j8/\av q.ad=d))/\E (.ptr (.key 6) [] g6 0)/\Q (.own 1 ([].map sV) 0 0 0) (.own 1 (Oe.map sV) Tm Su To)/\Q (iN 0) (iN j8)/\Er g6 v2/\Er 0 v1/\True)/\∀ x:Nat×(List BL)×Nat×Nat×Nat,match x with | (i,ms,g8,o8,c8)=>(i<=(af a7.1 a7.2.1 a7.2.2).lk.length/\ms.Nodup/\(∀ d,d∈ms↔∃ q,q∈(af a7.1 a7.2.1 a7.2.2).lk.take i/\av q.ad=d))->(fun v4:List V=>Z g6 4/\Br (s7 (i:Int) (((((af a7.1 a7.2.1 a7.2.2).lk).map aN).length:Nat):Int)) (Z g6 4/\Ex (i:Int) (((af a7.1 a7.2.1 a7.2.2).lk).map aN) (.agg [iV ((((af a7.1 a7.2.1 a7.2.2).lk).getD i l7).ti),sV ((((af a7.1 a7.2.1 a7.2.2).lk).getD i l7).ad),iV ((((af a7.1 a7.2.1 a7.2.2).lk).getD i l7).ki)])/\True/\(dE ((((af a7.1 a7.2.1 a7.2.2).lk).getD i l7).ad)).sm/\((((((af a7.1 a7.2.1 a7.2.2).lk).getD i l7).ad).length<=1000000)/\(m6 ((((af a7.1 a7.2.1 a7.2.2).lk).getD i l7).ad)))/\∀ g10:Nat,Z g10 0/\Z g10 0/\(((1=1/\g8=g8/\o8=o8)/\0+((ms.map sV).length)<=(ms.map sV).length/\V.aD (ms.map sV)=false/\aG 1 (ms.map sV))/\True)/\(([.sl false (((ms.map sV).drop 0).take ((ms.map sV).length)),sV ((oA (ai ((((af a7.1 a7.2.1 a7.2.2).lk).getD i l7).ad))).c5)]:List V)=[ax ms,sV ((oA (ai ((((af a7.1 a7.2.1 a7.2.2).lk).getD i l7).ad))).c5)])/\((ms.length<=1000000))/\Br (!(ms.contains ((oA (ai ((((af a7.1 a7.2.1 a7.2.2).lk).getD i l7).ad))).c5))) (Z g10 0/\((1,1,g8,o8,c8,(ms.map sV).length)=(1,1,g8,o8,c8,(ms.map sV).length))/\(True)/\(V.aD v4=false)/\(aG 1 v4)/\(((ms.map sV).length+v4.length)*16<=140737488355328)/\∀ Qz PX QO:Nat,((.own 1 ((ms.map sV)++v4) Qz PX QO:V)=.own 1 ((ms++[(oA (ai ((((af a7.1 a7.2.1 a7.2.2).lk).getD i l7).ad))).c5]).map sV) Qz PX QO)/\Z g10 0/\(fg (oA (ai ((((af a7.1 a7.2.1 a7.2.2).lk).getD i l7).ad)))).sm/\((cq (oA (ai ((((af a7.1 a7.2.1 a7.2.2).lk).getD i l7).ad)))))/\Br (!((if aH (oA (ai ((((af a7.1 a7.2.1 a7.2.2).lk).getD i l7).ad)))=true then bu (oA (ai ((((af a7.1 a7.2.1 a7.2.2).lk).getD i l7).ad))) else [])==([47,110,111,116,105,99,101]:BL))) (Q (bV false) (bV true)/\Er 0 v1) (m8 ((i:Int)+1)/\∃ x:Nat×(List BL)×Nat×Nat×Nat,match x with | (c9,Lq,OS,Ob,OX)=>(c9<=(af a7.1 a7.2.1 a7.2.2).lk.length/\Lq.Nodup/\(∀ d,d∈Lq↔∃ q,q∈(af a7.1 a7.2.1 a7.2.2).lk.take c9/\av q.ad=d))/\((af a7.1 a7.2.1 a7.2.2).lk.length-c9<(af a7.1 a7.2.1 a7.2.2).lk.length-i)/\E (.ptr (.key 6) [] g6 0)/\Q (.own 1 ((ms++[(oA (ai ((((af a7.1 a7.2.1 a7.2.2).lk).getD i l7).ad))).c5]).map sV) Qz PX QO) (.own 1 (Lq.map sV) OS Ob OX)/\Q (iN (i+1)) (iN c9)/\Er g6 v2/\Er 0 v1/\True)) (m8 ((i:Int)+1)/\∃ x:Nat×(List BL)×Nat×Nat×Nat,match x with | (c9,Lq,OS,Ob,OX)=>(c9<=(af a7.1 a7.2.1 a7.2.2).lk.length/\Lq.Nodup/\(∀ d,d∈Lq↔∃ q,q∈(af a7.1 a7.2.1 a7.2.2).lk.take c9/\av q.ad=d))/\((af a7.1 a7.2.1 a7.2.2).lk.length-c9<(af a7.1 a7.2.1 a7.2.2).lk.length-i)/\E (.ptr (.key 6) [] g6 0)/\Q (.own 1 (ms.map sV) g8 o8 c8) (.own 1 (Lq.map sV) OS Ob OX)/\Q (iN (i+1)) (iN c9)/\Er g6 v2/\Er 0 v1/\True)) (Z g6 2/\Q (bV (B5 (((ms.map sV).length:Nat):Int) (((((af a7.1 a7.2.1 a7.2.2).hs).map bY).length:Nat):Int))) (bV true)/\Er 0 v1)) ([sV ((oA (ai ((((af a7.1 a7.2.1 a7.2.2).lk).getD i l7).ad))).c5)]:List V))) (!(((ao a7.2.1 a7.2.2).isSome&&(aB a7.1 (oT (ao a7.2.1 a7.2.2)) (400:Int)).isSome)==((ao a7.2.1 a7.2.2).isSome&&aq a7.1)))) (cf ((af a7.1 a7.2.1 a7.2.2).na) ((af a7.1 a7.2.1 a7.2.2).a8) ((af a7.1 a7.2.1 a7.2.2).hs) ((af a7.1 a7.2.1 a7.2.2).se) ((af a7.1 a7.2.1 a7.2.2).lk))))) (.lit (.iface 234 (.pointer (some ea))))) ?_
 refine⟨fun j7=>?_,fun j7=>?_⟩
 try simp only[nb]at j7
 refine⟨?_,rfl⟩
 unfold Q
 rfl
 try simp only[nb]at j7
 refine⟨rfl,by omega,?_⟩
 intro a7 n6
 refine⟨rfl,rfl,⟨by omega,fun i=>eV n6.2.2.1 i,by omega,by omega,fun x hx=>⟨by have:=(n6.2.2.2.2.2.2 x hx).1;omega,(n6.2.2.2.2.2.2 x hx).2⟩⟩,?_⟩
 intro g6
 refine⟨by rw[gY,aL (f:=sV) (fun _=>rfl),aL (f:=aN) (fun _=>rfl),fF],rfl,rfl,⟨by omega,fun i=>eV n6.2.2.1 i,by omega,by omega,fun x hx=>⟨by have:=(n6.2.2.2.2.2.2 x hx).1;omega,(n6.2.2.2.2.2.2 x hx).2⟩⟩,⟨fun _=>rfl,fun h=>by rw[h] <;> rfl⟩,?_⟩
 refine⟨fun j9=>?_,fun j9=>?_⟩
 try simp only[nb]at j9
 refine⟨rfl,⟨by omega,fun i=>eV n6.2.2.1 i,by omega,by omega,fun x hx=>⟨by have:=(n6.2.2.2.2.2.2 x hx).1;omega,(n6.2.2.2.2.2.2 x hx).2⟩⟩,?_⟩
 refine⟨?_,rfl⟩
 unfold Q
 rw[cJ];simp
 try simp only[nb]at j9
 obtain⟨hG,hW⟩:=ff j9.2
 have SN:=hG.sn.2
 have Px:=hG.hl
 have TJ:=eX hG
 refine⟨⟨(0,[],0,0,0),?_,rfl,rfl,rfl,rfl,rfl,trivial⟩,?_⟩
 exact⟨by omega,List.nodup_nil,fun d=>by simp⟩
 rintro⟨i,ms,g8,o8,c8⟩ ⟨h1,h2,h3⟩
 refine⟨rfl,?_⟩
 refine⟨fun l8=>?_,fun l8=>?_⟩
 try simp only[nb]at l8
 have M3:=hG.al i (by omega)
 have Qe:=jj M3.rd
 have O5:=M3.tm
 have Lb:=zu hG h2 h3
 refine⟨rfl,⟨by omega,aj (d:=l7) (by omega)⟩,trivial,rfl,⟨by omega,Qe.2⟩,?_⟩
 intro g10
 refine⟨rfl,rfl,⟨⟨⟨rfl,rfl,rfl⟩,by simp,cm (f:=sV) (fun _=>rfl) _,dJ (f:=sV) (fun _=>rfl) _⟩,trivial⟩,by simp[List.take_of_length_le],by omega,?_⟩
 refine⟨fun o4=>?_,fun o4=>?_⟩
 try simp only[nb]at o4
 refine⟨rfl,rfl,trivial,rfl,by simp[aG,V.n,V.ns],by simp;omega,?_⟩
 intro Qz PX QO
 refine⟨congrArg (V.own 1 · Qz PX QO) (by simp),rfl,rfl,by exact kF _,?_⟩
 refine⟨fun x4=>?_,fun x4=>?_⟩
 try simp only[nb]at x4
 rw[uf M3.rd]at x4
 exact absurd (BW hG (by omega) h3 o4) x4
 try simp only[nb]at x4
 refine⟨by omega,?_⟩
 refine⟨(i+1,ms++[(oA (ai ((((af a7.1 a7.2.1 a7.2.2).lk).getD i l7).ad))).c5],Qz,PX,QO),?_,?_,rfl,rfl,rfl,rfl,rfl,trivial⟩
 first | exact⟨by omega,yw (by omega) h2 h3 o4⟩ | exact⟨by omega,yS (by omega) h2 h3 o4⟩
 first | (solve | simp) | omega | (simp;omega)
 try simp only[nb]at o4
 refine⟨by omega,?_⟩
 refine⟨(i+1,ms,g8,o8,c8),?_,?_,rfl,rfl,rfl,rfl,rfl,trivial⟩
 first | exact⟨by omega,yw (by omega) h2 h3 o4⟩ | exact⟨by omega,yS (by omega) h2 h3 o4⟩
 first | (solve | simp) | omega | (simp;omega)
 try simp only[nb]at l8
 refine⟨rfl,?_⟩
 refine⟨?_,rfl⟩
 unfold Q
 have Lb:=zu hG h2 h3
 refine congrArg bV ?_
 simp only[List.length_map]at *
 exact decide_eq_true (by omega)
end Go.Proofs.YtlclejemchbjiaaGreatDoor
namespace Go.Pd
open Go.Abs Go.Proofs.YtlclejemchbjiaaGreatDoor
end Go.Pd
namespace Go.Proofs.YtlclejemchbjiaaGreatDoor
open Go Go.Abs Go.RowKit Go.Pd
set_option maxRecDepth 20000
end Go.Proofs.YtlclejemchbjiaaGreatDoor
namespace Go.Pd
open Go.Abs Go.Proofs.YtlclejemchbjiaaGreatDoor
end Go.Pd
namespace Go.Proofs.YtlclejemchbjiaaGreatDoor
open Go Go.Abs Go.RowKit Go.Pd
set_option maxRecDepth 20000
end Go.Proofs.YtlclejemchbjiaaGreatDoor
namespace Go.Proofs.YtlclejemchbjiaaGreatDoor
open Go Go.ChangeShapes Go.WideShapes Go.ChangeAt Go.RowKit Go.Abs
theorem own:ownKnob Tryz.prog.godebug=none:=by kernel_rfl
theorem laidOut:laidOutB Tryz.prog=true:=by kernel_rfl
theorem dc:Tryz.prog.globalNamed "loop.example/pedlar/impl.errNoCall" =some 0:=by kernel_rfl
theorem dG:(Tryz.prog.globals[0]?).map (·.type)=some 113:=by kernel_rfl
theorem fw: "*" ++ "errors.errorString" = "*errors.errorString" :=by decide
theorem lE(u:TypeId) (h:Tryz.prog.typeName? 3 u=some "*errors.errorString"):u=234:=
 typeName_ptr_named (nm:= "errors.errorString") (by rw[fw];kernel_rfl) (by kernel_rfl) (by decide) u (by rw[fw];exact h)
theorem jz:Tryz.prog.cellsOf 257=1:=by kernel_rfl
theorem jo:Tryz.prog.cellsOf 9=1:=by kernel_rfl
set_option maxRecDepth 100000 in
theorem fnGoDoor_lifted(os:Os)(started:os.Started)(H:Type)(enc:TypeId×Value->H):
 ReturnsInHanded {} Tryz.checked os 7 .any (fun w args=>(Rows.fnGoDoorSpec.pre enc Tryz.prog Tryz.f7 [] false w args/\laidMetH Tryz.prog Rows.fnGoDoorRow.laid w)/\sizedMet enc Tryz.prog Tryz.f7 (OpenSpec.ofChange Rows.fnGoDoorSpec) false w args)
  (Rows.fnGoDoorSpec.post enc Tryz.prog Tryz.f7 false true false false):=by
 refine returnsInHanded_of_change_and (C:=Tryz.checked) (X:=fun w _=>laidMetH Tryz.prog Rows.fnGoDoorRow.laid w) (fun _ _ _ hh h=>h.of_heap hh) own started (by kernel_rfl) Tryz.func7
  (ChangeSpec.witness_shaped (enc:=enc) (C:=Tryz.checked) (os:=os) (X:=fun w _=>laidMetH Tryz.prog Rows.fnGoDoorRow.laid w) false (World.laidAll Tryz.prog os Rows.fnGoDoorRow.laid) #[.slice none 0 0] 8 (World.laidAll_os _ _ _)
   (World.shaped_of_ZipB (by kernel_rfl) (by kernel_rfl)) (by kernel_rfl) (by kernel_rfl) (by kernel_rfl)
   (by rw[MakeChecks.laidMetH_plain _ _ _ (by kernel_rfl)];exact laidMet_laidAll _ (by kernel_rfl) (by kernel_rfl))) ?_
 intro W base args ds gs before E3 hW _ _ OR _
 have hL:laidMet Tryz.prog Rows.fnGoDoorRow.laid W:=by rw[<- MakeChecks.laidMetH_plain _ _ _ (by kernel_rfl)];exact OR
 have D7:∀ (j:Nat) t v,Tryz.f7.params[j]? =some t->args[j]? =some v->Value.okWide Tryz.prog W .any base t v:=E3
 have OO:=hW
 obtain⟨p,q,MI,OP,rfl,S9,hnd⟩:=hW
 have hV:DataW.TrodVars enc Tryz.prog W (fun _=>true) ["loop.example/pedlar/impl.errNoCall"] gs q:=OP
 have hA:DataW.TrodAll enc Tryz.prog W 0 (fun _=>true) true Tryz.f7.params.toList args.toList ds p:=MI
 rw[Tryz.params7]at hA D7
 obtain⟨v0,d0,rfl,rfl,h0⟩:=trodAll_one hA
 obtain⟨ea,s0,Ls,_,_,_⟩:=laid_sentinel hL.tail dc dG (ms:=_) (tp:=234) (te:=257) (ts:=9) Tryz.underlying113 lE Tryz.underlying234 Tryz.underlying257 rfl rfl Tryz.underlying9 jz jo
 obtain⟨bt,hbk⟩:=il hL.tail dc Ls
 obtain⟨rfl,rfl⟩:=hV.unique (vars_read1 enc dc dG Tryz.underlying113 Ls trivial _)
 obtain⟨a0,Og,OW,rfl⟩:=okWide_slice Tryz.underlying22 (D7 0 22 v0 rfl rfl)
 have Of:∀ x∈p,x.block<W.heap.size:=by obtain⟨m,hm⟩:=h0;exact DataW.trod_lt m _ _ _ hm
 obtain⟨b,rfl,hb,hv⟩:=jJ Tryz.underlying22 Tryz.underlying5 (by kernel_rfl) h0
 clear MI E3
 refine(ic xW hb hv hbk).mono fun e W' ⟨he,Ly⟩=>?_
 subst he
 have Lr:W'.var? Tryz.prog "loop.example/pedlar/impl.errNoCall" =some #[.iface 234 (.pointer (some ea))]:=by
  rw[<- Ls];unfold World.var?;rw[dc,Option.bind_some,Option.bind_some,Ly.block 0 (Array.getElem?_eq_some_iff.1 hbk).1]
 exact⟨_,rfl,_,_,_,[],p,[.cell 0 0],OO,trodAll_mk1 (shut_bool Tryz.underlying4 _),trodAll_mk1 (Below.trod laidOut (by kernel_rfl) (of_decide_eq_true (by kernel_rfl)) h0 Ly Of),vars_read1 enc dc dG Tryz.underlying113 Lr trivial _,Ly.frame _,fun h=>by cases h⟩
theorem fnGoDoor_row:Rows.FnGoDoorSaid:=
 OpenClaim.holds_of_wide 7 Tryz.f7 rfl rfl rfl rfl rfl rfl rfl ⟨rfl,rfl,rfl,rfl,rfl⟩ rfl rfl rfl rfl rfl (by kernel_rfl) Tryz.func7 (by kernel_rfl)
  (of_decide_eq_true (by kernel_rfl)) (by unfold Func.isWrapper;first | (rw[if_pos (by decide +kernel)];kernel_rfl) | (rw[if_neg (by decide +kernel)];exact⟨rfl,rfl⟩))
  (fun os started H enc _=>fnGoDoor_lifted os started H enc)
theorem fnGoDoor_holds:Rows.FnGoDoorCardSaid:=
 Claim7.holds_tied_plain_at .later [] [.data,.sentinel,.pinned] true (true, "773da7cdef9f1d905ad203047b07641d812b42c072bd711d755cb144d4704509") true fnGoDoor_row (fun _ h=>by cases h) (by kernel_rfl) (fun _ h=>by cases h) fnGoDoor_row_tie rfl ⟨rfl,rfl⟩ (by kernel_rfl) rfl
  (fun f fn hf OG=>by
   obtain rfl:f=7:=Option.some.inj ((show Tryz.prog.funcNamed "loop.example/pedlar/laws.FnGoDoor" =some 7 by kernel_rfl).symm.trans hf) |>.symm
   obtain rfl:fn=Tryz.f7:=(Option.some.inj (Tryz.func7.symm.trans OG)).symm
   exact⟨by kernel_rfl,fun j t ht=>by
    rw[Tryz.params7]at ht
    have hm:t∈[22]:=by simpa using Array.mem_of_getElem? ht
    have D4:([22].all fun u=>!Tryz.prog.wantsStandIn u)=true:=by kernel_rfl
    exact(show Tryz.prog.wantsStandIn t=false by simpa using List.all_eq_true.1 D4 t hm)⟩)
  (by kernel_rfl)
end Go.Proofs.YtlclejemchbjiaaGreatDoor
