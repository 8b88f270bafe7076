/-
  laws.FnGoWait returns true for every input and leaves it as it was; conditions: the listed tables lie as the program's text lays them.
-/
import Derived.Test.YtlclejemchbjiaaGreatDoorGE
import Derived.Test.YtlclejemchbjiaaGreatDoorTie
import Derived.Test.YtlclejemchbjiaaGreatDoorCards
set_option linter.unusedVariables false
set_option linter.unusedSimpArgs false
namespace Go.Pd
open Go.Abs Go.Proofs.YtlclejemchbjiaaGreatDoor
def af(w:List Pg)(n:BL)(p:List BL):m5:=oT (aB w (oT (ao n p)) 400)
theorem fF{w:List Pg}{n:BL}{p:List BL}:oT (aB w (oT (ao n p)) 400)=af w n p:=rfl
theorem cJ{w:List Pg}{n:BL}{p:List BL}:((ao n p).isSome&&(aB w (oT (ao n p)) 400).isSome)=((ao n p).isSome&&aq w):=by
 cases h:ao n p with
 | none=>rfl
 | some t=>
   have:=fk h
   simp only[oT,Option.getD_some,Option.isSome_some,Bool.true_and]
   unfold aB
   rw[this,Bool.and_true]
   cases aq w
   rfl
   rfl
theorem ff{w:List Pg}{n:BL}{p:List BL}(h:(ao n p).isSome=true/\(aB w (oT (ao n p)) 400).isSome=true):GI w n (af w n p)/\aq w=true:=by
 have h2:=cJ.symm.trans (show ((ao n p).isSome&&(aB w (oT (ao n p)) 400).isSome)=true by rw[h.1,h.2];rfl)
 cases hn:ao n p with
 | none=>rw[hn]at h;cases h.1
 | some t=>
   have h3:aq w=true:=by
    rw[hn]at h2;exact h2
   refine⟨?_,h3⟩
   unfold af
   rw[hn]
   show GI w n (oT (aB w t 400))
   rw[kM rfl h3 (fk hn)]
   exact lM _ (lN hn)
theorem eU{w:List Pg}{n:BL}{t:m5}(h:GI w n t):(t.lk.length:Int)<=3*((t.se.length:Int)+t.hs.length):=by
 have:=h.po
 have:=lI (f:=hp) (l:=t.hs) fun y hy=>by
  have hI:=h.hi y hy
  have h1:=nq fun x hx=>(hI.it x hx).2.2.2.2.1
  unfold hp
  split
  omega
  rename_i c
  have:=hI.un (by simpa using c)
  omega
 omega
theorem eX{w:List Pg}{n:BL}{t:m5}(h:GI w n t):t.lk.length<=360:=by
 have:=eU h
 have:=h.hl
 have:=h.sn.2
 omega
theorem jj{s:BL}(h:aI s=true):s.length<=60/\m6 s:=by
 constructor
 have:=fA h
 unfold ai at this
 split at this
 rename_i c;exact c.1
 cases this
 have:=h
 unfold aI at this
 rw[Bool.and_eq_true,beq_iff_eq]at this
 rw[<- this.2];exact jK _
end Go.Pd
namespace Go.Proofs.YtlclejemchbjiaaGreatDoor
open Go Go.Abs Go.RowKit Go.Pd
set_option maxRecDepth 20000
end Go.Proofs.YtlclejemchbjiaaGreatDoor
namespace Go.Pd
open Go.Abs Go.Proofs.YtlclejemchbjiaaGreatDoor
theorem qq{L:List m9}{i:Nat}(hi:i<L.length):L.take (i+1)=L.take i++[L.getD i l7]:=by
 rw[List.take_succ_eq_append_getElem hi,List.getD_eq_getElem?_getD,List.getElem?_eq_getElem hi];rfl
end Go.Pd
namespace Go.Proofs.YtlclejemchbjiaaGreatDoor
open Go Go.Abs Go.RowKit Go.Pd
set_option maxRecDepth 20000
end Go.Proofs.YtlclejemchbjiaaGreatDoor
namespace Go.Pd
open Go.Abs Go.Proofs.YtlclejemchbjiaaGreatDoor
def F6(t:m5)(d:BL):List Int:=if bG t=true then cls t.lk d else []
theorem Bm(L:List m9)(i:Nat)(d:BL):(cls (L.take i) d).length<=i:=by
 unfold cls
 rw[List.length_map]
 have:=List.length_filter_le (fun l:m9=>av l.ad==d) (L.take i)
 have h2:=List.length_take_le i L
 omega
theorem wW{L:List m9}{i:Nat}{d:BL}(hi:i<L.length):cls (L.take (i+1)) d=cls (L.take i) d++(if av (L.getD i l7).ad=d then [(L.getD i l7).ti] else []):=by
 rw[qq hi,lK]
theorem Jw{t:m5}{i:Nat}(h:bG t=true)(hi:i<t.lk.length):aI (t.lk.getD i l7).ad=true:=by
 unfold bG da at h
 simp only[Bool.and_eq_true,List.all_eq_true,decide_eq_true_eq]at h
 exact(h.1.1.2.2 i (List.mem_range.2 hi)).2
end Go.Pd
namespace Go.Proofs.YtlclejemchbjiaaGreatDoor
open Go Go.Abs Go.RowKit Go.Pd
set_option maxRecDepth 20000
theorem wB(t:m5)(d:BL)(ht:G' t):PF Tryz.prog 17 [cf t.na t.a8 t.hs t.se t.lk,sV d] [] (fun r h=>r=(.sl false ((F6 t d).map iV))/\h=[]):=by
 refine aw (N:=40) (rs:=[.tmp 4]) Tryz.func17
  (.bx (fun g2=>.q 1<|.r 1 [.b9]<|.c (hO t) []<|.q 1<|.br (.q 1<|.nil) (.q 1<|.r 4 [.b9]<|.h (.H3 5 1)<|.loop (Nat×(List Int)×Nat×Nat×Nat) (fun (i,r,x1,x2,x3)=>⟨[(1,sV d),(5,.own 1 (r.map iV) x1 x2 x3),(14,iL t.lk),(15,iN t.lk.length),(16,iN i)],[]⟩) (fun (i,r,x1,x2,x3)=>i<=t.lk.length/\r=(cls (t.lk.take i) d)) (fun (i,r,x1,x2,x3)=>t.lk.length-i) (fun (i,r,x1,x2,x3)=>.q 1<|.br (.r 2 [.agg [iV ((t.lk.getD i l7).ti),sV ((t.lk.getD i l7).ad),iV ((t.lk.getD i l7).ki)]]<|.al Dh (fun g7=>.st none<|.r 2 [.b9]<|.c (cG ((t.lk.getD i l7).ad)) []<|.q 3<|.al cy (fun g8=>.st none<|.q 1<|.r 7 [.b9]<|.br (.r 3 [.b9]<|.bs<|.ap (fun KF MV M9=>.h (.o9 37 (.own 1 ((r++[(t.lk.getD i l7).ti]).map iV) KF MV M9))<|.q 1<|.q 2<|.nil)) (.q 2<|.nil)))) (.h (.fz 5)<|.h (.o9 5 (.sl false (r.map iV)))<|.q 2<|.nil)))))
  (∀ g2:Nat,Z g2 0/\(hO t).sm/\((G' t))/\Br (!(bG t)) (Q (.sl false []) (.sl false ((F6 t d).map iV))) (Z g2 4/\(∃ x:Nat×(List Int)×Nat×Nat×Nat,match x with | (j8,Kq,Sk,Sj,Si)=>(j8<=t.lk.length/\Kq=(cls (t.lk.take j8) d))/\E (sV d)/\Q (.own 1 ([].map iV) 0 0 0) (.own 1 (Kq.map iV) Sk Sj Si)/\E (iL t.lk)/\Q (iN ((t.lk.map aN).length)) (iN t.lk.length)/\Q (iN 0) (iN j8)/\True)/\∀ x:Nat×(List Int)×Nat×Nat×Nat,match x with | (i,r,x1,x2,x3)=>(i<=t.lk.length/\r=(cls (t.lk.take i) d))->(fun v1:List V=>Br (s7 (i:Int) (t.lk.length:Int)) (Ex (i:Int) (t.lk.map aN) (.agg [iV ((t.lk.getD i l7).ti),sV ((t.lk.getD i l7).ad),iV ((t.lk.getD i l7).ki)])/\True/\∀ g7:Nat,Z g7 0/\Z g7 1/\(cG ((t.lk.getD i l7).ad)).sm/\((((t.lk.getD i l7).ad).length<=1000000)/\(m6 ((t.lk.getD i l7).ad)))/\∀ g8:Nat,Z g8 0/\Gd (((az ((t.lk.getD i l7).ad)).isSome)==true) (Z g8 0)/\Pk ((az ((t.lk.getD i l7).ad)).isSome) (((az ((t.lk.getD i l7).ad)).isSome)==true) true/\Br (((az ((t.lk.getD i l7).ad)).isSome)&&(((oA (az ((t.lk.getD i l7).ad))).c5)==d)) (Z g7 0/\((1,1,x1,x2,x3,(r.map iV).length)=(1,1,x1,x2,x3,(r.map iV).length))/\(True)/\(V.aD v1=false)/\(aG 1 v1)/\(((r.map iV).length+v1.length)*8<=140737488355328)/\∀ KF MV M9:Nat,((.own 1 ((r.map iV)++v1) KF MV M9:V)=.own 1 ((r++[(t.lk.getD i l7).ti]).map iV) KF MV M9)/\m8 ((i:Int)+1)/\∃ x:Nat×(List Int)×Nat×Nat×Nat,match x with | (c9,B4,N2,N1,N0)=>(c9<=t.lk.length/\B4=(cls (t.lk.take c9) d))/\(t.lk.length-c9<t.lk.length-i)/\E (sV d)/\Q (.own 1 ((r++[(t.lk.getD i l7).ti]).map iV) KF MV M9) (.own 1 (B4.map iV) N2 N1 N0)/\E (iL t.lk)/\E (iN t.lk.length)/\Q (iN (i+1)) (iN c9)/\True) (m8 ((i:Int)+1)/\∃ x:Nat×(List Int)×Nat×Nat×Nat,match x with | (c9,B4,N2,N1,N0)=>(c9<=t.lk.length/\B4=(cls (t.lk.take c9) d))/\(t.lk.length-c9<t.lk.length-i)/\E (sV d)/\Q (.own 1 (r.map iV) x1 x2 x3) (.own 1 (B4.map iV) N2 N1 N0)/\E (iL t.lk)/\E (iN t.lk.length)/\Q (iN (i+1)) (iN c9)/\True)) (((.sl false (V.A8 (r.map iV)):V)=.sl false (r.map iV))/\Q (.sl false (r.map iV)) (.sl false ((F6 t d).map iV)))) ([iV ((t.lk.getD i l7).ti)]:List V))) ?_
 intro g2
 refine⟨rfl,rfl,ht,?_⟩
 refine⟨fun j7=>?_,fun j7=>?_⟩
 try simp only[nb]at j7
 unfold Q
 rw[show F6 t d=[] from if_neg (by rw[j7];decide)]
 rfl
 try simp only[nb]at j7
 have hll:=ht.l
 refine⟨rfl,?_⟩
 refine⟨⟨(0,[],0,0,0),?_,rfl,rfl,rfl,by first | rfl | simp | (simp;omega),rfl,trivial⟩,?_⟩
 exact⟨by omega,rfl⟩
 rintro⟨i,r,x1,x2,x3⟩ ⟨h1,h2⟩
 have LC:r.length<=i:=by rw[h2];exact Bm ..
 refine⟨fun j9=>?_,fun j9=>?_⟩
 try simp only[nb]at j9
 have TH:=ht.la (t.lk.getD i l7) (bK (d:=l7) (by omega))
 have TV:=Jw j7 (i:=i) (by omega)
 refine⟨⟨by omega,aj (d:=l7) (by omega)⟩,trivial,?_⟩
 intro g7
 refine⟨rfl,rfl,rfl,⟨by have:=TH.1;omega,TH.2⟩,?_⟩
 intro g8
 refine⟨rfl,fun hG=>rfl,⟨fun h=>by rw[h] <;> rfl,fun _=>rfl⟩,?_⟩
 refine⟨fun l8=>?_,fun l8=>?_⟩
 try simp only[nb]at l8
 refine⟨rfl,rfl,trivial,rfl,by simp[aG,V.n,V.ns],by simp;omega,?_⟩
 intro KF MV M9
 refine⟨congrArg (V.own 1 · KF MV M9) (by simp),by omega,?_⟩
 refine⟨(i+1,r++[(t.lk.getD i l7).ti],KF,MV,M9),?_,?_,rfl,rfl,rfl,rfl,rfl,trivial⟩
 have UY:az (t.lk.getD i l7).ad=ai (t.lk.getD i l7).ad:=if_pos TV
 have Ou:=fA TV
 rw[UY]at l8
 rw[wW (by omega),h2]
 first
 | exact⟨by omega,by rw[if_pos (show av (t.lk.getD i l7).ad=d from l8.2)]⟩
 | exact⟨by omega,by rw[if_neg (fun c:av (t.lk.getD i l7).ad=d=>l8 Ou c),List.append_nil]⟩
 | exact⟨by omega,by rw[if_neg (fun c:av (t.lk.getD i l7).ad=d=>l8.elim (fun e=>by rw[Ou]at e;cases e) (fun e=>e c)),List.append_nil]⟩
 first | (solve | simp) | omega | (simp;omega)
 try simp only[nb]at l8
 refine⟨by omega,?_⟩
 refine⟨(i+1,r,x1,x2,x3),?_,?_,rfl,rfl,rfl,rfl,rfl,trivial⟩
 have UY:az (t.lk.getD i l7).ad=ai (t.lk.getD i l7).ad:=if_pos TV
 have Ou:=fA TV
 rw[UY]at l8
 rw[wW (by omega),h2]
 first
 | exact⟨by omega,by rw[if_pos (show av (t.lk.getD i l7).ad=d from l8.2)]⟩
 | exact⟨by omega,by rw[if_neg (fun c:av (t.lk.getD i l7).ad=d=>l8 Ou c),List.append_nil]⟩
 | exact⟨by omega,by rw[if_neg (fun c:av (t.lk.getD i l7).ad=d=>l8.elim (fun e=>by rw[Ou]at e;cases e) (fun e=>e c)),List.append_nil]⟩
 first | (solve | simp) | omega | (simp;omega)
 try simp only[nb]at j9
 refine⟨congrArg (V.sl false) (aL (fun _=>rfl) _),?_⟩
 unfold Q
 rw[show F6 t d=cls t.lk d from if_pos j7,h2,List.take_of_length_le (by omega)]
def qR(t:m5)(d:BL):r5 Tryz.prog:={ f:=17,args:=[cf t.na t.a8 t.hs t.se t.lk,sV d],H:=[],pre:=(G' t),res:=.sl false ((F6 t d).map iV),H':=[],ok:=fun h=>wB t d h }
end Go.Proofs.YtlclejemchbjiaaGreatDoor
namespace Go.Pd
open Go.Abs Go.Proofs.YtlclejemchbjiaaGreatDoor
theorem yE{w:List Pg}(hw:aq w=true)(hz:∀ i,n0 (w.getD i l4)):∀ (k:Nat) {t:m5},LU t->LU (F9 w k t)
 | 0,_,h=>h
 | k+1,t,h=>by
   unfold F9
   split
   rename_i hg;exact yE hw hz k (xB hw hz h hg)
   exact h
theorem HU{w:List Pg}{n:BL}{p:List BL}(hz:∀ i,n0 (w.getD i l4))(hn:n.length<=1000)(hl:p.length<=400)(ha:∀ x,x∈p->x.length<=1000/\m6 x)(h:(ao n p).isSome=true/\(aB w (oT (ao n p)) 400).isSome=true):G' (af w n p):=by
 obtain⟨hG,hW⟩:=ff h
 have hT:LU (af w n p):=by
  cases NC:ao n p with
  | none=>rw[NC]at h;cases h.1
  | some t=>
    have hS:=BJ hn hl ha
    have hh:=Bi (n:=n) hl
    unfold af
    rw[NC]at hS hh ⊢
    show LU (oT (aB w t 400))
    rw[kM rfl hW (fk NC)]
    exact yE hW hz _ (BT hS hh (fk NC))
 have h1:=hG.sn.2
 have h2:=hG.hl
 have h3:=eX hG
 refine⟨by rw[hG.na];exact hn,by omega,by omega,by omega,fun x hx=>?_,fun x hx=>?_,fun y hy=>?_⟩
 have:=jj (hG.se x hx);exact⟨by omega,this.2⟩
 obtain⟨k,hk,e⟩:=List.mem_iff_getElem.1 hx
 have:=jj (hG.al k hk).rd
 rw[List.getD_eq_getElem?_getD,List.getElem?_eq_getElem hk]at this
 subst e
 exact⟨Nat.le_trans this.1 (by omega),this.2⟩
 have hI:=hG.hi y hy
 have hS:=hT.t0.ha y hy
 have hs:=hT.t0.s
 have hgl:=hI.gl
 exact⟨hS.n,hS.r,hS.rp,by omega,by have:=hS.t;omega,fun x hx=>⟨(hS.ta x hx).1,(hS.ta x hx).2.1⟩⟩
theorem JR{w:List Pg}{n:BL}{t:m5}(h:GI w n t)(d:BL)(k:Nat):0<=(F6 t d).getD k 0/\(F6 t d).getD k 0<=5000:=by
 rcases Nat.lt_or_ge k (F6 t d).length with hk | hk
 have hm:(F6 t d).getD k 0∈F6 t d:=by
  rw[List.getD_eq_getElem?_getD,List.getElem?_eq_getElem hk];exact List.getElem_mem _
 generalize (F6 t d).getD k 0=x at *
 unfold F6 at hm
 split at hm
 obtain⟨q,q1,_,q3⟩:=tZ hm
 obtain⟨j,hj,e⟩:=List.mem_iff_getElem.1 q1
 have:=(h.al j hj).tm
 rw[List.getD_eq_getElem?_getD,List.getElem?_eq_getElem hj]at this
 subst e
 rw[<- q3];exact this
 cases hm
 rw[List.getD_eq_getElem?_getD,List.getElem?_eq_none hk]
 exact⟨Int.le_refl _,by decide⟩
theorem Im{w:List Pg}{n:BL}{t:m5}(h:GI w n t)(d:BL):(F6 t d).length<=360:=by
 have:=eX h
 unfold F6
 split
 have:=Bm t.lk t.lk.length d
 rw[List.take_of_length_le (Nat.le_refl _)]at this
 omega
 simp
theorem Jy{t:m5}{se:List BL}{y:l6}(h:HI t.lk se y){k:Nat}(hk:k+1<(F6 t y.na).length):(F6 t y.na).getD k 0+1<=(F6 t y.na).getD (k+1) 0/\(3<=k->(F6 t y.na).getD k 0+(y.gr.wa:Int)<=(F6 t y.na).getD (k+1) 0):=by
 unfold F6 at hk ⊢
 split at hk
 rename_i c;rw[if_pos c];exact h.wt k hk
 simp at hk
end Go.Pd
namespace Go.Proofs.YtlclejemchbjiaaGreatDoor
open Go Go.Abs Go.RowKit Go.Pd
set_option maxRecDepth 20000
theorem yh(b:BL)(ea:Addr)(hb:b.length<=9223372036854775807):PF Tryz.prog 8 [eK b] [(9000,(0,.lit (.iface 234 (.pointer (some ea)))))] (fun r h=>r=(bV true)/\h=[(9000,(0,.lit (.iface 234 (.pointer (some ea)))))]):=by
 refine aw (N:=99) (rs:=[.tmp 2]) Tryz.func8
  (.q 1<|.q 3<|.br (.q 1<|.nil) (.q 1<|.cx (bW b) [] (fun (a7:List Pg×BL×List BL)=>.q 7<|.q 3<|.c (eH a7.1 a7.2.1 a7.2.2 (400:Int) ea) [(9000,9000)]<|.mv<|.mv<|.q 1<|.al eN (fun g6=>.h (.fz 26)<|.h (.o9 26 (cf ((af a7.1 a7.2.1 a7.2.2).na) ((af a7.1 a7.2.1 a7.2.2).a8) ((af a7.1 a7.2.1 a7.2.2).hs) ((af a7.1 a7.2.1 a7.2.2).se) ((af a7.1 a7.2.1 a7.2.2).lk)))<|.st none<|.q 1<|.q 4<|.c (bZ a7.1 a7.2.1 a7.2.2) []<|.q 5<|.br (.q 4<|.c (bZ a7.1 a7.2.1 a7.2.2) []<|.q 2<|.nil) (.q 1<|.loop (Nat) (fun (i:Nat)=>⟨[(6,.ptr (.key 6) [] g6 0),(8,iN i)],[(6,(g6,cf ((af a7.1 a7.2.1 a7.2.2).na) ((af a7.1 a7.2.1 a7.2.2).a8) ((af a7.1 a7.2.1 a7.2.2).hs) ((af a7.1 a7.2.1 a7.2.2).se) ((af a7.1 a7.2.1 a7.2.2).lk))),(9000,(0,.lit (.iface 234 (.pointer (some ea)))))]⟩) (fun (i:Nat)=>i<=(af a7.1 a7.2.1 a7.2.2).hs.length) (fun (i:Nat)=>(af a7.1 a7.2.1 a7.2.2).hs.length-i) (fun (i:Nat)=>.r 5 [.b9]<|.br (.dx 8 [0,1,2,3,4,5,6,7] [(0,⟨false,[],some [6],[51],[]⟩),(2,⟨false,[],some [6],[53],[]⟩),(6,⟨false,[],some [],[57],[]⟩)] []<|.r 1 [.b9]<|.q 1<|.r 1 [.b9]<|.q 1<|.r 1 [gI ((((af a7.1 a7.2.1 a7.2.2).hs).getD i e9).na) ((((af a7.1 a7.2.1 a7.2.2).hs).getD i e9).re) ((((af a7.1 a7.2.1 a7.2.2).hs).getD i e9).kn) ((((af a7.1 a7.2.1 a7.2.2).hs).getD i e9).gr.na) ((((af a7.1 a7.2.1 a7.2.2).hs).getD i e9).gr.ru) ((((af a7.1 a7.2.1 a7.2.2).hs).getD i e9).gr.wa) ((((af a7.1 a7.2.1 a7.2.2).hs).getD i e9).tr) ((((af a7.1 a7.2.1 a7.2.2).hs).getD i e9).td)]<|.q 1<|.q 1<|.c (qR (af a7.1 a7.2.1 a7.2.2) ((((af a7.1 a7.2.1 a7.2.2).hs).getD i e9).na)) []<|.q 1<|.q 1<|.loop (Nat) (fun (k:Nat)=>⟨[(6,.ptr (.key 6) [] g6 0),(8,iN i),(9,.sl false ((F6 (af a7.1 a7.2.1 a7.2.2) ((af a7.1 a7.2.1 a7.2.2).hs.getD i e9).na).map iV)),(10,iN k)],[(6,(g6,cf ((af a7.1 a7.2.1 a7.2.2).na) ((af a7.1 a7.2.1 a7.2.2).a8) ((af a7.1 a7.2.1 a7.2.2).hs) ((af a7.1 a7.2.1 a7.2.2).se) ((af a7.1 a7.2.1 a7.2.2).lk))),(9000,(0,.lit (.iface 234 (.pointer (some ea)))))]⟩) (fun (k:Nat)=>1<=k) (fun (k:Nat)=>(F6 (af a7.1 a7.2.1 a7.2.2) ((af a7.1 a7.2.1 a7.2.2).hs.getD i e9).na).length-k) (fun (k:Nat)=>.q 4<|.br (.dx 11 [0,1,2,3,4,5,6,7,8,9,10] [(3,⟨false,[],some [],[68],[]⟩),(8,⟨false,[],some [],[73],[]⟩)] []<|.q 1<|.q 1<|.r 1 [iV ((F6 (af a7.1 a7.2.1 a7.2.2) ((af a7.1 a7.2.1 a7.2.2).hs.getD i e9).na).getD k 0)]<|.q 1<|.q 1<|.q 1<|.q 1<|.r 1 [iV ((F6 (af a7.1 a7.2.1 a7.2.2) ((af a7.1 a7.2.1 a7.2.2).hs.getD i e9).na).getD (Int.toNat ((k:Int)-1)) 0)]<|.q 1<|.q 1<|.q 1<|.br (.q 1<|.nil) (.q 3<|.dx 21 [0,1,2,3,4,5,6,7,8,9,10,11,12,13,14,15,16,17,18,19,20] [(5,⟨false,[],some [],[83],[]⟩),(10,⟨false,[],some [],[88],[]⟩),(13,⟨false,[],some [6],[91],[]⟩),(18,⟨false,[],some [],[96],[]⟩)] []<|.q 1<|.q 1<|.q 1<|.q 1<|.r 1 [iV ((F6 (af a7.1 a7.2.1 a7.2.2) ((af a7.1 a7.2.1 a7.2.2).hs.getD i e9).na).getD k 0)]<|.q 1<|.q 1<|.q 1<|.q 1<|.r 1 [iV ((F6 (af a7.1 a7.2.1 a7.2.2) ((af a7.1 a7.2.1 a7.2.2).hs.getD i e9).na).getD (Int.toNat ((k:Int)-1)) 0)]<|.q 1<|.q 1<|.q 1<|.r 1 [.b9]<|.q 1<|.r 1 [gI ((((af a7.1 a7.2.1 a7.2.2).hs).getD i e9).na) ((((af a7.1 a7.2.1 a7.2.2).hs).getD i e9).re) ((((af a7.1 a7.2.1 a7.2.2).hs).getD i e9).kn) ((((af a7.1 a7.2.1 a7.2.2).hs).getD i e9).gr.na) ((((af a7.1 a7.2.1 a7.2.2).hs).getD i e9).gr.ru) ((((af a7.1 a7.2.1 a7.2.2).hs).getD i e9).gr.wa) ((((af a7.1 a7.2.1 a7.2.2).hs).getD i e9).tr) ((((af a7.1 a7.2.1 a7.2.2).hs).getD i e9).td)]<|.q 1<|.q 1<|.q 1<|.q 1<|.q 1<|.br (.q 1<|.nil) (.q 3<|.nil))) (.q 3<|.nil))) (.q 1<|.nil)))))))
  ((fun v1:V=>(Br (s9 (((b.map n7).length:Nat):Int) 1048576) (Q (bV true) (bV true)/\Er 0 v1) ((bW b).sm/\((b.length<=9223372036854775807))/\∀ a7:List Pg×BL×List BL,(1<=a7.1.length/\a7.1.length<=30/\(∀ y,y∈a7.1->n0 y)/\a7.2.1.length<=5/\bq a7.2.1=true/\a7.2.2.length<=4/\(∀ y,y∈a7.2.2->y.length<=30/\m6 y))->(fun v2:V=>(fun v3:Bool=>(eH a7.1 a7.2.1 a7.2.2 (400:Int) ea).sm/\Er 0 v1/\((a7.1.length<=30)/\(∀ i,n0 (a7.1.getD i l4))/\(a7.2.1.length<=1000)/\(a7.2.2.length<=400)/\(∀ x,x∈a7.2.2->x.length<=1000/\m6 x))/\∀ g6:Nat,(fun v4:V=>((.agg [sV ((oT (aB a7.1 (oT (ao a7.2.1 a7.2.2)) (400:Int))).na),iV ((oT (aB a7.1 (oT (ao a7.2.1 a7.2.2)) (400:Int))).a8),.sl false (V.A8 (((oT (aB a7.1 (oT (ao a7.2.1 a7.2.2)) (400:Int))).hs).map aA)),.sl false (V.A8 (((oT (aB a7.1 (oT (ao a7.2.1 a7.2.2)) (400:Int))).se).map sV)),.sl false (V.A8 (((oT (aB a7.1 (oT (ao a7.2.1 a7.2.2)) (400:Int))).lk).map aN))]:V)=cf ((af a7.1 a7.2.1 a7.2.2).na) ((af a7.1 a7.2.1 a7.2.2).a8) ((af a7.1 a7.2.1 a7.2.2).hs) ((af a7.1 a7.2.1 a7.2.2).se) ((af a7.1 a7.2.1 a7.2.2).lk))/\Z g6 0/\(bZ a7.1 a7.2.1 a7.2.2).sm/\((a7.1.length<=30)/\(∀ i,n0 (a7.1.getD i l4))/\(a7.2.1.length<=1000)/\(a7.2.2.length<=400)/\(∀ x,x∈a7.2.2->x.length<=1000/\m6 x))/\Pk v3 true (v3==false)/\Br (v3||(!((ao a7.2.1 a7.2.2).isSome&&(aB a7.1 (oT (ao a7.2.1 a7.2.2)) (400:Int)).isSome))) ((bZ a7.1 a7.2.1 a7.2.2).sm/\((a7.1.length<=30)/\(∀ i,n0 (a7.1.getD i l4))/\(a7.2.1.length<=1000)/\(a7.2.2.length<=400)/\(∀ x,x∈a7.2.2->x.length<=1000/\m6 x))/\Q (bV (((ao a7.2.1 a7.2.2).isSome&&(aB a7.1 (oT (ao a7.2.1 a7.2.2)) (400:Int)).isSome)==((ao a7.2.1 a7.2.2).isSome&&aq a7.1))) (bV true)/\Er 0 v1) ((∃ j8:Nat,(j8<=(af a7.1 a7.2.1 a7.2.2).hs.length)/\E v4/\Q (iN 0) (iN j8)/\Er g6 v2/\Er 0 v1/\True)/\∀ i:Nat,(i<=(af a7.1 a7.2.1 a7.2.2).hs.length)->(fun v5:V=>(fun v6:V=>Z g6 2/\Br (s7 (i:Int) (((((af a7.1 a7.2.1 a7.2.2).hs).map bY).length:Nat):Int)) (Z g6 0/\Z g6 2/\Ex (i:Int) (((af a7.1 a7.2.1 a7.2.2).hs).map bY) v5/\True/\(qR (af a7.1 a7.2.1 a7.2.2) ((((af a7.1 a7.2.1 a7.2.2).hs).getD i e9).na)).sm/\((G' (af a7.1 a7.2.1 a7.2.2)))/\(∃ r6:Nat,(1<=r6)/\E v4/\E (iN i)/\Q (.sl false ((F6 (af a7.1 a7.2.1 a7.2.2) ((((af a7.1 a7.2.1 a7.2.2).hs).getD i e9).na)).map iV)) v6/\Q (iN 1) (iN r6)/\Er g6 v2/\Er 0 v1/\True)/\∀ k:Nat,(1<=k)->(fun v7:Bool=>Br (s7 (k:Int) ((((F6 (af a7.1 a7.2.1 a7.2.2) ((af a7.1 a7.2.1 a7.2.2).hs.getD i e9).na).map iV).length:Nat):Int)) (Ex (k:Int) ((F6 (af a7.1 a7.2.1 a7.2.2) ((af a7.1 a7.2.1 a7.2.2).hs.getD i e9).na).map iV) (iV ((F6 (af a7.1 a7.2.1 a7.2.2) ((af a7.1 a7.2.1 a7.2.2).hs.getD i e9).na).getD k 0))/\True/\m8 ((k:Int)-1)/\Ex ((k:Int)-1) ((F6 (af a7.1 a7.2.1 a7.2.2) ((af a7.1 a7.2.1 a7.2.2).hs.getD i e9).na).map iV) (iV ((F6 (af a7.1 a7.2.1 a7.2.2) ((af a7.1 a7.2.1 a7.2.2).hs.getD i e9).na).getD (Int.toNat ((k:Int)-1)) 0))/\True/\m8 (((F6 (af a7.1 a7.2.1 a7.2.2) ((af a7.1 a7.2.1 a7.2.2).hs.getD i e9).na).getD k 0)-((F6 (af a7.1 a7.2.1 a7.2.2) ((af a7.1 a7.2.1 a7.2.2).hs.getD i e9).na).getD (Int.toNat ((k:Int)-1)) 0))/\Br (s7 (((F6 (af a7.1 a7.2.1 a7.2.2) ((af a7.1 a7.2.1 a7.2.2).hs.getD i e9).na).getD k 0)-((F6 (af a7.1 a7.2.1 a7.2.2) ((af a7.1 a7.2.1 a7.2.2).hs.getD i e9).na).getD (Int.toNat ((k:Int)-1)) 0)) 1) (Q (bV false) (bV true)/\Er 0 v1) (Gd (v7==true) ((v7==true)=true)/\Gd (v7==true) ((v7==true)=true)/\Gd (v7==true) (Ex (k:Int) ((F6 (af a7.1 a7.2.1 a7.2.2) ((af a7.1 a7.2.1 a7.2.2).hs.getD i e9).na).map iV) (iV ((F6 (af a7.1 a7.2.1 a7.2.2) ((af a7.1 a7.2.1 a7.2.2).hs.getD i e9).na).getD k 0)))/\Gd (v7==true) ((v7==true)=true)/\Gd (v7==true) True/\Gd (v7==true) ((v7==true)=true)/\Gd (v7==true) (m8 ((k:Int)-1))/\Gd (v7==true) ((v7==true)=true)/\Gd (v7==true) ((v7==true)=true)/\Gd (v7==true) (Ex ((k:Int)-1) ((F6 (af a7.1 a7.2.1 a7.2.2) ((af a7.1 a7.2.1 a7.2.2).hs.getD i e9).na).map iV) (iV ((F6 (af a7.1 a7.2.1 a7.2.2) ((af a7.1 a7.2.1 a7.2.2).hs.getD i e9).na).getD (Int.toNat ((k:Int)-1)) 0)))/\Gd (v7==true) ((v7==true)=true)/\Gd (v7==true) True/\Gd (v7==true) ((v7==true)=true)/\Gd (v7==true) ((v7==true)=true)/\Gd (v7==true) (m8 (((F6 (af a7.1 a7.2.1 a7.2.2) ((af a7.1 a7.2.1 a7.2.2).hs.getD i e9).na).getD k 0)-((F6 (af a7.1 a7.2.1 a7.2.2) ((af a7.1 a7.2.1 a7.2.2).hs.getD i e9).na).getD (Int.toNat ((k:Int)-1)) 0)))/\Gd (v7==true) ((v7==true)=true)/\Gd (v7==true) (Z g6 2)/\Gd (v7==true) ((v7==true)=true)/\Gd (v7==true) ((v7==true)=true)/\Gd (v7==true) (Ex (i:Int) (((af a7.1 a7.2.1 a7.2.2).hs).map bY) v5)/\Gd (v7==true) ((v7==true)=true)/\Gd (v7==true) ((v7==true)=true)/\Gd (v7==true) ((v7==true)=true)/\Gd (v7==true) True/\Gd (v7==true) ((v7==true)=true)/\Gd (v7==true) ((v7==true)=true)/\Pk v7 (v7==true) true/\Br (v7&&(s7 (((F6 (af a7.1 a7.2.1 a7.2.2) ((af a7.1 a7.2.1 a7.2.2).hs.getD i e9).na).getD k 0)-((F6 (af a7.1 a7.2.1 a7.2.2) ((af a7.1 a7.2.1 a7.2.2).hs.getD i e9).na).getD (Int.toNat ((k:Int)-1)) 0)) (((((af a7.1 a7.2.1 a7.2.2).hs).getD i e9).gr.wa:Nat):Int))) (Q (bV false) (bV true)/\Er 0 v1) (m8 ((k:Int)+1)/\∃ k₂:Nat,(1<=k₂)/\((F6 (af a7.1 a7.2.1 a7.2.2) ((af a7.1 a7.2.1 a7.2.2).hs.getD i e9).na).length-k₂<(F6 (af a7.1 a7.2.1 a7.2.2) ((af a7.1 a7.2.1 a7.2.2).hs.getD i e9).na).length-k)/\E v4/\E (iN i)/\E v6/\Q (iN (k+1)) (iN k₂)/\Er g6 v2/\Er 0 v1/\True))) (m8 ((i:Int)+1)/\∃ c9:Nat,(c9<=(af a7.1 a7.2.1 a7.2.2).hs.length)/\((af a7.1 a7.2.1 a7.2.2).hs.length-c9<(af a7.1 a7.2.1 a7.2.2).hs.length-i)/\E v4/\Q (iN (i+1)) (iN c9)/\Er g6 v2/\Er 0 v1/\True)) (s9 (k:Int) 3)) (Q (bV true) (bV true)/\Er 0 v1)) (.sl false ((F6 (af a7.1 a7.2.1 a7.2.2) ((af a7.1 a7.2.1 a7.2.2).hs.getD i e9).na).map iV))) (gI ((((af a7.1 a7.2.1 a7.2.2).hs).getD i e9).na) ((((af a7.1 a7.2.1 a7.2.2).hs).getD i e9).re) ((((af a7.1 a7.2.1 a7.2.2).hs).getD i e9).kn) ((((af a7.1 a7.2.1 a7.2.2).hs).getD i e9).gr.na) ((((af a7.1 a7.2.1 a7.2.2).hs).getD i e9).gr.ru) ((((af a7.1 a7.2.1 a7.2.2).hs).getD i e9).gr.wa) ((((af a7.1 a7.2.1 a7.2.2).hs).getD i e9).tr) ((((af a7.1 a7.2.1 a7.2.2).hs).getD i e9).td)))) (.ptr (.key 6) [] g6 0)) (!(((ao a7.2.1 a7.2.2).isSome&&(aB a7.1 (oT (ao a7.2.1 a7.2.2)) (400:Int)).isSome)==((ao a7.2.1 a7.2.2).isSome&&aq a7.1)))) (cf ((af a7.1 a7.2.1 a7.2.2).na) ((af a7.1 a7.2.1 a7.2.2).a8) ((af a7.1 a7.2.1 a7.2.2).hs) ((af a7.1 a7.2.1 a7.2.2).se) ((af a7.1 a7.2.1 a7.2.2).lk))))) (.lit (.iface 234 (.pointer (some ea))))) ?_
 refine⟨fun j7=>?_,fun j7=>?_⟩
 try simp only[nb]at j7
 refine⟨?_,rfl⟩
 unfold Q
 rfl
 try simp only[nb]at j7
 refine⟨rfl,by omega,?_⟩
 intro a7 n6
 refine⟨rfl,rfl,⟨by omega,fun i=>eV n6.2.2.1 i,by omega,by omega,fun x hx=>⟨by have:=(n6.2.2.2.2.2.2 x hx).1;omega,(n6.2.2.2.2.2.2 x hx).2⟩⟩,?_⟩
 intro g6
 refine⟨by rw[gY,aL (f:=sV) (fun _=>rfl),aL (f:=aN) (fun _=>rfl),fF],rfl,rfl,⟨by omega,fun i=>eV n6.2.2.1 i,by omega,by omega,fun x hx=>⟨by have:=(n6.2.2.2.2.2.2 x hx).1;omega,(n6.2.2.2.2.2.2 x hx).2⟩⟩,⟨fun _=>rfl,fun h=>by rw[h] <;> rfl⟩,?_⟩
 refine⟨fun j9=>?_,fun j9=>?_⟩
 try simp only[nb]at j9
 refine⟨rfl,⟨by omega,fun i=>eV n6.2.2.1 i,by omega,by omega,fun x hx=>⟨by have:=(n6.2.2.2.2.2.2 x hx).1;omega,(n6.2.2.2.2.2.2 x hx).2⟩⟩,?_⟩
 refine⟨?_,rfl⟩
 unfold Q
 rw[cJ];simp
 try simp only[nb]at j9
 obtain⟨hG,hW⟩:=ff j9.2
 have SN:=hG.sn.2
 have Px:=hG.hl
 have TJ:=eX hG
 have hTS:=HU (fun i=>eV n6.2.2.1 i) (by omega) (by omega) (fun x hx=>⟨by have:=(n6.2.2.2.2.2.2 x hx).1;omega,(n6.2.2.2.2.2.2 x hx).2⟩) j9.2
 refine⟨⟨0,?_,rfl,rfl,rfl,rfl,trivial⟩,?_⟩
 simp
 rintro i h1
 refine⟨rfl,?_⟩
 refine⟨fun l8=>?_,fun l8=>?_⟩
 try simp only[nb]at l8
 have hI:=hG.hi _ (bK (d:=e9) (show i<(af a7.1 a7.2.1 a7.2.2).hs.length by omega))
 have V8:=JR hG ((af a7.1 a7.2.1 a7.2.2).hs.getD i e9).na
 have hcl:=Im hG ((af a7.1 a7.2.1 a7.2.2).hs.getD i e9).na
 refine⟨rfl,rfl,⟨by omega,aj (d:=e9) (by omega)⟩,trivial,rfl,hTS,?_⟩
 refine⟨⟨1,?_,rfl,rfl,by first | rfl | simp | (simp;omega),rfl,rfl,rfl,trivial⟩,?_⟩
 omega
 rintro k h2
 refine⟨fun o4=>?_,fun o4=>?_⟩
 try simp only[nb]at o4
 have No:=V8 k
 have M6:=V8 ((k:Int)-1).toNat
 have Uv:=Jy hI (k:=k-1) (by omega)
 rw[show k-1+1=k from by omega,show k-1=((k:Int)-1).toNat from by omega]at Uv
 refine⟨⟨by omega,aj (d:=0) (by omega)⟩,trivial,by omega,⟨by omega,aj (d:=0) (by omega)⟩,trivial,by omega,?_⟩
 refine⟨fun x4=>?_,fun x4=>?_⟩
 try simp only[nb]at x4
 have:=Uv.1
 omega
 try simp only[nb]at x4
 refine⟨fun h=>h,fun h=>h,fun hG=>⟨by omega,aj (d:=0) (by omega)⟩,fun h=>h,fun hG=>trivial,fun h=>h,fun hG=>by(try simp only[nb]at hG);omega,fun h=>h,fun h=>h,fun hG=>⟨by omega,aj (d:=0) (by omega)⟩,fun h=>h,fun hG=>trivial,fun h=>h,fun h=>h,fun hG=>by(try simp only[nb]at hG);omega,fun h=>h,fun hG=>rfl,fun h=>h,fun h=>h,fun hG=>⟨by omega,aj (d:=e9) (by omega)⟩,fun h=>h,fun h=>h,fun h=>h,fun hG=>trivial,fun h=>h,fun h=>h,⟨fun h=>by rw[h] <;> rfl,fun _=>rfl⟩,?_⟩
 refine⟨fun E'=>?_,fun E'=>?_⟩
 try simp only[nb]at E'
 have:=Uv.2 (by omega)
 omega
 try simp only[nb]at E'
 refine⟨by omega,?_⟩
 refine⟨k+1,?_,?_,rfl,rfl,rfl,rfl,rfl,rfl,trivial⟩
 omega
 first | (solve | simp) | omega | (simp;omega)
 try simp only[nb]at o4
 refine⟨by omega,?_⟩
 refine⟨i+1,?_,?_,rfl,rfl,rfl,rfl,trivial⟩
 omega
 first | (solve | simp) | omega | (simp;omega)
 try simp only[nb]at l8
 refine⟨?_,rfl⟩
 unfold Q
 rfl
end Go.Proofs.YtlclejemchbjiaaGreatDoor
namespace Go.Proofs.YtlclejemchbjiaaGreatDoor
open Go Go.ChangeShapes Go.WideShapes Go.ChangeAt Go.RowKit Go.Abs
theorem own:ownKnob Tryz.prog.godebug=none:=by kernel_rfl
theorem laidOut:laidOutB Tryz.prog=true:=by kernel_rfl
theorem dc:Tryz.prog.globalNamed "loop.example/pedlar/impl.errNoCall" =some 0:=by kernel_rfl
theorem dG:(Tryz.prog.globals[0]?).map (·.type)=some 113:=by kernel_rfl
theorem fw: "*" ++ "errors.errorString" = "*errors.errorString" :=by decide
theorem lE(u:TypeId) (h:Tryz.prog.typeName? 3 u=some "*errors.errorString"):u=234:=
 typeName_ptr_named (nm:= "errors.errorString") (by rw[fw];kernel_rfl) (by kernel_rfl) (by decide) u (by rw[fw];exact h)
theorem jz:Tryz.prog.cellsOf 257=1:=by kernel_rfl
theorem jo:Tryz.prog.cellsOf 9=1:=by kernel_rfl
set_option maxRecDepth 100000 in
theorem fnGoWait_lifted(os:Os)(started:os.Started)(H:Type)(enc:TypeId×Value->H):
 ReturnsInHanded {} Tryz.checked os 8 .any (fun w args=>(Rows.fnGoWaitSpec.pre enc Tryz.prog Tryz.f8 [] false w args/\laidMetH Tryz.prog Rows.fnGoWaitRow.laid w)/\sizedMet enc Tryz.prog Tryz.f8 (OpenSpec.ofChange Rows.fnGoWaitSpec) false w args)
  (Rows.fnGoWaitSpec.post enc Tryz.prog Tryz.f8 false true false false):=by
 refine returnsInHanded_of_change_and (C:=Tryz.checked) (X:=fun w _=>laidMetH Tryz.prog Rows.fnGoWaitRow.laid w) (fun _ _ _ hh h=>h.of_heap hh) own started (by kernel_rfl) Tryz.func8
  (ChangeSpec.witness_shaped (enc:=enc) (C:=Tryz.checked) (os:=os) (X:=fun w _=>laidMetH Tryz.prog Rows.fnGoWaitRow.laid w) false (World.laidAll Tryz.prog os Rows.fnGoWaitRow.laid) #[.slice none 0 0] 8 (World.laidAll_os _ _ _)
   (World.shaped_of_ZipB (by kernel_rfl) (by kernel_rfl)) (by kernel_rfl) (by kernel_rfl) (by kernel_rfl)
   (by rw[MakeChecks.laidMetH_plain _ _ _ (by kernel_rfl)];exact laidMet_laidAll _ (by kernel_rfl) (by kernel_rfl))) ?_
 intro W base args ds gs before E3 hW _ _ OR _
 have hL:laidMet Tryz.prog Rows.fnGoWaitRow.laid W:=by rw[<- MakeChecks.laidMetH_plain _ _ _ (by kernel_rfl)];exact OR
 have D7:∀ (j:Nat) t v,Tryz.f8.params[j]? =some t->args[j]? =some v->Value.okWide Tryz.prog W .any base t v:=E3
 have OO:=hW
 obtain⟨p,q,MI,OP,rfl,S9,hnd⟩:=hW
 have hV:DataW.TrodVars enc Tryz.prog W (fun _=>true) ["loop.example/pedlar/impl.errNoCall"] gs q:=OP
 have hA:DataW.TrodAll enc Tryz.prog W 0 (fun _=>true) true Tryz.f8.params.toList args.toList ds p:=MI
 rw[Tryz.params8]at hA D7
 obtain⟨v0,d0,rfl,rfl,h0⟩:=trodAll_one hA
 obtain⟨ea,s0,Ls,_,_,_⟩:=laid_sentinel hL.tail dc dG (ms:=_) (tp:=234) (te:=257) (ts:=9) Tryz.underlying113 lE Tryz.underlying234 Tryz.underlying257 rfl rfl Tryz.underlying9 jz jo
 obtain⟨bt,hbk⟩:=il hL.tail dc Ls
 obtain⟨rfl,rfl⟩:=hV.unique (vars_read1 enc dc dG Tryz.underlying113 Ls trivial _)
 obtain⟨a0,Og,OW,rfl⟩:=okWide_slice Tryz.underlying22 (D7 0 22 v0 rfl rfl)
 have Of:∀ x∈p,x.block<W.heap.size:=by obtain⟨m,hm⟩:=h0;exact DataW.trod_lt m _ _ _ hm
 obtain⟨b,rfl,hb,hv⟩:=jJ Tryz.underlying22 Tryz.underlying5 (by kernel_rfl) h0
 clear MI E3
 refine(ic yh hb hv hbk).mono fun e W' ⟨he,Ly⟩=>?_
 subst he
 have Lr:W'.var? Tryz.prog "loop.example/pedlar/impl.errNoCall" =some #[.iface 234 (.pointer (some ea))]:=by
  rw[<- Ls];unfold World.var?;rw[dc,Option.bind_some,Option.bind_some,Ly.block 0 (Array.getElem?_eq_some_iff.1 hbk).1]
 exact⟨_,rfl,_,_,_,[],p,[.cell 0 0],OO,trodAll_mk1 (shut_bool Tryz.underlying4 _),trodAll_mk1 (Below.trod laidOut (by kernel_rfl) (of_decide_eq_true (by kernel_rfl)) h0 Ly Of),vars_read1 enc dc dG Tryz.underlying113 Lr trivial _,Ly.frame _,fun h=>by cases h⟩
theorem fnGoWait_row:Rows.FnGoWaitSaid:=
 OpenClaim.holds_of_wide 8 Tryz.f8 rfl rfl rfl rfl rfl rfl rfl ⟨rfl,rfl,rfl,rfl,rfl⟩ rfl rfl rfl rfl rfl (by kernel_rfl) Tryz.func8 (by kernel_rfl)
  (of_decide_eq_true (by kernel_rfl)) (by unfold Func.isWrapper;first | (rw[if_pos (by decide +kernel)];kernel_rfl) | (rw[if_neg (by decide +kernel)];exact⟨rfl,rfl⟩))
  (fun os started H enc _=>fnGoWait_lifted os started H enc)
theorem fnGoWait_holds:Rows.FnGoWaitCardSaid:=
 Claim7.holds_tied_plain_at .later [] [.data,.sentinel,.pinned] true (true, "773da7cdef9f1d905ad203047b07641d812b42c072bd711d755cb144d4704509") true fnGoWait_row (fun _ h=>by cases h) (by kernel_rfl) (fun _ h=>by cases h) fnGoWait_row_tie rfl ⟨rfl,rfl⟩ (by kernel_rfl) rfl
  (fun f fn hf OG=>by
   obtain rfl:f=8:=Option.some.inj ((show Tryz.prog.funcNamed "loop.example/pedlar/laws.FnGoWait" =some 8 by kernel_rfl).symm.trans hf) |>.symm
   obtain rfl:fn=Tryz.f8:=(Option.some.inj (Tryz.func8.symm.trans OG)).symm
   exact⟨by kernel_rfl,fun j t ht=>by
    rw[Tryz.params8]at ht
    have hm:t∈[22]:=by simpa using Array.mem_of_getElem? ht
    have D4:([22].all fun u=>!Tryz.prog.wantsStandIn u)=true:=by kernel_rfl
    exact(show Tryz.prog.wantsStandIn t=false by simpa using List.all_eq_true.1 D4 t hm)⟩)
  (by kernel_rfl)
end Go.Proofs.YtlclejemchbjiaaGreatDoor
