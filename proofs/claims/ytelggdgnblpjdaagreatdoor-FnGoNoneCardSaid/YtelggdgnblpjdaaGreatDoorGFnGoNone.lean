/-
  laws.FnGoNone returns true for every input and leaves it as it was; conditions: the listed tables lie as the program's text lays them.
-/
import Derived.Test.YtelggdgnblpjdaaGreatDoorGE
import Derived.Laws.StructEq
import Derived.Test.YtelggdgnblpjdaaGreatDoorTie
import Derived.Test.YtelggdgnblpjdaaGreatDoorCards
set_option linter.unusedVariables false
set_option linter.unusedSimpArgs false
namespace Go.Proofs.YtelggdgnblpjdaaGreatDoor
open Go Go.RowKit
set_option maxRecDepth 20000
section
theorem ld{r:BL}(h:([47]++r).length<=60):av [⟨false,[47]⟩] ([47]++r)=false:=by
 have h0:an 42 (bU [47])=[[47]]:=Zad
 have h1:cB [47] ([47]++r)=true:=by
  unfold cB
  rw[show aI [47]=true from Zad,decide_eq_true h]
  unfold ra
  rw[h0]
  simp[ly,show fH [47]=false from Zad]
 have h2:cB [47] (47::r)=true:=h1
 simp[av,dX,h2]
theorem jj{s:BL}(h:aA s=true):av [⟨false,[47]⟩] (pathOf s)=false:=by
 have ha:=(eY (gX (dK h))).2.2.2.2.2
 unfold pathOf
 have e:bz (oA (aC s))=[47]++(cI (oA (aC s)).e9++(if (oA (aC s)).asks=true then [63]++(oA (aC s)).ask else [])):=by
  unfold bz;rw[List.append_assoc]
 rw[e]
 refine ld ?_
 rw[<- e]
 unfold cX at ha
 simp only[Zan,Zap,Zas]at ha ⊢
 omega
def BI(w:List Pg)(t:j6):Prop:= ∀ y,y∈t.hs->y.kn=true->(ae w (ag y.na) 2).1=3->y.td=[]/\y.gr.ru=[⟨false,[47]⟩]/\(cls t.lk y.na).length<=3
variable {w:List Pg} {n:BL}
theorem BI.call{t:j6} {i:Nat} {y':k9} {l:l5} {a7:Int} (hG:GI w n t) (h:BI w t) (hi:i<t.hs.length) (hl:ab l.ad=(t.hs.getD i c5).na)
 (hy:y'.kn=true->(ae w (ag y'.na) 2).1=3->y'.td=[]/\y'.gr.ru=[⟨false,[47]⟩]/\(cls (t.lk++[l]) y'.na).length<=3):BI w ⟨t.na,a7,t.hs.set i y',t.se,t.lk++[l]⟩:=fun z hz hk h3=>by
 rcases gG hG.nd hi hz with e | ⟨e,e2⟩
 subst e;exact hy hk h3
 obtain⟨a1,a2,a3⟩:=h z e hk h3
 refine⟨a1,a2,?_⟩
 show (cls (t.lk++[l]) z.na).length<=3
 rw[bH,if_neg (by rw[hl];exact fun c=>e2 c.symm),List.append_nil]
 exact a3
theorem BI.bX{t:j6}{s:BL}(h:BI w t):BI w (ah t s):=by
 by_cases hr:de t.se s
 case neg=>
  have e3:bT t.se s=t.se:=if_neg hr
  have e4:aN t.na t.hs t.se s=t.hs:=if_neg hr
  have:ah t s=t:=by unfold ah;rw[e3,e4]
  rw[this];exact h
 have e4:(ah t s).hs=(au t.hs (ab s) t.na).set (o8 t.hs (ab s)) (aX ((au t.hs (ab s) t.na).getD (o8 t.hs (ab s)) c5) s):=if_pos hr
 have hin:∀ y,y∈au t.hs (ab s) t.na->y.kn=true->(ae w (ag y.na) 2).1=3->y.td=[]/\y.gr.ru=[⟨false,[47]⟩]/\(cls t.lk y.na).length<=3:=fun y hy hk h3=>by
  unfold au at hy
  split at hy
  exact h y hy hk h3
  rcases Zav.1 hy with hy | hy
  exact h y hy hk h3
  rw[Zat.1 hy]at hk;simp[bq]at hk
 intro z hz hk h3
 rw[e4]at hz
 show z.td=[]/\z.gr.ru=_/\(cls t.lk z.na).length<=3
 rcases bg hz with e | e
 have u0:=hin _ (aj (d:=c5) (bL t.hs (ab s) t.na))
 generalize (au t.hs (ab s) t.na).getD (o8 t.hs (ab s)) c5=y at *
 subst e
 unfold aX at hk h3 ⊢
 split at hk
 rename_i c;rw[if_pos c]at h3 ⊢;exact u0 hk h3
 rename_i c
 exfalso
 rw[if_neg c]at h3
 have C3:y.kn=true:=hk
 have:=u0 C3 h3
 exact c ⟨C3,by rw[this.2.1];exact jj hr.1⟩
 exact hin z e hk h3
theorem BI.aW{l:List BL}:∀ {t:j6},BI w t->BI w (l.foldl ah t):=by
 induction l with
 | nil=>exact fun h=>h
 | cons a l ih=>exact fun h=>ih h.bX
end
section
def aV(gs:List l4):Nat:=(gs.map fun y=>y.ru.length).sum
def db(gs:List l4):Prop:= ∀ y,y∈gs->∀ r,r∈y.ru->aI r.path=true
theorem dM(l r:List l4):aV (l++r)=aV l+aV r:=by unfold aV;rw[Za9,List.sum_append]
theorem dZ(gs:List l4):gs=[]\/∃ l z,gs=l++[z]:=by
 by_cases h:gs=[]
 exact .inl h
 obtain⟨x,hx⟩:=jL h
 exact .inr ⟨x.1,x.2,hx⟩
theorem eH{gs:List l4}{f:l4->l4}{k:Nat}(hf:∀ z,(f z).ru.length<=z.ru.length+k):aV (cS gs f)<=aV gs+k:=by
 rcases dZ gs with h | ⟨l,z,h⟩
 subst h;simp[cS,aV]
 subst h
 rw[dv,dM,dM]
 have:=hf z
 simp only[aV,Zbc,List.map_nil,List.sum_cons,List.sum_nil]
 omega
theorem ju{gs:List l4}{w d:BL}{b:Bool}:aV (ey gs w d b).1<=aV gs+1:=by
 unfold ey
 split
 split
 rw[dM];simp[aV]
 exact Nat.le_trans (eH (k:=0) fun z=>Zba _) Zaa
 split
 simp only;omega
 split
 exact eH fun z=>by simp
 split
 exact Nat.le_trans (eH (k:=0) fun z=>Zba _) Zaa
 simp only;omega
theorem fm{gs:List l4}{f:l4->l4}(h:db gs)(hf:∀ z,(∀ r,r∈z.ru->aI r.path=true)->∀ r,r∈(f z).ru->aI r.path=true):db (cS gs f):=by
 rcases dZ gs with e | ⟨l,z,e⟩
 subst e;exact h
 subst e
 rw[dv]
 intro y hy
 rcases Zav.1 hy with hy | hy
 exact h y (List.mem_append_left _ hy)
 rw[Zat.1 hy]
 exact hf z (h z (List.mem_append_right _ (Zat.2 rfl)))
theorem kR{gs:List l4}{w d:BL}{b:Bool}(h:db gs):db (ey gs w d b).1:=by
 unfold ey
 split
 split
 intro y hy
 rcases Zav.1 hy with hy | hy
 exact h y hy
 rw[Zat.1 hy];intro r hr;simp at hr
 exact fm h fun z hz=>hz
 split
 exact h
 split
 rename_i c
 refine fm h fun z hz r hr=>?_
 rcases Zav.1 hr with hr | hr
 exact hz r hr
 rw[Zat.1 hr];exact c.2.1
 split
 exact fm h fun z hz=>hz
 exact h
theorem fw:∀ (l:List BL) (x:List l4×Bool),aV (l.foldl cf x).1<=aV x.1+l.length
 | [],x=>Zba _
 | a::l,x=>by
   have h1:=fw l (cf x a)
   have h2:aV (cf x a).1<=aV x.1+1:=ju
   simp only[List.foldl_cons,Zap]
   omega
theorem gy:∀ (l:List BL) (x:List l4×Bool),db x.1->db (l.foldl cf x).1
 | [],x,h=>h
 | a::l,x,h=>gy l (cf x a) (kR h)
theorem ee(t:BL):aV (ct t)<=40/\db (ct t):=by
 constructor
 have:=fw ((an 10 t).take 40) ([],false)
 have h2:=List.length_take_le 40 (an 10 t)
 simp only[aV,List.map_nil,List.sum_nil]at this
 unfold ct aV
 omega
 exact gy _ _ (fun y hy=>by simp at hy)
theorem ib(n:BL):∀ (gs:List l4) (x:(List r7×Nat)×Bool),db gs->(∀ r,r∈x.1.1->aI r.path=true)->
 (gs.foldl (bR n) x).1.1.length<=x.1.1.length+aV gs/\∀ r,r∈(gs.foldl (bR n) x).1.1->aI r.path=true
 | [],x,_,h=>⟨by simp[aV],h⟩
 | g::gs,x,hg,h=>by
   have hs:(bR n x g).1.1.length<=x.1.1.length+g.ru.length/\∀ r,r∈(bR n x g).1.1->aI r.path=true:=by
    unfold bR
    split
    refine⟨Zab,fun r hr=>?_⟩
    rcases Zav.1 hr with hr | hr
    exact h r hr
    exact hg g Zab r hr
    exact⟨Zaa,h⟩
   obtain⟨h1,h2⟩:=ib n gs (bR n x g) (fun y hy=>hg y (List.mem_cons_of_mem _ hy)) hs.2
   refine⟨?_,h2⟩
   have e:aV (g::gs)=g.ru.length+aV gs:=by simp[aV]
   rw[e]
   have:=hs.1
   simp only[List.foldl_cons]
   omega
theorem gg{gs:List l4}(n:BL)(h1:aV gs<=40)(h2:db gs):(eU gs n).ru.length<=40/\∀ r,r∈(eU gs n).ru->aI r.path=true:=by
 have key:∀ q,(Pv gs q).1.ru.length<=40/\∀ r,r∈(Pv gs q).1.ru->aI r.path=true:=fun q=>by
  obtain⟨a,b⟩:=ib q gs (([],0),false) h2 (fun r hr=>by simp at hr)
  exact⟨by unfold Pv;simp only[Zas]at a ⊢;omega,b⟩
 unfold eU
 split
 exact key n
 exact key [42]
theorem kY(k:Int)(t n:BL):(bC k t n).ru.length<=40/\∀ r,r∈(bC k t n).ru->aI r.path=true:=by
 unfold bC
 split
 exact gg n (ee t).1 (ee t).2
 split
 exact⟨Zab,fun r hr=>by rw[Zat.1 hr];decide⟩
 exact gg n (by simp[aV]) (fun y hy=>by simp at hy)
structure HO (n:BL) (y:k9):Prop where
 na:y.gr.na=[n]
 re:0<=y.re/\y.re<=5100
 tr:0<=y.tr/\y.tr<=2
 ru:y.gr.ru.length<=40/\∀ r,r∈y.gr.ru->aI r.path=true
 wa:y.gr.wa<=20
structure OI (t:j6):Prop where
 nm:aZ t.na=true
 nw:0<=t.a7/\t.a7<=5000
 hs:∀ y,y∈t.hs->HO t.na y
 ki:∀ q,q∈t.lk->0<=q.ki/\q.ki<=3/\0<=q.ti/\q.ti<=t.a7
 lt:∀ k,k+1<t.lk.length->(t.lk.getD k h9).ti<=(t.lk.getD (k+1) h9).ti
theorem im(w:List Pg)(a:BL)(n:Int):0<=(ae w a n).1/\(ae w a n).1<=3:=by
 unfold ae
 split
 exact⟨Int.le_refl _,Zad⟩
 split
 exact⟨Zad,Int.le_refl _⟩
 split <;> exact⟨by simp only;omega,by simp only;omega⟩
theorem fW{k:Int}:0<=cY k/\cY k<=8:=by
 unfold cY
 split
 omega
 split
 omega
 split <;> omega
variable {w:List Pg} {n:BL}
theorem OI.bX{t:j6}{s:BL}(h:OI t):OI (ah t s):=by
 refine⟨h.nm,h.nw,fun z hz=>?_,h.ki,h.lt⟩
 have hz:z∈aN t.na t.hs t.se s:=hz
 have hin:∀ y,y∈au t.hs (ab s) t.na->HO t.na y:=fun y hy=>by
  unfold au at hy
  split at hy
  exact h.hs y hy
  rcases Zav.1 hy with hy | hy
  exact h.hs y hy
  rw[Zat.1 hy]
  exact⟨rfl,by simp[bq],by simp[bq],⟨by simp[bq],fun r hr=>by simp[bq]at hr⟩,by simp[bq]⟩
 show HO t.na z
 unfold aN at hz
 split at hz
 rcases bg hz with e | e
 have hy:=hin _ (aj (d:=c5) (bL t.hs (ab s) t.na))
 rw[e]
 unfold aX
 split
 exact hy
 exact⟨hy.na,hy.re,hy.tr,hy.ru,hy.wa⟩
 exact hin z e
 exact h.hs z hz
theorem OI.aW{l:List BL}:∀ {t:j6},OI t->OI (l.foldl ah t):=by
 induction l with
 | nil=>exact fun h=>h
 | cons a l ih=>exact fun h=>ih h.bX
theorem OI.call{t:j6}{i:Nat}{y':k9}{l:l5}{a7:Int}(h:OI t)(hn:t.a7<=a7/\a7<=5000)(hy:HO t.na y')(hl:l.ti=a7)(hk:0<=l.ki/\l.ki<=3):OI ⟨t.na,a7,t.hs.set i y',t.se,t.lk++[l]⟩:=by
 have hno:=h.nw
 refine⟨h.nm,by simp only;omega,fun z hz=>?_,fun q hq=>?_,fun k L5=>?_⟩
 rcases bg hz with e | e
 rw[e];exact hy
 exact h.hs z e
 show 0<=q.ki/\q.ki<=3/\0<=q.ti/\q.ti<=a7
 rcases Zav.1 hq with hq | hq
 have:=h.ki q hq;omega
 rw[Zat.1 hq];omega
 show ((t.lk++[l]).getD k h9).ti<=((t.lk++[l]).getD (k+1) h9).ti
 have L5:k+1<(t.lk++[l]).length:=L5
 rw[Zan,Zbd]at L5
 have e1:∀ j,j<t.lk.length->(t.lk++[l]).getD j h9=t.lk.getD j h9:=fun j hj=>by
  rw[Zak,Za7 hj,<- Zak]
 rcases Nat.lt_or_ge (k+1) t.lk.length with c | c
 rw[e1 k Zaa,e1 _ c];exact h.lt k c
 have e2:(t.lk++[l]).getD (k+1) h9=l:=by
  rw[Zak,Za2 Zaa,show k+1-t.lk.length=0 from Zaa];rfl
 rw[e2,e1 k Zaa,hl]
 have:=h.ki _ (aj (d:=h9) (show k<t.lk.length by omega))
 omega
theorem gp{y:k9}{a7 k m:Int}(h:HO n y)(hn:0<=a7/\a7<=5000):HO n (cJ y a7 k m):=by
 refine⟨h.na,?_,h.tr,h.ru,h.wa⟩
 have:=h.wa
 have hb:=fW (k:=m+1)
 unfold cJ
 simp only
 split <;> constructor <;> omega
theorem iZ{t:j6}(hG:GI w n t)(h:OI t)(hg:D1 t=true):OI (y8 w t):=by
 have hx:=eR hg
 have hno:=h.nw
 have hw:0<=n6 t/\n6 t<=5000:=⟨Zaa,hx.2.2.2⟩
 have hy:=h.hs _ (aj (d:=c5) hx.1)
 have hI:=hG.hi _ (aj (d:=c5) hx.1)
 unfold y8
 split
 unfold I5
 simp only
 have hf:HO t.na (A6 w (t.hs.getD (j8 t) c5) (n6 t)):=gp (y:={ t.hs.getD (j8 t) c5 with td:=(t.hs.getD (j8 t) c5).td.drop 1 }) ⟨hy.na,hy.re,hy.tr,hy.ru,hy.wa⟩ hw
 have c1:∀ y',HO t.na y'->OI ⟨t.na,n6 t,t.hs.set (j8 t) y',t.se,t.lk++[⟨n6 t,((t.hs.getD (j8 t) c5).td.getD 0 j9).ad,(ae w ((t.hs.getD (j8 t) c5).td.getD 0 j9).ad ((t.hs.getD (j8 t) c5).td.getD 0 j9).tr).1⟩]⟩:=
  fun y' Pw=>OI.call h ⟨hx.2.2.1,hw.2⟩ Pw rfl (im _ _ _)
 split
 exact c1 _ ⟨hf.na,hf.re,hf.tr,hf.ru,hf.wa⟩
 split
 exact(c1 _ hf).aW
 exact c1 _ hf
 rename_i hk
 have hk:(t.hs.getD (j8 t) c5).kn=false:=by simpa using hk
 have I1:=hI.un hk
 unfold OT
 have c1:∀ y',HO t.na y'->OI ⟨t.na,n6 t,t.hs.set (j8 t) y',t.se,t.lk++[⟨n6 t,ag (t.hs.getD (j8 t) c5).na,(ae w (ag (t.hs.getD (j8 t) c5).na) (t.hs.getD (j8 t) c5).tr).1⟩]⟩:=
  fun y' Pw=>OI.call h ⟨hx.2.2.1,hw.2⟩ Pw rfl (im _ _ _)
 refine c1 _ ?_
 have h1:HO t.na (n9 w (t.hs.getD (j8 t) c5) (n6 t)):=gp hy hw
 unfold G'
 split
 rename_i c
 have c2:(t.hs.getD (j8 t) c5).tr+1<3:=c.2
 exact⟨h1.na,h1.re,⟨by show 0<=(t.hs.getD (j8 t) c5).tr+1;omega,by show (t.hs.getD (j8 t) c5).tr+1<=2;omega⟩,h1.ru,h1.wa⟩
 have s1:=kY (ae w (ag (t.hs.getD (j8 t) c5).na) 2).1 (ae w (ag (t.hs.getD (j8 t) c5).na) 2).2 t.na
 have s2:=hY (ae w (ag (t.hs.getD (j8 t) c5).na) 2).1 (ae w (ag (t.hs.getD (j8 t) c5).na) 2).2 t.na
 refine⟨rfl,?_,h1.tr,s1,s2⟩
 have h3:=h1.re
 have h4:(ba w t.na (t.hs.getD (j8 t) c5).na).wa<=20:=s2
 simp only
 omega
theorem km:∀ (k:Nat) {t:j6},GI w n t->OI t->OI (z6 w k t)
 | 0,_,_,h=>h
 | k+1,t,hG,h=>by
   unfold z6
   split
   rename_i hg;exact km k (eN hG hg) (iZ hG h hg)
   exact h
theorem iR{seeds:List BL}{t:j6}(h:aw n seeds=some t):OI t:=by
 unfold aw at h
 split at h
 rename_i c
 cases h
 exact OI.aW ⟨c.1,by simp[aG],fun y hy=>by simp[aG]at hy,fun q hq=>by simp[aG]at hq,fun k hk=>by simp[aG]at hk⟩
 cases h
theorem kI{t:j6}(hG:GI w n t)(h:OI t)(hl:t.lk.length<=400):ax t=true:=by
 have hI:∀ {a b c:Int},a<=b->b<=c->x4 b a c=true:=fun h1 h2=>decide_eq_true ⟨h1,h2⟩
 unfold ax
 simp only[Zam,Za0,Zbi]
 refine⟨⟨⟨⟨⟨h.nm,hI h.nw.1 h.nw.2⟩,?_⟩,?_⟩,fun y hy=>⟨?_,?_⟩⟩,hG.nd⟩
 unfold dk
 simp only[Zam,Za0,Zbi]
 exact⟨⟨hG.sn.2,hG.sn.1⟩,hG.se⟩
 unfold cH
 simp only[Zam,Za0,Zbi]
 refine⟨hl,fun k hk=>?_⟩
 have hk:=List.mem_range.1 hk
 have hq:=h.ki _ (aj (d:=h9) hk)
 refine⟨⟨⟨?_,hq.2.2.2⟩,hI hq.1 hq.2.1⟩,(hG.al k hk).rd⟩
 split
 exact hq.2.2.1
 have:=h.lt (k-1) Zaa
 rw[show k-1+1=k from Zaa]at this
 exact this
 have a:=h.hs y hy
 have b:=hG.hi y hy
 unfold dr
 rw[a.na]
 simp only[Zam]
 refine⟨⟨⟨⟨b.hn,hI a.re.1 a.re.2⟩,hI a.tr.1 a.tr.2⟩,Zab⟩,?_⟩
 split
 simp only[Zam,Zbi,Za0]
 exact⟨⟨a.ru.1,a.ru.2⟩,hI Zaa (by have:=a.wa;omega)⟩
 rename_i c
 have:=b.un (by simpa using c)
 rw[Zbi]
 exact⟨this.2.2.2.1,this.2.2.1⟩
 have hH:=hG.hi y hy
 unfold dg
 simp only[Zam,Za0,Zbi]
 refine⟨⟨?_,fun x hx=>?_⟩,hH.nd⟩
 have:=je (u:=t.se) hH.nd fun a ha=>by
  obtain⟨x,hx,e⟩:=List.mem_map.1 ha
  rw[<- e];exact(hH.it x hx).2.2.1
 simpa using this
 obtain⟨a1,a2,a3,a4,a5,_⟩:=hH.it x hx
 exact⟨⟨⟨a1,by simpa using a2⟩,by simpa using a3⟩,decide_eq_true ⟨a4,a5⟩⟩
end
section
structure KI (w:List Pg) (t:j6):Prop where
 gr:∀ y,y∈t.hs->y.kn=true->y.gr=ba w t.na y.na/\∀ x,x∈y.td->av y.gr.ru (pathOf x.ad)=true
 un:∀ y,y∈t.hs->y.kn=false->∀ q,q∈t.lk->ab q.ad=y.na->q.ad=ag y.na/\q.ki=3
 se:∀ s,s∈t.se->∃ y,y∈t.hs/\y.na=ab s
variable {w:List Pg} {n:BL}
theorem rG{t:j6}{i:Nat}(h:GI w n t)(hi:i<t.hs.length)(hk:(t.hs.getD i c5).kn=true)(hne:(t.hs.getD i c5).td≠[])(hr:(t.hs.getD i c5).re<=t.a7)(I7:0<=t.a7/\t.a7<=5000):GI w n ⟨t.na,t.a7,t.hs.set i (A6 w (t.hs.getD i c5) t.a7),t.se,t.lk++[⟨t.a7,((t.hs.getD i c5).td.getD 0 j9).ad,(ae w ((t.hs.getD i c5).td.getD 0 j9).ad ((t.hs.getD i c5).td.getD 0 j9).tr).1⟩]⟩:=by
 have hy:=h.hi _ (aj (d:=c5) hi)
 generalize u0:t.hs.getD i c5=y at *
 have G3:=List.length_pos_iff.2 hne
 have hit:=hy.it _ (aj (d:=j9) G3)
 have Qy:=nS hne
 have M3:(y.td.getD 0 j9).ad ∉ (y.td.drop 1).map (·.ad)/\((y.td.drop 1).map (·.ad)).Nodup:=by
  have:=hy.nd
  cases PX:y.td with
  | nil=>exact absurd PX hne
  | cons a r=>rw[PX]at this;simpa using List.nodup_cons.1 this
 generalize P6:y.td.getD 0 j9=x0 at *
 obtain⟨a1,a2,a3,a4,a5,a6⟩:=hit
 have OY:=np (y:={ y with td:=y.td.drop 1 }) (a7:=t.a7) (k:=(ae w x0.ad x0.tr).1) (m:=x0.tr) ⟨a4,a5⟩
 have hq:QL w t.lk ⟨t.a7,x0.ad,(ae w x0.ad x0.tr).1⟩:=by
  refine⟨fun c=>⟨(a6 c).1,by have:=(a6 c).2;show (Qt t.lk x0.ad).length<3;omega⟩,fun hc=>?_,fun q hq he h3=>?_,⟨_,rfl⟩,a1,I7⟩
  exfalso
  have:=hy.kn hk
  obtain⟨z,hz⟩:=List.exists_mem_of_ne_nil _ this
  obtain⟨q,q1,q2,_⟩:=oK hz
  exact hc q q1 (by rw[q2];exact a2.symm)
  have:=(hy.re q hq (by rw[he];exact a2)).2.1 h3
  show q.ti+3<=t.a7
  omega
 have hcl:cls (t.lk++[⟨t.a7,x0.ad,(ae w x0.ad x0.tr).1⟩]) y.na=cls t.lk y.na++[t.a7]:=by rw[bH,if_pos a2]
 have R1:∀ x,x∈y.td.drop 1->aA x.ad=true/\ab x.ad=y.na/\x.ad∈t.se/\0<=x.tr/\x.tr<=2/\(pathOf x.ad≠fX->(∀ q,q∈t.lk++[⟨t.a7,x0.ad,(ae w x0.ad x0.tr).1⟩]->q.ad=x.ad->q.ki=3)/\((Qt (t.lk++[⟨t.a7,x0.ad,(ae w x0.ad x0.tr).1⟩]) x.ad).length:Int)=x.tr):=fun x hx=>by
  have OG:x0.ad≠x.ad:=fun c=>M3.1 (by rw[c];exact List.mem_map.2 ⟨x,hx,rfl⟩)
  obtain⟨b1,b2,b3,b4,b5,b6⟩:=hy.it x (List.mem_of_mem_drop hx)
  refine⟨b1,b2,b3,b4,b5,fun hp=>⟨fun q hq he=>?_,?_⟩⟩
  rcases Zav.1 hq with hq | hq
  exact(b6 hp).1 q hq he
  rw[Zat.1 hq]at he;exact absurd he OG
  rw[kC,if_neg OG,List.append_nil];exact(b6 hp).2
 have I1:∀ {P:Prop},(y.kn=false->P):=fun c=>by rw[hk]at c;cases c
 have Oc:cls (t.lk++[⟨t.a7,x0.ad,(ae w x0.ad x0.tr).1⟩]) y.na≠[]:=by rw[hcl];simp
 have c1:GI w n ⟨t.na,t.a7,t.hs.set i (A6 w y t.a7),t.se,t.lk++[⟨t.a7,x0.ad,(ae w x0.ad x0.tr).1⟩]⟩:=by
  have S4:A6 w y t.a7=cJ { y with td:=y.td.drop 1 } t.a7 (ae w x0.ad x0.tr).1 x0.tr:=by unfold A6;rw[P6]
  rw[S4]
  obtain⟨k1,k2⟩:=hy.core (y':=cJ { y with td:=y.td.drop 1 } t.a7 (ae w x0.ad x0.tr).1 x0.tr) (l:=⟨t.a7,x0.ad,(ae w x0.ad x0.tr).1⟩) a2 rfl hr OY.1 OY.2.1 OY.2.2 (fun _=>rfl)
  refine h.call hi (by rw[u0];exact a2) hq (by rw[u0];rfl) ⟨hy.hn,R1,M3.2,hy.gl,I1,fun _=>Oc,k1,k2⟩ (.inr a3) ?_ I7.1
  rw[u0]
  show (if y.kn=true then 0 else 3-y.tr)+OF (y.td.drop 1)+1<=hp y
  unfold hp
  omega
 exact c1
theorem fj{hs:List k9}{d n:BL}{y:k9}(h:y∈hs):y∈au hs d n:=by
 unfold au
 split
 exact h
 exact List.mem_append_left _ h
theorem eQ{l:List k9}{i:Nat}{a:k9}(hi:i<l.length)(ha:a.na=(l.getD i c5).na){d:BL}(h:∃ y,y∈l/\y.na=d):∃ y,y∈l.set i a/\y.na=d:=by
 obtain⟨y,y1,y2⟩:=h
 have:d∈(l.set i a).map (·.na):=by
  rw[iz hi ha];exact List.mem_map.2 ⟨y,y1,y2⟩
 obtain⟨z,z1,z2⟩:=List.mem_map.1 this
 exact⟨z,z1,z2⟩
theorem KI.bX{t:j6}{s:BL}(hG:GI w n t)(h:KI w t):KI w (ah t s):=by
 by_cases hr:de t.se s
 case neg=>
  have e3:bT t.se s=t.se:=if_neg hr
  have e4:aN t.na t.hs t.se s=t.hs:=if_neg hr
  have:ah t s=t:=by unfold ah;rw[e3,e4]
  rw[this];exact h
 have e3:(ah t s).se=t.se++[s]:=if_pos hr
 have e4:(ah t s).hs=(au t.hs (ab s) t.na).set (o8 t.hs (ab s)) (aX ((au t.hs (ab s) t.na).getD (o8 t.hs (ab s)) c5) s):=if_pos hr
 have hlt:=bL t.hs (ab s) t.na
 have L4:=iS t.hs (ab s) t.na
 have O2:∀ y,y∈au t.hs (ab s) t.na->y.kn=true->y.gr=ba w t.na y.na/\∀ x,x∈y.td->av y.gr.ru (pathOf x.ad)=true:=fun y hy hk=>by
  unfold au at hy
  split at hy
  exact h.gr y hy hk
  rcases Zav.1 hy with hy | hy
  exact h.gr y hy hk
  rw[Zat.1 hy]at hk;simp[bq]at hk
 have I1:∀ y,y∈au t.hs (ab s) t.na->y.kn=false->∀ q,q∈t.lk->ab q.ad=y.na->q.ad=ag y.na/\q.ki=3:=fun y hy hk q hq he=>by
  unfold au at hy
  split at hy
  exact h.un y hy hk q hq he
  rename_i hc
  rcases Zav.1 hy with hy | hy
  exact h.un y hy hk q hq he
  exfalso
  rw[Zat.1 hy]at he
  obtain⟨z,z1,z2⟩:=(hG.lh q hq).1
  have he:ab q.ad=ab s:=he
  exact hc (List.findIdx_lt_length_of_exists ⟨z,z1,by simp[z2,he]⟩)
 have u0:=aj (d:=c5) hlt
 generalize hy:(au t.hs (ab s) t.na).getD (o8 t.hs (ab s)) c5=y at *
 refine⟨fun z hz hk=>?_,fun z hz hk q hq he=>?_,fun q hq=>?_⟩
 rw[e4]at hz
 show z.gr=ba w t.na z.na/\_
 rcases bg hz with e | e
 subst e
 unfold aX at hk ⊢
 split at hk
 rename_i c;rw[if_pos c];exact O2 y u0 hk
 rename_i c
 rw[if_neg c]
 have C3:y.kn=true:=hk
 obtain⟨a1,a2⟩:=O2 y u0 C3
 refine⟨a1,fun x hx=>?_⟩
 rcases Zav.1 hx with hx | hx
 exact a2 x hx
 rw[Zat.1 hx]
 cases hl:av y.gr.ru (pathOf s) with
 | true=>rfl
 | false=>exact absurd ⟨C3,hl⟩ c
 exact O2 z e hk
 rw[e4]at hz
 have hq:q∈t.lk:=hq
 rcases bg hz with e | e
 subst e
 rw[eB]at he ⊢
 refine I1 y u0 ?_ q hq he
 unfold aX at hk
 split at hk
 exact hk
 exact hk
 exact I1 z e hk q hq he
 rw[e4]
 rw[e3]at hq
 rcases Zav.1 hq with hq | hq
 obtain⟨z,z1,z2⟩:=h.se q hq
 exact eQ hlt (by rw[eB,hy]) ⟨z,fj z1,z2⟩
 rw[Zat.1 hq]
 exact⟨_,List.mem_set hlt _,by rw[eB,L4]⟩
theorem KI.aW{l:List BL}:∀ {t:j6},GI w n t->KI w t->KI w (l.foldl ah t):=by
 induction l with
 | nil=>exact fun _ h=>h
 | cons a l ih=>exact fun hG h=>ih hG.bX (h.bX hG)
theorem KI.call{t:j6} {i:Nat} {y':k9} {l:l5} {a7:Int} (hG:GI w n t) (h:KI w t) (hi:i<t.hs.length) (hl:ab l.ad=(t.hs.getD i c5).na) (L4:y'.na=(t.hs.getD i c5).na)
 (hg:y'.kn=true->y'.gr=ba w t.na y'.na/\∀ x,x∈y'.td->av y'.gr.ru (pathOf x.ad)=true)
 (hu:y'.kn=false->∀ q,q∈t.lk++[l]->ab q.ad=y'.na->q.ad=ag y'.na/\q.ki=3):KI w ⟨t.na,a7,t.hs.set i y',t.se,t.lk++[l]⟩:=by
 refine⟨fun z hz hk=>?_,fun z hz hk q hq he=>?_,fun q hq=>?_⟩
 rcases bg hz with e | e
 subst e;exact hg hk
 exact h.gr z e hk
 rcases gG hG.nd hi hz with e | ⟨e,e2⟩
 subst e;exact hu hk q hq he
 rcases Zav.1 hq with hq | hq
 exact h.un z e hk q hq he
 rw[Zat.1 hq,hl]at he
 exact absurd he.symm e2
 exact eQ hi L4 (h.se q hq)
theorem kf{t:j6}(hG:GI w n t)(h:KI w t)(hg:D1 t=true):KI w (y8 w t):=by
 have hx:=eR hg
 have hno:=hG.no
 have Qp:GI w n { t with a7:=n6 t }:=hG.at_ Zaa
 have h':KI w { t with a7:=n6 t }:=⟨h.gr,h.un,h.se⟩
 have hm:=aj (d:=c5) hx.1
 have hy:=hG.hi _ hm
 have S3:=h.gr _ hm
 have VQ:=h.un _ hm
 have PL:=eN hG hg
 unfold y8 at PL ⊢
 split
 rename_i hk
 rw[if_pos hk]at PL
 have hit:=hy.it _ (aj (d:=j9) (List.length_pos_iff.2 hx.2.1))
 have P6:=aj (d:=j9) (List.length_pos_iff.2 hx.2.1)
 obtain⟨g1,g2⟩:=S3 hk
 have V3:∀ {P:Prop},(t.hs.getD (j8 t) c5).kn=false->P:=fun c=>by rw[hk]at c;cases c
 unfold I5 at PL ⊢
 simp only at PL ⊢
 have cc:∀ y':k9,y'.na=(t.hs.getD (j8 t) c5).na->y'.kn=(t.hs.getD (j8 t) c5).kn->y'.gr=(t.hs.getD (j8 t) c5).gr->(∀ x,x∈y'.td->av y'.gr.ru (pathOf x.ad)=true)->
  KI w ⟨t.na,n6 t,t.hs.set (j8 t) y',t.se,t.lk++[⟨n6 t,((t.hs.getD (j8 t) c5).td.getD 0 j9).ad,(ae w ((t.hs.getD (j8 t) c5).td.getD 0 j9).ad ((t.hs.getD (j8 t) c5).td.getD 0 j9).tr).1⟩]⟩:=fun y' e1 e2 e3 e4=>
  KI.call (t:={ t with a7:=n6 t }) (i:=j8 t) (l:=⟨n6 t,((t.hs.getD (j8 t) c5).td.getD 0 j9).ad,(ae w ((t.hs.getD (j8 t) c5).td.getD 0 j9).ad ((t.hs.getD (j8 t) c5).td.getD 0 j9).tr).1⟩) Qp h' hx.1 hit.2.1 e1
   (fun _=>⟨by rw[e3,e1];exact g1,e4⟩) (fun c=>V3 (by rw[<- e2];exact c))
 split
 refine cc _ rfl rfl rfl fun x E'=>?_
 rcases Zav.1 E' with E' | E'
 exact g2 x (List.mem_of_mem_drop E')
 rw[Zat.1 E'];exact g2 ((t.hs.getD (j8 t) c5).td.getD 0 j9) P6
 rename_i c
 rw[if_neg c]at PL
 have c1:=cc (A6 w (t.hs.getD (j8 t) c5) (n6 t)) rfl rfl rfl fun x E'=>g2 x (List.mem_of_mem_drop E')
 have g3:GI w n ⟨t.na,n6 t,t.hs.set (j8 t) (A6 w (t.hs.getD (j8 t) c5) (n6 t)),t.se,t.lk++[⟨n6 t,((t.hs.getD (j8 t) c5).td.getD 0 j9).ad,(ae w ((t.hs.getD (j8 t) c5).td.getD 0 j9).ad ((t.hs.getD (j8 t) c5).td.getD 0 j9).tr).1⟩]⟩:=
  rG Qp hx.1 hk hx.2.1 (xc hg) ⟨by simp only;omega,hx.2.2.2⟩
 split
 exact c1.aW g3
 exact c1
 rename_i hk
 have hk:(t.hs.getD (j8 t) c5).kn=false:=by simpa using hk
 have R0:=eF hy.hn
 unfold OT
 refine KI.call (t:={ t with a7:=n6 t }) (i:=j8 t) (l:=⟨n6 t,ag (t.hs.getD (j8 t) c5).na,(ae w (ag (t.hs.getD (j8 t) c5).na) (t.hs.getD (j8 t) c5).tr).1⟩) Qp h' hx.1 R0 ?_ (fun C3=>?_) (fun C3 q hq he=>?_)
 unfold G';split <;> rfl
 unfold G' at C3 ⊢
 split at C3
 have:(t.hs.getD (j8 t) c5).kn=true:=C3
 rw[hk]at this;cases this
 rename_i c
 rw[if_neg c]
 refine⟨rfl,fun x E'=>?_⟩
 have:=(List.mem_filter.1 E').2
 unfold Oq at this
 rw[Zam]at this
 exact this.2
 unfold G' at C3 he ⊢
 split at C3
 rename_i c
 rw[if_pos c]at he ⊢
 have he:ab q.ad=(t.hs.getD (j8 t) c5).na:=he
 show q.ad=ag (t.hs.getD (j8 t) c5).na/\q.ki=3
 rcases Zav.1 hq with hq | hq
 exact VQ hk q hq he
 rw[Zat.1 hq];exact⟨rfl,c.1⟩
 cases C3
theorem kc{seeds:List BL}{t:j6}(h:aw n seeds=some t):KI w t:=by
 unfold aw at h
 split at h
 cases h
 exact KI.aW (w:=w) (n:=n) GI.zero ⟨fun y hy=>by simp[aG]at hy,fun y hy=>by simp[aG]at hy,fun q hq=>by simp[aG]at hq⟩
 cases h
end
section
def aF(L:List l5)(d:BL):Bool:=L.any fun q=>(ab q.ad==d)&&!((q.ad==ag d)&&decide (q.ki=3))
def cm(L:List l5)(l:l5):Bool:=(l.ad==ag (ab l.ad))&&!(aF L (ab l.ad))&&decide ((cls L (ab l.ad)).length<3)
def E0(L:List l5)(l:l5):Prop:=l.ki≠3/\cm L l=false
instance (L:List l5) (l:l5):Decidable (E0 L l):=by unfold E0;infer_instance
def aP(L:List l5):Nat->List BL
 | 0=>[]
 | i+1=>if E0 (L.take i) (L.getD i h9)/\(L.getD i h9).ad ∉ aP L i then aP L i++[(L.getD i h9).ad] else aP L i
def az(t:j6):List BL:=if ax t=true then aP t.lk t.lk.length else []
theorem fL{L:List l5}{a:BL}:∀ i,a∈aP L i↔∃ k,k<i/\(L.getD k h9).ad=a/\E0 (L.take k) (L.getD k h9)
 | 0=>by simp[aP]
 | i+1=>by
   have ih:=fL (L:=L) (a:=a) i
   have key:a∈aP L (i+1)↔a∈aP L i\/((L.getD i h9).ad=a/\E0 (L.take i) (L.getD i h9)):=by
    rw[aP]
    split
    rename_i c
    rw[Zav,Zat]
    exact⟨fun h=>h.imp id fun h=>⟨h.symm,c.1⟩,fun h=>h.imp id fun h=>h.1.symm⟩
    rename_i c
    refine⟨.inl,fun h=>?_⟩
    rcases h with h | ⟨h1,h2⟩
    exact h
    rcases Decidable.em ((L.getD i h9).ad∈aP L i) with q | q
    rw[<- h1];exact q
    exact absurd ⟨h2,q⟩ c
   rw[key,ih]
   constructor
   rintro (⟨k,k1,k2⟩ | h)
   exact⟨k,Zaa,k2⟩
   exact⟨i,Zaa,h⟩
   rintro⟨k,k1,k2⟩
   rcases Nat.lt_or_ge k i with c | c
   exact .inl ⟨k,c,k2⟩
   obtain rfl:k=i:=Zaa
   exact .inr k2
theorem fM(L:List l5):∀ i,(aP L i).length<=i
 | 0=>Zba _
 | i+1=>by
   have:=fM L i
   rw[aP]
   split
   simp;omega
   omega
def LI(w:List Pg)(t:j6):Prop:= ∀ k,k<t.lk.length->cm (t.lk.take k) (t.lk.getD k h9)=true\/(av (ba w t.na (ab (t.lk.getD k h9).ad)).ru (pathOf (t.lk.getD k h9).ad)=true/\(t.lk.getD k h9).ad∈t.se)
variable {w:List Pg} {n:BL}
theorem kU{s:BL}(hw:ai w=true)(hn:aZ n=true)(hs:aA s=true):dj w n s=av (ba w n (ab s)).ru (pathOf s):=by
 have h1:=dK hs
 have h2:cW (oA (aC s)).b7=true:=nT hs
 unfold dj
 rw[hw,hn,h1,show lM w (oA (aC s)).b7 n=_ from if_pos ⟨hw,h2,hn⟩]
 rfl
theorem jl{t:j6}{s x:BL}(h:x∈t.se):x∈(ah t s).se:=by
 show x∈bT t.se s
 unfold bT
 split
 exact List.mem_append_left _ h
 exact h
theorem LI.aW:∀ {l:List BL} {t:j6},LI w t->LI w (l.foldl ah t)
 | [],_,h=>h
 | s::l,t,h=>LI.aW (l:=l) (t:=ah t s) fun k hk=>(h k hk).imp id fun⟨a,b⟩=>⟨a,jl b⟩
theorem LI.call{t:j6}{hs:List k9}{l:l5}{a7:Int}(h:LI w t)(hl:cm t.lk l=true\/(av (ba w t.na (ab l.ad)).ru (pathOf l.ad)=true/\l.ad∈t.se)):LI w ⟨t.na,a7,hs,t.se,t.lk++[l]⟩:=fun k hk=>by
 have hk:k<(t.lk++[l]).length:=hk
 show cm ((t.lk++[l]).take k) ((t.lk++[l]).getD k h9)=true\/(av (ba w t.na (ab ((t.lk++[l]).getD k h9).ad)).ru (pathOf ((t.lk++[l]).getD k h9).ad)=true/\((t.lk++[l]).getD k h9).ad∈t.se)
 rw[Zan,Zbd]at hk
 rcases Nat.lt_or_ge k t.lk.length with c | c
 have:=h k c
 rw[List.take_append_of_le_length Zaa,Zak,Za7 c,<- Zak]
 exact this
 obtain rfl:k=t.lk.length:=Zaa
 have e:(t.lk++[l]).getD t.lk.length h9=l:=by
  rw[Zak,Za2 (Zba _)];simp
 rw[List.take_left,e]
 exact hl
theorem pa{t:j6}(hG:GI w n t)(hK:KI w t)(h:LI w t)(hg:D1 t=true):LI w (y8 w t):=by
 have hx:=eR hg
 have hm:=aj (d:=c5) hx.1
 have hI:=hG.hi _ hm
 unfold y8
 split
 rename_i hk
 have Tg:=hK.gr _ hm hk
 have P0:=aj (d:=j9) (List.length_pos_iff.2 hx.2.1)
 have hi:=hI.it _ P0
 have c1:∀ hs,LI w ⟨t.na,n6 t,hs,t.se,t.lk++[⟨n6 t,((t.hs.getD (j8 t) c5).td.getD 0 j9).ad,(ae w ((t.hs.getD (j8 t) c5).td.getD 0 j9).ad ((t.hs.getD (j8 t) c5).td.getD 0 j9).tr).1⟩]⟩:=fun hs=>by
  refine LI.call h (.inr ⟨?_,hi.2.2.1⟩)
  show av (ba w t.na (ab ((t.hs.getD (j8 t) c5).td.getD 0 j9).ad)).ru (pathOf ((t.hs.getD (j8 t) c5).td.getD 0 j9).ad)=true
  rw[hi.2.1,<- Tg.1]
  exact Tg.2 _ P0
 unfold I5
 simp only
 split
 exact c1 _
 split
 exact(c1 _).aW
 exact c1 _
 rename_i hk
 have hk:(t.hs.getD (j8 t) c5).kn=false:=by simpa using hk
 have I1:=hI.un hk
 have Rv:=hK.un _ hm hk
 unfold OT
 refine LI.call h (.inl ?_)
 have hd:=eF hI.hn
 have ho:aF t.lk (t.hs.getD (j8 t) c5).na=false:=by
  unfold aF
  rw[List.any_eq_false]
  intro q hq
  simp only[Zam,Zbj,Bool.not_eq_true',Bool.and_eq_false_iff,not_and]
  intro e
  obtain⟨a1,a2⟩:=Rv q hq e
  simp[a1,a2]
 unfold cm
 rw[hd,ho]
 simp only[beq_self_eq_true,Bool.not_false,Bool.true_and,Zbi]
 omega
theorem kD:∀ (k:Nat) {t:j6},GI w n t->KI w t->LI w t->LI w (z6 w k t)
 | 0,_,_,_,h=>h
 | k+1,t,hG,hK,h=>by
   unfold z6
   split
   rename_i hg;exact kD k (eN hG hg) (kf hG hK hg) (pa hG hK h hg)
   exact h
theorem pt{seeds:List BL}{t:j6}(h:aw n seeds=some t):LI w t:=by
 unfold aw at h
 split at h
 cases h
 exact LI.aW (t:=aG n) fun k hk=>by simp[aG]at hk
 cases h
end
def ay(w:List Pg)(n:BL)(p:List BL)(m:Int):j6:=oT (aR w (oT (aw n p)) m)
theorem jQ{w:List Pg}{n:BL}{p:List BL}{m:Int}:oT (aR w (oT (aw n p)) m)=ay w n p m:=rfl
theorem ez{w:List Pg}{n:BL}{p:List BL}{m:Int}(hm:x4 m 0 400=true):((aw n p).isSome&&(aR w (oT (aw n p)) m).isSome)=((aw n p).isSome&&ai w):=by
 cases h:aw n p with
 | none=>rfl
 | some t=>
   have:=fc h
   simp only[oT,Option.getD_some,Option.isSome_some,Bool.true_and]
   unfold aR
   rw[this,Bool.and_true,hm]
   cases ai w
   rfl
   rfl
theorem dc{w:List Pg}{n:BL}{p:List BL}{m:Int}(hm:x4 m 0 400=true)(h:(aw n p).isSome=true/\(aR w (oT (aw n p)) m).isSome=true):∃ t,aw n p=some t/\ai w=true/\ay w n p m=z6 w m.toNat t:=by
 have h2:=(ez hm).symm.trans (show ((aw n p).isSome&&(aR w (oT (aw n p)) m).isSome)=true by rw[h.1,h.2];rfl)
 unfold ay
 cases hn:aw n p with
 | none=>rw[hn]at h;cases h.1
 | some t=>
   have h3:ai w=true:=by
    rw[hn]at h2;exact h2
   refine⟨t,rfl,h3,?_⟩
   show oT (aR w t m)=_
   rw[pf hm h3 (fc hn)]
   rfl
theorem dy{w:List Pg}{n:BL}{p:List BL}{m:Int}(hm:x4 m 0 400=true)(h:(aw n p).isSome=true/\(aR w (oT (aw n p)) m).isSome=true):GI w n (ay w n p m)/\ai w=true:=by
 obtain⟨t,h1,h2,h3⟩:=dc hm h
 rw[h3]
 exact⟨qH _ (eA h1),h2⟩
theorem jA{w:List Pg}{n:BL}{t:j6}(h:GI w n t):(t.lk.length:Int)<=3*((t.se.length:Int)+t.hs.length):=by
 have:=h.po
 have:=qw (f:=hp) (l:=t.hs) fun y hy=>by
  have hI:=h.hi y hy
  have h1:=tU fun x hx=>(hI.it x hx).2.2.2.2.1
  unfold hp
  split
  omega
  rename_i c
  have:=hI.un (by simpa using c)
  omega
 omega
theorem da{w:List Pg}{n:BL}{t:j6}(h:GI w n t):t.lk.length<=360:=by
 have:=jA h
 have:=h.hl
 have:=h.sn.2
 omega
theorem jh{s:BL}(h:aA s=true):s.length<=60/\l8 s:=by
 constructor
 have:=dK h
 unfold aC at this
 split at this
 rename_i c;exact c.1
 cases this
 have:=h
 unfold aA at this
 rw[Zam,Zbj]at this
 rw[<- this.2];exact mH _
theorem iQ{L:List l5}{i:Nat}(hi:i<L.length):L.take (i+1)=L.take i++[L.getD i h9]:=by
 rw[List.take_succ_eq_append_getElem hi,Zak,Zar hi];rfl
theorem py(L:List l5)(i:Nat)(d:BL):(cls (L.take i) d).length<=i:=by
 unfold cls
 rw[Zaw]
 have:=List.length_filter_le (fun l:l5=>ab l.ad==d) (L.take i)
 have h2:=List.length_take_le i L
 omega
theorem ry{t:j6}{i:Nat}(h:ax t=true)(hi:i<t.lk.length):aA (t.lk.getD i h9).ad=true:=by
 unfold ax cH at h
 simp only[Zam,Za0,Zbi]at h
 exact(h.1.1.2.2 i (List.mem_range.2 hi)).2
theorem gu{w:List Pg}(hw:ai w=true)(hz:∀ i,m4 (w.getD i l9)):∀ (k:Nat) {t:j6},M5 t->M5 (z6 w k t)
 | 0,_,h=>h
 | k+1,t,h=>by
   unfold z6
   split
   rename_i hg;exact gu hw hz k (gV hw hz h hg)
   exact h
theorem sw{w:List Pg}{n:BL}{t:j6}(hG:GI w n t)(hT:M5 t)(hn:n.length<=1000):r5 t:=by
 have h1:=hG.sn.2
 have h2:=hG.hl
 have h3:=da hG
 refine⟨by rw[hG.na];exact hn,Zaa,Zaa,Zaa,fun x hx=>?_,fun x hx=>?_,fun y hy=>?_⟩
 have:=jh (hG.se x hx);exact⟨Zaa,this.2⟩
 obtain⟨k,hk,e⟩:=Zbe.1 hx
 have:=jh (hG.al k hk).rd
 rw[Zak,Zar hk]at this
 subst e
 exact⟨Nat.le_trans this.1 Zaa,this.2⟩
 have hI:=hG.hi y hy
 have hS:=hT.t0.ha y hy
 have hs:=hT.t0.s
 have hgl:=hI.gl
 exact⟨hS.n,hS.r,hS.rp,Zaa,by have:=hS.t;omega,fun x hx=>⟨(hS.ta x hx).1,(hS.ta x hx).2.1⟩⟩
theorem mr{w:List Pg}{n:BL}{p:List BL}{m:Int}(hm:x4 m 0 400=true)(hz:∀ i,m4 (w.getD i l9))(hn:n.length<=1000)(hl:p.length<=400)(ha:∀ x,x∈p->x.length<=1000/\l8 x)(h:(aw n p).isSome=true/\(aR w (oT (aw n p)) m).isSome=true):r5 (ay w n p m):=by
 obtain⟨hG,hW⟩:=dy hm h
 refine sw hG ?_ hn
 obtain⟨t,PK,_,h3⟩:=dc hm h
 have hS:=px hn hl ha
 have hh:=oW (n:=n) hl
 rw[PK]at hS hh
 rw[h3]
 exact gu hW hz _ (jC hS hh (fc PK))
section
def Pz(B:Int)(t:j6):Prop:= ∀ y,y∈t.hs->y.re<=B
theorem Pz.bX{t:j6}{s:BL}{B:Int}(hB:0<=B)(h:Pz B t):Pz B (ah t s):=by
 intro z hz
 have hz:z∈aN t.na t.hs t.se s:=hz
 unfold aN at hz
 split at hz
 have hin:∀ y,y∈au t.hs (ab s) t.na->y.re<=B:=fun y hy=>by
  unfold au at hy
  split at hy
  exact h y hy
  rcases Zav.1 hy with hy | hy
  exact h y hy
  rw[Zat.1 hy];exact hB
 rcases bg hz with e | e
 have:=hin _ (aj (d:=c5) (bL t.hs (ab s) t.na))
 rw[e]
 unfold aX
 split <;> exact this
 exact hin z e
 exact h z hz
def TM(i:Nat)(t:j6):Prop:=t.a7<=30*i/\Pz (30*i) t
theorem TM.aW{i:Nat}:∀ {l:List BL} {t:j6},TM i t->TM i (l.foldl ah t)
 | [],_,h=>h
 | s::l,t,h=>TM.aW (l:=l) (t:=ah t s) ⟨h.1,h.2.bX Zaa⟩
variable {w:List Pg} {n:BL}
theorem fu{y:k9}{a7 k m:Int}(h:y.gr.wa<=20):(cJ y a7 k m).re<=a7+28:=by
 have hb:=fW (k:=m+1)
 unfold cJ
 simp only
 split <;> omega
theorem lZ{t:j6}{i:Nat}(hO:OI t)(h:TM i t)(hg:D1 t=true):TM (i+1) (y8 w t):=by
 have hx:=eR hg
 have he:=uy hg
 have h1:=h.2 _ (aj (d:=c5) hx.1)
 have h2:=h.1
 have hy:=(hO.hs _ (aj (d:=c5) hx.1)).wa
 have hW:n6 t<=30*i:=Zaa
 have c1:∀ (y':k9) (l:l5),y'.re<=30*(i:Int)+30->TM (i+1) ⟨t.na,n6 t,t.hs.set (j8 t) y',t.se,t.lk++[l]⟩:=fun y' l Pw=>by
  refine⟨by show n6 t<=_;omega,fun z hz=>?_⟩
  rcases bg hz with e | e
  rw[e];omega
  have:=h.2 z e;omega
 unfold y8
 split
 unfold I5
 simp only
 have hf:(A6 w (t.hs.getD (j8 t) c5) (n6 t)).re<=n6 t+28:=fu hy
 split
 exact c1 _ _ (by show (A6 w (t.hs.getD (j8 t) c5) (n6 t)).re<=_;omega)
 split
 exact(c1 _ _ Zaa).aW
 exact c1 _ _ Zaa
 unfold OT
 refine c1 _ _ ?_
 have hf:(n9 w (t.hs.getD (j8 t) c5) (n6 t)).re<=n6 t+28:=fu hy
 show (G' w t.na (t.hs.getD (j8 t) c5) (n6 t)).re<=_
 unfold G'
 split
 show (n9 w (t.hs.getD (j8 t) c5) (n6 t)).re<=_;omega
 have s2:(ba w t.na (t.hs.getD (j8 t) c5).na).wa<=20:=hY (ae w (ag (t.hs.getD (j8 t) c5).na) 2).1 (ae w (ag (t.hs.getD (j8 t) c5).na) 2).2 t.na
 simp only
 omega
theorem EF(t:j6):∀ i,i<=t.hs.length->(J8 t i).1<0->∀ j,j<i->(t.hs.getD j c5).td=[]
 | 0,_,_,j,hj=>absurd hj Zaa
 | i+1,hi,h,j,hj=>by
   rw[lJ Zaa]at h
   unfold mq at h
   split at h
   simp only at h;omega
   rename_i c
   have h2:=EF t i Zaa h
   rcases Nat.lt_or_ge j i with q | q
   exact h2 j q
   obtain rfl:j=i:=Zaa
   by_cases e:(t.hs.getD j c5).td=[]
   exact e
   exact absurd ⟨e,.inl h⟩ c
theorem MO{t:j6}{i:Nat}(hG:GI w n t)(h:TM i t)(hi:i<=100)(hg:D1 t=false):∀ y,y∈t.hs->y.td=[]:=by
 have hl:=da hG
 unfold D1 at hg
 rw[Bool.and_eq_false_iff,decide_eq_false_iff_not]at hg
 rcases hg with hg | hg
 unfold jo at hg
 split at hg
 rename_i c
 have Zf:(J8 t t.hs.length).1<0:=by
  rcases c with c | c
  exact c
  rcases DO t _ (Zba _) with e | ⟨j,e1,e2⟩
  rw[e];decide
  exfalso
  have h1:=h.1
  have h2:(t.hs.getD j c5).re<=30*i:=by
   rcases Nat.lt_or_ge j t.hs.length with q | q
   exact h.2 _ (aj (d:=c5) q)
   rw[Zak,List.getElem?_eq_none q]
   show (0:Int)<=_;omega
  omega
 intro y hy
 obtain⟨j,hj,e⟩:=Zbe.1 hy
 have:=EF t _ (Zba _) Zf j hj
 rw[Zak,Zar hj]at this
 rw[<- e];exact this
 cases hg
 omega
structure WQ (w:List Pg) (n:BL) (i:Nat) (t:j6):Prop where
 gi:GI w n t
 oi:OI t
 ti:M5 t
 tm:TM i t
theorem WQ.step{t:j6}{i:Nat}(h:WQ w n i t)(hw:ai w=true)(hz:∀ i,m4 (w.getD i l9))(hg:D1 t=true):WQ w n (i+1) (y8 w t):=
 ⟨eN h.gi hg,iZ h.gi h.oi hg,gV hw hz h.ti hg,lZ h.oi h.tm hg⟩
theorem WQ.ok{t:j6}{i:Nat}(h:WQ w n i t):ax t=true:=kI h.gi h.oi (by have:=da h.gi;omega)
theorem WQ.new{p:List BL}{t:j6}(h:aw n p=some t)(hS:r5 t)(hh:t.hs.length<=900):WQ w n 0 t:=by
 have hk:=fc h
 refine⟨eA h,iR h,jC hS hh hk,?_⟩
 unfold aw at h
 split at h
 cases h
 exact TM.aW (t:=aG n) ⟨Int.le_refl _,fun y hy=>by simp[aG]at hy⟩
 cases h
end
section
def D4(L:List l5)(k:Nat):Prop:=k<L.length/\E0 (L.take k) (L.getD k h9)
def dL(w:List Pg)(seeds:List BL)(L:List l5)(s:BL):Prop:=s∈seeds\/∃ k,D4 L k/\s∈bc w (L.getD k h9).ad
structure CI (w:List Pg) (seeds A9:List BL) (t:j6):Prop where
 gr:∀ y,y∈t.hs->y.kn=true->y.gr=ba w t.na y.na
 kn:∀ y,y∈t.hs->y.kn=true->aF t.lk y.na=true\/3<=(cls t.lk y.na).length
 kd:∀ q,q∈t.lk->q.ki≠3->(ae w q.ad 2).1=q.ki
 sr:∀ s,s∈t.se->dL w seeds t.lk s
 he:t.se.length<60->(∀ s,s∈seeds->aA s=true->s∈t.se\/s∈A9)/\∀ k,D4 t.lk k->∀ x,x∈bc w (t.lk.getD k h9).ad->aA x=true->x∈t.se\/x∈A9
 di:∀ s,s∈t.se->(∃ y,y∈t.hs/\∃ x,x∈y.td/\x.ad=s)\/av (ba w t.na (ab s)).ru (pathOf s)=false\/(∃ k,D4 t.lk k/\(t.lk.getD k h9).ad=s)\/(ae w s 2).1=3
 ro:∀ k,D4 t.lk k->dL w seeds (t.lk.take k) (t.lk.getD k h9).ad
theorem cG{L r:List l5}{k:Nat}(h:D4 L k):D4 (L++r) k/\(L++r).getD k h9=L.getD k h9:=by
 have e1:(L++r).getD k h9=L.getD k h9:=by
  rw[Zak,Za7 h.1,<- Zak]
 refine⟨⟨by rw[Zan];have:=h.1;omega,?_⟩,e1⟩
 rw[e1,List.take_append_of_le_length (Nat.le_of_lt h.1)]
 exact h.2
theorem fZ{L:List l5}{l:l5}{k:Nat}(h:D4 (L++[l]) k):D4 L k\/(k=L.length/\E0 L l):=by
 obtain⟨h1,h2⟩:=h
 rw[Zan,Zbd]at h1
 rcases Nat.lt_or_ge k L.length with c | c
 rw[List.take_append_of_le_length Zaa,Zak,Za7 c,<- Zak]at h2
 exact .inl ⟨c,h2⟩
 obtain rfl:k=L.length:=Zaa
 have e:(L++[l]).getD L.length h9=l:=by
  rw[Zak,Za2 (Zba _)];simp
 rw[List.take_left,e]at h2
 exact .inr ⟨rfl,h2⟩
theorem cN{L:List l5}{l:l5}(h:E0 L l):D4 (L++[l]) L.length/\(L++[l]).getD L.length h9=l:=by
 have e:(L++[l]).getD L.length h9=l:=by
  rw[Zak,Za2 (Zba _)];simp
 refine⟨⟨Zab,?_⟩,e⟩
 rw[List.take_left,e];exact h
theorem kK{w:List Pg}{seeds:List BL}{L r:List l5}{s:BL}(h:dL w seeds L s):dL w seeds (L++r) s:=
 h.imp id fun⟨k,h1,h2⟩=>⟨k,(cG h1).1,by rw[(cG h1).2];exact h2⟩
theorem iP{w:List Pg}{a:BL}{k:Int}(hk:k<=2)(h:(ae w a k).1≠3):ae w a k=ae w a 2:=by
 unfold ae at h ⊢
 by_cases hf:(C5 w a).2=false
 rw[if_pos hf,if_pos hf]
 rw[if_neg hf]at h ⊢
 rw[if_neg hf]
 split at h
 exact absurd rfl h
 rename_i c
 rw[if_neg c,if_neg (show ¬ (2:Int)<(C5 w a).1.m5 by omega)]
theorem eJ{t:j6}{s:BL}{z:k9}(hz:z∈(ah t s).hs)(hk:z.kn=true):∃ y,y∈t.hs/\y.na=z.na/\y.kn=true/\y.gr=z.gr:=by
 have hz:z∈aN t.na t.hs t.se s:=hz
 unfold aN at hz
 split at hz
 have hin:∀ y,y∈au t.hs (ab s) t.na->y.kn=true->y∈t.hs:=fun y hy hk=>by
  unfold au at hy
  split at hy
  exact hy
  rcases Zav.1 hy with hy | hy
  exact hy
  rw[Zat.1 hy]at hk;simp[bq]at hk
 rcases bg hz with e | e
 have u0:=aj (d:=c5) (bL t.hs (ab s) t.na)
 generalize (au t.hs (ab s) t.na).getD (o8 t.hs (ab s)) c5=y at *
 have q:z.kn=y.kn/\y.na=z.na/\y.gr=z.gr:=by
  subst e;unfold aX;split <;> exact⟨rfl,rfl,rfl⟩
 exact⟨y,hin y u0 (by rw[<- q.1];exact hk),q.2.1,by rw[<- q.1];exact hk,q.2.2⟩
 exact⟨z,hin z e hk,rfl,hk,rfl⟩
 exact⟨z,hz,rfl,hk,rfl⟩
theorem kM{t:j6}{s:BL}{y:k9}{x:w5}(hy:y∈t.hs)(hx:x∈y.td):∃ z,z∈(ah t s).hs/\x∈z.td:=by
 show ∃ z,z∈aN t.na t.hs t.se s/\x∈z.td
 unfold aN
 split
 obtain⟨j,hj,e⟩:=Zbe.1 (fj (d:=ab s) (n:=t.na) hy)
 by_cases c:o8 t.hs (ab s)=j
 refine⟨_,Zbe.2 ⟨o8 t.hs (ab s),by rw[List.length_set];exact bL ..,List.getElem_set_self ..⟩,?_⟩
 have e2:(au t.hs (ab s) t.na).getD (o8 t.hs (ab s)) c5=y:=by
  rw[c,Zak,Zar hj];exact e
 rw[e2]
 unfold aX
 split
 exact hx
 exact List.mem_append_left _ hx
 exact⟨y,Zbe.2 ⟨j,by rw[List.length_set];exact hj,by rw[List.getElem_set_ne c];exact e⟩,hx⟩
 exact⟨y,hy,hx⟩
theorem jg{t:j6}{s:BL}(hr:de t.se s):(∃ z,z∈(ah t s).hs/\∃ x,x∈z.td/\x.ad=s)\/∃ y,y∈t.hs/\y.kn=true/\y.na=ab s/\av y.gr.ru (pathOf s)=false:=by
 have e4:(ah t s).hs=(au t.hs (ab s) t.na).set (o8 t.hs (ab s)) (aX ((au t.hs (ab s) t.na).getD (o8 t.hs (ab s)) c5) s):=if_pos hr
 have hm:aX ((au t.hs (ab s) t.na).getD (o8 t.hs (ab s)) c5) s∈(ah t s).hs:=by
  rw[e4]
  exact Zbe.2 ⟨o8 t.hs (ab s),by rw[List.length_set];exact bL ..,List.getElem_set_self ..⟩
 have u0:=aj (d:=c5) (bL t.hs (ab s) t.na)
 have L4:=iS t.hs (ab s) t.na
 generalize (au t.hs (ab s) t.na).getD (o8 t.hs (ab s)) c5=y at *
 by_cases c:y.kn=true/\av y.gr.ru (pathOf s)=false
 refine .inr ⟨y,?_,c.1,L4,c.2⟩
 unfold au at u0
 split at u0
 exact u0
 rcases Zav.1 u0 with h | h
 exact h
 have:=c.1
 rw[Zat.1 h]at this;simp[bq]at this
 refine .inl ⟨_,hm,⟨s,0⟩,?_,rfl⟩
 unfold aX
 rw[if_neg c]
 exact List.mem_append_right _ (Zat.2 rfl)
variable {w:List Pg} {n:BL} {seeds:List BL}
theorem CI.bX{l:List BL}{s:BL}{t:j6}(h:CI w seeds (s::l) t)(hs:dL w seeds t.lk s):CI w seeds l (ah t s):=by
 by_cases hr:de t.se s
 case neg=>
  have e3:bT t.se s=t.se:=if_neg hr
  have e4:aN t.na t.hs t.se s=t.hs:=if_neg hr
  have:ah t s=t:=by unfold ah;rw[e3,e4]
  rw[this]
  have key:t.se.length<60->∀ x,aA x=true->x∈t.se\/x∈s::l->x∈t.se\/x∈l:=fun hl x ha c=>by
   rcases c with c | c
   exact .inl c
   rcases List.mem_cons.1 c with e | c
   subst e
   exact .inl (Decidable.byContradiction fun q=>hr ⟨ha,hl,q⟩)
   exact .inr c
  exact⟨h.gr,h.kn,h.kd,h.sr,fun hl=>⟨fun x hx ha=>key hl x ha ((h.he hl).1 x hx ha),fun k hk x hx ha=>key hl x ha ((h.he hl).2 k hk x hx ha)⟩,h.di,h.ro⟩
 have e3:(ah t s).se=t.se++[s]:=if_pos hr
 have key:(t.se++[s]).length<60->t.se.length<60:=fun h=>by rw[Zan,Zbd]at h;omega
 have OD:∀ x,x∈t.se\/x∈s::l->x∈t.se++[s]\/x∈l:=fun x c=>by
  rcases c with c | c
  exact .inl (List.mem_append_left _ c)
  rcases List.mem_cons.1 c with e | c
  exact .inl (List.mem_append_right _ (Zat.2 e))
  exact .inr c
 refine⟨fun z hz hk=>?_,fun z hz hk=>?_,h.kd,fun x hx=>?_,fun hl=>?_,fun x hx=>?_,h.ro⟩
 obtain⟨y,y1,y2,y3,y4⟩:=eJ hz hk
 rw[<- y4,<- y2];exact h.gr y y1 y3
 obtain⟨y,y1,y2,y3,y4⟩:=eJ hz hk
 rw[<- y2];exact h.kn y y1 y3
 rw[e3]at hx
 rcases Zav.1 hx with hx | hx
 exact h.sr x hx
 rw[Zat.1 hx];exact hs
 rw[e3]at hl ⊢
 exact⟨fun x hx ha=>OD x ((h.he (key hl)).1 x hx ha),fun k hk x hx ha=>OD x ((h.he (key hl)).2 k hk x hx ha)⟩
 rw[e3]at hx
 rcases Zav.1 hx with hx | hx
 rcases h.di x hx with ⟨y,y1,q,q1,q2⟩ | c
 obtain⟨z,z1,z2⟩:=kM (s:=s) y1 q1
 exact .inl ⟨z,z1,q,z2,q2⟩
 exact .inr c
 rw[Zat.1 hx]
 rcases jg hr with c | ⟨y,y1,y2,y3,y4⟩
 exact .inl c
 rw[h.gr y y1 y2,y3]at y4
 exact .inr (.inl y4)
theorem CI.aW:∀ {l:List BL} {t:j6},CI w seeds l t->(∀ s,s∈l->dL w seeds t.lk s)->CI w seeds [] (l.foldl ah t)
 | [],_,h,_=>h
 | s::l,t,h,hs=>CI.aW (l:=l) (t:=ah t s) (h.bX (hs s Zab)) fun x hx=>hs x (List.mem_cons_of_mem _ hx)
theorem gQ{L:List l5}{l:l5}{d:BL}(h:aF L d=true):aF (L++[l]) d=true:=by
 unfold aF at *
 rw[List.any_append,h,Bool.true_or]
theorem CI.call{A9:List BL} {t:j6} {i:Nat} {y':k9} {l:l5} {a7:Int} (h:CI w seeds [] t) (hi:i<t.hs.length)
 (hg:y'.kn=true->y'.gr=ba w t.na y'.na/\(aF (t.lk++[l]) y'.na=true\/3<=(cls (t.lk++[l]) y'.na).length)) (hk:l.ki≠3->(ae w l.ad 2).1=l.ki) (hp:E0 t.lk l->l.ad∈t.se/\∀ x,x∈bc w l.ad->x∈A9)
 (ht:∀ x,x∈(t.hs.getD i c5).td->(∃ x',x'∈y'.td/\x'.ad=x.ad)\/av (ba w t.na (ab x.ad)).ru (pathOf x.ad)=false\/(E0 t.lk l/\l.ad=x.ad)\/(ae w x.ad 2).1=3):
 CI w seeds A9 ⟨t.na,a7,t.hs.set i y',t.se,t.lk++[l]⟩:=by
 refine⟨fun z hz I0=>?_,fun z hz I0=>?_,fun q hq=>?_,fun s hs=>kK (h.sr s hs),fun hl=>⟨fun s hs ha=>?_,fun k hk x hx ha=>?_⟩,fun s hs=>?_,fun k hk=>?_⟩
 rcases bg hz with e | e
 subst e;exact(hg I0).1
 exact h.gr z e I0
 rcases bg hz with e | e
 subst e;exact(hg I0).2
 rcases h.kn z e I0 with c | c
 exact .inl (gQ c)
 refine .inr ?_
 show 3<=(cls (t.lk++[l]) z.na).length
 rw[bH,Zan];omega
 rcases Zav.1 hq with hq | hq
 exact h.kd q hq
 rw[Zat.1 hq];exact hk
 rcases (h.he hl).1 s hs ha with c | c
 exact .inl c
 simp at c
 have hx:x∈bc w ((t.lk++[l]).getD k h9).ad:=hx
 rcases fZ hk with c | ⟨c1,c2⟩
 rw[(cG c).2]at hx
 rcases (h.he hl).2 k c x hx ha with c | c
 exact .inl c
 simp at c
 rw[c1,(cN c2).2]at hx
 exact .inr ((hp c2).2 x hx)
 rcases h.di s hs with ⟨y,y1,x,x1,x2⟩ | c | ⟨k,k1,k2⟩ | c
 obtain⟨j,hj,e⟩:=Zbe.1 y1
 by_cases c:i=j
 have e2:t.hs.getD i c5=y:=by
  rw[c,Zak,Zar hj];exact e
 rw[e2]at ht
 subst x2
 rcases ht x x1 with ⟨x',c1,c2⟩ | c | ⟨c1,c2⟩ | c
 exact .inl ⟨y',Zbe.2 ⟨i,by rw[List.length_set];exact hi,List.getElem_set_self ..⟩,x',c1,c2⟩
 exact .inr (.inl c)
 exact .inr (.inr (.inl ⟨_,(cN c1).1,by rw[(cN c1).2];exact c2⟩))
 exact .inr (.inr (.inr c))
 exact .inl ⟨y,Zbe.2 ⟨j,by rw[List.length_set];exact hj,by rw[List.getElem_set_ne c];exact e⟩,x,x1,x2⟩
 exact .inr (.inl c)
 exact .inr (.inr (.inl ⟨k,(cG k1).1,by rw[(cG k1).2];exact k2⟩))
 exact .inr (.inr (.inr c))
 show dL w seeds ((t.lk++[l]).take k) ((t.lk++[l]).getD k h9).ad
 rcases fZ hk with c | ⟨c1,c2⟩
 rw[(cG c).2,List.take_append_of_le_length (Nat.le_of_lt c.1)]
 exact h.ro k c
 rw[c1,(cN c2).2,List.take_left]
 exact h.sr _ (hp c2).1
theorem pz{t:j6}(hw:ai w=true)(hG:GI w n t)(hK:KI w t)(h:CI w seeds [] t)(hg:D1 t=true):CI w seeds [] (y8 w t):=by
 have hx:=eR hg
 have hm:=aj (d:=c5) hx.1
 have hI:=hG.hi _ hm
 unfold y8
 split
 rename_i hk
 have P0:=aj (d:=j9) (List.length_pos_iff.2 hx.2.1)
 have hi:=hI.it _ P0
 have Oc:=h.kn _ hm hk
 have O2:=h.gr _ hm hk
 have Qy:∀ x,x∈(t.hs.getD (j8 t) c5).td->x=(t.hs.getD (j8 t) c5).td.getD 0 j9\/x∈(t.hs.getD (j8 t) c5).td.drop 1:=fun x hx=>by
  cases e:(t.hs.getD (j8 t) c5).td with
  | nil=>rw[e]at hx;simp at hx
  | cons a r=>
    rw[e]at hx
    rcases List.mem_cons.1 hx with c | c
    exact .inl c
    exact .inr c
 unfold I5
 simp only
 generalize hl:(⟨n6 t,((t.hs.getD (j8 t) c5).td.getD 0 j9).ad,(ae w ((t.hs.getD (j8 t) c5).td.getD 0 j9).ad ((t.hs.getD (j8 t) c5).td.getD 0 j9).tr).1⟩:l5)=l
 have E6:l.ad=((t.hs.getD (j8 t) c5).td.getD 0 j9).ad:=by rw[<- hl]
 have I3:l.ki=(ae w ((t.hs.getD (j8 t) c5).td.getD 0 j9).ad ((t.hs.getD (j8 t) c5).td.getD 0 j9).tr).1:=by rw[<- hl]
 generalize (t.hs.getD (j8 t) c5).td.getD 0 j9=x0 at *
 have P7:l.ki≠3->ae w x0.ad x0.tr=ae w x0.ad 2:=fun c=>iP hi.2.2.2.2.1 (by rw[<- I3];exact c)
 have Oi:cm t.lk l=false:=by
  unfold cm
  rw[E6,hi.2.1]
  rcases Oc with c | c
  rw[c];simp
  rw[show decide ((cls t.lk (t.hs.getD (j8 t) c5).na).length<3)=false from decide_eq_false Zaa,Bool.and_false]
 have c1:∀ y' A9,y'.kn=(t.hs.getD (j8 t) c5).kn->y'.na=(t.hs.getD (j8 t) c5).na->y'.gr=(t.hs.getD (j8 t) c5).gr->(E0 t.lk l->∀ x,x∈bc w l.ad->x∈A9)->
  (∀ x,x∈(t.hs.getD (j8 t) c5).td->(∃ x',x'∈y'.td/\x'.ad=x.ad)\/(E0 t.lk l/\l.ad=x.ad)\/(ae w x.ad 2).1=3)->CI w seeds A9 ⟨t.na,n6 t,t.hs.set (j8 t) y',t.se,t.lk++[l]⟩:=fun y' A9 e1 e2 e3 hp ht=>by
  refine h.call hx.1 (fun _=>⟨by rw[e2,e3];exact O2,?_⟩) (fun c=>?_) (fun c=>⟨by rw[E6];exact hi.2.2.1,hp c⟩) (fun x hx=>(ht x hx).imp id .inr)
  rw[e2]
  rcases Oc with c | c
  exact .inl (gQ c)
  refine .inr ?_
  rw[bH,Zan];omega
  rw[E6,I3,P7 c]
 split
 rename_i c
 refine c1 _ [] rfl rfl rfl (fun q=>absurd (I3.trans c.1) q.1) fun x hx=>.inl ?_
 rcases Qy x hx with e | e
 exact⟨_,List.mem_append_right _ (Zat.2 rfl),by rw[e]⟩
 exact⟨x,List.mem_append_left _ e,rfl⟩
 rename_i c
 rw[if_pos hi.1]
 refine CI.aW (c1 _ _ rfl rfl rfl (fun q x hx=>?_) fun x hx=>?_) fun s hs=>?_
 rw[E6]at hx
 unfold bc at hx
 rw[if_pos ⟨hw,hi.1⟩,<- P7 q.1]at hx
 exact hx
 rcases Qy x hx with e | e
 subst e
 by_cases q:l.ki=3
 refine .inr (.inr ?_)
 rw[I3]at q
 have e2:x.tr=2:=by
  have: ¬ x.tr+1<3:=fun d=>c ⟨q,d⟩
  have:=hi.2.2.2.2.1
  omega
 rw[e2]at q;exact q
 exact .inr (.inl ⟨⟨q,Oi⟩,E6⟩)
 exact .inl ⟨x,e,rfl⟩
 have q:l.ki≠3:=fun q=>by
  rw[<- I3,q]at hs
  simp[qA]at hs
 refine .inr ⟨_,(cN ⟨q,Oi⟩).1,?_⟩
 rw[(cN ⟨q,Oi⟩).2,E6]
 unfold bc
 rw[if_pos ⟨hw,hi.1⟩,<- P7 q]
 exact hs
 rename_i hk
 have hk:(t.hs.getD (j8 t) c5).kn=false:=by simpa using hk
 have I1:=hI.un hk
 have Rv:=hK.un _ hm hk
 have hd:=eF hI.hn
 unfold OT
 show CI w seeds [] ⟨t.na,n6 t,t.hs.set (j8 t) (G' w t.na (t.hs.getD (j8 t) c5) (n6 t)),t.se,t.lk++[(⟨n6 t,ag (t.hs.getD (j8 t) c5).na,(ae w (ag (t.hs.getD (j8 t) c5).na) (t.hs.getD (j8 t) c5).tr).1⟩:l5)]⟩
 generalize hl:(⟨n6 t,ag (t.hs.getD (j8 t) c5).na,(ae w (ag (t.hs.getD (j8 t) c5).na) (t.hs.getD (j8 t) c5).tr).1⟩:l5)=l
 have E6:l.ad=ag (t.hs.getD (j8 t) c5).na:=by rw[<- hl]
 have I3:l.ki=(ae w (ag (t.hs.getD (j8 t) c5).na) (t.hs.getD (j8 t) c5).tr).1:=by rw[<- hl]
 have ho:aF t.lk (t.hs.getD (j8 t) c5).na=false:=by
  unfold aF
  rw[List.any_eq_false]
  intro q hq
  simp only[Zam,Zbj,Bool.not_eq_true',Bool.and_eq_false_iff,not_and]
  intro e
  obtain⟨a1,a2⟩:=Rv q hq e
  simp[a1,a2]
 have Oi: ¬ E0 t.lk l:=fun c=>by
  have:=c.2
  unfold cm at this
  rw[E6,hd,ho]at this
  simp only[beq_self_eq_true,Bool.not_false,Bool.true_and,decide_eq_false_iff_not]at this
  omega
 refine h.call hx.1 (fun q=>?_) (fun c=>?_) (fun c=>absurd c Oi) (fun x hx=>?_)
 unfold G' at q ⊢
 split at q
 rw[show (n9 w (t.hs.getD (j8 t) c5) (n6 t)).kn=(t.hs.getD (j8 t) c5).kn from rfl,hk]at q;cases q
 rename_i c
 rw[if_neg c]
 refine⟨rfl,?_⟩
 show aF (t.lk++[l]) (t.hs.getD (j8 t) c5).na=true\/3<=(cls (t.lk++[l]) (t.hs.getD (j8 t) c5).na).length
 by_cases q:l.ki=3
 refine .inr ?_
 rw[bH,if_pos (by rw[E6,hd]),Zan,Zbd]
 have: ¬ (t.hs.getD (j8 t) c5).tr+1<3:=fun d=>c ⟨I3 ▸ q,d⟩
 omega
 refine .inl ?_
 unfold aF
 rw[List.any_append,List.any_cons,List.any_nil,Bool.or_false,E6,hd,decide_eq_false q]
 simp
 rw[E6,I3,iP I1.2.1 (by rw[<- I3];exact c)]
 unfold G'
 split
 exact .inl ⟨x,hx,rfl⟩
 have hi:=hI.it x hx
 by_cases q:av (ba w t.na (t.hs.getD (j8 t) c5).na).ru (pathOf x.ad)=true
 refine .inl ⟨x,List.mem_filter.2 ⟨hx,?_⟩,rfl⟩
 unfold Oq
 rw[hi.1,q];rfl
 refine .inr (.inl ?_)
 rw[hi.2.1];simpa using q
theorem ku(hw:ai w=true):∀ (k:Nat) {t:j6},GI w n t->KI w t->CI w seeds [] t->CI w seeds [] (z6 w k t)
 | 0,_,_,_,h=>h
 | k+1,t,hG,hK,h=>by
   unfold z6
   split
   rename_i hg;exact ku hw k (eN hG hg) (kf hG hK hg) (pz hw hG hK h hg)
   exact h
theorem pC{t:j6}(h:aw n seeds=some t):CI w seeds [] t:=by
 unfold aw at h
 split at h
 cases h
 exact CI.aW (t:=aG n) ⟨fun y hy=>by simp[aG]at hy,fun y hy=>by simp[aG]at hy,fun q hq=>by simp[aG]at hq,fun s hs=>by simp[aG]at hs,fun _=>⟨fun s hs _=>.inr hs,fun k hk=>by have:=hk.1;simp[aG]at this⟩,fun s hs=>by simp[aG]at hs,fun k hk=>by have:=hk.1;simp[aG]at this⟩ fun s hs=>.inl hs
 cases h
end
section
variable {w:List Pg} {n:BL} {seeds:List BL}
theorem fU{t:j6}{a:BL}(h:a∈az t):∃ k,D4 t.lk k/\(t.lk.getD k h9).ad=a:=by
 unfold az at h
 split at h
 obtain⟨k,h1,h2,h3⟩:=(fL _).1 h
 exact⟨k,⟨h1,h3⟩,h2⟩
 cases h
theorem ic{t:j6}{k:Nat}(ho:ax t=true)(h:D4 t.lk k):(t.lk.getD k h9).ad∈az t:=by
 rw[show az t=aP t.lk t.lk.length from if_pos ho]
 exact(fL _).2 ⟨k,h.1,rfl,h.2⟩
theorem qV{t:j6}{k:Nat}(hL:LI w t)(h:D4 t.lk k):av (ba w t.na (ab (t.lk.getD k h9).ad)).ru (pathOf (t.lk.getD k h9).ad)=true/\(t.lk.getD k h9).ad∈t.se:=by
 rcases hL k h.1 with c | c
 have:=h.2.2;rw[c]at this;cases this
 exact c
theorem iF{t:j6}{a:BL}(hw:ai w=true)(hn:aZ n=true)(hG:GI w n t)(hL:LI w t)(h:a∈az t):dj w n a=true/\a∈t.se:=by
 obtain⟨k,h1,rfl⟩:=fU h
 obtain⟨a1,a2⟩:=qV hL h1
 rw[hG.na]at a1
 exact⟨(kU hw hn (hG.al k h1.1).rd).trans a1,a2⟩
theorem tV{t:j6}(h:∀ y,y∈t.hs->y.td=[]):∀ i,i<=t.hs.length->J8 t i=(-1,0)
 | 0,_=>rfl
 | i+1,hi=>by
   rw[lJ Zaa]
   unfold mq
   rw[if_neg (fun c=>c.1 (h _ (aj (d:=c5) Zaa)))]
   exact tV h i Zaa
theorem xt{t:j6}(h:∀ y,y∈t.hs->y.td=[]):D1 t=false:=by
 unfold D1 jo
 rw[tV h _ (Zba _)]
 rfl
theorem vh{t:j6}(h:D1 t=false):∀ k,z6 w k t=t
 | 0=>rfl
 | k+1=>by rw[z6,if_neg (by rw[h];decide)]
theorem get_nil(a:BL)(k:Int):ae [] a k=(0,[]):=rfl
def bK(y:k9):Nat:=(if y.kn=true then 0 else 1)+y.td.length
structure NI (t:j6):Prop where
 Sm:t.lk.length+(t.hs.map bK).sum=t.se.length+t.hs.length
 O8:∀ y,y∈t.hs->y.kn=false->y.td≠[]
theorem jM{l:List k9}{i:Nat}{a:k9}(hi:i<l.length):((l.set i a).map bK).sum+bK (l.getD i c5)=(l.map bK).sum+bK a:=by
 induction l generalizing i with
 | nil=>simp at hi
 | cons b l ih=>
   cases i with
   | zero=>simp;omega
   | succ i=>
     have:=ih (i:=i) (by simpa using hi)
     simp only[List.set_cons_succ,Zbc,List.sum_cons,List.getD_cons_succ]at *
     omega
theorem NI.bX{t:j6}{s:BL}(h:NI t)(hk:∀ y,y∈t.hs->y.kn=false):NI (ah t s)/\∀ y,y∈(ah t s).hs->y.kn=false:=by
 have Oc:∀ y,y∈(ah t s).hs->y.kn=false:=fun y hy=>by
  cases e:y.kn with
  | false=>rfl
  | true=>
    obtain⟨y0,y1,_,y3,_⟩:=eJ hy e
    rw[hk y0 y1]at y3;cases y3
 refine⟨?_,Oc⟩
 by_cases hr:de t.se s
 case neg=>
  have e3:bT t.se s=t.se:=if_neg hr
  have e4:aN t.na t.hs t.se s=t.hs:=if_neg hr
  have:ah t s=t:=by unfold ah;rw[e3,e4]
  rw[this];exact h
 have e3:(ah t s).se=t.se++[s]:=if_pos hr
 have e4:(ah t s).hs=(au t.hs (ab s) t.na).set (o8 t.hs (ab s)) (aX ((au t.hs (ab s) t.na).getD (o8 t.hs (ab s)) c5) s):=if_pos hr
 have hlt:=bL t.hs (ab s) t.na
 have hin:(∀ y,y∈au t.hs (ab s) t.na->y.kn=false/\(y.td≠[]\/y=bq (ab s) t.na))/\((au t.hs (ab s) t.na).map bK).sum+t.hs.length=(t.hs.map bK).sum+(au t.hs (ab s) t.na).length:=by
  unfold au
  split
  exact⟨fun y hy=>⟨hk y hy,.inl (h.O8 y hy (hk y hy))⟩,rfl⟩
  refine⟨fun y hy=>?_,?_⟩
  rcases Zav.1 hy with hy | hy
  exact⟨hk y hy,.inl (h.O8 y hy (hk y hy))⟩
  exact⟨by rw[Zat.1 hy];rfl,.inr (Zat.1 hy)⟩
  simp only[Za9,List.sum_append,Zan,Zbc,List.map_nil,List.sum_cons,List.sum_nil,Zbd]
  simp[bK,bq];omega
 have u0:=(hin.1 _ (aj (d:=c5) hlt)).1
 have hp:=jM (a:=aX ((au t.hs (ab s) t.na).getD (o8 t.hs (ab s)) c5) s) hlt
 have e5:bK (aX ((au t.hs (ab s) t.na).getD (o8 t.hs (ab s)) c5) s)=bK ((au t.hs (ab s) t.na).getD (o8 t.hs (ab s)) c5)+1:=by
  unfold aX
  rw[if_neg (fun c=>by rw[u0]at c;cases c.1)]
  simp[bK];omega
 refine⟨?_,fun y hy _=>?_⟩
 have:=h.Sm
 have:=hin.2
 rw[e3,e4,List.length_set,Zan,Zbd]
 show t.lk.length+_=_
 omega
 rw[e4]at hy
 obtain⟨j,hj,e⟩:=Zbe.1 hy
 rw[List.length_set]at hj
 by_cases c:o8 t.hs (ab s)=j
 subst c
 rw[List.getElem_set_self]at e
 rw[<- e]
 unfold aX
 rw[if_neg (fun c=>by rw[u0]at c;cases c.1)]
 simp
 rw[List.getElem_set_ne c]at e
 rcases (hin.1 y (by rw[<- e];exact List.getElem_mem _)).2 with q | q
 exact q
 exfalso
 unfold au at hj e
 split at hj
 rename_i c2
 simp only[c2,if_true]at e
 have:=h.O8 y (by rw[<- e];exact List.getElem_mem _) (by rw[q];rfl)
 rw[q]at this;exact this rfl
 rename_i c2
 simp only[c2,if_false]at e
 have hle:o8 t.hs (ab s)<=t.hs.length:=List.findIdx_le_length
 rw[Zan,Zbd]at hj
 have Q1:j<t.hs.length:=Zaa
 rw[List.getElem_append_left Q1]at e
 have:=h.O8 y (by rw[<- e];exact List.getElem_mem _) (by rw[q];rfl)
 rw[q]at this;exact this rfl
theorem NI.aW:∀ {l:List BL} {t:j6},NI t->(∀ y,y∈t.hs->y.kn=false)->NI (l.foldl ah t)
 | [],_,h,_=>h
 | s::l,t,h,hk=>NI.aW (l:=l) (t:=ah t s) (h.bX hk).1 (h.bX hk).2
theorem zj(d p:BL):av (ba [] n d).ru p=true:=by
 unfold ba
 rw[get_nil]
 rfl
theorem LH{t:j6}(hG:GI [] n t)(h:NI t)(hg:D1 t=true):NI (y8 [] t)/\((y8 [] t).hs.map bK).sum+1=(t.hs.map bK).sum/\(y8 [] t).se=t.se:=by
 have hx:=eR hg
 have hm:=aj (d:=c5) hx.1
 have hI:=hG.hi _ hm
 have G3:=List.length_pos_iff.2 hx.2.1
 have hi:=hI.it _ (aj (d:=j9) G3)
 have key:∀ y' l,bK y'+1=bK (t.hs.getD (j8 t) c5)->y'.kn=true->NI ⟨t.na,n6 t,t.hs.set (j8 t) y',t.se,t.lk++[l]⟩/\((t.hs.set (j8 t) y').map bK).sum+1=(t.hs.map bK).sum:=fun y' l hy hk=>by
  have hp:=jM (a:=y') hx.1
  have hc:=h.Sm
  refine⟨⟨?_,fun z hz I0=>?_⟩,Zaa⟩
  show (t.lk++[l]).length+((t.hs.set (j8 t) y').map bK).sum=t.se.length+(t.hs.set (j8 t) y').length
  rw[Zan,Zbd,List.length_set];omega
  rcases bg hz with e | e
  subst e;rw[hk]at I0;cases I0
  exact h.O8 z e I0
 unfold y8
 split
 rename_i hk
 unfold I5
 simp only[get_nil,hi.1,if_true,(by decide:((0:Int)=3)=False),false_and,if_false]
 have:=key (A6 [] (t.hs.getD (j8 t) c5) (n6 t)) ⟨n6 t,((t.hs.getD (j8 t) c5).td.getD 0 j9).ad,0⟩ (by
  show (if (t.hs.getD (j8 t) c5).kn=true then 0 else 1)+((t.hs.getD (j8 t) c5).td.drop 1).length+1=_
  unfold bK
  rw[List.length_drop];omega) hk
 exact⟨this.1,this.2,rfl⟩
 rename_i hk
 have hf:(t.hs.getD (j8 t) c5).td.filter (Oq (ba [] t.na (t.hs.getD (j8 t) c5).na).ru)=(t.hs.getD (j8 t) c5).td:=List.filter_eq_self.2 fun x hx=>by
  unfold Oq
  rw[(hI.it x hx).1,zj];rfl
 have e:G' [] t.na (t.hs.getD (j8 t) c5) (n6 t)={ n9 [] (t.hs.getD (j8 t) c5) (n6 t) with kn:=true,gr:=ba [] t.na (t.hs.getD (j8 t) c5).na,re:=max (n9 [] (t.hs.getD (j8 t) c5) (n6 t)).re (n6 t+((ba [] t.na (t.hs.getD (j8 t) c5).na).wa:Int)),td:=(t.hs.getD (j8 t) c5).td.filter (Oq (ba [] t.na (t.hs.getD (j8 t) c5).na).ru) }:=if_neg fun c=>by rw[get_nil]at c;exact absurd c.1 Zad
 unfold OT
 have:=key (G' [] t.na (t.hs.getD (j8 t) c5) (n6 t)) ⟨n6 t,ag (t.hs.getD (j8 t) c5).na,(ae [] (ag (t.hs.getD (j8 t) c5).na) (t.hs.getD (j8 t) c5).tr).1⟩ (by
  rw[e]
  unfold bK
  simp only[hf]
  rw[if_pos trivial,if_neg hk];omega) (by rw[e])
 exact⟨this.1,this.2,rfl⟩
theorem AA{hz:∀ i,m4 (([]:List Pg).getD i l9)}:∀ (f i:Nat) {t:j6},WQ [] n i t->NI t->(t.hs.map bK).sum+i<=100->(t.hs.map bK).sum<=f->
 ∃ j,j<=100/\WQ [] n j (z6 [] f t)/\NI (z6 [] f t)/\D1 (z6 [] f t)=false/\(z6 [] f t).se=t.se
 | 0,i,t,hq,h,hi,hf=>by
   refine⟨i,Zaa,hq,h,xt fun y hy=>?_,rfl⟩
   have hs:(t.hs.map bK).sum=0:=Zaa
   have:bK y=0:=List.sum_eq_zero_iff_forall_eq_nat.1 hs _ (List.mem_map.2 ⟨y,hy,rfl⟩)
   unfold bK at this
   exact List.length_eq_zero_iff.1 Zaa
 | f+1,i,t,hq,h,hi,hf=>by
   cases hg:D1 t with
   | false=>
     rw[vh hg]
     exact⟨i,Zaa,hq,h,hg,rfl⟩
   | true=>
     obtain⟨h1,h2,h3⟩:=LH hq.gi h hg
     obtain⟨j,j1,j2,j3,j4,j5⟩:=AA (hz:=hz) f (i+1) (hq.step Zad hz hg) h1 Zaa Zaa
     have e:z6 [] (f+1) t=z6 [] f (y8 [] t):=by rw[z6,if_pos hg]
     rw[e]
     exact⟨j,j1,j2,j3,j4,j5.trans h3⟩
end
section
variable {P:Program}
end
theorem nq{w:List Pg}{n:BL}{p:List BL}{m:Int}(hm:x4 m 0 400=true)(h:(aw n p).isSome=true/\(aR w (oT (aw n p)) m).isSome=true):LI w (ay w n p m):=by
 obtain⟨t,h1,_,h3⟩:=dc hm h
 rw[h3]
 exact kD _ (eA h1) (kc h1) (pt h1)
theorem mU{w:List Pg}{n:BL}{p:List BL}{m:Int}(hm:x4 m 0 400=true)(h:(aw n p).isSome=true/\(aR w (oT (aw n p)) m).isSome=true):ax (ay w n p m)=true/\aZ n=true:=by
 obtain⟨t,h1,_,h3⟩:=dc hm h
 have hG:=(dy hm h).1
 have hO:OI (ay w n p m):=by
  rw[h3]
  exact km _ (eA (w:=w) h1) (iR h1)
 exact⟨kI hG hO (by have:=da hG;omega),by rw[<- hG.na];exact hO.nm⟩
theorem ji{l:List k9}{i:Nat}(h:i<l.length):(l.map aH).getD i false=aH (l.getD i c5):=by
 rw[Zak,Zak,List.getElem?_map,Zar h];rfl
theorem lH(y:k9):PF Tryz.prog 61 [dR y.na y.re y.kn y.gr.na y.gr.ru y.gr.wa y.tr y.td] [] (fun r h=>r=(bV (aH y))/\h=[]):=by
 refine aB (N:=7) (rs:=[.tmp 2]) Tryz.func61
  (.bx (fun g1=>.q 1<|.r 5 [.b9]<|.nil))
  (∀ g1:Nat,Z g1 7/\Q (bV (w3 (((y.td.map ar).length:Nat):Int) 0)) (bV (aH y))) ?_
 intro g1
 refine⟨rfl,?_⟩
 unfold Q
 rw[qt]
def iO(y:k9):o6 Tryz.prog:={ f:=61,args:=[dR y.na y.re y.kn y.gr.na y.gr.ru y.gr.wa y.tr y.td],H:=[],pre:=True,res:=bV (aH y),H':=[],ok:=fun _=>lH y }
theorem lC(l:List k9)(hl:l.length<=1000000):PF Tryz.prog 89 [.sl false (l.map bw),.lit (.func (.func 61) #[] #[])] [] (fun r h=>r=(iV (bZ (l.map aH) true))/\h=[]):=by
 refine aB (N:=19) (rs:=[.tmp 4]) Tryz.func89
  (.q 1<|.q 3<|.loop (Nat) (fun (i:Nat)=>⟨[(0,.sl false (l.map bw)),(1,.lit (.func (.func 61) #[] #[])),(6,.sl false (l.map bw)),(7,iN l.length),(8,iN i)],[]⟩) (fun (i:Nat)=>i<=l.length/\∀ j,j<i->aH (l.getD j c5)=false) (fun (i:Nat)=>l.length-i) (fun (i:Nat)=>.q 1<|.br (.q 2<|.r 5 [dR ((l.getD i c5).na) ((l.getD i c5).re) ((l.getD i c5).kn) ((l.getD i c5).gr.na) ((l.getD i c5).gr.ru) ((l.getD i c5).gr.wa) ((l.getD i c5).tr) ((l.getD i c5).td)]<|.c (iO (l.getD i c5)) []<|.br (.q 2<|.nil) (.q 2<|.nil)) (.q 1<|.nil)))
  ((fun v1:V=>((∃ j7:Nat,(j7<=l.length/\∀ j,j<j7->aH (l.getD j c5)=false)/\E v1/\E (.lit (.func (.func 61) #[] #[]))/\E v1/\Q (iN ((l.map bw).length)) (iN l.length)/\Q (iN 0) (iN j7)/\True)/\∀ i:Nat,(i<=l.length/\∀ j,j<i->aH (l.getD j c5)=false)->(fun v2:k9=>Br (r8 (i:Int) (l.length:Int)) (Ex (i:Int) (l.map bw) (dR (v2.na) (v2.re) (v2.kn) (v2.gr.na) (v2.gr.ru) (v2.gr.wa) (v2.tr) (v2.td))/\True/\(iO v2).sm/\(True)/\Br (aH v2) (Q (iN i) (iV (bZ (l.map aH) true))) (m8 ((i:Int)+1)/\∃ c9:Nat,(c9<=l.length/\∀ j,j<c9->aH (l.getD j c5)=false)/\(l.length-c9<l.length-i)/\E v1/\E (.lit (.func (.func 61) #[] #[]))/\E v1/\E (iN l.length)/\Q (iN (i+1)) (iN c9)/\True)) (Q (iV (-1)) (iV (bZ (l.map aH) true)))) (l.getD i c5))) (.sl false (l.map bw))) ?_
 refine⟨⟨0,?_,rfl,rfl,rfl,Zaf,rfl,trivial⟩,?_⟩
 simp
 rintro i ⟨h1,h2⟩
 refine bI (fun l3=>?_) fun l3=>?_
 refine⟨⟨Zaa,aq (d:=c5) Zaa⟩,trivial,rfl,trivial,?_⟩
 refine bI (fun l6=>?_) fun l6=>?_
 unfold Q
 rw[jv (i:=i) (by rw[Zaw];omega) (by rw[ji Zaa];exact l6) (fun j hj=>by rw[ji Zaa];rw[h2 j hj];decide)]
 refine⟨Zaa,?_⟩
 refine⟨i+1,?_,?_,rfl,rfl,rfl,rfl,rfl,trivial⟩
 exact⟨Zaa,bJ h2 l6⟩
 exact Zai
 unfold Q
 rw[iJ (fun j hj=>by rw[Zaw]at hj;rw[ji hj];rw[h2 j Zaa];decide)]
def iX(l:List k9):o6 Tryz.prog:={ f:=89,args:=[.sl false (l.map bw),.lit (.func (.func 61) #[] #[])],H:=[],pre:=(l.length<=1000000),res:=iV (bZ (l.map aH) true),H':=[],ok:=fun h=>lC l h }
theorem lL(l:List k9)(hl:l.length<=1000000):PF Tryz.prog 60 [.sl false (l.map bw),.lit (.func (.func 61) #[] #[])] [] (fun r h=>r=(bV (l.any aH))/\h=[]):=by
 refine aB (N:=9) (rs:=[.tmp 4]) Tryz.func60
  (.q 1<|.q 2<|.c (iX l) []<|.q 2<|.nil)
  ((iX l).sm/\((l.length<=1000000))/\Q (bV (A8 (bZ (l.map aH) true) 0)) (bV (l.any aH))) ?_
 refine⟨rfl,Zae,?_⟩
 unfold Q
 refine Zbk bV ?_
 show decide (bZ (l.map aH) true>=0)=_
 rw[show decide (bZ (l.map aH) true>=0)=(l.map aH).contains true from jf _ _]
 rw[Za4];simp
def iW(l:List k9):o6 Tryz.prog:={ f:=60,args:=[.sl false (l.map bw),.lit (.func (.func 61) #[] #[])],H:=[],pre:=(l.length<=1000000),res:=bV (l.any aH),H':=[],ok:=fun h=>lL l h }
theorem nj(t:j6)(hh:t.hs.length<=1000000):PF Tryz.prog 29 [bF t.na t.a7 t.hs t.se t.lk] [] (fun r h=>r=(bV (!(t.hs.any aH)))/\h=[]):=by
 refine aB (N:=7) (rs:=[.tmp 2]) Tryz.func29
  (.bx (fun g1=>.q 1<|.r 2 [.b9]<|.c (iW t.hs) []<|.q 2<|.nil))
  (∀ g1:Nat,Z g1 2/\(iW t.hs).sm/\((t.hs.length<=1000000))/\Q (bV (!(t.hs.any aH))) (bV (!(t.hs.any aH)))) ?_
 intro g1
 refine⟨rfl,rfl,Zae,?_⟩
 unfold Q
 rfl
def kB(t:j6):o6 Tryz.prog:={ f:=29,args:=[bF t.na t.a7 t.hs t.se t.lk],H:=[],pre:=(t.hs.length<=1000000),res:=bV (!(t.hs.any aH)),H':=[],ok:=fun h=>nj t h }
theorem iC(t:j6)(ht:r5 t):PF Tryz.prog 12 [bF t.na t.a7 t.hs t.se t.lk] [] (fun r h=>r=(bV (ax t&&!(t.hs.any aH)))/\h=[]):=by
 refine aB (N:=9) (rs:=[.tmp 2]) Tryz.func12
  (.bx (fun g1=>.q 1<|.r 1 [.b9]<|.c (dp t) []<|.r 2 [.b9]<|.cg (kB t)<|.q 2<|.nil))
  (∀ g1:Nat,Z g1 0/\(dp t).sm/\((r5 t))/\Gd ((ax t)==true) (Z g1 0)/\Gd ((ax t)==true) (((t.hs.length<=1000000))/\(kB t).sm)/\Pk (ax t) ((ax t)==true) true/\Q (bV ((ax t)&&(!(t.hs.any aH)))) (bV (ax t&&!(t.hs.any aH)))) ?_
 intro g1
 refine⟨rfl,rfl,ht,fun hG=>rfl,fun hG=>⟨by(try simp only[nb]at hG);have:=ht.h;omega,rfl⟩,⟨fun h=>by rw[h] <;> rfl,fun _=>rfl⟩,?_⟩
 unfold Q
 rfl
def eK(t:j6):o6 Tryz.prog:={ f:=12,args:=[bF t.na t.a7 t.hs t.se t.lk],H:=[],pre:=(r5 t),res:=bV (ax t&&!(t.hs.any aH)),H':=[],ok:=fun h=>iC t h }
def Ow(L:List l5)(d:BL):Value:=.agg #[.int .i64 (((cls L d).length:Nat):Int),.bool (aF L d)]
def r4(L:List l5):Nat->List (BL×Value)
 | 0=>[]
 | i+1=>dh (r4 L i) (ab (L.getD i h9).ad) (Ow (L.take (i+1)) (ab (L.getD i h9).ad))
theorem gT(L:List l5)(l:l5)(d:BL):aF (L++[l]) d=(aF L d||((ab l.ad==d)&&!((l.ad==ag d)&&decide (l.ki=3)))):=by
 unfold aF
 rw[List.any_append]
 simp
theorem mY{L:List l5}{d:BL}(h:cls L d=[]):aF L d=false:=by
 unfold aF
 rw[List.any_eq_false]
 intro q hq
 have: ¬ ab q.ad=d:=fun c=>by
  have:q.ti∈cls L d:=List.mem_map.2 ⟨q,List.mem_filter.2 ⟨hq,by rw[c];simp⟩,rfl⟩
  rw[h]at this;simp at this
 simp[this]
theorem kr{L:List l5}(d:BL):∀ i,i<=L.length->bD (r4 L i) d=if cls (L.take i) d=[] then none else some (Ow (L.take i) d)
 | 0,_=>rfl
 | i+1,hi=>by
   rw[r4,ng,kr d i Zaa,iQ Zaa,bH]
   by_cases c:ab (L.getD i h9).ad=d
   rw[if_pos c.symm,if_pos c,if_neg Zab,c]
   rw[if_neg (fun e=>c e.symm),if_neg c,List.append_nil]
   have e:Ow (L.take i++[L.getD i h9]) d=Ow (L.take i) d:=by
    unfold Ow
    rw[bH,if_neg c,List.append_nil,gT]
    rw[show (ab (L.getD i h9).ad==d)=false from by simpa using c,Bool.false_and,Bool.or_false]
   rw[e]
theorem mS{L:List l5}{i:Nat}(hi:i<=L.length)(d:BL):(∃ y,bD (r4 L i) d=some y/\(.agg [iN (cls (L.take i) d).length,bV (aF (L.take i) d)]:V).val? =some y)\/(bD (r4 L i) d=none/\∃ y,(.agg [iN (cls (L.take i) d).length,bV (aF (L.take i) d)]:V).val? =some y/\∀ w,(zeroValue 100).run Tryz.prog w=.ok y w):=by
 rw[kr d i hi]
 by_cases c:cls (L.take i) d=[]
 rw[if_pos c,mY c,c]
 exact .inr ⟨rfl,_,rfl,fun w=>by kernel_rfl⟩
 rw[if_neg c]
 exact .inl ⟨_,rfl,rfl⟩
theorem mQ{L:List l5}{l:l5}(J6:ak l.ad=aC l.ad):(((l.ad==ag (oA (ak l.ad)).b7)&&(!(aF L (oA (ak l.ad)).b7)))&&r8 (((cls L (oA (ak l.ad)).b7).length:Nat):Int) 3)=cm L l:=by
 rw[J6]
 have e:r8 (((cls L (oA (aC l.ad)).b7).length:Nat):Int) 3=decide ((cls L (ab l.ad)).length<3):=by
  unfold r8
  rw[Za4,Zbi,Zbi]
  show _↔(cls L (oA (aC l.ad)).b7).length<3
  omega
 rw[e];rfl
theorem fN{L:List l5}{i:Nat}(hi:i<L.length)(J6:ak (L.getD i h9).ad=aC (L.getD i h9).ad):dh (r4 L i) ((oA (ak ((L.getD i h9).ad))).b7) (.agg #[.int .i64 ((((cls (L.take i) (oA (ak (L.getD i h9).ad)).b7).length)+1:Nat):Int),.bool (((aF (L.take i) (oA (ak (L.getD i h9).ad)).b7)||(!(((L.getD i h9).ad)==(ag ((oA (ak ((L.getD i h9).ad))).b7)))))||(w4 ((L.getD i h9).ki) 3))])=r4 L (i+1):=by
 rw[J6]
 show dh (r4 L i) (ab (L.getD i h9).ad) (.agg #[.int .i64 (((cls (L.take i) (ab (L.getD i h9).ad)).length+1:Nat):Int),.bool ((aF (L.take i) (ab (L.getD i h9).ad)||!((L.getD i h9).ad==ag (ab (L.getD i h9).ad)))||w4 (L.getD i h9).ki 3)])=dh (r4 L i) (ab (L.getD i h9).ad) (Ow (L.take (i+1)) (ab (L.getD i h9).ad))
 unfold Ow
 rw[iQ hi,bH,if_pos rfl,gT,Zan,Zbd,beq_self_eq_true,Bool.true_and]
 have e:∀ o c:Bool,((o||!c)||w4 (L.getD i h9).ki 3)=(o||!(c&&decide ((L.getD i h9).ki=3))):=fun o c=>by
  have e2:w4 (L.getD i h9).ki 3=!decide ((L.getD i h9).ki=3):=by rw[Za4];simp[w4]
  rw[e2]
  cases o <;> cases c <;> simp
 rw[e]
theorem rQ{L:List l5}{i:Nat}{r:List BL}(h:r=aP L i)(c: ¬ (L.getD i h9).ki=3/\cm (L.take i) (L.getD i h9)=false)(d:r.contains (L.getD i h9).ad=false):r++[(L.getD i h9).ad]=aP L (i+1):=by
 rw[aP,<- h,if_pos ⟨c,fun q=>by rw[List.contains_iff_mem.2 q]at d;cases d⟩]
theorem rA{L:List l5}{i:Nat}{r:List BL}(h:r=aP L i)(d:r.contains (L.getD i h9).ad=true):r=aP L (i+1):=by
 rw[aP,<- h,if_neg (fun q=>q.2 (List.contains_iff_mem.1 d))]
theorem so{L:List l5}{i:Nat}{r:List BL}(h:r=aP L i)(c:(w4 (L.getD i h9).ki 3&&!cm (L.take i) (L.getD i h9))=false):r=aP L (i+1):=by
 have e2:w4 (L.getD i h9).ki 3=!decide ((L.getD i h9).ki=3):=by rw[Za4];simp[w4]
 rw[aP,<- h,if_neg (fun q=>by rw[e2,decide_eq_false q.1.1,q.1.2]at c;cases c)]
theorem ph{t:j6}(h:ax t=true):t.lk.length<=400:=by
 unfold ax cH at h
 simp only[Zam,Zbi]at h
 exact h.1.1.2.1
theorem kh(ls:List l5)(hl:ls.length<=400)(ha:∀ x,x∈ls->x.ad.length<=1000/\l8 x.ad)(hk:∀ i,i<ls.length->aA (ls.getD i h9).ad=true):PF Tryz.prog 28 [cD ls] [] (fun r h=>r=(ao (aP ls ls.length))/\h=[]):=by
 refine aB (N:=89) (rs:=[.tmp 2]) Tryz.func28
  (.q 1<|.q 1<|.cu UG (fun g12=>.q 1<|.q 3<|.h (.H9 3 1)<|.loop (Nat×(List BL)×Nat×Nat×Nat×Nat) (fun (i,r,gm,x1,x2,x3)=>⟨[(3,.own 1 (r.map sV) x1 x2 x3),(4,.om (r4 ls i) gm),(13,cD ls),(14,iN ls.length),(15,iN i)],[]⟩) (fun (i,r,gm,x1,x2,x3)=>i<=ls.length/\r=aP ls i) (fun (i,r,gm,x1,x2,x3)=>ls.length-i) (fun (i,r,gm,x1,x2,x3)=>.q 1<|.br (.r 2 [.agg [iV ((ls.getD i h9).ti),sV ((ls.getD i h9).ad),iV ((ls.getD i h9).ki)]]<|.al yf (fun g6=>.st none<|.r 2 [.b9]<|.c (bS ((ls.getD i h9).ad)) []<|.q 3<|.al dw (fun g7=>.st none<|.q 1<|.q 2<|.br (.q 2<|.nil) (.r 3 [.b9]<|.cu (VL 4 (r4 ls i) ((oA (ak ((ls.getD i h9).ad))).b7) (.agg [iN ((cls (ls.take i) (oA (ak (ls.getD i h9).ad)).b7).length),bV (aF (ls.take i) (oA (ak (ls.getD i h9).ad)).b7)])) (fun _=>.al zD (fun g9=>.st none<|.dx 5 [0,1,2,3,4] [(1,⟨false,[],some [6],[32],[]⟩),(3,⟨false,[],some [7],[34],[]⟩)] []<|.q 1<|.r 1 [.b9]<|.q 1<|.r 1 [.b9]<|.c (dP ((oA (ak ((ls.getD i h9).ad))).b7)) []<|.q 2<|.r 11 [.b9,.b9]<|.h (.n8 47 (bV (cm (ls.take i) (ls.getD i h9))))<|.q 1<|.r 7 [.b9]<|.sp ((w4 ((ls.getD i h9).ki) 3)&&(!(cm (ls.take i) (ls.getD i h9)))) (.h (.n8 54 (bV true))<|.q 1<|.gt<|.q 1<|.gt<|.q 1<|.gt<|.r 1 [.b9]<|.gt<|.cl (nt r ((ls.getD i h9).ad))<|.gt<|.q 2<|.br (.r 3 [.b9]<|.bs<|.ap (fun N8 N3 N'=>.h (.n8 66 (.own 1 ((r++[(ls.getD i h9).ad]).map sV) N8 N3 N'))<|.q 1<|.r 4 [.b9]<|.st none<|.r 12 [.b9,.b9]<|.st none<|.r 4 [.b9,.b9]<|.cu (Ri 4 (r4 ls i) ((oA (ak ((ls.getD i h9).ad))).b7) (.agg #[.int .i64 ((((cls (ls.take i) (oA (ak (ls.getD i h9).ad)).b7).length)+1:Nat):Int),.bool (((aF (ls.take i) (oA (ak (ls.getD i h9).ad)).b7)||(!(((ls.getD i h9).ad)==(ag ((oA (ak ((ls.getD i h9).ad))).b7)))))||(w4 ((ls.getD i h9).ki) 3))])) (fun _=>.h (.n8 4 (.om (r4 ls (i+1)) gm))<|.q 2<|.nil))) (.r 4 [.b9]<|.st none<|.r 12 [.b9,.b9]<|.st none<|.r 4 [.b9,.b9]<|.cu (Ri 4 (r4 ls i) ((oA (ak ((ls.getD i h9).ad))).b7) (.agg #[.int .i64 ((((cls (ls.take i) (oA (ak (ls.getD i h9).ad)).b7).length)+1:Nat):Int),.bool (((aF (ls.take i) (oA (ak (ls.getD i h9).ad)).b7)||(!(((ls.getD i h9).ad)==(ag ((oA (ak ((ls.getD i h9).ad))).b7)))))||(w4 ((ls.getD i h9).ki) 3))])) (fun _=>.h (.n8 4 (.om (r4 ls (i+1)) gm))<|.q 2<|.nil))) (.h (.n8 54 (bV false))<|.q 1<|.gf (.b9)<|.gf (.b9)<|.gf (.b9)<|.gf (bV false)<|.gf (bV false)<|.q 1<|.br (.nil) (.r 4 [.b9]<|.st none<|.r 12 [.b9,.b9]<|.st none<|.r 4 [.b9,.b9]<|.cu (Ri 4 (r4 ls i) ((oA (ak ((ls.getD i h9).ad))).b7) (.agg #[.int .i64 ((((cls (ls.take i) (oA (ak (ls.getD i h9).ad)).b7).length)+1:Nat):Int),.bool (((aF (ls.take i) (oA (ak (ls.getD i h9).ad)).b7)||(!(((ls.getD i h9).ad)==(ag ((oA (ak ((ls.getD i h9).ad))).b7)))))||(w4 ((ls.getD i h9).ki) 3))])) (fun _=>.h (.n8 4 (.om (r4 ls (i+1)) gm))<|.q 2<|.nil))))))))) (.h (.fz 3)<|.h (.n8 3 (ao r))<|.q 2<|.nil))))
  (True/\∀ g12:Nat,(∃ x:Nat×(List BL)×Nat×Nat×Nat×Nat,match x with | (j7,J5,N7,N1,N0,M')=>(j7<=ls.length/\J5=aP ls j7)/\Q (.own 1 ([].map sV) 0 0 0) (.own 1 (J5.map sV) N1 N0 M')/\Q (.om [] g12) (.om (r4 ls j7) N7)/\E (cD ls)/\Q (iN ((ls.map bf).length)) (iN ls.length)/\Q (iN 0) (iN j7)/\True)/\∀ x:Nat×(List BL)×Nat×Nat×Nat×Nat,match x with | (i,r,gm,x1,x2,x3)=>(i<=ls.length/\r=aP ls i)->(fun v1:l5=>(fun v5:s4=>(fun v11:BL=>(fun v2:Bool=>(fun v3:s4=>(fun v9:Int=>(fun v10:Bool=>(fun v4:V=>(fun v6:V=>(fun v7:Bool=>(fun v8:Int=>(fun v12:Bool=>(fun E4:V=>(fun H6:Bool=>(fun J4:Bool=>(fun Ob:List V=>(fun OR:V=>(fun On:V=>Br (r8 (i:Int) (ls.length:Int)) (Ex (i:Int) (ls.map bf) (.agg [iV (v1.ti),sV (v1.ad),iV (v1.ki)])/\True/\∀ g6:Nat,Z g6 0/\Z g6 1/\(bS (v1.ad)).sm/\(((v1.ad).length<=1000000)/\(l8 (v1.ad)))/\∀ g7:Nat,Z g7 0/\Br (!((ak (v1.ad)).isSome)) (m8 ((i:Int)+1)/\∃ x:Nat×(List BL)×Nat×Nat×Nat×Nat,match x with | (c9,s6,w9,w8,w7,w6)=>(c9<=ls.length/\s6=aP ls c9)/\(ls.length-c9<ls.length-i)/\Q OR (.own 1 (s6.map sV) w8 w7 w6)/\Q (.om (r4 ls i) gm) (.om (r4 ls c9) w9)/\E (cD ls)/\E (iN ls.length)/\Q (iN (i+1)) (iN c9)/\True) (Z g7 0/\(((gm:Nat)=gm/\(r4 ls i:List (BL×Value))=r4 ls i)/\(On=sV (v5.b7))/\((∃ y,bD (r4 ls i) (v5.b7)=some y/\E4.val? =some y)\/(bD (r4 ls i) (v5.b7)=none/\∃ y,E4.val? =some y/\∀ w,(zeroValue 100).run Tryz.prog w=.ok y w)))/\∀ _:Unit,∀ g9:Nat,Z g9 0/\Z g6 1/\Z g7 0/\(dP (v5.b7)).sm/\(((v5.b7).length<=4000000000000000000))/\Gd (((v1.ad)==v11)==true) (Z g9 1)/\Pk ((v1.ad)==v11) (((v1.ad)==v11)==true) true/\Gd ((((v1.ad)==v11)&&v12)==true) (Z g9 0)/\Pk (((v1.ad)==v11)&&v12) ((((v1.ad)==v11)&&v12)==true) true/\Q (bV ((((v1.ad)==v11)&&v12)&&(r8 v8 3))) (bV (cm (ls.take i) v1))/\Z g6 2/\Pk v10 (v10==true) true/\((v10&&J4)=true->((bV (v10&&J4):V)=bV true)/\(true=true)/\(true=true)/\(true=true)/\Z g6 1/\(true=true)/\(((1=1/\x1=x1/\x2=x2)/\0+((r.map sV).length)<=(r.map sV).length/\V.aK (r.map sV)=false/\aM 1 (r.map sV))/\True)/\(([.sl false (((r.map sV).drop 0).take ((r.map sV).length)),sV (v1.ad)]:List V)=[ao r,sV (v1.ad)])/\((r.length<=1000000))/\(true=true)/\Pk true true true/\Br (true&&(!(r.contains (v1.ad)))) (Z g6 1/\((1,1,x1,x2,x3,(r.map sV).length)=(1,1,x1,x2,x3,(r.map sV).length))/\(True)/\(V.aK Ob=false)/\(aM 1 Ob)/\(((r.map sV).length+Ob.length)*16<=140737488355328)/\∀ N8 N3 N':Nat,((.own 1 ((r.map sV)++Ob) N8 N3 N':V)=.own 1 ((r++[v1.ad]).map sV) N8 N3 N')/\Z g9 0/\m8 (v8+1)/\Z g9 0/\Z g9 1/\Pk (aF (ls.take i) v3.b7) true H6/\Gd v7 (Z g6 2)/\Pk ((aF (ls.take i) v3.b7)||v2) true v7/\Z g9 1/\Z g7 0/\Z g9 0/\(((gm:Nat)=gm/\(r4 ls i:List (BL×Value))=r4 ls i)/\(On=sV (v5.b7))/\v6.val? =some (.agg #[.int .i64 v9,.bool (((aF (ls.take i) v3.b7)||v2)||v10)]))/\∀ _:Unit,(v4=.om (r4 ls (i+1)) gm)/\m8 ((i:Int)+1)/\∃ x:Nat×(List BL)×Nat×Nat×Nat×Nat,match x with | (c9,s6,w9,w8,w7,w6)=>(c9<=ls.length/\s6=aP ls c9)/\(ls.length-c9<ls.length-i)/\Q (.own 1 ((r++[v1.ad]).map sV) N8 N3 N') (.own 1 (s6.map sV) w8 w7 w6)/\Q (.om (r4 ls (i+1)) gm) (.om (r4 ls c9) w9)/\E (cD ls)/\E (iN ls.length)/\Q (iN (i+1)) (iN c9)/\True) (Z g9 0/\m8 (v8+1)/\Z g9 0/\Z g9 1/\Pk (aF (ls.take i) v3.b7) true H6/\Gd v7 (Z g6 2)/\Pk ((aF (ls.take i) v3.b7)||v2) true v7/\Z g9 1/\Z g7 0/\Z g9 0/\(((gm:Nat)=gm/\(r4 ls i:List (BL×Value))=r4 ls i)/\(On=sV (v5.b7))/\v6.val? =some (.agg #[.int .i64 v9,.bool (((aF (ls.take i) v3.b7)||v2)||v10)]))/\∀ _:Unit,(v4=.om (r4 ls (i+1)) gm)/\m8 ((i:Int)+1)/\∃ x:Nat×(List BL)×Nat×Nat×Nat×Nat,match x with | (c9,s6,w9,w8,w7,w6)=>(c9<=ls.length/\s6=aP ls c9)/\(ls.length-c9<ls.length-i)/\Q OR (.own 1 (s6.map sV) w8 w7 w6)/\Q (.om (r4 ls (i+1)) gm) (.om (r4 ls c9) w9)/\E (cD ls)/\E (iN ls.length)/\Q (iN (i+1)) (iN c9)/\True))/\((v10&&J4)=false->((bV (v10&&J4):V)=bV false)/\(false=false)/\(false=false)/\(false=false)/\(false=false)/\(false=false)/\Pk false false true/\Br (false&&false) (False) (Z g9 0/\m8 (v8+1)/\Z g9 0/\Z g9 1/\Pk (aF (ls.take i) v3.b7) true H6/\Gd v7 (Z g6 2)/\Pk ((aF (ls.take i) v3.b7)||v2) true v7/\Z g9 1/\Z g7 0/\Z g9 0/\(((gm:Nat)=gm/\(r4 ls i:List (BL×Value))=r4 ls i)/\(On=sV (v5.b7))/\v6.val? =some (.agg #[.int .i64 v9,.bool (((aF (ls.take i) v3.b7)||v2)||v10)]))/\∀ _:Unit,(v4=.om (r4 ls (i+1)) gm)/\m8 ((i:Int)+1)/\∃ x:Nat×(List BL)×Nat×Nat×Nat×Nat,match x with | (c9,s6,w9,w8,w7,w6)=>(c9<=ls.length/\s6=aP ls c9)/\(ls.length-c9<ls.length-i)/\Q OR (.own 1 (s6.map sV) w8 w7 w6)/\Q (.om (r4 ls (i+1)) gm) (.om (r4 ls c9) w9)/\E (cD ls)/\E (iN ls.length)/\Q (iN (i+1)) (iN c9)/\True)))) (((.sl false (V.C8 (r.map sV)):V)=ao r)/\Q (ao r) (ao (aP ls ls.length)))) (sV (v5.b7):V)) (.own 1 (r.map sV) x1 x2 x3)) ([sV (v1.ad)]:List V)) (!(cm (ls.take i) v1))) ((aF (ls.take i) v3.b7)==false)) (.agg [iN ((cls (ls.take i) v3.b7).length),bV (aF (ls.take i) v3.b7)]:V)) (!(aF (ls.take i) v3.b7))) (((cls (ls.take i) v3.b7).length:Nat):Int)) (((aF (ls.take i) v3.b7)||v2)==false)) (.agg [iN (((cls (ls.take i) v3.b7).length)+1),bV (((aF (ls.take i) v3.b7)||v2)||v10)]:V)) (.om (dh (r4 ls i) (v5.b7) (.agg #[.int .i64 v9,.bool (((aF (ls.take i) v3.b7)||v2)||v10)])) gm:V)) (w4 (v1.ki) 3)) ((((cls (ls.take i) v3.b7).length)+1:Nat):Int)) (oA (ak v1.ad))) (!((v1.ad)==v11))) (ag (v5.b7))) (oA (ak (v1.ad)))) (ls.getD i h9)) ?_
 refine⟨trivial,?_⟩
 intro g12
 refine⟨⟨(0,[],g12,0,0,0),?_,rfl,Zaf,rfl,Zaf,rfl,trivial⟩,?_⟩
 exact⟨Zaa,rfl⟩
 rintro⟨i,r,gm,x1,x2,x3⟩ ⟨h1,h2⟩
 have O1:r.length<=i:=by rw[h2];exact fM ..
 refine bI (fun l3=>?_) fun l3=>?_
 · refine⟨⟨Zaa,aq (d:=h9) Zaa⟩,trivial,?_⟩
   intro g6
   refine⟨rfl,?_⟩
   have E6:=ha (ls.getD i h9) (aj (d:=h9) Zaa)
   have Tb:=hk i Zaa
   have J6:ak (ls.getD i h9).ad=aC (ls.getD i h9).ad:=if_pos Tb
   have TL:=(lr (ls.getD i h9).ad).1
   have hcl:=py ls i (oA (ak (ls.getD i h9).ad)).b7
   refine⟨rfl,rfl,⟨by have:=E6.1;omega,E6.2⟩,?_⟩
   intro g7
   refine⟨rfl,?_⟩
   refine bI (fun l6=>?_) fun l6=>?_
   rw[J6,dK Tb]at l6;cases l6
   · refine⟨rfl,⟨⟨rfl,rfl⟩,rfl,mS Zaa (oA (ak (ls.getD i h9).ad)).b7⟩,?_⟩
     intro _
     intro g9
     refine⟨rfl,rfl,rfl,rfl,by rw[J6];omega,fun hG=>rfl,⟨fun h=>by rw[h] <;> rfl,fun _=>rfl⟩,fun hG=>rfl,⟨fun h=>by rw[h] <;> rfl,fun _=>rfl⟩,by unfold Q;exact Zbk bV (mQ J6),rfl,⟨fun h=>by rw[h] <;> rfl,fun _=>rfl⟩,?_⟩
     refine⟨fun x5=>?_,fun x5=>?_⟩
     have C4:=x5
     try simp only[nb]at C4
     refine⟨Zbk bV x5,rfl,rfl,rfl,rfl,rfl,⟨⟨⟨rfl,rfl,rfl⟩,Zab,cP (f:=sV) (fun _=>rfl) _,dY (f:=sV) (fun _=>rfl) _⟩,trivial⟩,by simp[Zax],Zaa,rfl,⟨fun _=>rfl,fun _=>rfl⟩,?_⟩
     refine bI (fun n0=>?_) fun n0=>?_
     refine⟨rfl,rfl,trivial,rfl,by simp[aM,V.n,V.ns],Zaj,?_⟩
     intro N8 N3 N'
     refine⟨Zbk (V.own 1 · N8 N3 N') Zab,rfl,Zaa,rfl,rfl,⟨fun _=>rfl,fun h=>by rw[h] <;> rfl⟩,fun hG=>rfl,⟨fun _=>rfl,fun h=>by rw[h] <;> rfl⟩,rfl,rfl,rfl,⟨⟨rfl,rfl⟩,rfl,rfl⟩,?_⟩
     intro _
     refine⟨Zbk (V.om · gm) (fN Zaa J6),Zaa,?_⟩
     refine⟨(i+1,r++[(ls.getD i h9).ad],gm,N8,N3,N'),?_,?_,rfl,rfl,rfl,rfl,rfl,trivial⟩
     exact⟨Zaa,rQ h2 C4 n0⟩
     exact Zai
     refine⟨rfl,Zaa,rfl,rfl,⟨fun _=>rfl,fun h=>by rw[h] <;> rfl⟩,fun hG=>rfl,⟨fun _=>rfl,fun h=>by rw[h] <;> rfl⟩,rfl,rfl,rfl,⟨⟨rfl,rfl⟩,rfl,rfl⟩,?_⟩
     intro _
     refine⟨Zbk (V.om · gm) (fN Zaa J6),Zaa,?_⟩
     refine⟨(i+1,r,gm,x1,x2,x3),?_,?_,rfl,rfl,rfl,rfl,rfl,trivial⟩
     exact⟨Zaa,rA h2 n0⟩
     exact Zai
     · have C4:=x5
       try simp only[nb]at C4
       refine⟨Zbk bV x5,rfl,rfl,rfl,rfl,rfl,⟨fun h=>by rw[h] <;> rfl,fun _=>rfl⟩,?_⟩
       refine bI (fun x7=>?_) fun x7=>?_
       · all_goals (first | exact absurd x7 Zad | simp_all)
       refine⟨rfl,Zaa,rfl,rfl,⟨fun _=>rfl,fun h=>by rw[h] <;> rfl⟩,fun hG=>rfl,⟨fun _=>rfl,fun h=>by rw[h] <;> rfl⟩,rfl,rfl,rfl,⟨⟨rfl,rfl⟩,rfl,rfl⟩,?_⟩
       intro _
       refine⟨Zbk (V.om · gm) (fN Zaa J6),Zaa,?_⟩
       refine⟨(i+1,r,gm,x1,x2,x3),?_,?_,rfl,rfl,rfl,rfl,rfl,trivial⟩
       exact⟨Zaa,so h2 x5⟩
       exact Zai
 refine⟨Zbk (V.sl false) (aT (fun _=>rfl) _),?_⟩
 unfold Q
 rw[h2,show i=ls.length from Zaa]
def gU(ls:List l5):o6 Tryz.prog:={ f:=28,args:=[cD ls],H:=[],pre:=(ls.length<=400)/\(∀ x,x∈ls->x.ad.length<=1000/\l8 x.ad)/\(∀ i,i<ls.length->aA (ls.getD i h9).ad=true),res:=ao (aP ls ls.length),H':=[],ok:=fun h=>kh ls h.1 h.2.1 h.2.2 }
theorem gF(t:j6)(ht:r5 t):PF Tryz.prog 11 [bF t.na t.a7 t.hs t.se t.lk] [] (fun r h=>r=(ao (az t))/\h=[]):=by
 refine aB (N:=9) (rs:=[.tmp 2]) Tryz.func11
  (.bx (fun g1=>.q 1<|.r 1 [.b9]<|.c (dp t) []<|.q 1<|.br (.q 1<|.nil) (.r 2 [.b9]<|.c (gU t.lk) []<|.q 1<|.nil)))
  (∀ g1:Nat,Z g1 0/\(dp t).sm/\((r5 t))/\Br (!(ax t)) (Q (.sl false []) (ao (az t))) (Z g1 4/\(gU t.lk).sm/\((t.lk.length<=400)/\(∀ x,x∈t.lk->x.ad.length<=1000/\l8 x.ad)/\(∀ i,i<t.lk.length->aA (t.lk.getD i h9).ad=true))/\Q (ao (aP t.lk t.lk.length)) (ao (az t)))) ?_
 intro g1
 refine⟨rfl,rfl,ht,?_⟩
 refine bI (fun l3=>?_) fun l3=>?_
 unfold Q
 rw[show az t=[] from if_neg (by rw[l3];decide)]
 rfl
 refine⟨rfl,rfl,⟨ph l3,ht.la,fun i hi=>ry l3 hi⟩,?_⟩
 unfold Q
 rw[show az t=aP t.lk t.lk.length from if_pos l3]
def dF(t:j6):o6 Tryz.prog:={ f:=11,args:=[bF t.na t.a7 t.hs t.se t.lk],H:=[],pre:=(r5 t),res:=ao (az t),H':=[],ok:=fun h=>gF t h }
theorem iv{w:List Pg}{n:BL}{t:j6}(hG:GI w n t):(az t).length<=360:=by
 have:=da hG
 unfold az
 split
 have:=fM t.lk t.lk.length;omega
 simp
theorem mJ{w:List Pg}{n:BL}{p:List BL}{m:Int}(hm:x4 m 0 400=true)(h:(aw n p).isSome=true/\(aR w (oT (aw n p)) m).isSome=true):CI w p [] (ay w n p m):=by
 obtain⟨t,h1,h2,h3⟩:=dc hm h
 rw[h3]
 exact ku h2 _ (eA h1) (kc h1) (pC h1)
theorem nP{n:BL}{p:List BL}(h:(aw n p).isSome=true):aZ n=true/\p.length<=12:=by
 unfold aw at h
 split at h
 assumption
 cases h
theorem rM{w:List Pg}{n:BL}{p:List BL}{m:Int}(hm:x4 m 0 400=true)(h:(aw n p).isSome=true/\(aR w (oT (aw n p)) m).isSome=true):∀ y,y∈az (ay w n p m)->y∈(ay w n p m).se:=fun y hy=>by
 obtain⟨hG,hW⟩:=dy hm h
 exact(iF hW (nP h.1).1 hG (nq hm h) hy).2
theorem Gb{n:BL}{p:List BL}(hz:∀ i,m4 (([]:List Pg).getD i l9))(hn:n.length<=1000)(hl:p.length<=400)(ha:∀ x,x∈p->x.length<=1000/\l8 x)(h:(aw n p).isSome=true/\(aR [] (oT (aw n p)) 400).isSome=true):
 ax (ay [] n p 400)=true/\(ay [] n p 400).hs.any aH=false/\(∀ y,y∈az (ay [] n p 400)->y∈p)/\(∀ y,y∈(ay [] n p 400).se->y∈az (ay [] n p 400))/\(ay [] n p 400).lk.length=(ay [] n p 400).se.length+(ay [] n p 400).hs.length:=by
 have hC:=mJ (w:=[]) rfl h
 have hse:=rM (w:=[]) rfl h
 have M1:=(mU (w:=[]) rfl h).1
 obtain⟨t,h1,h2,h3⟩:=dc (w:=[]) rfl h
 have hS:=px hn hl ha
 have hh:=oW (n:=n) hl
 rw[h1]at hS hh
 have hN:NI t/\t.lk.length=0/\t.se.length<=12/\t.hs.length<=12:=by
  have h4:=h1
  unfold aw at h4
  split at h4
  rename_i c
  cases h4
  have hf:=lE n p (lQ n)
  refine⟨NI.aW (t:=aG n) ⟨by simp[aG],fun y hy=>by simp[aG]at hy⟩ fun y hy=>by simp[aG]at hy,by rw[hf.lk];rfl,by have:=hf.sl;omega,by have:=hf.hl;omega⟩
  cases h4
 obtain⟨hN,n1,n2,n3⟩:=hN
 have hc:=hN.Sm
 obtain⟨j,j1,j2,j3,j4,j5⟩:=AA (hz:=hz) 400 0 (WQ.new h1 hS hh) hN Zaa Zaa
 have e:ay [] n p 400=z6 [] 400 t:=h3
 have PX:=MO j2.gi j2.tm j1 j4
 rw[e]at hC hse M1 ⊢
 have I1:∀ y,y∈(z6 [] 400 t).hs->bK y=0:=fun y hy=>by
  have h5:=PX y hy
  unfold bK
  rw[h5]
  cases hk:y.kn with
  | true=>rfl
  | false=>exact absurd h5 (j3.O8 y hy hk)
 refine⟨M1,?_,fun y hy=>?_,fun y hy=>?_,?_⟩
 rw[List.any_eq_false]
 intro y hy
 rw[show aH y=decide (y.td≠[]) from rfl,PX y hy];simp
 rcases hC.sr y (hse y hy) with c | ⟨k,_,c⟩
 exact c
 unfold bc at c
 split at c
 rw[get_nil]at c;simp[ov]at c
 simp at c
 rcases hC.di y hy with ⟨z,z1,x,x1,_⟩ | c | ⟨k,k1,k2⟩ | c
 rw[PX z z1]at x1;simp at x1
 rw[zj]at c;cases c
 rw[<- k2];exact ic M1 k1
 rw[get_nil]at c;cases c
 have:=j3.Sm
 have c5:((z6 [] 400 t).hs.map bK).sum=0:=List.sum_eq_zero_iff_forall_eq_nat.2 fun x hx=>by
  obtain⟨y,hy,rfl⟩:=List.mem_map.1 hx
  exact I1 y hy
 omega
theorem tE:∀ i,m4 (([]:List Pg).getD i l9):=fv (fun y hy=>by simp at hy)
theorem BB(b:BL)(ea:Addr)(hb:b.length<=9223372036854775807):PF Tryz.prog 3 [gJ b] [(9000,(0,.lit (.iface 251 (.pointer (some ea)))))] (fun r h=>r=(bV true)/\h=[(9000,(0,.lit (.iface 251 (.pointer (some ea)))))]):=by
 refine aB (N:=66) (rs:=[.tmp 2]) Tryz.func3
  (.q 1<|.q 3<|.br (.q 1<|.nil) (.q 1<|.cx (du b) [] (fun (a8:List Pg×BL×List BL)=>.q 7<|.q 2<|.c (gB ([]:List Pg) a8.2.1 a8.2.2 (400:Int) ea) [(9000,9000)]<|.mv<|.mv<|.q 1<|.al fo (fun g6=>.h (.fz 22)<|.h (.n8 22 (bF ((ay [] a8.2.1 a8.2.2 400).na) ((ay [] a8.2.1 a8.2.2 400).a7) ((ay [] a8.2.1 a8.2.2 400).hs) ((ay [] a8.2.1 a8.2.2 400).se) ((ay [] a8.2.1 a8.2.2 400).lk)))<|.st none<|.q 1<|.q 3<|.c (dE ([]:List Pg) a8.2.1 a8.2.2) []<|.q 5<|.br (.q 3<|.c (dE ([]:List Pg) a8.2.1 a8.2.2) []<|.q 2<|.nil) (.r 1 [.b9]<|.c (dF (ay [] a8.2.1 a8.2.2 400)) []<|.q 1<|.r 1 [.b9]<|.c (eK (ay [] a8.2.1 a8.2.2 400)) []<|.q 3<|.cg (eg (az (ay [] a8.2.1 a8.2.2 400)) a8.2.2)<|.r 5 [.b9]<|.cg (eg ((ay [] a8.2.1 a8.2.2 400).se) (az (ay [] a8.2.1 a8.2.2 400)))<|.r 15 [.b9,.b9,.b9]<|.nil)))))
  ((fun v1:V=>(Br (w3 (((b.map n7).length:Nat):Int) 1048576) (Q (bV true) (bV true)/\Er 0 v1) ((du b).sm/\((b.length<=9223372036854775807))/\∀ a8:List Pg×BL×List BL,(1<=a8.1.length/\a8.1.length<=30/\(∀ y,y∈a8.1->m4 y)/\a8.2.1.length<=5/\aZ a8.2.1=true/\a8.2.2.length<=4/\(∀ y,y∈a8.2.2->y.length<=30/\l8 y))->(fun v2:j6=>(fun v5:Option j6=>(fun v3:Option j6=>(fun v4:Bool=>(gB ([]:List Pg) a8.2.1 a8.2.2 (400:Int) ea).sm/\Er 0 v1/\((([]:List Pg).length<=30)/\(∀ i,m4 (([]:List Pg).getD i l9))/\(a8.2.1.length<=1000)/\(a8.2.2.length<=400)/\(∀ x,x∈a8.2.2->x.length<=1000/\l8 x))/\∀ g6:Nat,((.agg [sV ((oT v3).na),iV ((oT v3).a7),.sl false (V.C8 (((oT v3).hs).map aL)),.sl false (V.C8 (((oT v3).se).map sV)),.sl false (V.C8 (((oT v3).lk).map bf))]:V)=bF (v2.na) (v2.a7) (v2.hs) (v2.se) (v2.lk))/\Z g6 0/\(dE ([]:List Pg) a8.2.1 a8.2.2).sm/\((([]:List Pg).length<=30)/\(∀ i,m4 (([]:List Pg).getD i l9))/\(a8.2.1.length<=1000)/\(a8.2.2.length<=400)/\(∀ x,x∈a8.2.2->x.length<=1000/\l8 x))/\Pk v4 true (v4==false)/\Br (v4||(!(v5.isSome&&v3.isSome))) ((dE ([]:List Pg) a8.2.1 a8.2.2).sm/\((([]:List Pg).length<=30)/\(∀ i,m4 (([]:List Pg).getD i l9))/\(a8.2.1.length<=1000)/\(a8.2.2.length<=400)/\(∀ x,x∈a8.2.2->x.length<=1000/\l8 x))/\Q (bV ((v5.isSome&&v3.isSome)==(v5.isSome&&ai ([]:List Pg)))) (bV true)/\Er 0 v1) (Z g6 0/\(dF v2).sm/\((r5 v2))/\Z g6 0/\(eK v2).sm/\((r5 v2))/\Gd ((ax v2&&!(v2.hs.any aH))==true) ((((az v2).length<=1000000)/\(a8.2.2.length<=1000000)/\(∀ y,y∈(az v2)->y∈a8.2.2))/\(eg (az v2) a8.2.2).sm)/\Pk (ax v2&&!(v2.hs.any aH)) ((ax v2&&!(v2.hs.any aH))==true) true/\Gd (((ax v2&&!(v2.hs.any aH))||false)==true) (Z g6 3)/\Gd (((ax v2&&!(v2.hs.any aH))||false)==true) ((((v2.se).length<=1000000)/\((az v2).length<=1000000)/\(∀ y,y∈(v2.se)->y∈(az v2)))/\(eg (v2.se) (az v2)).sm)/\Pk ((ax v2&&!(v2.hs.any aH))||false) (((ax v2&&!(v2.hs.any aH))||false)==true) true/\Gd ((((ax v2&&!(v2.hs.any aH))||false)||false)==true) (Z g6 4)/\Gd ((((ax v2&&!(v2.hs.any aH))||false)||false)==true) (Z g6 3)/\Gd ((((ax v2&&!(v2.hs.any aH))||false)||false)==true) (Z g6 2)/\Gd ((((ax v2&&!(v2.hs.any aH))||false)||false)==true) (m8 (((((v2.se).map sV).length:Nat):Int)+((((v2.hs).map bw).length:Nat):Int)))/\Pk (((ax v2&&!(v2.hs.any aH))||false)||false) ((((ax v2&&!(v2.hs.any aH))||false)||false)==true) true/\Q (bV ((((ax v2&&!(v2.hs.any aH))||false)||false)&&(r6 ((((v2.lk).map bf).length:Nat):Int) (((((v2.se).map sV).length)+(((v2.hs).map bw).length):Nat):Int)))) (bV true)/\Er 0 v1)) (!((v5.isSome&&v3.isSome)==(v5.isSome&&ai ([]:List Pg))))) (aR ([]:List Pg) (oT v5) (400:Int))) (aw a8.2.1 a8.2.2)) (ay [] a8.2.1 a8.2.2 400)))) (.lit (.iface 251 (.pointer (some ea))))) ?_
 refine bI (fun l3=>?_) fun l3=>?_
 refine⟨?_,rfl⟩
 unfold Q
 rfl
 refine⟨rfl,Zaa,?_⟩
 intro a8 m7
 refine⟨rfl,rfl,⟨Zab,tE,Zaa,Zaa,fun x hx=>⟨by have:=(m7.2.2.2.2.2.2 x hx).1;omega,(m7.2.2.2.2.2.2 x hx).2⟩⟩,?_⟩
 intro g6
 refine⟨by rw[jy,aT (f:=sV) (fun _=>rfl),aT (f:=bf) (fun _=>rfl),jQ],rfl,rfl,⟨Zab,tE,Zaa,Zaa,fun x hx=>⟨by have:=(m7.2.2.2.2.2.2 x hx).1;omega,(m7.2.2.2.2.2.2 x hx).2⟩⟩,⟨fun _=>rfl,fun h=>by rw[h] <;> rfl⟩,?_⟩
 refine bI (fun l6=>?_) fun l6=>?_
 refine⟨rfl,⟨Zab,tE,Zaa,Zaa,fun x hx=>⟨by have:=(m7.2.2.2.2.2.2 x hx).1;omega,(m7.2.2.2.2.2.2 x hx).2⟩⟩,?_⟩
 refine⟨?_,rfl⟩
 unfold Q
 rw[ez rfl];simp
 obtain⟨hG,hW⟩:=dy rfl l6.2
 have hsn:=hG.sn.2
 have V8:=hG.hl
 have I3:=iv hG
 have Yt:=mr rfl tE Zaa Zaa (fun x hx=>⟨by have:=(m7.2.2.2.2.2.2 x hx).1;omega,(m7.2.2.2.2.2.2 x hx).2⟩) l6.2
 have V9:=Gb tE Zaa Zaa (fun x hx=>⟨by have:=(m7.2.2.2.2.2.2 x hx).1;omega,(m7.2.2.2.2.2.2 x hx).2⟩) l6.2
 refine⟨rfl,rfl,Yt,rfl,rfl,Yt,fun hG=>⟨⟨by(try simp only[nb]at hG);omega,by(try simp only[nb]at hG);omega,by(try simp only[nb]at hG);first | exact V9.2.2.1 | exact V9.2.2.2.1⟩,rfl⟩,⟨fun h=>by rw[h] <;> rfl,fun _=>rfl⟩,fun hG=>rfl,fun hG=>⟨⟨by(try simp only[nb]at hG);omega,by(try simp only[nb]at hG);omega,by(try simp only[nb]at hG);first | exact V9.2.2.1 | exact V9.2.2.2.1⟩,rfl⟩,⟨fun h=>by rw[h] <;> rfl,fun _=>rfl⟩,fun hG=>rfl,fun hG=>rfl,fun hG=>rfl,fun hG=>by(try simp only[nb]at hG);(try simp only[Zaw]at *);omega,⟨fun h=>by rw[h] <;> rfl,fun _=>rfl⟩,?_⟩
 refine⟨?_,rfl⟩
 unfold Q
 refine Zbk bV ?_
 rw[V9.1,V9.2.1]
 simp only[Bool.true_and,Bool.and_true,Bool.or_false,Bool.not_false]
 exact decide_eq_true (by have:=V9.2.2.2.2;(try simp only[Zaw]at *);omega)
section
open Go Go.ChangeShapes Go.WideShapes Go.ChangeAt Go.RowKit
theorem own:ownKnob Tryz.prog.godebug=none:=Zac
theorem laidOut:laidOutB Tryz.prog=true:=Zac
theorem ft:Tryz.prog.globalNamed "loop.example/pedlar/impl.errNoCall" =some 0:=Zac
theorem gH:(Tryz.prog.globals[0]?).map (·.type)=some 111:=Zac
theorem jY: "*" ++ "errors.errorString" = "*errors.errorString" :=Zad
theorem rD(u:TypeId) (h:Tryz.prog.typeName? 3 u=some "*errors.errorString"):u=251:=
 typeName_ptr_named (nm:= "errors.errorString") (by rw[jY];kernel_rfl) Zac Zad u (by rw[jY];exact h)
theorem oB:Tryz.prog.cellsOf 274=1:=Zac
theorem oo:Tryz.prog.cellsOf 9=1:=Zac
set_option maxRecDepth 100000 in
theorem fnGoNone_lifted(os:Os)(started:os.Started)(H:Type)(enc:TypeId×Value->H):
 ReturnsInHanded {} Tryz.checked os 3 .any (fun w args=>(Rows.fnGoNoneSpec.pre enc Tryz.prog Tryz.f3 [] false w args/\laidMetH Tryz.prog Rows.fnGoNoneRow.laid w)/\sizedMet enc Tryz.prog Tryz.f3 (OpenSpec.ofChange Rows.fnGoNoneSpec) false w args)
  (Rows.fnGoNoneSpec.post enc Tryz.prog Tryz.f3 false true false false):=by
 refine returnsInHanded_of_change_and (C:=Tryz.checked) (X:=fun w _=>laidMetH Tryz.prog Rows.fnGoNoneRow.laid w) (fun _ _ _ hh h=>h.of_heap hh) own started Zac Tryz.func3
  (ChangeSpec.witness_shaped (enc:=enc) (C:=Tryz.checked) (os:=os) (X:=fun w _=>laidMetH Tryz.prog Rows.fnGoNoneRow.laid w) false (World.laidAll Tryz.prog os Rows.fnGoNoneRow.laid) #[.slice none 0 0] 8 (World.laidAll_os _ _ _)
   (World.shaped_of_ZipB Zac Zac) Zac Zac Zac
   (by rw[MakeChecks.laidMetH_plain _ _ _ Zac];exact laidMet_laidAll _ Zac Zac)) ?_
 intro W base args ds gs before I6 hW _ _ T5 _
 have hL:laidMet Tryz.prog Rows.fnGoNoneRow.laid W:=by rw[<- MakeChecks.laidMetH_plain _ _ _ Zac];exact T5
 have G9:∀ (j:Nat) t v,Tryz.f3.params[j]? =some t->args[j]? =some v->Value.okWide Tryz.prog W .any base t v:=I6
 have T0:=hW
 obtain⟨p,q,RP,T3,rfl,Yp,hnd⟩:=hW
 have hV:DataW.TrodVars enc Tryz.prog W (fun _=>true) ["loop.example/pedlar/impl.errNoCall"] gs q:=T3
 have hA:DataW.TrodAll enc Tryz.prog W 0 (fun _=>true) true Tryz.f3.params.toList args.toList ds p:=RP
 rw[Tryz.params3]at hA G9
 obtain⟨v0,d0,rfl,rfl,h0⟩:=trodAll_one hA
 obtain⟨ea,s0,Qm,_,_,_⟩:=laid_sentinel hL.tail ft gH (ms:=_) (tp:=251) (te:=274) (ts:=9) Tryz.underlying111 rD Tryz.underlying251 Tryz.underlying274 rfl rfl Tryz.underlying9 oB oo
 obtain⟨bt,hbk⟩:=mg hL.tail ft Qm
 obtain⟨rfl,rfl⟩:=hV.unique (vars_read1 enc ft gH Tryz.underlying111 Qm trivial _)
 obtain⟨a0,TF,Ub,rfl⟩:=okWide_slice Tryz.underlying22 (G9 0 22 v0 rfl rfl)
 have TE:∀ x∈p,x.block<W.heap.size:=by obtain⟨m,hm⟩:=h0;exact DataW.trod_lt m _ _ _ hm
 obtain⟨b,rfl,hb,hv⟩:=nk Tryz.underlying22 Tryz.underlying5 Zac h0
 clear RP I6
 refine(oh BB hb hv hbk).mono fun e W' ⟨he,Qa⟩=>?_
 subst he
 have Ql:W'.var? Tryz.prog "loop.example/pedlar/impl.errNoCall" =some #[.iface 251 (.pointer (some ea))]:=by
  rw[<- Qm];unfold World.var?;rw[ft,Option.bind_some,Option.bind_some,Qa.block 0 (Zbf.1 hbk).1]
 exact⟨_,rfl,_,_,_,[],p,[.cell 0 0],T0,trodAll_mk1 (shut_bool Tryz.underlying4 _),trodAll_mk1 (Below.trod laidOut Zac (of_decide_eq_true Zac) h0 Qa TE),vars_read1 enc ft gH Tryz.underlying111 Ql trivial _,Qa.frame _,fun h=>by cases h⟩
theorem fnGoNone_row:Rows.FnGoNoneSaid:=
 OpenClaim.holds_of_wide 3 Tryz.f3 rfl rfl rfl rfl rfl rfl rfl ⟨rfl,rfl,rfl,rfl,rfl⟩ rfl rfl rfl rfl rfl Zac Tryz.func3 Zac
  (of_decide_eq_true Zac) (by unfold Func.isWrapper;first | (rw[if_pos (by decide +kernel)];kernel_rfl) | (rw[if_neg (by decide +kernel)];exact⟨rfl,rfl⟩))
  (fun os started H enc _=>fnGoNone_lifted os started H enc)
theorem fnGoNone_holds:Rows.FnGoNoneCardSaid:=
 Claim7.holds_tied_plain_at .later [] [.data,.sentinel,.pinned] true (true, "bd0267698ac3c5cbc345b75f52a24bc9d52cde5e4d65ec983ffe5f04b7f2c726") true fnGoNone_row (fun _ h=>by cases h) Zac (fun _ h=>by cases h) fnGoNone_row_tie rfl ⟨rfl,rfl⟩ Zac rfl
  (fun f fn hf Oi=>by
   obtain rfl:f=3:=Option.some.inj ((show Tryz.prog.funcNamed "loop.example/pedlar/laws.FnGoNone" =some 3 by kernel_rfl).symm.trans hf) |>.symm
   obtain rfl:fn=Tryz.f3:=(Option.some.inj (Tryz.func3.symm.trans Oi)).symm
   exact⟨Zac,fun j t ht=>by
    rw[Tryz.params3]at ht
    have hm:t∈[22]:=by simpa using Array.mem_of_getElem? ht
    have G8:([22].all fun u=>!Tryz.prog.wantsStandIn u)=true:=Zac
    exact(show Tryz.prog.wantsStandIn t=false by simpa using Za0.1 G8 t hm)⟩)
  Zac
end
end Go.Proofs.YtelggdgnblpjdaaGreatDoor