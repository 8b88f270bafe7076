/-
  laws.FnGoEnd returns true for every input and leaves it as it was; conditions: the listed tables lie as the program's text lays them.
-/
import Derived.Test.YtelggdgnblpjdaaGreatDoorGE
import Derived.Laws.StructEq
import Derived.Test.YtelggdgnblpjdaaGreatDoorTie
import Derived.Test.YtelggdgnblpjdaaGreatDoorCards
set_option linter.unusedVariables false
set_option linter.unusedSimpArgs false
namespace Go.Proofs.YtelggdgnblpjdaaGreatDoor
open Go Go.RowKit
set_option maxRecDepth 20000
section
theorem ld{r:BL}(h:([47]++r).length<=60):av [⟨false,[47]⟩] ([47]++r)=false:=by
 have h0:an 42 (bU [47])=[[47]]:=Zad
 have h1:cB [47] ([47]++r)=true:=by
  unfold cB
  rw[show aI [47]=true from Zad,decide_eq_true h]
  unfold ra
  rw[h0]
  simp[ly,show fH [47]=false from Zad]
 have h2:cB [47] (47::r)=true:=h1
 simp[av,dX,h2]
theorem jj{s:BL}(h:aA s=true):av [⟨false,[47]⟩] (pathOf s)=false:=by
 have ha:=(eY (gX (dK h))).2.2.2.2.2
 unfold pathOf
 have e:bz (oA (aC s))=[47]++(cI (oA (aC s)).e9++(if (oA (aC s)).asks=true then [63]++(oA (aC s)).ask else [])):=by
  unfold bz;rw[List.append_assoc]
 rw[e]
 refine ld ?_
 rw[<- e]
 unfold cX at ha
 simp only[Zan,Zap,Zas]at ha ⊢
 omega
def BI(w:List Pg)(t:j6):Prop:= ∀ y,y∈t.hs->y.kn=true->(ae w (ag y.na) 2).1=3->y.td=[]/\y.gr.ru=[⟨false,[47]⟩]/\(cls t.lk y.na).length<=3
variable {w:List Pg} {n:BL}
theorem BI.call{t:j6} {i:Nat} {y':k9} {l:l5} {a7:Int} (hG:GI w n t) (h:BI w t) (hi:i<t.hs.length) (hl:ab l.ad=(t.hs.getD i c5).na)
 (hy:y'.kn=true->(ae w (ag y'.na) 2).1=3->y'.td=[]/\y'.gr.ru=[⟨false,[47]⟩]/\(cls (t.lk++[l]) y'.na).length<=3):BI w ⟨t.na,a7,t.hs.set i y',t.se,t.lk++[l]⟩:=fun z hz hk h3=>by
 rcases gG hG.nd hi hz with e | ⟨e,e2⟩
 subst e;exact hy hk h3
 obtain⟨a1,a2,a3⟩:=h z e hk h3
 refine⟨a1,a2,?_⟩
 show (cls (t.lk++[l]) z.na).length<=3
 rw[bH,if_neg (by rw[hl];exact fun c=>e2 c.symm),List.append_nil]
 exact a3
theorem BI.bX{t:j6}{s:BL}(h:BI w t):BI w (ah t s):=by
 by_cases hr:de t.se s
 case neg=>
  have e3:bT t.se s=t.se:=if_neg hr
  have e4:aN t.na t.hs t.se s=t.hs:=if_neg hr
  have:ah t s=t:=by unfold ah;rw[e3,e4]
  rw[this];exact h
 have e4:(ah t s).hs=(au t.hs (ab s) t.na).set (o8 t.hs (ab s)) (aX ((au t.hs (ab s) t.na).getD (o8 t.hs (ab s)) c5) s):=if_pos hr
 have hin:∀ y,y∈au t.hs (ab s) t.na->y.kn=true->(ae w (ag y.na) 2).1=3->y.td=[]/\y.gr.ru=[⟨false,[47]⟩]/\(cls t.lk y.na).length<=3:=fun y hy hk h3=>by
  unfold au at hy
  split at hy
  exact h y hy hk h3
  rcases Zav.1 hy with hy | hy
  exact h y hy hk h3
  rw[Zat.1 hy]at hk;simp[bq]at hk
 intro z hz hk h3
 rw[e4]at hz
 show z.td=[]/\z.gr.ru=_/\(cls t.lk z.na).length<=3
 rcases bg hz with e | e
 have u0:=hin _ (aj (d:=c5) (bL t.hs (ab s) t.na))
 generalize (au t.hs (ab s) t.na).getD (o8 t.hs (ab s)) c5=y at *
 subst e
 unfold aX at hk h3 ⊢
 split at hk
 rename_i c;rw[if_pos c]at h3 ⊢;exact u0 hk h3
 rename_i c
 exfalso
 rw[if_neg c]at h3
 have C3:y.kn=true:=hk
 have:=u0 C3 h3
 exact c ⟨C3,by rw[this.2.1];exact jj hr.1⟩
 exact hin z e hk h3
theorem BI.aW{l:List BL}:∀ {t:j6},BI w t->BI w (l.foldl ah t):=by
 induction l with
 | nil=>exact fun h=>h
 | cons a l ih=>exact fun h=>ih h.bX
end
section
def aV(gs:List l4):Nat:=(gs.map fun y=>y.ru.length).sum
def db(gs:List l4):Prop:= ∀ y,y∈gs->∀ r,r∈y.ru->aI r.path=true
theorem dM(l r:List l4):aV (l++r)=aV l+aV r:=by unfold aV;rw[Za9,List.sum_append]
theorem dZ(gs:List l4):gs=[]\/∃ l z,gs=l++[z]:=by
 by_cases h:gs=[]
 exact .inl h
 obtain⟨x,hx⟩:=jL h
 exact .inr ⟨x.1,x.2,hx⟩
theorem eH{gs:List l4}{f:l4->l4}{k:Nat}(hf:∀ z,(f z).ru.length<=z.ru.length+k):aV (cS gs f)<=aV gs+k:=by
 rcases dZ gs with h | ⟨l,z,h⟩
 subst h;simp[cS,aV]
 subst h
 rw[dv,dM,dM]
 have:=hf z
 simp only[aV,Zbc,List.map_nil,List.sum_cons,List.sum_nil]
 omega
theorem ju{gs:List l4}{w d:BL}{b:Bool}:aV (ey gs w d b).1<=aV gs+1:=by
 unfold ey
 split
 split
 rw[dM];simp[aV]
 exact Nat.le_trans (eH (k:=0) fun z=>Zba _) Zaa
 split
 simp only;omega
 split
 exact eH fun z=>by simp
 split
 exact Nat.le_trans (eH (k:=0) fun z=>Zba _) Zaa
 simp only;omega
theorem fm{gs:List l4}{f:l4->l4}(h:db gs)(hf:∀ z,(∀ r,r∈z.ru->aI r.path=true)->∀ r,r∈(f z).ru->aI r.path=true):db (cS gs f):=by
 rcases dZ gs with e | ⟨l,z,e⟩
 subst e;exact h
 subst e
 rw[dv]
 intro y hy
 rcases Zav.1 hy with hy | hy
 exact h y (List.mem_append_left _ hy)
 rw[Zat.1 hy]
 exact hf z (h z (List.mem_append_right _ (Zat.2 rfl)))
theorem kR{gs:List l4}{w d:BL}{b:Bool}(h:db gs):db (ey gs w d b).1:=by
 unfold ey
 split
 split
 intro y hy
 rcases Zav.1 hy with hy | hy
 exact h y hy
 rw[Zat.1 hy];intro r hr;simp at hr
 exact fm h fun z hz=>hz
 split
 exact h
 split
 rename_i c
 refine fm h fun z hz r hr=>?_
 rcases Zav.1 hr with hr | hr
 exact hz r hr
 rw[Zat.1 hr];exact c.2.1
 split
 exact fm h fun z hz=>hz
 exact h
theorem fw:∀ (l:List BL) (x:List l4×Bool),aV (l.foldl cf x).1<=aV x.1+l.length
 | [],x=>Zba _
 | a::l,x=>by
   have h1:=fw l (cf x a)
   have h2:aV (cf x a).1<=aV x.1+1:=ju
   simp only[List.foldl_cons,Zap]
   omega
theorem gy:∀ (l:List BL) (x:List l4×Bool),db x.1->db (l.foldl cf x).1
 | [],x,h=>h
 | a::l,x,h=>gy l (cf x a) (kR h)
theorem ee(t:BL):aV (ct t)<=40/\db (ct t):=by
 constructor
 have:=fw ((an 10 t).take 40) ([],false)
 have h2:=List.length_take_le 40 (an 10 t)
 simp only[aV,List.map_nil,List.sum_nil]at this
 unfold ct aV
 omega
 exact gy _ _ (fun y hy=>by simp at hy)
theorem ib(n:BL):∀ (gs:List l4) (x:(List r7×Nat)×Bool),db gs->(∀ r,r∈x.1.1->aI r.path=true)->
 (gs.foldl (bR n) x).1.1.length<=x.1.1.length+aV gs/\∀ r,r∈(gs.foldl (bR n) x).1.1->aI r.path=true
 | [],x,_,h=>⟨by simp[aV],h⟩
 | g::gs,x,hg,h=>by
   have hs:(bR n x g).1.1.length<=x.1.1.length+g.ru.length/\∀ r,r∈(bR n x g).1.1->aI r.path=true:=by
    unfold bR
    split
    refine⟨Zab,fun r hr=>?_⟩
    rcases Zav.1 hr with hr | hr
    exact h r hr
    exact hg g Zab r hr
    exact⟨Zaa,h⟩
   obtain⟨h1,h2⟩:=ib n gs (bR n x g) (fun y hy=>hg y (List.mem_cons_of_mem _ hy)) hs.2
   refine⟨?_,h2⟩
   have e:aV (g::gs)=g.ru.length+aV gs:=by simp[aV]
   rw[e]
   have:=hs.1
   simp only[List.foldl_cons]
   omega
theorem gg{gs:List l4}(n:BL)(h1:aV gs<=40)(h2:db gs):(eU gs n).ru.length<=40/\∀ r,r∈(eU gs n).ru->aI r.path=true:=by
 have key:∀ q,(Pv gs q).1.ru.length<=40/\∀ r,r∈(Pv gs q).1.ru->aI r.path=true:=fun q=>by
  obtain⟨a,b⟩:=ib q gs (([],0),false) h2 (fun r hr=>by simp at hr)
  exact⟨by unfold Pv;simp only[Zas]at a ⊢;omega,b⟩
 unfold eU
 split
 exact key n
 exact key [42]
theorem kY(k:Int)(t n:BL):(bC k t n).ru.length<=40/\∀ r,r∈(bC k t n).ru->aI r.path=true:=by
 unfold bC
 split
 exact gg n (ee t).1 (ee t).2
 split
 exact⟨Zab,fun r hr=>by rw[Zat.1 hr];decide⟩
 exact gg n (by simp[aV]) (fun y hy=>by simp at hy)
structure HO (n:BL) (y:k9):Prop where
 na:y.gr.na=[n]
 re:0<=y.re/\y.re<=5100
 tr:0<=y.tr/\y.tr<=2
 ru:y.gr.ru.length<=40/\∀ r,r∈y.gr.ru->aI r.path=true
 wa:y.gr.wa<=20
structure OI (t:j6):Prop where
 nm:aZ t.na=true
 nw:0<=t.a7/\t.a7<=5000
 hs:∀ y,y∈t.hs->HO t.na y
 ki:∀ q,q∈t.lk->0<=q.ki/\q.ki<=3/\0<=q.ti/\q.ti<=t.a7
 lt:∀ k,k+1<t.lk.length->(t.lk.getD k h9).ti<=(t.lk.getD (k+1) h9).ti
theorem im(w:List Pg)(a:BL)(n:Int):0<=(ae w a n).1/\(ae w a n).1<=3:=by
 unfold ae
 split
 exact⟨Int.le_refl _,Zad⟩
 split
 exact⟨Zad,Int.le_refl _⟩
 split <;> exact⟨by simp only;omega,by simp only;omega⟩
theorem fW{k:Int}:0<=cY k/\cY k<=8:=by
 unfold cY
 split
 omega
 split
 omega
 split <;> omega
variable {w:List Pg} {n:BL}
theorem OI.bX{t:j6}{s:BL}(h:OI t):OI (ah t s):=by
 refine⟨h.nm,h.nw,fun z hz=>?_,h.ki,h.lt⟩
 have hz:z∈aN t.na t.hs t.se s:=hz
 have hin:∀ y,y∈au t.hs (ab s) t.na->HO t.na y:=fun y hy=>by
  unfold au at hy
  split at hy
  exact h.hs y hy
  rcases Zav.1 hy with hy | hy
  exact h.hs y hy
  rw[Zat.1 hy]
  exact⟨rfl,by simp[bq],by simp[bq],⟨by simp[bq],fun r hr=>by simp[bq]at hr⟩,by simp[bq]⟩
 show HO t.na z
 unfold aN at hz
 split at hz
 rcases bg hz with e | e
 have hy:=hin _ (aj (d:=c5) (bL t.hs (ab s) t.na))
 rw[e]
 unfold aX
 split
 exact hy
 exact⟨hy.na,hy.re,hy.tr,hy.ru,hy.wa⟩
 exact hin z e
 exact h.hs z hz
theorem OI.aW{l:List BL}:∀ {t:j6},OI t->OI (l.foldl ah t):=by
 induction l with
 | nil=>exact fun h=>h
 | cons a l ih=>exact fun h=>ih h.bX
theorem OI.call{t:j6}{i:Nat}{y':k9}{l:l5}{a7:Int}(h:OI t)(hn:t.a7<=a7/\a7<=5000)(hy:HO t.na y')(hl:l.ti=a7)(hk:0<=l.ki/\l.ki<=3):OI ⟨t.na,a7,t.hs.set i y',t.se,t.lk++[l]⟩:=by
 have hno:=h.nw
 refine⟨h.nm,by simp only;omega,fun z hz=>?_,fun q hq=>?_,fun k L5=>?_⟩
 rcases bg hz with e | e
 rw[e];exact hy
 exact h.hs z e
 show 0<=q.ki/\q.ki<=3/\0<=q.ti/\q.ti<=a7
 rcases Zav.1 hq with hq | hq
 have:=h.ki q hq;omega
 rw[Zat.1 hq];omega
 show ((t.lk++[l]).getD k h9).ti<=((t.lk++[l]).getD (k+1) h9).ti
 have L5:k+1<(t.lk++[l]).length:=L5
 rw[Zan,Zbd]at L5
 have e1:∀ j,j<t.lk.length->(t.lk++[l]).getD j h9=t.lk.getD j h9:=fun j hj=>by
  rw[Zak,Za7 hj,<- Zak]
 rcases Nat.lt_or_ge (k+1) t.lk.length with c | c
 rw[e1 k Zaa,e1 _ c];exact h.lt k c
 have e2:(t.lk++[l]).getD (k+1) h9=l:=by
  rw[Zak,Za2 Zaa,show k+1-t.lk.length=0 from Zaa];rfl
 rw[e2,e1 k Zaa,hl]
 have:=h.ki _ (aj (d:=h9) (show k<t.lk.length by omega))
 omega
theorem gp{y:k9}{a7 k m:Int}(h:HO n y)(hn:0<=a7/\a7<=5000):HO n (cJ y a7 k m):=by
 refine⟨h.na,?_,h.tr,h.ru,h.wa⟩
 have:=h.wa
 have hb:=fW (k:=m+1)
 unfold cJ
 simp only
 split <;> constructor <;> omega
theorem iZ{t:j6}(hG:GI w n t)(h:OI t)(hg:D1 t=true):OI (y8 w t):=by
 have hx:=eR hg
 have hno:=h.nw
 have hw:0<=n6 t/\n6 t<=5000:=⟨Zaa,hx.2.2.2⟩
 have hy:=h.hs _ (aj (d:=c5) hx.1)
 have hI:=hG.hi _ (aj (d:=c5) hx.1)
 unfold y8
 split
 unfold I5
 simp only
 have hf:HO t.na (A6 w (t.hs.getD (j8 t) c5) (n6 t)):=gp (y:={ t.hs.getD (j8 t) c5 with td:=(t.hs.getD (j8 t) c5).td.drop 1 }) ⟨hy.na,hy.re,hy.tr,hy.ru,hy.wa⟩ hw
 have c1:∀ y',HO t.na y'->OI ⟨t.na,n6 t,t.hs.set (j8 t) y',t.se,t.lk++[⟨n6 t,((t.hs.getD (j8 t) c5).td.getD 0 j9).ad,(ae w ((t.hs.getD (j8 t) c5).td.getD 0 j9).ad ((t.hs.getD (j8 t) c5).td.getD 0 j9).tr).1⟩]⟩:=
  fun y' Pw=>OI.call h ⟨hx.2.2.1,hw.2⟩ Pw rfl (im _ _ _)
 split
 exact c1 _ ⟨hf.na,hf.re,hf.tr,hf.ru,hf.wa⟩
 split
 exact(c1 _ hf).aW
 exact c1 _ hf
 rename_i hk
 have hk:(t.hs.getD (j8 t) c5).kn=false:=by simpa using hk
 have I1:=hI.un hk
 unfold OT
 have c1:∀ y',HO t.na y'->OI ⟨t.na,n6 t,t.hs.set (j8 t) y',t.se,t.lk++[⟨n6 t,ag (t.hs.getD (j8 t) c5).na,(ae w (ag (t.hs.getD (j8 t) c5).na) (t.hs.getD (j8 t) c5).tr).1⟩]⟩:=
  fun y' Pw=>OI.call h ⟨hx.2.2.1,hw.2⟩ Pw rfl (im _ _ _)
 refine c1 _ ?_
 have h1:HO t.na (n9 w (t.hs.getD (j8 t) c5) (n6 t)):=gp hy hw
 unfold G'
 split
 rename_i c
 have c2:(t.hs.getD (j8 t) c5).tr+1<3:=c.2
 exact⟨h1.na,h1.re,⟨by show 0<=(t.hs.getD (j8 t) c5).tr+1;omega,by show (t.hs.getD (j8 t) c5).tr+1<=2;omega⟩,h1.ru,h1.wa⟩
 have s1:=kY (ae w (ag (t.hs.getD (j8 t) c5).na) 2).1 (ae w (ag (t.hs.getD (j8 t) c5).na) 2).2 t.na
 have s2:=hY (ae w (ag (t.hs.getD (j8 t) c5).na) 2).1 (ae w (ag (t.hs.getD (j8 t) c5).na) 2).2 t.na
 refine⟨rfl,?_,h1.tr,s1,s2⟩
 have h3:=h1.re
 have h4:(ba w t.na (t.hs.getD (j8 t) c5).na).wa<=20:=s2
 simp only
 omega
theorem iR{seeds:List BL}{t:j6}(h:aw n seeds=some t):OI t:=by
 unfold aw at h
 split at h
 rename_i c
 cases h
 exact OI.aW ⟨c.1,by simp[aG],fun y hy=>by simp[aG]at hy,fun q hq=>by simp[aG]at hq,fun k hk=>by simp[aG]at hk⟩
 cases h
theorem kI{t:j6}(hG:GI w n t)(h:OI t)(hl:t.lk.length<=400):ax t=true:=by
 have hI:∀ {a b c:Int},a<=b->b<=c->x4 b a c=true:=fun h1 h2=>decide_eq_true ⟨h1,h2⟩
 unfold ax
 simp only[Zam,Za0,Zbi]
 refine⟨⟨⟨⟨⟨h.nm,hI h.nw.1 h.nw.2⟩,?_⟩,?_⟩,fun y hy=>⟨?_,?_⟩⟩,hG.nd⟩
 unfold dk
 simp only[Zam,Za0,Zbi]
 exact⟨⟨hG.sn.2,hG.sn.1⟩,hG.se⟩
 unfold cH
 simp only[Zam,Za0,Zbi]
 refine⟨hl,fun k hk=>?_⟩
 have hk:=List.mem_range.1 hk
 have hq:=h.ki _ (aj (d:=h9) hk)
 refine⟨⟨⟨?_,hq.2.2.2⟩,hI hq.1 hq.2.1⟩,(hG.al k hk).rd⟩
 split
 exact hq.2.2.1
 have:=h.lt (k-1) Zaa
 rw[show k-1+1=k from Zaa]at this
 exact this
 have a:=h.hs y hy
 have b:=hG.hi y hy
 unfold dr
 rw[a.na]
 simp only[Zam]
 refine⟨⟨⟨⟨b.hn,hI a.re.1 a.re.2⟩,hI a.tr.1 a.tr.2⟩,Zab⟩,?_⟩
 split
 simp only[Zam,Zbi,Za0]
 exact⟨⟨a.ru.1,a.ru.2⟩,hI Zaa (by have:=a.wa;omega)⟩
 rename_i c
 have:=b.un (by simpa using c)
 rw[Zbi]
 exact⟨this.2.2.2.1,this.2.2.1⟩
 have hH:=hG.hi y hy
 unfold dg
 simp only[Zam,Za0,Zbi]
 refine⟨⟨?_,fun x hx=>?_⟩,hH.nd⟩
 have:=je (u:=t.se) hH.nd fun a ha=>by
  obtain⟨x,hx,e⟩:=List.mem_map.1 ha
  rw[<- e];exact(hH.it x hx).2.2.1
 simpa using this
 obtain⟨a1,a2,a3,a4,a5,_⟩:=hH.it x hx
 exact⟨⟨⟨a1,by simpa using a2⟩,by simpa using a3⟩,decide_eq_true ⟨a4,a5⟩⟩
end
section
structure KI (w:List Pg) (t:j6):Prop where
 gr:∀ y,y∈t.hs->y.kn=true->y.gr=ba w t.na y.na/\∀ x,x∈y.td->av y.gr.ru (pathOf x.ad)=true
 un:∀ y,y∈t.hs->y.kn=false->∀ q,q∈t.lk->ab q.ad=y.na->q.ad=ag y.na/\q.ki=3
 se:∀ s,s∈t.se->∃ y,y∈t.hs/\y.na=ab s
variable {w:List Pg} {n:BL}
theorem fj{hs:List k9}{d n:BL}{y:k9}(h:y∈hs):y∈au hs d n:=by
 unfold au
 split
 exact h
 exact List.mem_append_left _ h
theorem eQ{l:List k9}{i:Nat}{a:k9}(hi:i<l.length)(ha:a.na=(l.getD i c5).na){d:BL}(h:∃ y,y∈l/\y.na=d):∃ y,y∈l.set i a/\y.na=d:=by
 obtain⟨y,y1,y2⟩:=h
 have:d∈(l.set i a).map (·.na):=by
  rw[iz hi ha];exact List.mem_map.2 ⟨y,y1,y2⟩
 obtain⟨z,z1,z2⟩:=List.mem_map.1 this
 exact⟨z,z1,z2⟩
theorem KI.bX{t:j6}{s:BL}(hG:GI w n t)(h:KI w t):KI w (ah t s):=by
 by_cases hr:de t.se s
 case neg=>
  have e3:bT t.se s=t.se:=if_neg hr
  have e4:aN t.na t.hs t.se s=t.hs:=if_neg hr
  have:ah t s=t:=by unfold ah;rw[e3,e4]
  rw[this];exact h
 have e3:(ah t s).se=t.se++[s]:=if_pos hr
 have e4:(ah t s).hs=(au t.hs (ab s) t.na).set (o8 t.hs (ab s)) (aX ((au t.hs (ab s) t.na).getD (o8 t.hs (ab s)) c5) s):=if_pos hr
 have hlt:=bL t.hs (ab s) t.na
 have L4:=iS t.hs (ab s) t.na
 have O2:∀ y,y∈au t.hs (ab s) t.na->y.kn=true->y.gr=ba w t.na y.na/\∀ x,x∈y.td->av y.gr.ru (pathOf x.ad)=true:=fun y hy hk=>by
  unfold au at hy
  split at hy
  exact h.gr y hy hk
  rcases Zav.1 hy with hy | hy
  exact h.gr y hy hk
  rw[Zat.1 hy]at hk;simp[bq]at hk
 have I1:∀ y,y∈au t.hs (ab s) t.na->y.kn=false->∀ q,q∈t.lk->ab q.ad=y.na->q.ad=ag y.na/\q.ki=3:=fun y hy hk q hq he=>by
  unfold au at hy
  split at hy
  exact h.un y hy hk q hq he
  rename_i hc
  rcases Zav.1 hy with hy | hy
  exact h.un y hy hk q hq he
  exfalso
  rw[Zat.1 hy]at he
  obtain⟨z,z1,z2⟩:=(hG.lh q hq).1
  have he:ab q.ad=ab s:=he
  exact hc (List.findIdx_lt_length_of_exists ⟨z,z1,by simp[z2,he]⟩)
 have u0:=aj (d:=c5) hlt
 generalize hy:(au t.hs (ab s) t.na).getD (o8 t.hs (ab s)) c5=y at *
 refine⟨fun z hz hk=>?_,fun z hz hk q hq he=>?_,fun q hq=>?_⟩
 rw[e4]at hz
 show z.gr=ba w t.na z.na/\_
 rcases bg hz with e | e
 subst e
 unfold aX at hk ⊢
 split at hk
 rename_i c;rw[if_pos c];exact O2 y u0 hk
 rename_i c
 rw[if_neg c]
 have C3:y.kn=true:=hk
 obtain⟨a1,a2⟩:=O2 y u0 C3
 refine⟨a1,fun x hx=>?_⟩
 rcases Zav.1 hx with hx | hx
 exact a2 x hx
 rw[Zat.1 hx]
 cases hl:av y.gr.ru (pathOf s) with
 | true=>rfl
 | false=>exact absurd ⟨C3,hl⟩ c
 exact O2 z e hk
 rw[e4]at hz
 have hq:q∈t.lk:=hq
 rcases bg hz with e | e
 subst e
 rw[eB]at he ⊢
 refine I1 y u0 ?_ q hq he
 unfold aX at hk
 split at hk
 exact hk
 exact hk
 exact I1 z e hk q hq he
 rw[e4]
 rw[e3]at hq
 rcases Zav.1 hq with hq | hq
 obtain⟨z,z1,z2⟩:=h.se q hq
 exact eQ hlt (by rw[eB,hy]) ⟨z,fj z1,z2⟩
 rw[Zat.1 hq]
 exact⟨_,List.mem_set hlt _,by rw[eB,L4]⟩
theorem KI.aW{l:List BL}:∀ {t:j6},GI w n t->KI w t->KI w (l.foldl ah t):=by
 induction l with
 | nil=>exact fun _ h=>h
 | cons a l ih=>exact fun hG h=>ih hG.bX (h.bX hG)
theorem KI.call{t:j6} {i:Nat} {y':k9} {l:l5} {a7:Int} (hG:GI w n t) (h:KI w t) (hi:i<t.hs.length) (hl:ab l.ad=(t.hs.getD i c5).na) (L4:y'.na=(t.hs.getD i c5).na)
 (hg:y'.kn=true->y'.gr=ba w t.na y'.na/\∀ x,x∈y'.td->av y'.gr.ru (pathOf x.ad)=true)
 (hu:y'.kn=false->∀ q,q∈t.lk++[l]->ab q.ad=y'.na->q.ad=ag y'.na/\q.ki=3):KI w ⟨t.na,a7,t.hs.set i y',t.se,t.lk++[l]⟩:=by
 refine⟨fun z hz hk=>?_,fun z hz hk q hq he=>?_,fun q hq=>?_⟩
 rcases bg hz with e | e
 subst e;exact hg hk
 exact h.gr z e hk
 rcases gG hG.nd hi hz with e | ⟨e,e2⟩
 subst e;exact hu hk q hq he
 rcases Zav.1 hq with hq | hq
 exact h.un z e hk q hq he
 rw[Zat.1 hq,hl]at he
 exact absurd he.symm e2
 exact eQ hi L4 (h.se q hq)
end
section
def aF(L:List l5)(d:BL):Bool:=L.any fun q=>(ab q.ad==d)&&!((q.ad==ag d)&&decide (q.ki=3))
def cm(L:List l5)(l:l5):Bool:=(l.ad==ag (ab l.ad))&&!(aF L (ab l.ad))&&decide ((cls L (ab l.ad)).length<3)
def E0(L:List l5)(l:l5):Prop:=l.ki≠3/\cm L l=false
instance (L:List l5) (l:l5):Decidable (E0 L l):=by unfold E0;infer_instance
def LI(w:List Pg)(t:j6):Prop:= ∀ k,k<t.lk.length->cm (t.lk.take k) (t.lk.getD k h9)=true\/(av (ba w t.na (ab (t.lk.getD k h9).ad)).ru (pathOf (t.lk.getD k h9).ad)=true/\(t.lk.getD k h9).ad∈t.se)
variable {w:List Pg} {n:BL}
theorem jl{t:j6}{s x:BL}(h:x∈t.se):x∈(ah t s).se:=by
 show x∈bT t.se s
 unfold bT
 split
 exact List.mem_append_left _ h
 exact h
theorem LI.aW:∀ {l:List BL} {t:j6},LI w t->LI w (l.foldl ah t)
 | [],_,h=>h
 | s::l,t,h=>LI.aW (l:=l) (t:=ah t s) fun k hk=>(h k hk).imp id fun⟨a,b⟩=>⟨a,jl b⟩
theorem LI.call{t:j6}{hs:List k9}{l:l5}{a7:Int}(h:LI w t)(hl:cm t.lk l=true\/(av (ba w t.na (ab l.ad)).ru (pathOf l.ad)=true/\l.ad∈t.se)):LI w ⟨t.na,a7,hs,t.se,t.lk++[l]⟩:=fun k hk=>by
 have hk:k<(t.lk++[l]).length:=hk
 show cm ((t.lk++[l]).take k) ((t.lk++[l]).getD k h9)=true\/(av (ba w t.na (ab ((t.lk++[l]).getD k h9).ad)).ru (pathOf ((t.lk++[l]).getD k h9).ad)=true/\((t.lk++[l]).getD k h9).ad∈t.se)
 rw[Zan,Zbd]at hk
 rcases Nat.lt_or_ge k t.lk.length with c | c
 have:=h k c
 rw[List.take_append_of_le_length Zaa,Zak,Za7 c,<- Zak]
 exact this
 obtain rfl:k=t.lk.length:=Zaa
 have e:(t.lk++[l]).getD t.lk.length h9=l:=by
  rw[Zak,Za2 (Zba _)];simp
 rw[List.take_left,e]
 exact hl
end
def ay(w:List Pg)(n:BL)(p:List BL)(m:Int):j6:=oT (aR w (oT (aw n p)) m)
theorem jQ{w:List Pg}{n:BL}{p:List BL}{m:Int}:oT (aR w (oT (aw n p)) m)=ay w n p m:=rfl
theorem ez{w:List Pg}{n:BL}{p:List BL}{m:Int}(hm:x4 m 0 400=true):((aw n p).isSome&&(aR w (oT (aw n p)) m).isSome)=((aw n p).isSome&&ai w):=by
 cases h:aw n p with
 | none=>rfl
 | some t=>
   have:=fc h
   simp only[oT,Option.getD_some,Option.isSome_some,Bool.true_and]
   unfold aR
   rw[this,Bool.and_true,hm]
   cases ai w
   rfl
   rfl
theorem dc{w:List Pg}{n:BL}{p:List BL}{m:Int}(hm:x4 m 0 400=true)(h:(aw n p).isSome=true/\(aR w (oT (aw n p)) m).isSome=true):∃ t,aw n p=some t/\ai w=true/\ay w n p m=z6 w m.toNat t:=by
 have h2:=(ez hm).symm.trans (show ((aw n p).isSome&&(aR w (oT (aw n p)) m).isSome)=true by rw[h.1,h.2];rfl)
 unfold ay
 cases hn:aw n p with
 | none=>rw[hn]at h;cases h.1
 | some t=>
   have h3:ai w=true:=by
    rw[hn]at h2;exact h2
   refine⟨t,rfl,h3,?_⟩
   show oT (aR w t m)=_
   rw[pf hm h3 (fc hn)]
   rfl
theorem dy{w:List Pg}{n:BL}{p:List BL}{m:Int}(hm:x4 m 0 400=true)(h:(aw n p).isSome=true/\(aR w (oT (aw n p)) m).isSome=true):GI w n (ay w n p m)/\ai w=true:=by
 obtain⟨t,h1,h2,h3⟩:=dc hm h
 rw[h3]
 exact⟨qH _ (eA h1),h2⟩
theorem jA{w:List Pg}{n:BL}{t:j6}(h:GI w n t):(t.lk.length:Int)<=3*((t.se.length:Int)+t.hs.length):=by
 have:=h.po
 have:=qw (f:=hp) (l:=t.hs) fun y hy=>by
  have hI:=h.hi y hy
  have h1:=tU fun x hx=>(hI.it x hx).2.2.2.2.1
  unfold hp
  split
  omega
  rename_i c
  have:=hI.un (by simpa using c)
  omega
 omega
theorem da{w:List Pg}{n:BL}{t:j6}(h:GI w n t):t.lk.length<=360:=by
 have:=jA h
 have:=h.hl
 have:=h.sn.2
 omega
theorem jh{s:BL}(h:aA s=true):s.length<=60/\l8 s:=by
 constructor
 have:=dK h
 unfold aC at this
 split at this
 rename_i c;exact c.1
 cases this
 have:=h
 unfold aA at this
 rw[Zam,Zbj]at this
 rw[<- this.2];exact mH _
theorem gu{w:List Pg}(hw:ai w=true)(hz:∀ i,m4 (w.getD i l9)):∀ (k:Nat) {t:j6},M5 t->M5 (z6 w k t)
 | 0,_,h=>h
 | k+1,t,h=>by
   unfold z6
   split
   rename_i hg;exact gu hw hz k (gV hw hz h hg)
   exact h
theorem sw{w:List Pg}{n:BL}{t:j6}(hG:GI w n t)(hT:M5 t)(hn:n.length<=1000):r5 t:=by
 have h1:=hG.sn.2
 have h2:=hG.hl
 have h3:=da hG
 refine⟨by rw[hG.na];exact hn,Zaa,Zaa,Zaa,fun x hx=>?_,fun x hx=>?_,fun y hy=>?_⟩
 have:=jh (hG.se x hx);exact⟨Zaa,this.2⟩
 obtain⟨k,hk,e⟩:=Zbe.1 hx
 have:=jh (hG.al k hk).rd
 rw[Zak,Zar hk]at this
 subst e
 exact⟨Nat.le_trans this.1 Zaa,this.2⟩
 have hI:=hG.hi y hy
 have hS:=hT.t0.ha y hy
 have hs:=hT.t0.s
 have hgl:=hI.gl
 exact⟨hS.n,hS.r,hS.rp,Zaa,by have:=hS.t;omega,fun x hx=>⟨(hS.ta x hx).1,(hS.ta x hx).2.1⟩⟩
theorem mr{w:List Pg}{n:BL}{p:List BL}{m:Int}(hm:x4 m 0 400=true)(hz:∀ i,m4 (w.getD i l9))(hn:n.length<=1000)(hl:p.length<=400)(ha:∀ x,x∈p->x.length<=1000/\l8 x)(h:(aw n p).isSome=true/\(aR w (oT (aw n p)) m).isSome=true):r5 (ay w n p m):=by
 obtain⟨hG,hW⟩:=dy hm h
 refine sw hG ?_ hn
 obtain⟨t,PK,_,h3⟩:=dc hm h
 have hS:=px hn hl ha
 have hh:=oW (n:=n) hl
 rw[PK]at hS hh
 rw[h3]
 exact gu hW hz _ (jC hS hh (fc PK))
section
def Pz(B:Int)(t:j6):Prop:= ∀ y,y∈t.hs->y.re<=B
theorem Pz.bX{t:j6}{s:BL}{B:Int}(hB:0<=B)(h:Pz B t):Pz B (ah t s):=by
 intro z hz
 have hz:z∈aN t.na t.hs t.se s:=hz
 unfold aN at hz
 split at hz
 have hin:∀ y,y∈au t.hs (ab s) t.na->y.re<=B:=fun y hy=>by
  unfold au at hy
  split at hy
  exact h y hy
  rcases Zav.1 hy with hy | hy
  exact h y hy
  rw[Zat.1 hy];exact hB
 rcases bg hz with e | e
 have:=hin _ (aj (d:=c5) (bL t.hs (ab s) t.na))
 rw[e]
 unfold aX
 split <;> exact this
 exact hin z e
 exact h z hz
def TM(i:Nat)(t:j6):Prop:=t.a7<=30*i/\Pz (30*i) t
theorem TM.aW{i:Nat}:∀ {l:List BL} {t:j6},TM i t->TM i (l.foldl ah t)
 | [],_,h=>h
 | s::l,t,h=>TM.aW (l:=l) (t:=ah t s) ⟨h.1,h.2.bX Zaa⟩
variable {w:List Pg} {n:BL}
theorem fu{y:k9}{a7 k m:Int}(h:y.gr.wa<=20):(cJ y a7 k m).re<=a7+28:=by
 have hb:=fW (k:=m+1)
 unfold cJ
 simp only
 split <;> omega
theorem lZ{t:j6}{i:Nat}(hO:OI t)(h:TM i t)(hg:D1 t=true):TM (i+1) (y8 w t):=by
 have hx:=eR hg
 have he:=uy hg
 have h1:=h.2 _ (aj (d:=c5) hx.1)
 have h2:=h.1
 have hy:=(hO.hs _ (aj (d:=c5) hx.1)).wa
 have hW:n6 t<=30*i:=Zaa
 have c1:∀ (y':k9) (l:l5),y'.re<=30*(i:Int)+30->TM (i+1) ⟨t.na,n6 t,t.hs.set (j8 t) y',t.se,t.lk++[l]⟩:=fun y' l Pw=>by
  refine⟨by show n6 t<=_;omega,fun z hz=>?_⟩
  rcases bg hz with e | e
  rw[e];omega
  have:=h.2 z e;omega
 unfold y8
 split
 unfold I5
 simp only
 have hf:(A6 w (t.hs.getD (j8 t) c5) (n6 t)).re<=n6 t+28:=fu hy
 split
 exact c1 _ _ (by show (A6 w (t.hs.getD (j8 t) c5) (n6 t)).re<=_;omega)
 split
 exact(c1 _ _ Zaa).aW
 exact c1 _ _ Zaa
 unfold OT
 refine c1 _ _ ?_
 have hf:(n9 w (t.hs.getD (j8 t) c5) (n6 t)).re<=n6 t+28:=fu hy
 show (G' w t.na (t.hs.getD (j8 t) c5) (n6 t)).re<=_
 unfold G'
 split
 show (n9 w (t.hs.getD (j8 t) c5) (n6 t)).re<=_;omega
 have s2:(ba w t.na (t.hs.getD (j8 t) c5).na).wa<=20:=hY (ae w (ag (t.hs.getD (j8 t) c5).na) 2).1 (ae w (ag (t.hs.getD (j8 t) c5).na) 2).2 t.na
 simp only
 omega
structure WQ (w:List Pg) (n:BL) (i:Nat) (t:j6):Prop where
 gi:GI w n t
 oi:OI t
 ti:M5 t
 tm:TM i t
theorem WQ.step{t:j6}{i:Nat}(h:WQ w n i t)(hw:ai w=true)(hz:∀ i,m4 (w.getD i l9))(hg:D1 t=true):WQ w n (i+1) (y8 w t):=
 ⟨eN h.gi hg,iZ h.gi h.oi hg,gV hw hz h.ti hg,lZ h.oi h.tm hg⟩
theorem WQ.ok{t:j6}{i:Nat}(h:WQ w n i t):ax t=true:=kI h.gi h.oi (by have:=da h.gi;omega)
theorem WQ.new{p:List BL}{t:j6}(h:aw n p=some t)(hS:r5 t)(hh:t.hs.length<=900):WQ w n 0 t:=by
 have hk:=fc h
 refine⟨eA h,iR h,jC hS hh hk,?_⟩
 unfold aw at h
 split at h
 cases h
 exact TM.aW (t:=aG n) ⟨Int.le_refl _,fun y hy=>by simp[aG]at hy⟩
 cases h
end
section
def D4(L:List l5)(k:Nat):Prop:=k<L.length/\E0 (L.take k) (L.getD k h9)
def dL(w:List Pg)(seeds:List BL)(L:List l5)(s:BL):Prop:=s∈seeds\/∃ k,D4 L k/\s∈bc w (L.getD k h9).ad
structure CI (w:List Pg) (seeds A9:List BL) (t:j6):Prop where
 gr:∀ y,y∈t.hs->y.kn=true->y.gr=ba w t.na y.na
 kn:∀ y,y∈t.hs->y.kn=true->aF t.lk y.na=true\/3<=(cls t.lk y.na).length
 kd:∀ q,q∈t.lk->q.ki≠3->(ae w q.ad 2).1=q.ki
 sr:∀ s,s∈t.se->dL w seeds t.lk s
 he:t.se.length<60->(∀ s,s∈seeds->aA s=true->s∈t.se\/s∈A9)/\∀ k,D4 t.lk k->∀ x,x∈bc w (t.lk.getD k h9).ad->aA x=true->x∈t.se\/x∈A9
 di:∀ s,s∈t.se->(∃ y,y∈t.hs/\∃ x,x∈y.td/\x.ad=s)\/av (ba w t.na (ab s)).ru (pathOf s)=false\/(∃ k,D4 t.lk k/\(t.lk.getD k h9).ad=s)\/(ae w s 2).1=3
 ro:∀ k,D4 t.lk k->dL w seeds (t.lk.take k) (t.lk.getD k h9).ad
theorem cG{L r:List l5}{k:Nat}(h:D4 L k):D4 (L++r) k/\(L++r).getD k h9=L.getD k h9:=by
 have e1:(L++r).getD k h9=L.getD k h9:=by
  rw[Zak,Za7 h.1,<- Zak]
 refine⟨⟨by rw[Zan];have:=h.1;omega,?_⟩,e1⟩
 rw[e1,List.take_append_of_le_length (Nat.le_of_lt h.1)]
 exact h.2
theorem fZ{L:List l5}{l:l5}{k:Nat}(h:D4 (L++[l]) k):D4 L k\/(k=L.length/\E0 L l):=by
 obtain⟨h1,h2⟩:=h
 rw[Zan,Zbd]at h1
 rcases Nat.lt_or_ge k L.length with c | c
 rw[List.take_append_of_le_length Zaa,Zak,Za7 c,<- Zak]at h2
 exact .inl ⟨c,h2⟩
 obtain rfl:k=L.length:=Zaa
 have e:(L++[l]).getD L.length h9=l:=by
  rw[Zak,Za2 (Zba _)];simp
 rw[List.take_left,e]at h2
 exact .inr ⟨rfl,h2⟩
theorem cN{L:List l5}{l:l5}(h:E0 L l):D4 (L++[l]) L.length/\(L++[l]).getD L.length h9=l:=by
 have e:(L++[l]).getD L.length h9=l:=by
  rw[Zak,Za2 (Zba _)];simp
 refine⟨⟨Zab,?_⟩,e⟩
 rw[List.take_left,e];exact h
theorem kK{w:List Pg}{seeds:List BL}{L r:List l5}{s:BL}(h:dL w seeds L s):dL w seeds (L++r) s:=
 h.imp id fun⟨k,h1,h2⟩=>⟨k,(cG h1).1,by rw[(cG h1).2];exact h2⟩
theorem eJ{t:j6}{s:BL}{z:k9}(hz:z∈(ah t s).hs)(hk:z.kn=true):∃ y,y∈t.hs/\y.na=z.na/\y.kn=true/\y.gr=z.gr:=by
 have hz:z∈aN t.na t.hs t.se s:=hz
 unfold aN at hz
 split at hz
 have hin:∀ y,y∈au t.hs (ab s) t.na->y.kn=true->y∈t.hs:=fun y hy hk=>by
  unfold au at hy
  split at hy
  exact hy
  rcases Zav.1 hy with hy | hy
  exact hy
  rw[Zat.1 hy]at hk;simp[bq]at hk
 rcases bg hz with e | e
 have u0:=aj (d:=c5) (bL t.hs (ab s) t.na)
 generalize (au t.hs (ab s) t.na).getD (o8 t.hs (ab s)) c5=y at *
 have q:z.kn=y.kn/\y.na=z.na/\y.gr=z.gr:=by
  subst e;unfold aX;split <;> exact⟨rfl,rfl,rfl⟩
 exact⟨y,hin y u0 (by rw[<- q.1];exact hk),q.2.1,by rw[<- q.1];exact hk,q.2.2⟩
 exact⟨z,hin z e hk,rfl,hk,rfl⟩
 exact⟨z,hz,rfl,hk,rfl⟩
theorem kM{t:j6}{s:BL}{y:k9}{x:w5}(hy:y∈t.hs)(hx:x∈y.td):∃ z,z∈(ah t s).hs/\x∈z.td:=by
 show ∃ z,z∈aN t.na t.hs t.se s/\x∈z.td
 unfold aN
 split
 obtain⟨j,hj,e⟩:=Zbe.1 (fj (d:=ab s) (n:=t.na) hy)
 by_cases c:o8 t.hs (ab s)=j
 refine⟨_,Zbe.2 ⟨o8 t.hs (ab s),by rw[List.length_set];exact bL ..,List.getElem_set_self ..⟩,?_⟩
 have e2:(au t.hs (ab s) t.na).getD (o8 t.hs (ab s)) c5=y:=by
  rw[c,Zak,Zar hj];exact e
 rw[e2]
 unfold aX
 split
 exact hx
 exact List.mem_append_left _ hx
 exact⟨y,Zbe.2 ⟨j,by rw[List.length_set];exact hj,by rw[List.getElem_set_ne c];exact e⟩,hx⟩
 exact⟨y,hy,hx⟩
theorem jg{t:j6}{s:BL}(hr:de t.se s):(∃ z,z∈(ah t s).hs/\∃ x,x∈z.td/\x.ad=s)\/∃ y,y∈t.hs/\y.kn=true/\y.na=ab s/\av y.gr.ru (pathOf s)=false:=by
 have e4:(ah t s).hs=(au t.hs (ab s) t.na).set (o8 t.hs (ab s)) (aX ((au t.hs (ab s) t.na).getD (o8 t.hs (ab s)) c5) s):=if_pos hr
 have hm:aX ((au t.hs (ab s) t.na).getD (o8 t.hs (ab s)) c5) s∈(ah t s).hs:=by
  rw[e4]
  exact Zbe.2 ⟨o8 t.hs (ab s),by rw[List.length_set];exact bL ..,List.getElem_set_self ..⟩
 have u0:=aj (d:=c5) (bL t.hs (ab s) t.na)
 have L4:=iS t.hs (ab s) t.na
 generalize (au t.hs (ab s) t.na).getD (o8 t.hs (ab s)) c5=y at *
 by_cases c:y.kn=true/\av y.gr.ru (pathOf s)=false
 refine .inr ⟨y,?_,c.1,L4,c.2⟩
 unfold au at u0
 split at u0
 exact u0
 rcases Zav.1 u0 with h | h
 exact h
 have:=c.1
 rw[Zat.1 h]at this;simp[bq]at this
 refine .inl ⟨_,hm,⟨s,0⟩,?_,rfl⟩
 unfold aX
 rw[if_neg c]
 exact List.mem_append_right _ (Zat.2 rfl)
variable {w:List Pg} {n:BL} {seeds:List BL}
theorem CI.bX{l:List BL}{s:BL}{t:j6}(h:CI w seeds (s::l) t)(hs:dL w seeds t.lk s):CI w seeds l (ah t s):=by
 by_cases hr:de t.se s
 case neg=>
  have e3:bT t.se s=t.se:=if_neg hr
  have e4:aN t.na t.hs t.se s=t.hs:=if_neg hr
  have:ah t s=t:=by unfold ah;rw[e3,e4]
  rw[this]
  have key:t.se.length<60->∀ x,aA x=true->x∈t.se\/x∈s::l->x∈t.se\/x∈l:=fun hl x ha c=>by
   rcases c with c | c
   exact .inl c
   rcases List.mem_cons.1 c with e | c
   subst e
   exact .inl (Decidable.byContradiction fun q=>hr ⟨ha,hl,q⟩)
   exact .inr c
  exact⟨h.gr,h.kn,h.kd,h.sr,fun hl=>⟨fun x hx ha=>key hl x ha ((h.he hl).1 x hx ha),fun k hk x hx ha=>key hl x ha ((h.he hl).2 k hk x hx ha)⟩,h.di,h.ro⟩
 have e3:(ah t s).se=t.se++[s]:=if_pos hr
 have key:(t.se++[s]).length<60->t.se.length<60:=fun h=>by rw[Zan,Zbd]at h;omega
 have OD:∀ x,x∈t.se\/x∈s::l->x∈t.se++[s]\/x∈l:=fun x c=>by
  rcases c with c | c
  exact .inl (List.mem_append_left _ c)
  rcases List.mem_cons.1 c with e | c
  exact .inl (List.mem_append_right _ (Zat.2 e))
  exact .inr c
 refine⟨fun z hz hk=>?_,fun z hz hk=>?_,h.kd,fun x hx=>?_,fun hl=>?_,fun x hx=>?_,h.ro⟩
 obtain⟨y,y1,y2,y3,y4⟩:=eJ hz hk
 rw[<- y4,<- y2];exact h.gr y y1 y3
 obtain⟨y,y1,y2,y3,y4⟩:=eJ hz hk
 rw[<- y2];exact h.kn y y1 y3
 rw[e3]at hx
 rcases Zav.1 hx with hx | hx
 exact h.sr x hx
 rw[Zat.1 hx];exact hs
 rw[e3]at hl ⊢
 exact⟨fun x hx ha=>OD x ((h.he (key hl)).1 x hx ha),fun k hk x hx ha=>OD x ((h.he (key hl)).2 k hk x hx ha)⟩
 rw[e3]at hx
 rcases Zav.1 hx with hx | hx
 rcases h.di x hx with ⟨y,y1,q,q1,q2⟩ | c
 obtain⟨z,z1,z2⟩:=kM (s:=s) y1 q1
 exact .inl ⟨z,z1,q,z2,q2⟩
 exact .inr c
 rw[Zat.1 hx]
 rcases jg hr with c | ⟨y,y1,y2,y3,y4⟩
 exact .inl c
 rw[h.gr y y1 y2,y3]at y4
 exact .inr (.inl y4)
theorem CI.aW:∀ {l:List BL} {t:j6},CI w seeds l t->(∀ s,s∈l->dL w seeds t.lk s)->CI w seeds [] (l.foldl ah t)
 | [],_,h,_=>h
 | s::l,t,h,hs=>CI.aW (l:=l) (t:=ah t s) (h.bX (hs s Zab)) fun x hx=>hs x (List.mem_cons_of_mem _ hx)
theorem gQ{L:List l5}{l:l5}{d:BL}(h:aF L d=true):aF (L++[l]) d=true:=by
 unfold aF at *
 rw[List.any_append,h,Bool.true_or]
theorem CI.call{A9:List BL} {t:j6} {i:Nat} {y':k9} {l:l5} {a7:Int} (h:CI w seeds [] t) (hi:i<t.hs.length)
 (hg:y'.kn=true->y'.gr=ba w t.na y'.na/\(aF (t.lk++[l]) y'.na=true\/3<=(cls (t.lk++[l]) y'.na).length)) (hk:l.ki≠3->(ae w l.ad 2).1=l.ki) (hp:E0 t.lk l->l.ad∈t.se/\∀ x,x∈bc w l.ad->x∈A9)
 (ht:∀ x,x∈(t.hs.getD i c5).td->(∃ x',x'∈y'.td/\x'.ad=x.ad)\/av (ba w t.na (ab x.ad)).ru (pathOf x.ad)=false\/(E0 t.lk l/\l.ad=x.ad)\/(ae w x.ad 2).1=3):
 CI w seeds A9 ⟨t.na,a7,t.hs.set i y',t.se,t.lk++[l]⟩:=by
 refine⟨fun z hz I0=>?_,fun z hz I0=>?_,fun q hq=>?_,fun s hs=>kK (h.sr s hs),fun hl=>⟨fun s hs ha=>?_,fun k hk x hx ha=>?_⟩,fun s hs=>?_,fun k hk=>?_⟩
 rcases bg hz with e | e
 subst e;exact(hg I0).1
 exact h.gr z e I0
 rcases bg hz with e | e
 subst e;exact(hg I0).2
 rcases h.kn z e I0 with c | c
 exact .inl (gQ c)
 refine .inr ?_
 show 3<=(cls (t.lk++[l]) z.na).length
 rw[bH,Zan];omega
 rcases Zav.1 hq with hq | hq
 exact h.kd q hq
 rw[Zat.1 hq];exact hk
 rcases (h.he hl).1 s hs ha with c | c
 exact .inl c
 simp at c
 have hx:x∈bc w ((t.lk++[l]).getD k h9).ad:=hx
 rcases fZ hk with c | ⟨c1,c2⟩
 rw[(cG c).2]at hx
 rcases (h.he hl).2 k c x hx ha with c | c
 exact .inl c
 simp at c
 rw[c1,(cN c2).2]at hx
 exact .inr ((hp c2).2 x hx)
 rcases h.di s hs with ⟨y,y1,x,x1,x2⟩ | c | ⟨k,k1,k2⟩ | c
 obtain⟨j,hj,e⟩:=Zbe.1 y1
 by_cases c:i=j
 have e2:t.hs.getD i c5=y:=by
  rw[c,Zak,Zar hj];exact e
 rw[e2]at ht
 subst x2
 rcases ht x x1 with ⟨x',c1,c2⟩ | c | ⟨c1,c2⟩ | c
 exact .inl ⟨y',Zbe.2 ⟨i,by rw[List.length_set];exact hi,List.getElem_set_self ..⟩,x',c1,c2⟩
 exact .inr (.inl c)
 exact .inr (.inr (.inl ⟨_,(cN c1).1,by rw[(cN c1).2];exact c2⟩))
 exact .inr (.inr (.inr c))
 exact .inl ⟨y,Zbe.2 ⟨j,by rw[List.length_set];exact hj,by rw[List.getElem_set_ne c];exact e⟩,x,x1,x2⟩
 exact .inr (.inl c)
 exact .inr (.inr (.inl ⟨k,(cG k1).1,by rw[(cG k1).2];exact k2⟩))
 exact .inr (.inr (.inr c))
 show dL w seeds ((t.lk++[l]).take k) ((t.lk++[l]).getD k h9).ad
 rcases fZ hk with c | ⟨c1,c2⟩
 rw[(cG c).2,List.take_append_of_le_length (Nat.le_of_lt c.1)]
 exact h.ro k c
 rw[c1,(cN c2).2,List.take_left]
 exact h.sr _ (hp c2).1
end
section
variable {w:List Pg} {n:BL} {seeds:List BL}
theorem tV{t:j6}(h:∀ y,y∈t.hs->y.td=[]):∀ i,i<=t.hs.length->J8 t i=(-1,0)
 | 0,_=>rfl
 | i+1,hi=>by
   rw[lJ Zaa]
   unfold mq
   rw[if_neg (fun c=>c.1 (h _ (aj (d:=c5) Zaa)))]
   exact tV h i Zaa
theorem xt{t:j6}(h:∀ y,y∈t.hs->y.td=[]):D1 t=false:=by
 unfold D1 jo
 rw[tV h _ (Zba _)]
 rfl
theorem vh{t:j6}(h:D1 t=false):∀ k,z6 w k t=t
 | 0=>rfl
 | k+1=>by rw[z6,if_neg (by rw[h];decide)]
def bK(y:k9):Nat:=(if y.kn=true then 0 else 1)+y.td.length
structure NI (t:j6):Prop where
 Sm:t.lk.length+(t.hs.map bK).sum=t.se.length+t.hs.length
 O8:∀ y,y∈t.hs->y.kn=false->y.td≠[]
theorem jM{l:List k9}{i:Nat}{a:k9}(hi:i<l.length):((l.set i a).map bK).sum+bK (l.getD i c5)=(l.map bK).sum+bK a:=by
 induction l generalizing i with
 | nil=>simp at hi
 | cons b l ih=>
   cases i with
   | zero=>simp;omega
   | succ i=>
     have:=ih (i:=i) (by simpa using hi)
     simp only[List.set_cons_succ,Zbc,List.sum_cons,List.getD_cons_succ]at *
     omega
theorem NI.bX{t:j6}{s:BL}(h:NI t)(hk:∀ y,y∈t.hs->y.kn=false):NI (ah t s)/\∀ y,y∈(ah t s).hs->y.kn=false:=by
 have Oc:∀ y,y∈(ah t s).hs->y.kn=false:=fun y hy=>by
  cases e:y.kn with
  | false=>rfl
  | true=>
    obtain⟨y0,y1,_,y3,_⟩:=eJ hy e
    rw[hk y0 y1]at y3;cases y3
 refine⟨?_,Oc⟩
 by_cases hr:de t.se s
 case neg=>
  have e3:bT t.se s=t.se:=if_neg hr
  have e4:aN t.na t.hs t.se s=t.hs:=if_neg hr
  have:ah t s=t:=by unfold ah;rw[e3,e4]
  rw[this];exact h
 have e3:(ah t s).se=t.se++[s]:=if_pos hr
 have e4:(ah t s).hs=(au t.hs (ab s) t.na).set (o8 t.hs (ab s)) (aX ((au t.hs (ab s) t.na).getD (o8 t.hs (ab s)) c5) s):=if_pos hr
 have hlt:=bL t.hs (ab s) t.na
 have hin:(∀ y,y∈au t.hs (ab s) t.na->y.kn=false/\(y.td≠[]\/y=bq (ab s) t.na))/\((au t.hs (ab s) t.na).map bK).sum+t.hs.length=(t.hs.map bK).sum+(au t.hs (ab s) t.na).length:=by
  unfold au
  split
  exact⟨fun y hy=>⟨hk y hy,.inl (h.O8 y hy (hk y hy))⟩,rfl⟩
  refine⟨fun y hy=>?_,?_⟩
  rcases Zav.1 hy with hy | hy
  exact⟨hk y hy,.inl (h.O8 y hy (hk y hy))⟩
  exact⟨by rw[Zat.1 hy];rfl,.inr (Zat.1 hy)⟩
  simp only[Za9,List.sum_append,Zan,Zbc,List.map_nil,List.sum_cons,List.sum_nil,Zbd]
  simp[bK,bq];omega
 have u0:=(hin.1 _ (aj (d:=c5) hlt)).1
 have hp:=jM (a:=aX ((au t.hs (ab s) t.na).getD (o8 t.hs (ab s)) c5) s) hlt
 have e5:bK (aX ((au t.hs (ab s) t.na).getD (o8 t.hs (ab s)) c5) s)=bK ((au t.hs (ab s) t.na).getD (o8 t.hs (ab s)) c5)+1:=by
  unfold aX
  rw[if_neg (fun c=>by rw[u0]at c;cases c.1)]
  simp[bK];omega
 refine⟨?_,fun y hy _=>?_⟩
 have:=h.Sm
 have:=hin.2
 rw[e3,e4,List.length_set,Zan,Zbd]
 show t.lk.length+_=_
 omega
 rw[e4]at hy
 obtain⟨j,hj,e⟩:=Zbe.1 hy
 rw[List.length_set]at hj
 by_cases c:o8 t.hs (ab s)=j
 subst c
 rw[List.getElem_set_self]at e
 rw[<- e]
 unfold aX
 rw[if_neg (fun c=>by rw[u0]at c;cases c.1)]
 simp
 rw[List.getElem_set_ne c]at e
 rcases (hin.1 y (by rw[<- e];exact List.getElem_mem _)).2 with q | q
 exact q
 exfalso
 unfold au at hj e
 split at hj
 rename_i c2
 simp only[c2,if_true]at e
 have:=h.O8 y (by rw[<- e];exact List.getElem_mem _) (by rw[q];rfl)
 rw[q]at this;exact this rfl
 rename_i c2
 simp only[c2,if_false]at e
 have hle:o8 t.hs (ab s)<=t.hs.length:=List.findIdx_le_length
 rw[Zan,Zbd]at hj
 have Q1:j<t.hs.length:=Zaa
 rw[List.getElem_append_left Q1]at e
 have:=h.O8 y (by rw[<- e];exact List.getElem_mem _) (by rw[q];rfl)
 rw[q]at this;exact this rfl
theorem NI.aW:∀ {l:List BL} {t:j6},NI t->(∀ y,y∈t.hs->y.kn=false)->NI (l.foldl ah t)
 | [],_,h,_=>h
 | s::l,t,h,hk=>NI.aW (l:=l) (t:=ah t s) (h.bX hk).1 (h.bX hk).2
end
section
variable {P:Program}
def VI(P:Program)(T:TypeId)(vx vy:Value)(r:Bool):Prop:=(∀ x y w,(eqGuard .neq T x y vx vy).run P w=.ok () w)/\∀ w,(binOp .neq T vx vy).run P w=.ok (.bool r) w
def YK(vx vy:Value)(r:Bool):Cu P where
 X:=Unit
 pre N o A:=match o.op,o.dst with
  | .binOp .neq T x y _,some d=>match Nat.blt d N with
    | true=>(A.ev x).val? =some vx/\(A.ev y).val? =some vy/\VI P T vx vy r
    | false=>False
  | _,_=>False
 post _ o A:=A.put o.dst (bV r)
 ok:=by
  rintro N ⟨dst,op,ty,pos,after,D5⟩ A K-hp hK
  replace hK:=hK ()
  simp only at hp hK
  split at hp
  rename_i T x y p d
  split at hp
  rename_i e1
  obtain⟨h1,h2,h3,h4⟩:=hp
  refine hX (v:=bV r) rfl (bW e1) hK fun Pb Kb a w F hs=>⟨.bool r,?_,dH rfl⟩
  simp only[execOp,tJ hs h1,tJ hs h2,Zay,h3,h4,Zaq,Zaz]
  exact hp.elim
  exact hp.elim
end
theorem Me{a b:r7}(he:a=b):VI Tryz.prog 137 (.agg #[.bool a.E1,.string (Str a.path)]) (.agg #[.bool b.E1,.string (Str b.path)]) false:=by
 subst he
 have u4:=Tryz.underlying4
 have a4:=Tryz.isAgg4
 have z4:=Tryz.sizeOf4
 have u9:=Tryz.underlying9
 have a9:=Tryz.isAgg9
 have z9:=Tryz.sizeOf9
 refine⟨fun x y w=>run_eqGuard_agg w .neq _ x y _ _ Zac,fun w=>?_⟩
 rw[run_neq_struct,show (10000:Nat)=9999+1 from rfl,run_equalIn_agg w 9999 137 _ _ Zac Zac]
 simp only[Program.fieldsOf,Tryz.underlying137]
 go_simp
theorem DI(l m:List r7)(hl:l.length<=1000000)(he:l=m):PF Tryz.prog 68 [dQ l,dQ m] [] (fun r h=>r=(bV true)/\h=[]):=by
 have WG:l.length=m.length:=by rw[he]
 refine aB (N:=26) (rs:=[.tmp 4]) Tryz.func68
  (.q 1<|.q 5<|.br (.q 1<|.nil) (.q 1<|.loop (Nat) (fun (i:Nat)=>⟨[(0,dQ l),(1,dQ m),(5,iN i)],[]⟩) (fun (i:Nat)=>i<=l.length) (fun (i:Nat)=>l.length-i) (fun (i:Nat)=>.q 4<|.br (.dx 8 [0,1,2,3,4,5,6,7] [(3,⟨false,[],some [],[20],[]⟩),(7,⟨false,[],some [],[24],[]⟩)] []<|.q 1<|.q 1<|.r 1 [.agg [bV ((l.getD i (⟨false,[]⟩:r7)).E1),sV ((l.getD i (⟨false,[]⟩:r7)).path)]]<|.q 1<|.q 1<|.q 1<|.r 1 [.agg [bV ((m.getD i (⟨false,[]⟩:r7)).E1),sV ((m.getD i (⟨false,[]⟩:r7)).path)]]<|.q 1<|.cu (YK (.agg #[.bool ((l.getD i (⟨false,[]⟩:r7)).E1),.string (Str ((l.getD i (⟨false,[]⟩:r7)).path))]) (.agg #[.bool ((m.getD i (⟨false,[]⟩:r7)).E1),.string (Str ((m.getD i (⟨false,[]⟩:r7)).path))]) false) (fun _=>.br (.q 1<|.nil) (.q 3<|.nil))) (.q 1<|.nil))))
  (Br (w4 (((l.map aD).length:Nat):Int) (((m.map aD).length:Nat):Int)) (Q (bV false) (bV true)) ((∃ j7:Nat,(j7<=l.length)/\E (dQ l)/\E (dQ m)/\Q (iN 0) (iN j7)/\True)/\∀ i:Nat,(i<=l.length)->(fun v1:V=>(fun v2:V=>Br (r8 (i:Int) (((l.map aD).length:Nat):Int)) (Ex (i:Int) (l.map aD) v1/\True/\Ex (i:Int) (m.map aD) v2/\True/\((v1:V).val? =some (.agg #[.bool ((l.getD i (⟨false,[]⟩:r7)).E1),.string (Str ((l.getD i (⟨false,[]⟩:r7)).path))])/\(v2:V).val? =some (.agg #[.bool ((m.getD i (⟨false,[]⟩:r7)).E1),.string (Str ((m.getD i (⟨false,[]⟩:r7)).path))])/\VI Tryz.prog 137 (.agg #[.bool ((l.getD i (⟨false,[]⟩:r7)).E1),.string (Str ((l.getD i (⟨false,[]⟩:r7)).path))]) (.agg #[.bool ((m.getD i (⟨false,[]⟩:r7)).E1),.string (Str ((m.getD i (⟨false,[]⟩:r7)).path))]) false)/\∀ _:Unit,Br false (Q (bV false) (bV true)) (m8 ((i:Int)+1)/\∃ c9:Nat,(c9<=l.length)/\(l.length-c9<l.length-i)/\E (dQ l)/\E (dQ m)/\Q (iN (i+1)) (iN c9)/\True)) (Q (bV true) (bV true))) (.agg [bV ((m.getD i (⟨false,[]⟩:r7)).E1),sV ((m.getD i (⟨false,[]⟩:r7)).path)])) (.agg [bV ((l.getD i (⟨false,[]⟩:r7)).E1),sV ((l.getD i (⟨false,[]⟩:r7)).path)]))) ?_
 refine bI (fun l3=>?_) fun l3=>?_
 exact absurd (Zbk Int.ofNat WG) l3
 refine⟨⟨0,?_,rfl,rfl,rfl,trivial⟩,?_⟩
 simp
 rintro i h1
 refine bI (fun l6=>?_) fun l6=>?_
 refine⟨⟨Zaa,aq (d:=(⟨false,[]⟩:r7)) Zaa⟩,trivial,⟨Zaa,aq (d:=(⟨false,[]⟩:r7)) Zaa⟩,trivial,⟨rfl,rfl,Me (by rw[he])⟩,?_⟩
 intro _
 refine bI (fun n0=>?_) fun n0=>?_
 exact absurd n0 Zad
 refine⟨Zaa,?_⟩
 refine⟨i+1,?_,?_,rfl,rfl,rfl,trivial⟩
 omega
 exact Zai
 unfold Q
 rfl
def zd(l:List r7)(m:List r7):o6 Tryz.prog:={ f:=68,args:=[dQ l,dQ m],H:=[],pre:=(l.length<=1000000)/\(l=m),res:=bV true,H':=[],ok:=fun h=>DI l m h.1 h.2 }
theorem Dm(a b:l4)(hn:a.na.length<=1000000)(hr:a.ru.length<=1000000)(he:a=b):PF Tryz.prog 37 [fa a.na a.ru a.wa,fa b.na b.ru b.wa] [] (fun r h=>r=(bV true)/\h=[]):=by
 refine aB (N:=24) (rs:=[.tmp 4]) Tryz.func37
  (.bx (fun g2=>.bx (fun g3=>.q 1<|.r 10 [.b9,.b9,.b9,.b9]<|.cg (pL a.na b.na)<|.r 6 [.b9,.b9]<|.cg (zd a.ru b.ru)<|.q 2<|.nil)))
  ((fun v1:Bool=>(∀ g2:Nat,∀ g3:Nat,Z g2 2/\Z g3 2/\Gd (v1==true) (Z g2 0)/\Gd (v1==true) (Z g3 0)/\Gd (v1==true) (((a.na.length<=1000000)/\(b.na.length<=1000000))/\(pL a.na b.na).sm)/\Pk v1 (v1==true) true/\Gd ((v1&&(a.na==b.na))==true) (Z g2 1)/\Gd ((v1&&(a.na==b.na))==true) (Z g3 1)/\Gd ((v1&&(a.na==b.na))==true) (((a.ru.length<=1000000)/\(a.ru=b.ru))/\(zd a.ru b.ru).sm)/\Pk (v1&&(a.na==b.na)) ((v1&&(a.na==b.na))==true) true/\Q (bV ((v1&&(a.na==b.na))||false)) (bV true))) (r6 (a.wa:Int) (b.wa:Int))) ?_
 intro g2
 intro g3
 refine⟨rfl,rfl,fun hG=>rfl,fun hG=>rfl,fun hG=>⟨⟨hn,by(try simp only[nb]at hG);rw[<- he];exact hn⟩,rfl⟩,⟨fun h=>by rw[h] <;> rfl,fun _=>rfl⟩,fun hG=>rfl,fun hG=>rfl,fun hG=>⟨⟨hr,by(try simp only[nb]at hG);rw[he]⟩,rfl⟩,⟨fun h=>by rw[h] <;> rfl,fun _=>rfl⟩,?_⟩
 unfold Q
 subst he
 simp[nb,r6]
def yP(a:l4)(b:l4):o6 Tryz.prog:={ f:=37,args:=[fa a.na a.ru a.wa,fa b.na b.ru b.wa],H:=[],pre:=(a.na.length<=1000000)/\(a.ru.length<=1000000)/\(a=b),res:=bV true,H':=[],ok:=fun h=>Dm a b h.1 h.2.1 h.2.2 }
def kv(w:List Pg)(t:j6):Option j6:=if (ai w&&ax t)=true/\D1 t=true then some (y8 w t) else none
theorem ji{l:List k9}{i:Nat}(h:i<l.length):(l.map aH).getD i false=aH (l.getD i c5):=by
 rw[Zak,Zak,List.getElem?_map,Zar h];rfl
theorem Dc{w:List Pg}{t:j6}(h:D1 t=false):kv w t=none:=if_neg fun c=>by rw[h]at c;cases c.2
theorem Ki{w:List Pg}{t:j6}(h1:ai w=true)(h2:ax t=true)(h:D1 t=true):kv w t=some (y8 w t):=if_pos ⟨by rw[h1,h2];rfl,h⟩
theorem KJ{w:List Pg}{t:j6}(h:(ai w&&ax t)=false):kv w t=none:=if_neg fun c=>by rw[h]at c;cases c.1
theorem md1{w:List Pg}{t:j6}(h:((Oe w (1:Int).toNat t:Nat):Int)=0):D1 t=false:=by
 cases e:D1 t with
 | false=>rfl
 | true=>
   have:Oe w 1 t=1:=by rw[Oe,if_pos e];rfl
   have h:((Oe w 1 t:Nat):Int)=0:=h
   omega
theorem md2{w:List Pg}{t:j6}(h: ¬ ((Oe w (1:Int).toNat t:Nat):Int)=0):D1 t=true:=by
 cases e:D1 t with
 | true=>rfl
 | false=>
   have:Oe w 1 t=0:=by rw[Oe,if_neg (by rw[e];decide)]
   have h: ¬ ((Oe w 1 t:Nat):Int)=0:=h
   omega
theorem rn1{w:List Pg}{t:j6}(h:D1 t=true):z6 w 1 t=y8 w t:=by rw[z6,if_pos h];rfl
theorem lH(y:k9):PF Tryz.prog 61 [dR y.na y.re y.kn y.gr.na y.gr.ru y.gr.wa y.tr y.td] [] (fun r h=>r=(bV (aH y))/\h=[]):=by
 refine aB (N:=7) (rs:=[.tmp 2]) Tryz.func61
  (.bx (fun g1=>.q 1<|.r 5 [.b9]<|.nil))
  (∀ g1:Nat,Z g1 7/\Q (bV (w3 (((y.td.map ar).length:Nat):Int) 0)) (bV (aH y))) ?_
 intro g1
 refine⟨rfl,?_⟩
 unfold Q
 rw[qt]
def iO(y:k9):o6 Tryz.prog:={ f:=61,args:=[dR y.na y.re y.kn y.gr.na y.gr.ru y.gr.wa y.tr y.td],H:=[],pre:=True,res:=bV (aH y),H':=[],ok:=fun _=>lH y }
theorem lC(l:List k9)(hl:l.length<=1000000):PF Tryz.prog 89 [.sl false (l.map bw),.lit (.func (.func 61) #[] #[])] [] (fun r h=>r=(iV (bZ (l.map aH) true))/\h=[]):=by
 refine aB (N:=19) (rs:=[.tmp 4]) Tryz.func89
  (.q 1<|.q 3<|.loop (Nat) (fun (i:Nat)=>⟨[(0,.sl false (l.map bw)),(1,.lit (.func (.func 61) #[] #[])),(6,.sl false (l.map bw)),(7,iN l.length),(8,iN i)],[]⟩) (fun (i:Nat)=>i<=l.length/\∀ j,j<i->aH (l.getD j c5)=false) (fun (i:Nat)=>l.length-i) (fun (i:Nat)=>.q 1<|.br (.q 2<|.r 5 [dR ((l.getD i c5).na) ((l.getD i c5).re) ((l.getD i c5).kn) ((l.getD i c5).gr.na) ((l.getD i c5).gr.ru) ((l.getD i c5).gr.wa) ((l.getD i c5).tr) ((l.getD i c5).td)]<|.c (iO (l.getD i c5)) []<|.br (.q 2<|.nil) (.q 2<|.nil)) (.q 1<|.nil)))
  ((fun v1:V=>((∃ j7:Nat,(j7<=l.length/\∀ j,j<j7->aH (l.getD j c5)=false)/\E v1/\E (.lit (.func (.func 61) #[] #[]))/\E v1/\Q (iN ((l.map bw).length)) (iN l.length)/\Q (iN 0) (iN j7)/\True)/\∀ i:Nat,(i<=l.length/\∀ j,j<i->aH (l.getD j c5)=false)->(fun v2:k9=>Br (r8 (i:Int) (l.length:Int)) (Ex (i:Int) (l.map bw) (dR (v2.na) (v2.re) (v2.kn) (v2.gr.na) (v2.gr.ru) (v2.gr.wa) (v2.tr) (v2.td))/\True/\(iO v2).sm/\(True)/\Br (aH v2) (Q (iN i) (iV (bZ (l.map aH) true))) (m8 ((i:Int)+1)/\∃ c9:Nat,(c9<=l.length/\∀ j,j<c9->aH (l.getD j c5)=false)/\(l.length-c9<l.length-i)/\E v1/\E (.lit (.func (.func 61) #[] #[]))/\E v1/\E (iN l.length)/\Q (iN (i+1)) (iN c9)/\True)) (Q (iV (-1)) (iV (bZ (l.map aH) true)))) (l.getD i c5))) (.sl false (l.map bw))) ?_
 refine⟨⟨0,?_,rfl,rfl,rfl,Zaf,rfl,trivial⟩,?_⟩
 simp
 rintro i ⟨h1,h2⟩
 refine bI (fun l3=>?_) fun l3=>?_
 refine⟨⟨Zaa,aq (d:=c5) Zaa⟩,trivial,rfl,trivial,?_⟩
 refine bI (fun l6=>?_) fun l6=>?_
 unfold Q
 rw[jv (i:=i) (by rw[Zaw];omega) (by rw[ji Zaa];exact l6) (fun j hj=>by rw[ji Zaa];rw[h2 j hj];decide)]
 refine⟨Zaa,?_⟩
 refine⟨i+1,?_,?_,rfl,rfl,rfl,rfl,rfl,trivial⟩
 exact⟨Zaa,bJ h2 l6⟩
 exact Zai
 unfold Q
 rw[iJ (fun j hj=>by rw[Zaw]at hj;rw[ji hj];rw[h2 j Zaa];decide)]
def iX(l:List k9):o6 Tryz.prog:={ f:=89,args:=[.sl false (l.map bw),.lit (.func (.func 61) #[] #[])],H:=[],pre:=(l.length<=1000000),res:=iV (bZ (l.map aH) true),H':=[],ok:=fun h=>lC l h }
theorem lL(l:List k9)(hl:l.length<=1000000):PF Tryz.prog 60 [.sl false (l.map bw),.lit (.func (.func 61) #[] #[])] [] (fun r h=>r=(bV (l.any aH))/\h=[]):=by
 refine aB (N:=9) (rs:=[.tmp 4]) Tryz.func60
  (.q 1<|.q 2<|.c (iX l) []<|.q 2<|.nil)
  ((iX l).sm/\((l.length<=1000000))/\Q (bV (A8 (bZ (l.map aH) true) 0)) (bV (l.any aH))) ?_
 refine⟨rfl,Zae,?_⟩
 unfold Q
 refine Zbk bV ?_
 show decide (bZ (l.map aH) true>=0)=_
 rw[show decide (bZ (l.map aH) true>=0)=(l.map aH).contains true from jf _ _]
 rw[Za4];simp
def iW(l:List k9):o6 Tryz.prog:={ f:=60,args:=[.sl false (l.map bw),.lit (.func (.func 61) #[] #[])],H:=[],pre:=(l.length<=1000000),res:=bV (l.any aH),H':=[],ok:=fun h=>lL l h }
theorem nj(t:j6)(hh:t.hs.length<=1000000):PF Tryz.prog 29 [bF t.na t.a7 t.hs t.se t.lk] [] (fun r h=>r=(bV (!(t.hs.any aH)))/\h=[]):=by
 refine aB (N:=7) (rs:=[.tmp 2]) Tryz.func29
  (.bx (fun g1=>.q 1<|.r 2 [.b9]<|.c (iW t.hs) []<|.q 2<|.nil))
  (∀ g1:Nat,Z g1 2/\(iW t.hs).sm/\((t.hs.length<=1000000))/\Q (bV (!(t.hs.any aH))) (bV (!(t.hs.any aH)))) ?_
 intro g1
 refine⟨rfl,rfl,Zae,?_⟩
 unfold Q
 rfl
def kB(t:j6):o6 Tryz.prog:={ f:=29,args:=[bF t.na t.a7 t.hs t.se t.lk],H:=[],pre:=(t.hs.length<=1000000),res:=bV (!(t.hs.any aH)),H':=[],ok:=fun h=>nj t h }
theorem iC(t:j6)(ht:r5 t):PF Tryz.prog 12 [bF t.na t.a7 t.hs t.se t.lk] [] (fun r h=>r=(bV (ax t&&!(t.hs.any aH)))/\h=[]):=by
 refine aB (N:=9) (rs:=[.tmp 2]) Tryz.func12
  (.bx (fun g1=>.q 1<|.r 1 [.b9]<|.c (dp t) []<|.r 2 [.b9]<|.cg (kB t)<|.q 2<|.nil))
  (∀ g1:Nat,Z g1 0/\(dp t).sm/\((r5 t))/\Gd ((ax t)==true) (Z g1 0)/\Gd ((ax t)==true) (((t.hs.length<=1000000))/\(kB t).sm)/\Pk (ax t) ((ax t)==true) true/\Q (bV ((ax t)&&(!(t.hs.any aH)))) (bV (ax t&&!(t.hs.any aH)))) ?_
 intro g1
 refine⟨rfl,rfl,ht,fun hG=>rfl,fun hG=>⟨by(try simp only[nb]at hG);have:=ht.h;omega,rfl⟩,⟨fun h=>by rw[h] <;> rfl,fun _=>rfl⟩,?_⟩
 unfold Q
 rfl
def eK(t:j6):o6 Tryz.prog:={ f:=12,args:=[bF t.na t.a7 t.hs t.se t.lk],H:=[],pre:=(r5 t),res:=bV (ax t&&!(t.hs.any aH)),H':=[],ok:=fun h=>iC t h }
abbrev ir(w:List Pg)(t:j6)(ea:Addr):V:=.tup [bP ((oT (kv w t)).na) ((oT (kv w t)).a7) ((oT (kv w t)).hs) ((oT (kv w t)).se) ((oT (kv w t)).lk),bV ((kv w t).isSome)]
theorem BC(w:List Pg)(t:j6)(ea:Addr)(hw:w.length<=30)(hz:∀ i,m4 (w.getD i l9))(ht:r5 t)(hh:t.hs.length<=900):PF Tryz.prog 17 [cC w,bF t.na t.a7 t.hs t.se t.lk] [(9000,(0,.lit (.iface 251 (.pointer (some ea)))))] (fun r h=>r=(ir w t ea)/\h=[(9000,(0,.lit (.iface 251 (.pointer (some ea)))))]):=by
 refine aB (N:=28) (rs:=[.cell 4 30,.tmp 5]) Tryz.func17
  (.bx (fun g3=>.al fo (fun g4=>.q 1<|.r 2 [.b9]<|.sp (ai w&&ax t) (.cx (nD w t) [(1001,11),(1000,3011)] (fun (x8:Nat×Nat)=>.q 5<|.q 2<|.h (.n8 15 (bV false))<|.q 1<|.gt<|.q 1<|.gt<|.c (uk t.na t.a7 t.hs t.se t.lk x8.2 x8.1 ea w (1:Int)) [(1001,11),(1000,3011),(9000,9000)]<|.gt<|.q 2<|.br (.bd fo<|.st none<|.q 1<|.h (.B3 (.key 4) [2] 8)<|.h (.B3 (.key 4) [3] 1)<|.h (.B3 (.key 4) [4] 3)<|.nil) (.r 5 [.b9]<|.mv<|.st none<|.q 1<|.nil))) (.c (ma w t) []<|.q 5<|.q 2<|.h (.n8 15 (bV true))<|.q 1<|.gf (.b9)<|.gf (.b9)<|.gf (bV false)<|.q 1<|.br (.bd fo<|.st none<|.q 1<|.h (.B3 (.key 4) [2] 8)<|.h (.B3 (.key 4) [3] 1)<|.h (.B3 (.key 4) [4] 3)<|.nil) (.nil)))))
  ((fun v1:j6=>(fun v2:V=>(fun v3:V=>(∀ g3:Nat,∀ g4:Nat,Z g3 0/\((ai w&&ax t)=true->(nD w t).sm/\((w.length<=30)/\(∀ i,m4 (w.getD i l9))/\(r5 t)/\(ai w=true)/\(ax t=true))/\∀ x8:Nat×Nat,(True)->Q (bV (!true)) (bV false)/\(true=true)/\(true=true)/\(uk t.na t.a7 t.hs t.se t.lk x8.2 x8.1 ea w (1:Int)).sm/\Er x8.1 (.agg [.mp (w.map F8),.ptr (.key 1000) [] x8.2 0])/\Er x8.2 (bP t.na t.a7 t.hs t.se t.lk)/\Er 0 v2/\((ai w=true)/\(∀ i,m4 (w.getD i l9))/\(M5 (⟨t.na,t.a7,t.hs,t.se,t.lk⟩:j6))/\(0<=(1:Int)/\(1:Int)<=1000))/\(true=true)/\Pk false true true/\Br (false||(r6 (((Oe w (1:Int).toNat (⟨t.na,t.a7,t.hs,t.se,t.lk⟩:j6)):Nat):Int) 0)) (Z g4 0/\(g4=g4)/\Q v3 (ir w t ea)/\Er 0 v2) (True/\Z x8.1 1/\True/\Z x8.2 0/\Z g4 0/\(g4=g4)/\Q (.tup [bP t.na (v1.a7) (v1.hs) (v1.se) (v1.lk),bV true]) (ir w t ea)/\Er 0 v2))/\((ai w&&ax t)=false->(ma w t).sm/\((w.length<=30)/\(∀ i,m4 (w.getD i l9))/\(r5 t)/\((ai w&&ax t)=false))/\Q (bV (!false)) (bV true)/\(false=false)/\(false=false)/\(false=false)/\Pk true true false/\Br (true||false) (Z g4 0/\(g4=g4)/\Q v3 (ir w t ea)/\Er 0 v2) (False)))) (.tup [.agg [sV [],iN 0,.ow 8 ([].map aL),.ow 1 ([].map sV),.ow 3 ([].map bf)],bV false])) (.lit (.iface 251 (.pointer (some ea))))) (z6 w (1:Int).toNat (⟨t.na,t.a7,t.hs,t.se,t.lk⟩:j6))) ?_
 intro g3
 intro g4
 refine⟨rfl,?_⟩
 refine⟨fun QW=>?_,fun QW=>?_⟩
 have OJ:=QW
 try simp only[nb]at OJ
 refine⟨rfl,⟨hw,hz,ht,OJ.1,OJ.2⟩,?_⟩
 intro x8 QT
 refine⟨by unfold Q;rfl,rfl,rfl,rfl,rfl,rfl,rfl,⟨OJ.1,hz,jC ht hh OJ.2,Zaa⟩,rfl,⟨fun _=>rfl,fun _=>rfl⟩,?_⟩
 refine bI (fun l3=>?_) fun l3=>?_
 refine⟨rfl,?_⟩
 refine⟨rfl,?_,rfl⟩
 unfold Q ir
 rw[Dc (md1 (l3.resolve_left Zad))];rfl
 refine⟨trivial,rfl,trivial,rfl,rfl,?_⟩
 refine⟨rfl,?_,rfl⟩
 unfold Q ir
 have hg:=md2 l3.2
 rw[Ki OJ.1 OJ.2 hg]
 show V.tup [V.agg [sV t.na,iV (z6 w 1 t).a7,V.ow 8 ((z6 w 1 t).hs.map aL),V.ow 1 ((z6 w 1 t).se.map sV),V.ow 3 ((z6 w 1 t).lk.map bf)],bV true]=_
 rw[rn1 hg]
 exact Zbk (fun s:BL=>V.tup [V.agg [sV s,iV (y8 w t).a7,V.ow 8 ((y8 w t).hs.map aL),V.ow 1 ((y8 w t).se.map sV),V.ow 3 ((y8 w t).lk.map bf)],bV true]) (AV w t).symm
 · have OJ:=QW
   try simp only[nb]at OJ
   refine⟨rfl,⟨hw,hz,ht,QW⟩,by unfold Q;rfl,rfl,rfl,rfl,⟨fun _=>rfl,fun h=>by rw[h] <;> rfl⟩,?_⟩
   refine bI (fun l6=>?_) fun l6=>?_
   refine⟨rfl,?_⟩
   refine⟨rfl,?_,rfl⟩
   unfold Q ir
   rw[KJ QW];rfl
   · all_goals (first | exact absurd l6 Zad | simp_all)
def wK(w:List Pg)(t:j6)(ea:Addr):o6 Tryz.prog:={ f:=17,args:=[cC w,bF t.na t.a7 t.hs t.se t.lk],H:=[(9000,(0,.lit (.iface 251 (.pointer (some ea)))))],pre:=(w.length<=30)/\(∀ i,m4 (w.getD i l9))/\(r5 t)/\(t.hs.length<=900),res:=ir w t ea,H':=[(9000,(0,.lit (.iface 251 (.pointer (some ea)))))],ok:=fun h=>BC w t ea h.1 h.2.1 h.2.2.1 h.2.2.2 }
theorem LK{a b:l5}(he:a=b):VI Tryz.prog 94 (.agg #[.int .i64 a.ti,.string (Str a.ad),.int .i64 a.ki]) (.agg #[.int .i64 b.ti,.string (Str b.ad),.int .i64 b.ki]) false:=by
 subst he
 have u3:=Tryz.underlying3
 have a3:=Tryz.isAgg3
 have z3:=Tryz.sizeOf3
 have u9:=Tryz.underlying9
 have a9:=Tryz.isAgg9
 have z9:=Tryz.sizeOf9
 refine⟨fun x y w=>run_eqGuard_agg w .neq _ x y _ _ Zac,fun w=>?_⟩
 rw[run_neq_struct,show (10000:Nat)=9999+1 from rfl,run_equalIn_agg w 9999 94 _ _ Zac Zac]
 simp only[Program.fieldsOf,Tryz.underlying94]
 go_simp
theorem Eb(l m:List l5)(hl:l.length<=1000000)(he:l=m):PF Tryz.prog 36 [cD l,cD m] [] (fun r h=>r=(bV true)/\h=[]):=by
 have WG:l.length=m.length:=by rw[he]
 refine aB (N:=26) (rs:=[.tmp 4]) Tryz.func36
  (.q 1<|.q 5<|.br (.q 1<|.nil) (.q 1<|.loop (Nat) (fun (i:Nat)=>⟨[(0,cD l),(1,cD m),(5,iN i)],[]⟩) (fun (i:Nat)=>i<=l.length) (fun (i:Nat)=>l.length-i) (fun (i:Nat)=>.q 4<|.br (.dx 8 [0,1,2,3,4,5,6,7] [(3,⟨false,[],some [],[20],[]⟩),(7,⟨false,[],some [],[24],[]⟩)] []<|.q 1<|.q 1<|.r 1 [.agg [iV ((l.getD i h9).ti),sV ((l.getD i h9).ad),iV ((l.getD i h9).ki)]]<|.q 1<|.q 1<|.q 1<|.r 1 [.agg [iV ((m.getD i h9).ti),sV ((m.getD i h9).ad),iV ((m.getD i h9).ki)]]<|.q 1<|.cu (YK (.agg #[.int .i64 ((l.getD i h9).ti),.string (Str ((l.getD i h9).ad)),.int .i64 ((l.getD i h9).ki)]) (.agg #[.int .i64 ((m.getD i h9).ti),.string (Str ((m.getD i h9).ad)),.int .i64 ((m.getD i h9).ki)]) false) (fun _=>.br (.q 1<|.nil) (.q 3<|.nil))) (.q 1<|.nil))))
  (Br (w4 (((l.map bf).length:Nat):Int) (((m.map bf).length:Nat):Int)) (Q (bV false) (bV true)) ((∃ j7:Nat,(j7<=l.length)/\E (cD l)/\E (cD m)/\Q (iN 0) (iN j7)/\True)/\∀ i:Nat,(i<=l.length)->(fun v1:l5=>(fun v2:l5=>Br (r8 (i:Int) (((l.map bf).length:Nat):Int)) (Ex (i:Int) (l.map bf) (.agg [iV (v1.ti),sV (v1.ad),iV (v1.ki)])/\True/\Ex (i:Int) (m.map bf) (.agg [iV (v2.ti),sV (v2.ad),iV (v2.ki)])/\True/\(((.agg [iV (v1.ti),sV (v1.ad),iV (v1.ki)]):V).val? =some (.agg #[.int .i64 (v1.ti),.string (Str (v1.ad)),.int .i64 (v1.ki)])/\((.agg [iV (v2.ti),sV (v2.ad),iV (v2.ki)]):V).val? =some (.agg #[.int .i64 (v2.ti),.string (Str (v2.ad)),.int .i64 (v2.ki)])/\VI Tryz.prog 94 (.agg #[.int .i64 (v1.ti),.string (Str (v1.ad)),.int .i64 (v1.ki)]) (.agg #[.int .i64 (v2.ti),.string (Str (v2.ad)),.int .i64 (v2.ki)]) false)/\∀ _:Unit,Br false (Q (bV false) (bV true)) (m8 ((i:Int)+1)/\∃ c9:Nat,(c9<=l.length)/\(l.length-c9<l.length-i)/\E (cD l)/\E (cD m)/\Q (iN (i+1)) (iN c9)/\True)) (Q (bV true) (bV true))) (m.getD i h9)) (l.getD i h9))) ?_
 refine bI (fun l3=>?_) fun l3=>?_
 exact absurd (Zbk Int.ofNat WG) l3
 refine⟨⟨0,?_,rfl,rfl,rfl,trivial⟩,?_⟩
 simp
 rintro i h1
 refine bI (fun l6=>?_) fun l6=>?_
 refine⟨⟨Zaa,aq (d:=h9) Zaa⟩,trivial,⟨Zaa,aq (d:=h9) Zaa⟩,trivial,⟨rfl,rfl,LK (by rw[he])⟩,?_⟩
 intro _
 refine bI (fun n0=>?_) fun n0=>?_
 exact absurd n0 Zad
 refine⟨Zaa,?_⟩
 refine⟨i+1,?_,?_,rfl,rfl,rfl,trivial⟩
 omega
 exact Zai
 unfold Q
 rfl
def yW(l:List l5)(m:List l5):o6 Tryz.prog:={ f:=36,args:=[cD l,cD m],H:=[],pre:=(l.length<=1000000)/\(l=m),res:=bV true,H':=[],ok:=fun h=>Eb l m h.1 h.2 }
theorem oQ{w:List Pg}{n:BL}{p:List BL}{m:Int}(hm:x4 m 0 400=true)(hz:∀ i,m4 (w.getD i l9))(hn:n.length<=1000)(hl:p.length<=400)(ha:∀ x,x∈p->x.length<=1000/\l8 x):r5 (ay w n p m):=by
 by_cases h:(aw n p).isSome=true/\(aR w (oT (aw n p)) m).isSome=true
 exact mr hm hz hn hl ha h
 have e:aR w (oT (aw n p)) m=none:=by
  cases h1:aw n p with
  | none=>
    refine if_neg fun c=>?_
    have h2:=c.2
    rw[Zam]at h2
    exact absurd h2.2 Zad
  | some t=>
    rw[h1]at h
    cases h2:aR w (oT (some t)) m with
    | none=>rfl
    | some u=>rw[h2]at h;exact absurd ⟨rfl,rfl⟩ h
 unfold ay
 rw[e]
 exact⟨by simp[oT],by simp[oT],by simp[oT],by simp[oT],by simp[oT],by simp[oT],by simp[oT]⟩
theorem qx{t:j6}(h:t.hs.any aH=false):∀ y,y∈t.hs->y.td=[]:=fun y hy=>by
 rw[List.any_eq_false]at h
 have:=h y hy
 rw[show aH y=decide (y.td≠[]) from rfl]at this
 simpa using this
theorem JR{w:List Pg}{t:j6}(hw:ai w=true)(ho:ax t=true)(hd:∀ y,y∈t.hs->y.td=[]):aR w t 50=some t/\kv w t=none:=by
 have hg:=xt hd
 refine⟨?_,Dc hg⟩
 rw[pf rfl hw ho,vh hg]
theorem MA{a b:w5}(he:a=b):VI Tryz.prog 115 (.agg #[.string (Str a.ad),.int .i64 a.tr]) (.agg #[.string (Str b.ad),.int .i64 b.tr]) false:=by
 subst he
 have u3:=Tryz.underlying3
 have a3:=Tryz.isAgg3
 have z3:=Tryz.sizeOf3
 have u9:=Tryz.underlying9
 have a9:=Tryz.isAgg9
 have z9:=Tryz.sizeOf9
 refine⟨fun x y w=>run_eqGuard_agg w .neq _ x y _ _ Zac,fun w=>?_⟩
 rw[run_neq_struct,show (10000:Nat)=9999+1 from rfl,run_equalIn_agg w 9999 115 _ _ Zac Zac]
 simp only[Program.fieldsOf,Tryz.underlying115]
 go_simp
theorem Dh(l m:List w5)(hl:l.length<=1000000)(he:l=m):PF Tryz.prog 38 [gY l,gY m] [] (fun r h=>r=(bV true)/\h=[]):=by
 have WG:l.length=m.length:=by rw[he]
 refine aB (N:=26) (rs:=[.tmp 4]) Tryz.func38
  (.q 1<|.q 5<|.br (.q 1<|.nil) (.q 1<|.loop (Nat) (fun (i:Nat)=>⟨[(0,gY l),(1,gY m),(5,iN i)],[]⟩) (fun (i:Nat)=>i<=l.length) (fun (i:Nat)=>l.length-i) (fun (i:Nat)=>.q 4<|.br (.dx 8 [0,1,2,3,4,5,6,7] [(3,⟨false,[],some [],[20],[]⟩),(7,⟨false,[],some [],[24],[]⟩)] []<|.q 1<|.q 1<|.r 1 [.agg [sV ((l.getD i j9).ad),iV ((l.getD i j9).tr)]]<|.q 1<|.q 1<|.q 1<|.r 1 [.agg [sV ((m.getD i j9).ad),iV ((m.getD i j9).tr)]]<|.q 1<|.cu (YK (.agg #[.string (Str ((l.getD i j9).ad)),.int .i64 ((l.getD i j9).tr)]) (.agg #[.string (Str ((m.getD i j9).ad)),.int .i64 ((m.getD i j9).tr)]) false) (fun _=>.br (.q 1<|.nil) (.q 3<|.nil))) (.q 1<|.nil))))
  (Br (w4 (((l.map ar).length:Nat):Int) (((m.map ar).length:Nat):Int)) (Q (bV false) (bV true)) ((∃ j7:Nat,(j7<=l.length)/\E (gY l)/\E (gY m)/\Q (iN 0) (iN j7)/\True)/\∀ i:Nat,(i<=l.length)->(fun v1:w5=>(fun v2:w5=>Br (r8 (i:Int) (((l.map ar).length:Nat):Int)) (Ex (i:Int) (l.map ar) (.agg [sV (v1.ad),iV (v1.tr)])/\True/\Ex (i:Int) (m.map ar) (.agg [sV (v2.ad),iV (v2.tr)])/\True/\(((.agg [sV (v1.ad),iV (v1.tr)]):V).val? =some (.agg #[.string (Str (v1.ad)),.int .i64 (v1.tr)])/\((.agg [sV (v2.ad),iV (v2.tr)]):V).val? =some (.agg #[.string (Str (v2.ad)),.int .i64 (v2.tr)])/\VI Tryz.prog 115 (.agg #[.string (Str (v1.ad)),.int .i64 (v1.tr)]) (.agg #[.string (Str (v2.ad)),.int .i64 (v2.tr)]) false)/\∀ _:Unit,Br false (Q (bV false) (bV true)) (m8 ((i:Int)+1)/\∃ c9:Nat,(c9<=l.length)/\(l.length-c9<l.length-i)/\E (gY l)/\E (gY m)/\Q (iN (i+1)) (iN c9)/\True)) (Q (bV true) (bV true))) (m.getD i j9)) (l.getD i j9))) ?_
 refine bI (fun l3=>?_) fun l3=>?_
 exact absurd (Zbk Int.ofNat WG) l3
 refine⟨⟨0,?_,rfl,rfl,rfl,trivial⟩,?_⟩
 simp
 rintro i h1
 refine bI (fun l6=>?_) fun l6=>?_
 refine⟨⟨Zaa,aq (d:=j9) Zaa⟩,trivial,⟨Zaa,aq (d:=j9) Zaa⟩,trivial,⟨rfl,rfl,MA (by rw[he])⟩,?_⟩
 intro _
 refine bI (fun n0=>?_) fun n0=>?_
 exact absurd n0 Zad
 refine⟨Zaa,?_⟩
 refine⟨i+1,?_,?_,rfl,rfl,rfl,trivial⟩
 omega
 exact Zai
 unfold Q
 rfl
def zo(l:List w5)(m:List w5):o6 Tryz.prog:={ f:=38,args:=[gY l,gY m],H:=[],pre:=(l.length<=1000000)/\(l=m),res:=bV true,H':=[],ok:=fun h=>Dh l m h.1 h.2 }
theorem FJ(a b:j6)(ht:r5 a)(he:a=b):PF Tryz.prog 18 [bF a.na a.a7 a.hs a.se a.lk,bF b.na b.a7 b.hs b.se b.lk] [] (fun r h=>r=(bV true)/\h=[]):=by
 have WG:a.hs.length=b.hs.length:=by rw[he]
 have V8:=ht.h
 have OX:=ht.s
 have hll:=ht.l
 refine aB (N:=104) (rs:=[.tmp 4]) Tryz.func18
  (.bx (fun g2=>.bx (fun g3=>.q 1<|.r 17 [.b9,.b9,.b9,.b9,.b9,.b9]<|.cg (pL a.se b.se)<|.r 7 [.b9,.b9]<|.cg (yW a.lk b.lk)<|.r 11 [.b9,.b9]<|.br (.q 1<|.nil) (.q 1<|.loop (Nat) (fun (i:Nat)=>⟨[(2,.ptr (.key 2) [] g2 0),(3,.ptr (.key 3) [] g3 0),(5,iN i)],[(2,(g2,bF a.na a.a7 a.hs a.se a.lk)),(3,(g3,bF b.na b.a7 b.hs b.se b.lk))]⟩) (fun (i:Nat)=>i<=a.hs.length) (fun (i:Nat)=>a.hs.length-i) (fun (i:Nat)=>.r 5 [.b9]<|.br (.r 5 [.b9,dR ((a.hs.getD i c5).na) ((a.hs.getD i c5).re) ((a.hs.getD i c5).kn) ((a.hs.getD i c5).gr.na) ((a.hs.getD i c5).gr.ru) ((a.hs.getD i c5).gr.wa) ((a.hs.getD i c5).tr) ((a.hs.getD i c5).td)]<|.al AY (fun g6=>.st none<|.r 5 [.b9,dR ((b.hs.getD i c5).na) ((b.hs.getD i c5).re) ((b.hs.getD i c5).kn) ((b.hs.getD i c5).gr.na) ((b.hs.getD i c5).gr.ru) ((b.hs.getD i c5).gr.wa) ((b.hs.getD i c5).tr) ((b.hs.getD i c5).td)]<|.al AY (fun g7=>.st none<|.r 31 [.b9,.b9,.b9,.b9,.b9,.b9,.b9,.b9,.b9,.b9]<|.cg (yP ((a.hs.getD i c5).gr) ((b.hs.getD i c5).gr))<|.r 7 [.b9,.b9]<|.cg (zo ((a.hs.getD i c5).td) ((b.hs.getD i c5).td))<|.q 2<|.br (.q 1<|.nil) (.q 3<|.nil)))) (.q 1<|.nil))))))
  ((fun v1:Bool=>(fun v2:Bool=>(fun v3:Bool=>(fun v4:Bool=>(fun v5:Bool=>(fun v6:Bool=>(∀ g2:Nat,∀ g3:Nat,Z g2 0/\Z g3 0/\Gd (v1==false) (Z g2 1)/\Gd (v1==false) (Z g3 1)/\Pk v1 true (v1==false)/\Gd v6 (Z g2 3)/\Gd v6 (Z g3 3)/\Gd v6 (((a.se.length<=1000000)/\(b.se.length<=1000000))/\(pL a.se b.se).sm)/\Pk (v1||v2) true v6/\Gd v4 (Z g2 4)/\Gd v4 (Z g3 4)/\Gd v4 (((a.lk.length<=1000000)/\(a.lk=b.lk))/\(yW a.lk b.lk).sm)/\Pk ((v1||v2)||v3) true v4/\Gd v5 (Z g2 2)/\Gd v5 (Z g3 2)/\Pk (((v1||v2)||v3)||(!true)) true v5/\Br ((((v1||v2)||v3)||(!true))||(w4 (((a.hs.map bw).length:Nat):Int) (((b.hs.map bw).length:Nat):Int))) (Q (bV false) (bV true)) ((∃ j7:Nat,(j7<=a.hs.length)/\E (.ptr (.key 2) [] g2 0)/\E (.ptr (.key 3) [] g3 0)/\Q (iN 0) (iN j7)/\Er g2 (bF a.na a.a7 a.hs a.se a.lk)/\Er g3 (bF b.na b.a7 b.hs b.se b.lk)/\True)/\∀ i:Nat,(i<=a.hs.length)->(fun v7:k9=>(fun v8:k9=>(fun J4:Bool=>(fun v9:Bool=>(fun v10:Bool=>(fun v11:Bool=>(fun v12:Bool=>(fun E4:Bool=>(fun H6:Bool=>Z g2 2/\Br (r8 (i:Int) (((a.hs.map bw).length:Nat):Int)) (Z g2 2/\Ex (i:Int) (a.hs.map bw) (dR (v7.na) (v7.re) (v7.kn) (v7.gr.na) (v7.gr.ru) (v7.gr.wa) (v7.tr) (v7.td))/\True/\∀ g6:Nat,Z g6 0/\Z g3 2/\Ex (i:Int) (b.hs.map bw) (dR (v8.na) (v8.re) (v8.kn) (v8.gr.na) (v8.gr.ru) (v8.gr.wa) (v8.tr) (v8.td))/\True/\∀ g7:Nat,Z g7 0/\Z g6 0/\Z g7 0/\Gd (v9==false) (Z g6 1)/\Gd (v9==false) (Z g7 1)/\Pk v9 true (v9==false)/\Gd ((v9||v10)==false) (Z g6 2)/\Gd ((v9||v10)==false) (Z g7 2)/\Pk (v9||v10) true ((v9||v10)==false)/\Gd H6 (Z g6 6)/\Gd H6 (Z g7 6)/\Pk ((v9||v10)||v11) true H6/\Gd E4 (Z g6 3)/\Gd E4 (Z g7 3)/\Gd E4 ((((v7.gr).na.length<=1000000)/\((v7.gr).ru.length<=1000000)/\((v7.gr)=(v8.gr)))/\(yP (v7.gr) (v8.gr)).sm)/\Pk (((v9||v10)||v11)||J4) true E4/\Gd v12 (Z g6 7)/\Gd v12 (Z g7 7)/\Gd v12 ((((v7.td).length<=1000000)/\((v7.td)=(v8.td)))/\(zo (v7.td) (v8.td)).sm)/\Pk ((((v9||v10)||v11)||J4)||(!true)) true v12/\Br (((((v9||v10)||v11)||J4)||(!true))||(!true)) (Q (bV false) (bV true)) (m8 ((i:Int)+1)/\∃ c9:Nat,(c9<=a.hs.length)/\(a.hs.length-c9<a.hs.length-i)/\E (.ptr (.key 2) [] g2 0)/\E (.ptr (.key 3) [] g3 0)/\Q (iN (i+1)) (iN c9)/\Er g2 (bF a.na a.a7 a.hs a.se a.lk)/\Er g3 (bF b.na b.a7 b.hs b.se b.lk)/\True)) (Q (bV true) (bV true))) (((v9||v10)||v11)==false)) ((((v9||v10)||v11)||J4)==false)) (((((v9||v10)||v11)||J4)||(!true))==false)) (!((v7.kn)==(v8.kn)))) (w4 (v7.re) (v8.re))) (!((v7.na)==(v8.na)))) (w4 (v7.tr) (v8.tr))) (b.hs.getD i c5)) (a.hs.getD i c5)))) ((v1||v2)==false)) ((((v1||v2)||v3)||(!true))==false)) (((v1||v2)||v3)==false)) (!(a.se==b.se))) (w4 a.a7 b.a7)) (!(a.na==b.na))) ?_
 intro g2
 intro g3
 refine⟨rfl,rfl,fun hG=>rfl,fun hG=>rfl,⟨fun _=>rfl,fun h=>by rw[h] <;> rfl⟩,fun hG=>rfl,fun hG=>rfl,fun hG=>⟨⟨by(try simp only[nb]at hG);omega,by(try simp only[nb]at hG);rw[<- he];omega⟩,rfl⟩,⟨fun _=>rfl,fun h=>by rw[h] <;> rfl⟩,fun hG=>rfl,fun hG=>rfl,fun hG=>⟨⟨by(try simp only[nb]at hG);omega,by(try simp only[nb]at hG);rw[he]⟩,rfl⟩,⟨fun _=>rfl,fun h=>by rw[h] <;> rfl⟩,fun hG=>rfl,fun hG=>rfl,⟨fun _=>rfl,fun h=>by rw[h] <;> rfl⟩,?_⟩
 refine bI (fun l3=>?_) fun l3=>?_
 exact absurd l3 (by rw[he];simp)
 refine⟨⟨0,?_,rfl,rfl,rfl,rfl,rfl,trivial⟩,?_⟩
 simp
 rintro i h1
 refine⟨rfl,?_⟩
 refine bI (fun l6=>?_) fun l6=>?_
 have YT:=ht.ha _ (aj (d:=c5) (show i<a.hs.length by omega))
 refine⟨rfl,⟨Zaa,aq (d:=c5) Zaa⟩,trivial,?_⟩
 intro g6
 refine⟨rfl,rfl,⟨Zaa,aq (d:=c5) Zaa⟩,trivial,?_⟩
 intro g7
 refine⟨rfl,rfl,rfl,fun hG=>rfl,fun hG=>rfl,⟨fun _=>rfl,fun h=>by rw[h] <;> rfl⟩,fun hG=>rfl,fun hG=>rfl,⟨fun _=>rfl,fun h=>by rw[h] <;> rfl⟩,fun hG=>rfl,fun hG=>rfl,⟨fun _=>rfl,fun h=>by rw[h] <;> rfl⟩,fun hG=>rfl,fun hG=>rfl,fun hG=>⟨⟨by(try simp only[nb]at hG);have:=YT.g;omega,by(try simp only[nb]at hG);have:=YT.r;omega,by(try simp only[nb]at hG);rw[he]⟩,rfl⟩,⟨fun _=>rfl,fun h=>by rw[h] <;> rfl⟩,fun hG=>rfl,fun hG=>rfl,fun hG=>⟨⟨by(try simp only[nb]at hG);have:=YT.t;omega,by(try simp only[nb]at hG);rw[he]⟩,rfl⟩,⟨fun _=>rfl,fun h=>by rw[h] <;> rfl⟩,?_⟩
 refine bI (fun n0=>?_) fun n0=>?_
 exact absurd n0 (by rw[he];simp)
 refine⟨Zaa,?_⟩
 refine⟨i+1,?_,?_,rfl,rfl,rfl,rfl,rfl,trivial⟩
 omega
 exact Zai
 unfold Q
 rfl
def AL(a:j6)(b:j6):o6 Tryz.prog:={ f:=18,args:=[bF a.na a.a7 a.hs a.se a.lk,bF b.na b.a7 b.hs b.se b.lk],H:=[],pre:=(r5 a)/\(a=b),res:=bV true,H':=[],ok:=fun h=>FJ a b h.1 h.2 }
theorem DX(b:BL)(ea:Addr)(hb:b.length<=9223372036854775807):PF Tryz.prog 6 [gJ b] [(9000,(0,.lit (.iface 251 (.pointer (some ea)))))] (fun r h=>r=(bV true)/\h=[(9000,(0,.lit (.iface 251 (.pointer (some ea)))))]):=by
 refine aB (N:=71) (rs:=[.tmp 2]) Tryz.func6
  (.q 1<|.q 3<|.br (.q 1<|.nil) (.q 1<|.cx (du b) [] (fun (a8:List Pg×BL×List BL)=>.q 7<|.q 3<|.c (gB a8.1 a8.2.1 a8.2.2 (400:Int) ea) [(9000,9000)]<|.mv<|.mv<|.q 1<|.al fo (fun g6=>.h (.fz 26)<|.h (.n8 26 (bF ((ay a8.1 a8.2.1 a8.2.2 400).na) ((ay a8.1 a8.2.1 a8.2.2 400).a7) ((ay a8.1 a8.2.1 a8.2.2 400).hs) ((ay a8.1 a8.2.1 a8.2.2 400).se) ((ay a8.1 a8.2.1 a8.2.2 400).lk)))<|.st none<|.q 1<|.q 4<|.c (dE a8.1 a8.2.1 a8.2.2) []<|.r 7 [.b9]<|.cg (eK (ay a8.1 a8.2.1 a8.2.2 400))<|.q 2<|.br (.q 4<|.c (dE a8.1 a8.2.1 a8.2.2) []<|.q 2<|.nil) (.r 2 [.b9]<|.c (pJ a8.1 (ay a8.1 a8.2.1 a8.2.2 400) (50:Int) ea) [(9000,9000)]<|.mv<|.mv<|.q 1<|.al fo (fun g8=>.h (.fz 53)<|.h (.n8 53 (bF ((oT (aR a8.1 (ay a8.1 a8.2.1 a8.2.2 400) 50)).na) ((oT (aR a8.1 (ay a8.1 a8.2.1 a8.2.2 400) 50)).a7) ((oT (aR a8.1 (ay a8.1 a8.2.1 a8.2.2 400) 50)).hs) ((oT (aR a8.1 (ay a8.1 a8.2.1 a8.2.2 400) 50)).se) ((oT (aR a8.1 (ay a8.1 a8.2.1 a8.2.2 400) 50)).lk)))<|.st none<|.q 1<|.r 2 [.b9]<|.c (wK a8.1 (ay a8.1 a8.2.1 a8.2.2 400) ea) [(9000,9000)]<|.mv<|.mv<|.q 1<|.al fo (fun g10=>.st none<|.q 1<|.r 4 [.b9,.b9]<|.cg (AL (oT (aR a8.1 (ay a8.1 a8.2.1 a8.2.2 400) 50)) (ay a8.1 a8.2.1 a8.2.2 400))<|.q 6<|.nil)))))))
  ((fun v1:V=>(Br (w3 (((b.map n7).length:Nat):Int) 1048576) (Q (bV true) (bV true)/\Er 0 v1) ((du b).sm/\((b.length<=9223372036854775807))/\∀ a8:List Pg×BL×List BL,(1<=a8.1.length/\a8.1.length<=30/\(∀ y,y∈a8.1->m4 y)/\a8.2.1.length<=5/\aZ a8.2.1=true/\a8.2.2.length<=4/\(∀ y,y∈a8.2.2->y.length<=30/\l8 y))->(fun v2:j6=>(fun v8:Option j6=>(fun v4:Option j6=>(fun v3:Bool=>(fun v5:Option j6=>(fun v6:Bool=>(fun v7:j6=>(gB a8.1 a8.2.1 a8.2.2 (400:Int) ea).sm/\Er 0 v1/\((a8.1.length<=30)/\(∀ i,m4 (a8.1.getD i l9))/\(a8.2.1.length<=1000)/\(a8.2.2.length<=400)/\(∀ x,x∈a8.2.2->x.length<=1000/\l8 x))/\∀ g6:Nat,((.agg [sV ((oT v4).na),iV ((oT v4).a7),.sl false (V.C8 (((oT v4).hs).map aL)),.sl false (V.C8 (((oT v4).se).map sV)),.sl false (V.C8 (((oT v4).lk).map bf))]:V)=bF (v2.na) (v2.a7) (v2.hs) (v2.se) (v2.lk))/\Z g6 0/\(dE a8.1 a8.2.1 a8.2.2).sm/\((a8.1.length<=30)/\(∀ i,m4 (a8.1.getD i l9))/\(a8.2.1.length<=1000)/\(a8.2.2.length<=400)/\(∀ x,x∈a8.2.2->x.length<=1000/\l8 x))/\Pk v3 true (v3==false)/\Gd ((v3||v6)==false) (Z g6 0)/\Gd ((v3||v6)==false) (((r5 v2))/\(eK v2).sm)/\Pk (v3||v6) true ((v3||v6)==false)/\Br ((v3||v6)||(!(ax v2&&!(v2.hs.any aH)))) ((dE a8.1 a8.2.1 a8.2.2).sm/\((a8.1.length<=30)/\(∀ i,m4 (a8.1.getD i l9))/\(a8.2.1.length<=1000)/\(a8.2.2.length<=400)/\(∀ x,x∈a8.2.2->x.length<=1000/\l8 x))/\Q (bV ((v8.isSome&&v4.isSome)==(v8.isSome&&ai a8.1))) (bV true)/\Er 0 v1) (Z g6 0/\(pJ a8.1 v2 (50:Int) ea).sm/\Er 0 v1/\((a8.1.length<=30)/\(∀ i,m4 (a8.1.getD i l9))/\(r5 v2)/\(v2.hs.length<=900))/\∀ g8:Nat,((.agg [sV ((oT v5).na),iV ((oT v5).a7),.sl false (V.C8 (((oT v5).hs).map aL)),.sl false (V.C8 (((oT v5).se).map sV)),.sl false (V.C8 (((oT v5).lk).map bf))]:V)=bF (v7.na) (v7.a7) (v7.hs) (v7.se) (v7.lk))/\Z g8 0/\Z g6 0/\(wK a8.1 v2 ea).sm/\Er 0 v1/\((a8.1.length<=30)/\(∀ i,m4 (a8.1.getD i l9))/\(r5 v2)/\(v2.hs.length<=900))/\∀ g10:Nat,Z g10 0/\Gd ((v5.isSome)==true) (Z g8 0)/\Gd ((v5.isSome)==true) (Z g6 0)/\Gd ((v5.isSome)==true) (((r5 v7)/\(v7=v2))/\(AL v7 v2).sm)/\Pk (v5.isSome) ((v5.isSome)==true) true/\Pk ((v5.isSome)||false) (((v5.isSome)||false)==true) true/\Q (bV (((v5.isSome)||false)&&(!((kv a8.1 v2).isSome)))) (bV true)/\Er 0 v1)) (oT (aR a8.1 v2 50))) (!(v8.isSome&&v4.isSome))) (aR a8.1 v2 (50:Int))) (!((v8.isSome&&v4.isSome)==(v8.isSome&&ai a8.1)))) (aR a8.1 (oT v8) (400:Int))) (aw a8.2.1 a8.2.2)) (ay a8.1 a8.2.1 a8.2.2 400)))) (.lit (.iface 251 (.pointer (some ea))))) ?_
 refine bI (fun l3=>?_) fun l3=>?_
 refine⟨?_,rfl⟩
 unfold Q
 rfl
 refine⟨rfl,Zaa,?_⟩
 intro a8 m7
 refine⟨rfl,rfl,⟨Zaa,fun i=>fv m7.2.2.1 i,Zaa,Zaa,fun x hx=>⟨by have:=(m7.2.2.2.2.2.2 x hx).1;omega,(m7.2.2.2.2.2.2 x hx).2⟩⟩,?_⟩
 intro g6
 refine⟨by rw[jy,aT (f:=sV) (fun _=>rfl),aT (f:=bf) (fun _=>rfl),jQ],rfl,?_⟩
 have Sg:r5 (ay a8.1 a8.2.1 a8.2.2 400):=oQ rfl (fun i=>fv m7.2.2.1 i) Zaa Zaa (fun x hx=>⟨by have:=(m7.2.2.2.2.2.2 x hx).1;omega,(m7.2.2.2.2.2.2 x hx).2⟩)
 refine⟨rfl,⟨Zaa,fun i=>fv m7.2.2.1 i,Zaa,Zaa,fun x hx=>⟨by have:=(m7.2.2.2.2.2.2 x hx).1;omega,(m7.2.2.2.2.2.2 x hx).2⟩⟩,⟨fun _=>rfl,fun h=>by rw[h] <;> rfl⟩,fun hG=>rfl,fun hG=>⟨Sg,rfl⟩,⟨fun _=>rfl,fun h=>by rw[h] <;> rfl⟩,?_⟩
 refine bI (fun l6=>?_) fun l6=>?_
 refine⟨rfl,⟨Zaa,fun i=>fv m7.2.2.1 i,Zaa,Zaa,fun x hx=>⟨by have:=(m7.2.2.2.2.2.2 x hx).1;omega,(m7.2.2.2.2.2.2 x hx).2⟩⟩,?_⟩
 refine⟨?_,rfl⟩
 unfold Q
 rw[ez rfl];simp
 obtain⟨hG,hW⟩:=dy rfl l6.1.2
 have hsn:=hG.sn.2
 have V8:=hG.hl
 obtain⟨her,hes⟩:=JR hW (by simpa using l6.2.1) (qx l6.2.2)
 have hey:(oT (aR a8.1 (ay a8.1 a8.2.1 a8.2.2 400) 50))=(ay a8.1 a8.2.1 a8.2.2 400):=by rw[her];rfl
 refine⟨rfl,rfl,rfl,⟨Zaa,fun i=>fv m7.2.2.1 i,Sg,Zaa⟩,?_⟩
 intro g8
 refine⟨by rw[jy,aT (f:=sV) (fun _=>rfl),aT (f:=bf) (fun _=>rfl)],rfl,rfl,rfl,rfl,⟨Zaa,fun i=>fv m7.2.2.1 i,Sg,Zaa⟩,?_⟩
 intro g10
 refine⟨rfl,fun hG=>rfl,fun hG=>rfl,fun hG=>⟨⟨by(try simp only[nb]at hG);rw[hey];exact Sg,hey⟩,rfl⟩,⟨fun h=>by rw[h] <;> rfl,fun _=>rfl⟩,⟨fun h=>by rw[h] <;> rfl,fun _=>rfl⟩,?_⟩
 refine⟨?_,rfl⟩
 unfold Q
 rw[her,hes]
 rfl
section
open Go Go.ChangeShapes Go.WideShapes Go.ChangeAt Go.RowKit
theorem own:ownKnob Tryz.prog.godebug=none:=Zac
theorem laidOut:laidOutB Tryz.prog=true:=Zac
theorem ft:Tryz.prog.globalNamed "loop.example/pedlar/impl.errNoCall" =some 0:=Zac
theorem gH:(Tryz.prog.globals[0]?).map (·.type)=some 111:=Zac
theorem jY: "*" ++ "errors.errorString" = "*errors.errorString" :=Zad
theorem rD(u:TypeId) (h:Tryz.prog.typeName? 3 u=some "*errors.errorString"):u=251:=
 typeName_ptr_named (nm:= "errors.errorString") (by rw[jY];kernel_rfl) Zac Zad u (by rw[jY];exact h)
theorem oB:Tryz.prog.cellsOf 274=1:=Zac
theorem oo:Tryz.prog.cellsOf 9=1:=Zac
set_option maxRecDepth 100000 in
theorem fnGoEnd_lifted(os:Os)(started:os.Started)(H:Type)(enc:TypeId×Value->H):
 ReturnsInHanded {} Tryz.checked os 6 .any (fun w args=>(Rows.fnGoEndSpec.pre enc Tryz.prog Tryz.f6 [] false w args/\laidMetH Tryz.prog Rows.fnGoEndRow.laid w)/\sizedMet enc Tryz.prog Tryz.f6 (OpenSpec.ofChange Rows.fnGoEndSpec) false w args)
  (Rows.fnGoEndSpec.post enc Tryz.prog Tryz.f6 false true false false):=by
 refine returnsInHanded_of_change_and (C:=Tryz.checked) (X:=fun w _=>laidMetH Tryz.prog Rows.fnGoEndRow.laid w) (fun _ _ _ hh h=>h.of_heap hh) own started Zac Tryz.func6
  (ChangeSpec.witness_shaped (enc:=enc) (C:=Tryz.checked) (os:=os) (X:=fun w _=>laidMetH Tryz.prog Rows.fnGoEndRow.laid w) false (World.laidAll Tryz.prog os Rows.fnGoEndRow.laid) #[.slice none 0 0] 8 (World.laidAll_os _ _ _)
   (World.shaped_of_ZipB Zac Zac) Zac Zac Zac
   (by rw[MakeChecks.laidMetH_plain _ _ _ Zac];exact laidMet_laidAll _ Zac Zac)) ?_
 intro W base args ds gs before I6 hW _ _ T5 _
 have hL:laidMet Tryz.prog Rows.fnGoEndRow.laid W:=by rw[<- MakeChecks.laidMetH_plain _ _ _ Zac];exact T5
 have G9:∀ (j:Nat) t v,Tryz.f6.params[j]? =some t->args[j]? =some v->Value.okWide Tryz.prog W .any base t v:=I6
 have T0:=hW
 obtain⟨p,q,RP,T3,rfl,Yp,hnd⟩:=hW
 have hV:DataW.TrodVars enc Tryz.prog W (fun _=>true) ["loop.example/pedlar/impl.errNoCall"] gs q:=T3
 have hA:DataW.TrodAll enc Tryz.prog W 0 (fun _=>true) true Tryz.f6.params.toList args.toList ds p:=RP
 rw[Tryz.params6]at hA G9
 obtain⟨v0,d0,rfl,rfl,h0⟩:=trodAll_one hA
 obtain⟨ea,s0,Qm,_,_,_⟩:=laid_sentinel hL.tail ft gH (ms:=_) (tp:=251) (te:=274) (ts:=9) Tryz.underlying111 rD Tryz.underlying251 Tryz.underlying274 rfl rfl Tryz.underlying9 oB oo
 obtain⟨bt,hbk⟩:=mg hL.tail ft Qm
 obtain⟨rfl,rfl⟩:=hV.unique (vars_read1 enc ft gH Tryz.underlying111 Qm trivial _)
 obtain⟨a0,TF,Ub,rfl⟩:=okWide_slice Tryz.underlying22 (G9 0 22 v0 rfl rfl)
 have TE:∀ x∈p,x.block<W.heap.size:=by obtain⟨m,hm⟩:=h0;exact DataW.trod_lt m _ _ _ hm
 obtain⟨b,rfl,hb,hv⟩:=nk Tryz.underlying22 Tryz.underlying5 Zac h0
 clear RP I6
 refine(oh DX hb hv hbk).mono fun e W' ⟨he,Qa⟩=>?_
 subst he
 have Ql:W'.var? Tryz.prog "loop.example/pedlar/impl.errNoCall" =some #[.iface 251 (.pointer (some ea))]:=by
  rw[<- Qm];unfold World.var?;rw[ft,Option.bind_some,Option.bind_some,Qa.block 0 (Zbf.1 hbk).1]
 exact⟨_,rfl,_,_,_,[],p,[.cell 0 0],T0,trodAll_mk1 (shut_bool Tryz.underlying4 _),trodAll_mk1 (Below.trod laidOut Zac (of_decide_eq_true Zac) h0 Qa TE),vars_read1 enc ft gH Tryz.underlying111 Ql trivial _,Qa.frame _,fun h=>by cases h⟩
theorem fnGoEnd_row:Rows.FnGoEndSaid:=
 OpenClaim.holds_of_wide 6 Tryz.f6 rfl rfl rfl rfl rfl rfl rfl ⟨rfl,rfl,rfl,rfl,rfl⟩ rfl rfl rfl rfl rfl Zac Tryz.func6 Zac
  (of_decide_eq_true Zac) (by unfold Func.isWrapper;first | (rw[if_pos (by decide +kernel)];kernel_rfl) | (rw[if_neg (by decide +kernel)];exact⟨rfl,rfl⟩))
  (fun os started H enc _=>fnGoEnd_lifted os started H enc)
theorem fnGoEnd_holds:Rows.FnGoEndCardSaid:=
 Claim7.holds_tied_plain_at .later [] [.data,.sentinel,.pinned] true (true, "bd0267698ac3c5cbc345b75f52a24bc9d52cde5e4d65ec983ffe5f04b7f2c726") true fnGoEnd_row (fun _ h=>by cases h) Zac (fun _ h=>by cases h) fnGoEnd_row_tie rfl ⟨rfl,rfl⟩ Zac rfl
  (fun f fn hf Oi=>by
   obtain rfl:f=6:=Option.some.inj ((show Tryz.prog.funcNamed "loop.example/pedlar/laws.FnGoEnd" =some 6 by kernel_rfl).symm.trans hf) |>.symm
   obtain rfl:fn=Tryz.f6:=(Option.some.inj (Tryz.func6.symm.trans Oi)).symm
   exact⟨Zac,fun j t ht=>by
    rw[Tryz.params6]at ht
    have hm:t∈[22]:=by simpa using Array.mem_of_getElem? ht
    have G8:([22].all fun u=>!Tryz.prog.wantsStandIn u)=true:=Zac
    exact(show Tryz.prog.wantsStandIn t=false by simpa using Za0.1 G8 t hm)⟩)
  Zac
end
end Go.Proofs.YtelggdgnblpjdaaGreatDoor