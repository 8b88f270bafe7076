/-
  laws.FnGoLess returns true for every input and leaves it as it was; conditions: the listed tables lie as the program's text lays them.
-/
import Derived.Test.YtbjbamjffkanbaaGreatDoorGE
import Derived.Laws.StructEq
import Derived.Test.YtbjbamjffkanbaaGreatDoorTie
import Derived.Test.YtbjbamjffkanbaaGreatDoorCards
set_option linter.unusedVariables false
set_option linter.unusedSimpArgs false
namespace Go.Proofs.YtbjbamjffkanbaaGreatDoor
open Go Go.RowKit
set_option maxRecDepth 20000
section
theorem oO{r:BL}(h:([47]++r).length<=60):aD [⟨false,[47]⟩] ([47]++r)=false:=by
 have h0:ah 42 (bH [47])=[[47]]:=Z6
 have h1:cD [47] ([47]++r)=true:=by
  unfold cD
  rw[show aN [47]=true from Z6,decide_eq_true h]
  unfold tt
  rw[h0]
  simp[lI,show fe [47]=false from Z6]
 have h2:cD [47] (47::r)=true:=h1
 simp[aD,dO,h2]
theorem ni{s:BL}(h:az s=true):aD [⟨false,[47]⟩] (pathOf s)=false:=by
 have ha:=(eV (gU (fo h))).2.2.2.2.2
 unfold pathOf
 have e:bj (oA (aw s))=[47]++(ck (oA (aw s)).b9++(if (oA (aw s)).asks=true then [63]++(oA (aw s)).ask else [])):=by
  unfold bj;rw[List.append_assoc]
 rw[e]
 refine oO ?_
 rw[<- e]
 unfold cJ at ha
 simp only[YT,YV,YY]at ha ⊢
 omega
def BI(w:List Pg)(t:j8):Prop:= ∀ y,y∈t.hs->y.kn=true->(af w (ag y.na) 2).1=3->y.td=[]/\y.gr.ru=[⟨false,[47]⟩]/\(cls t.lk y.na).length<=3
variable {w:List Pg} {n:BL}
theorem BI.call{t:j8} {i:Nat} {y':j9} {l:l7} {a7:Int} (hG:GI w n t) (h:BI w t) (hi:i<t.hs.length) (hl:ab l.ad=(t.hs.getD i e9).na)
 (hy:y'.kn=true->(af w (ag y'.na) 2).1=3->y'.td=[]/\y'.gr.ru=[⟨false,[47]⟩]/\(cls (t.lk++[l]) y'.na).length<=3):BI w ⟨t.na,a7,t.hs.set i y',t.se,t.lk++[l]⟩:=fun z hz hk h3=>by
 rcases iU hG.nd hi hz with e | ⟨e,e2⟩
 subst e;exact hy hk h3
 obtain⟨a1,a2,a3⟩:=h z e hk h3
 refine⟨a1,a2,?_⟩
 show (cls (t.lk++[l]) z.na).length<=3
 rw[dy,if_neg (by rw[hl];exact fun c=>e2 c.symm),List.append_nil]
 exact a3
theorem BI.cS{t:j8}{s:BL}(h:BI w t):BI w (ak t s):=by
 by_cases hr:dq t.se s
 case neg=>
  have e3:ct t.se s=t.se:=if_neg hr
  have e4:aQ t.na t.hs t.se s=t.hs:=if_neg hr
  have:ak t s=t:=by unfold ak;rw[e3,e4]
  rw[this];exact h
 have e4:(ak t s).hs=(ax t.hs (ab s) t.na).set (r7 t.hs (ab s)) (ba ((ax t.hs (ab s) t.na).getD (r7 t.hs (ab s)) e9) s):=if_pos hr
 have hin:∀ y,y∈ax t.hs (ab s) t.na->y.kn=true->(af w (ag y.na) 2).1=3->y.td=[]/\y.gr.ru=[⟨false,[47]⟩]/\(cls t.lk y.na).length<=3:=fun y hy hk h3=>by
  unfold ax at hy
  split at hy
  exact h y hy hk h3
  rcases Y1.1 hy with hy | hy
  exact h y hy hk h3
  rw[YZ.1 hy]at hk;simp[bM]at hk
 intro z hz hk h3
 rw[e4]at hz
 show z.td=[]/\z.gr.ru=_/\(cls t.lk z.na).length<=3
 rcases bQ hz with e | e
 have A4:=hin _ (ay (d:=e9) (cK t.hs (ab s) t.na))
 generalize (ax t.hs (ab s) t.na).getD (r7 t.hs (ab s)) e9=y at *
 subst e
 unfold ba at hk h3 ⊢
 split at hk
 rename_i c;rw[if_pos c]at h3 ⊢;exact A4 hk h3
 rename_i c
 exfalso
 rw[if_neg c]at h3
 have G7:y.kn=true:=hk
 have:=A4 G7 h3
 exact c ⟨G7,by rw[this.2.1];exact ni hr.1⟩
 exact hin z e hk h3
theorem BI.bT{l:List BL}:∀ {t:j8},BI w t->BI w (l.foldl ak t):=by
 induction l with
 | nil=>exact fun h=>h
 | cons a l ih=>exact fun h=>ih h.cS
end
section
def bm(gs:List k9):Nat:=(gs.map fun y=>y.ru.length).sum
def ey(gs:List k9):Prop:= ∀ y,y∈gs->∀ r,r∈y.ru->aN r.path=true
theorem fF(l r:List k9):bm (l++r)=bm l+bm r:=by unfold bm;rw[Zf,List.sum_append]
theorem gn(gs:List k9):gs=[]\/∃ l z,gs=l++[z]:=by
 by_cases h:gs=[]
 exact .inl h
 obtain⟨x,hx⟩:=jU h
 exact .inr ⟨x.1,x.2,hx⟩
theorem gC{gs:List k9}{f:k9->k9}{k:Nat}(hf:∀ z,(f z).ru.length<=z.ru.length+k):bm (cX gs f)<=bm gs+k:=by
 rcases gn gs with h | ⟨l,z,h⟩
 subst h;simp[cX,bm]
 subst h
 rw[dW,fF,fF]
 have:=hf z
 simp only[bm,Zi,List.map_nil,List.sum_cons,List.sum_nil]
 omega
theorem mZ{gs:List k9}{w d:BL}{b:Bool}:bm (fm gs w d b).1<=bm gs+1:=by
 unfold fm
 split
 split
 rw[fF];simp[bm]
 exact Nat.le_trans (gC (k:=0) fun z=>Zg _) Z9
 split
 simp only;omega
 split
 exact gC fun z=>by simp
 split
 exact Nat.le_trans (gC (k:=0) fun z=>Zg _) Z9
 simp only;omega
theorem iB{gs:List k9}{f:k9->k9}(h:ey gs)(hf:∀ z,(∀ r,r∈z.ru->aN r.path=true)->∀ r,r∈(f z).ru->aN r.path=true):ey (cX gs f):=by
 rcases gn gs with e | ⟨l,z,e⟩
 subst e;exact h
 subst e
 rw[dW]
 intro y hy
 rcases Y1.1 hy with hy | hy
 exact h y (List.mem_append_left _ hy)
 rw[YZ.1 hy]
 exact hf z (h z (List.mem_append_right _ (YZ.2 rfl)))
theorem pq{gs:List k9}{w d:BL}{b:Bool}(h:ey gs):ey (fm gs w d b).1:=by
 unfold fm
 split
 split
 intro y hy
 rcases Y1.1 hy with hy | hy
 exact h y hy
 rw[YZ.1 hy];intro r hr;simp at hr
 exact iB h fun z hz=>hz
 split
 exact h
 split
 rename_i c
 refine iB h fun z hz r hr=>?_
 rcases Y1.1 hr with hr | hr
 exact hz r hr
 rw[YZ.1 hr];exact c.2.1
 split
 exact iB h fun z hz=>hz
 exact h
theorem iJ:∀ (l:List BL) (x:List k9×Bool),bm (l.foldl cI x).1<=bm x.1+l.length
 | [],x=>Zg _
 | a::l,x=>by
   have h1:=iJ l (cI x a)
   have h2:bm (cI x a).1<=bm x.1+1:=mZ
   simp only[List.foldl_cons,YV]
   omega
theorem jP:∀ (l:List BL) (x:List k9×Bool),ey x.1->ey (l.foldl cI x).1
 | [],x,h=>h
 | a::l,x,h=>jP l (cI x a) (pq h)
theorem gg(t:BL):bm (cq t)<=40/\ey (cq t):=by
 constructor
 have:=iJ ((ah 10 t).take 40) ([],false)
 have h2:=List.length_take_le 40 (ah 10 t)
 simp only[bm,List.map_nil,List.sum_nil]at this
 unfold cq bm
 omega
 exact jP _ _ (fun y hy=>by simp at hy)
theorem lP(n:BL):∀ (gs:List k9) (x:(List s6×Nat)×Bool),ey gs->(∀ r,r∈x.1.1->aN r.path=true)->
 (gs.foldl (cm n) x).1.1.length<=x.1.1.length+bm gs/\∀ r,r∈(gs.foldl (cm n) x).1.1->aN r.path=true
 | [],x,_,h=>⟨by simp[bm],h⟩
 | g::gs,x,hg,h=>by
   have hs:(cm n x g).1.1.length<=x.1.1.length+g.ru.length/\∀ r,r∈(cm n x g).1.1->aN r.path=true:=by
    unfold cm
    split
    refine⟨Z8,fun r hr=>?_⟩
    rcases Y1.1 hr with hr | hr
    exact h r hr
    exact hg g Z8 r hr
    exact⟨Z9,h⟩
   obtain⟨h1,h2⟩:=lP n gs (cm n x g) (fun y hy=>hg y (List.mem_cons_of_mem _ hy)) hs.2
   refine⟨?_,h2⟩
   have e:bm (g::gs)=g.ru.length+bm gs:=by simp[bm]
   rw[e]
   have:=hs.1
   simp only[List.foldl_cons]
   omega
theorem kc{gs:List k9}(n:BL)(h1:bm gs<=40)(h2:ey gs):(fc gs n).ru.length<=40/\∀ r,r∈(fc gs n).ru->aN r.path=true:=by
 have key:∀ q,(OD gs q).1.ru.length<=40/\∀ r,r∈(OD gs q).1.ru->aN r.path=true:=fun q=>by
  obtain⟨a,b⟩:=lP q gs (([],0),false) h2 (fun r hr=>by simp at hr)
  exact⟨by unfold OD;simp only[YY]at a ⊢;omega,b⟩
 unfold fc
 split
 exact key n
 exact key [42]
theorem pb(k:Int)(t n:BL):(bD k t n).ru.length<=40/\∀ r,r∈(bD k t n).ru->aN r.path=true:=by
 unfold bD
 split
 exact kc n (gg t).1 (gg t).2
 split
 exact⟨Z8,fun r hr=>by rw[YZ.1 hr];decide⟩
 exact kc n (by simp[bm]) (fun y hy=>by simp at hy)
structure HO (n:BL) (y:j9):Prop where
 na:y.gr.na=[n]
 re:0<=y.re/\y.re<=5100
 tr:0<=y.tr/\y.tr<=2
 ru:y.gr.ru.length<=40/\∀ r,r∈y.gr.ru->aN r.path=true
 wa:y.gr.wa<=20
structure OI (t:j8):Prop where
 nm:bn t.na=true
 nw:0<=t.a7/\t.a7<=5000
 hs:∀ y,y∈t.hs->HO t.na y
 ki:∀ q,q∈t.lk->0<=q.ki/\q.ki<=3/\0<=q.ti/\q.ti<=t.a7
 lt:∀ k,k+1<t.lk.length->(t.lk.getD k l4).ti<=(t.lk.getD (k+1) l4).ti
theorem lS(w:List Pg)(a:BL)(n:Int):0<=(af w a n).1/\(af w a n).1<=3:=by
 unfold af
 split
 exact⟨Int.le_refl _,Z6⟩
 split
 exact⟨Z6,Int.le_refl _⟩
 split <;> exact⟨by simp only;omega,by simp only;omega⟩
theorem jZ{k:Int}:0<=cW k/\cW k<=8:=by
 unfold cW
 split
 omega
 split
 omega
 split <;> omega
variable {w:List Pg} {n:BL}
theorem OI.cS{t:j8}{s:BL}(h:OI t):OI (ak t s):=by
 refine⟨h.nm,h.nw,fun z hz=>?_,h.ki,h.lt⟩
 have hz:z∈aQ t.na t.hs t.se s:=hz
 have hin:∀ y,y∈ax t.hs (ab s) t.na->HO t.na y:=fun y hy=>by
  unfold ax at hy
  split at hy
  exact h.hs y hy
  rcases Y1.1 hy with hy | hy
  exact h.hs y hy
  rw[YZ.1 hy]
  exact⟨rfl,by simp[bM],by simp[bM],⟨by simp[bM],fun r hr=>by simp[bM]at hr⟩,by simp[bM]⟩
 show HO t.na z
 unfold aQ at hz
 split at hz
 rcases bQ hz with e | e
 have hy:=hin _ (ay (d:=e9) (cK t.hs (ab s) t.na))
 rw[e]
 unfold ba
 split
 exact hy
 exact⟨hy.na,hy.re,hy.tr,hy.ru,hy.wa⟩
 exact hin z e
 exact h.hs z hz
theorem OI.bT{l:List BL}:∀ {t:j8},OI t->OI (l.foldl ak t):=by
 induction l with
 | nil=>exact fun h=>h
 | cons a l ih=>exact fun h=>ih h.cS
theorem OI.call{t:j8}{i:Nat}{y':j9}{l:l7}{a7:Int}(h:OI t)(hn:t.a7<=a7/\a7<=5000)(hy:HO t.na y')(hl:l.ti=a7)(hk:0<=l.ki/\l.ki<=3):OI ⟨t.na,a7,t.hs.set i y',t.se,t.lk++[l]⟩:=by
 have hno:=h.nw
 refine⟨h.nm,by simp only;omega,fun z hz=>?_,fun q hq=>?_,fun k MT=>?_⟩
 rcases bQ hz with e | e
 rw[e];exact hy
 exact h.hs z e
 show 0<=q.ki/\q.ki<=3/\0<=q.ti/\q.ti<=a7
 rcases Y1.1 hq with hq | hq
 have:=h.ki q hq;omega
 rw[YZ.1 hq];omega
 show ((t.lk++[l]).getD k l4).ti<=((t.lk++[l]).getD (k+1) l4).ti
 have MT:k+1<(t.lk++[l]).length:=MT
 rw[YT,Zj]at MT
 have e1:∀ j,j<t.lk.length->(t.lk++[l]).getD j l4=t.lk.getD j l4:=fun j hj=>by
  rw[YQ,Zd hj,<- YQ]
 rcases Nat.lt_or_ge (k+1) t.lk.length with c | c
 rw[e1 k Z9,e1 _ c];exact h.lt k c
 have e2:(t.lk++[l]).getD (k+1) l4=l:=by
  rw[YQ,Y8 Z9,show k+1-t.lk.length=0 from Z9];rfl
 rw[e2,e1 k Z9,hl]
 have:=h.ki _ (ay (d:=l4) (show k<t.lk.length by omega))
 omega
theorem jR{y:j9}{a7 k m:Int}(h:HO n y)(hn:0<=a7/\a7<=5000):HO n (de y a7 k m):=by
 refine⟨h.na,?_,h.tr,h.ru,h.wa⟩
 have:=h.wa
 have hb:=jZ (k:=m+1)
 unfold de
 simp only
 split <;> constructor <;> omega
theorem mQ{t:j8}(hG:GI w n t)(h:OI t)(hg:G0 t=true):OI (B5 w t):=by
 have hx:=jh hg
 have hno:=h.nw
 have hw:0<=s8 t/\s8 t<=5000:=⟨Z9,hx.2.2.2⟩
 have hy:=h.hs _ (ay (d:=e9) hx.1)
 have hI:=hG.hi _ (ay (d:=e9) hx.1)
 unfold B5
 split
 unfold MJ
 simp only
 have hf:HO t.na (C3 w (t.hs.getD (m7 t) e9) (s8 t)):=jR (y:={ t.hs.getD (m7 t) e9 with td:=(t.hs.getD (m7 t) e9).td.drop 1 }) ⟨hy.na,hy.re,hy.tr,hy.ru,hy.wa⟩ hw
 have c1:∀ y',HO t.na y'->OI ⟨t.na,s8 t,t.hs.set (m7 t) y',t.se,t.lk++[⟨s8 t,((t.hs.getD (m7 t) e9).td.getD 0 l3).ad,(af w ((t.hs.getD (m7 t) e9).td.getD 0 l3).ad ((t.hs.getD (m7 t) e9).td.getD 0 l3).tr).1⟩]⟩:=
  fun y' P3=>OI.call h ⟨hx.2.2.1,hw.2⟩ P3 rfl (lS _ _ _)
 split
 exact c1 _ ⟨hf.na,hf.re,hf.tr,hf.ru,hf.wa⟩
 split
 exact(c1 _ hf).bT
 exact c1 _ hf
 rename_i hk
 have hk:(t.hs.getD (m7 t) e9).kn=false:=by simpa using hk
 have Oh:=hI.un hk
 unfold Qi
 have c1:∀ y',HO t.na y'->OI ⟨t.na,s8 t,t.hs.set (m7 t) y',t.se,t.lk++[⟨s8 t,ag (t.hs.getD (m7 t) e9).na,(af w (ag (t.hs.getD (m7 t) e9).na) (t.hs.getD (m7 t) e9).tr).1⟩]⟩:=
  fun y' P3=>OI.call h ⟨hx.2.2.1,hw.2⟩ P3 rfl (lS _ _ _)
 refine c1 _ ?_
 have h1:HO t.na (o5 w (t.hs.getD (m7 t) e9) (s8 t)):=jR hy hw
 unfold NW
 split
 rename_i c
 have c2:(t.hs.getD (m7 t) e9).tr+1<3:=c.2
 exact⟨h1.na,h1.re,⟨by show 0<=(t.hs.getD (m7 t) e9).tr+1;omega,by show (t.hs.getD (m7 t) e9).tr+1<=2;omega⟩,h1.ru,h1.wa⟩
 have s1:=pb (af w (ag (t.hs.getD (m7 t) e9).na) 2).1 (af w (ag (t.hs.getD (m7 t) e9).na) 2).2 t.na
 have s2:=jS (af w (ag (t.hs.getD (m7 t) e9).na) 2).1 (af w (ag (t.hs.getD (m7 t) e9).na) 2).2 t.na
 refine⟨rfl,?_,h1.tr,s1,s2⟩
 have h3:=h1.re
 have h4:(bK w t.na (t.hs.getD (m7 t) e9).na).wa<=20:=s2
 simp only
 omega
theorem qR:∀ (k:Nat) {t:j8},GI w n t->OI t->OI (B4 w k t)
 | 0,_,_,h=>h
 | k+1,t,hG,h=>by
   unfold B4
   split
   rename_i hg;exact qR k (lU hG hg) (mQ hG h hg)
   exact h
theorem nr{c9:List BL}{t:j8}(h:aH n c9=some t):OI t:=by
 unfold aH at h
 split at h
 rename_i c
 cases h
 exact OI.bT ⟨c.1,by simp[aU],fun y hy=>by simp[aU]at hy,fun q hq=>by simp[aU]at hq,fun k hk=>by simp[aU]at hk⟩
 cases h
theorem qg{t:j8}(hG:GI w n t)(h:OI t)(hl:t.lk.length<=400):aC t=true:=by
 have hI:∀ {a b c:Int},a<=b->b<=c->A7 b a c=true:=fun h1 h2=>decide_eq_true ⟨h1,h2⟩
 unfold aC
 simp only[YS,Y6,Zo]
 refine⟨⟨⟨⟨⟨h.nm,hI h.nw.1 h.nw.2⟩,?_⟩,?_⟩,fun y hy=>⟨?_,?_⟩⟩,hG.nd⟩
 unfold cY
 simp only[YS,Y6,Zo]
 exact⟨⟨hG.sn.2,hG.sn.1⟩,hG.se⟩
 unfold cH
 simp only[YS,Y6,Zo]
 refine⟨hl,fun k hk=>?_⟩
 have hk:=List.mem_range.1 hk
 have hq:=h.ki _ (ay (d:=l4) hk)
 refine⟨⟨⟨?_,hq.2.2.2⟩,hI hq.1 hq.2.1⟩,(hG.al k hk).rd⟩
 split
 exact hq.2.2.1
 have:=h.lt (k-1) Z9
 rw[show k-1+1=k from Z9]at this
 exact this
 have a:=h.hs y hy
 have b:=hG.hi y hy
 unfold dj
 rw[a.na]
 simp only[YS]
 refine⟨⟨⟨⟨b.hn,hI a.re.1 a.re.2⟩,hI a.tr.1 a.tr.2⟩,Z8⟩,?_⟩
 split
 simp only[YS,Zo,Y6]
 exact⟨⟨a.ru.1,a.ru.2⟩,hI Z9 (by have:=a.wa;omega)⟩
 rename_i c
 have:=b.un (by simpa using c)
 rw[Zo]
 exact⟨this.2.2.2.1,this.2.2.1⟩
 have hH:=hG.hi y hy
 unfold cU
 simp only[YS,Y6,Zo]
 refine⟨⟨?_,fun x hx=>?_⟩,hH.nd⟩
 have:=jN (u:=t.se) hH.nd fun a ha=>by
  obtain⟨x,hx,e⟩:=List.mem_map.1 ha
  rw[<- e];exact(hH.it x hx).2.2.1
 simpa using this
 obtain⟨a1,a2,a3,a4,a5,_⟩:=hH.it x hx
 exact⟨⟨⟨a1,by simpa using a2⟩,by simpa using a3⟩,decide_eq_true ⟨a4,a5⟩⟩
end
section
structure KI (w:List Pg) (t:j8):Prop where
 gr:∀ y,y∈t.hs->y.kn=true->y.gr=bK w t.na y.na/\∀ x,x∈y.td->aD y.gr.ru (pathOf x.ad)=true
 un:∀ y,y∈t.hs->y.kn=false->∀ q,q∈t.lk->ab q.ad=y.na->q.ad=ag y.na/\q.ki=3
 se:∀ s,s∈t.se->∃ y,y∈t.hs/\y.na=ab s
variable {w:List Pg} {n:BL}
theorem iE{hs:List j9}{d n:BL}{y:j9}(h:y∈hs):y∈ax hs d n:=by
 unfold ax
 split
 exact h
 exact List.mem_append_left _ h
theorem gO{l:List j9}{i:Nat}{a:j9}(hi:i<l.length)(ha:a.na=(l.getD i e9).na){d:BL}(h:∃ y,y∈l/\y.na=d):∃ y,y∈l.set i a/\y.na=d:=by
 obtain⟨y,y1,y2⟩:=h
 have:d∈(l.set i a).map (·.na):=by
  rw[jo hi ha];exact List.mem_map.2 ⟨y,y1,y2⟩
 obtain⟨z,z1,z2⟩:=List.mem_map.1 this
 exact⟨z,z1,z2⟩
theorem KI.cS{t:j8}{s:BL}(hG:GI w n t)(h:KI w t):KI w (ak t s):=by
 by_cases hr:dq t.se s
 case neg=>
  have e3:ct t.se s=t.se:=if_neg hr
  have e4:aQ t.na t.hs t.se s=t.hs:=if_neg hr
  have:ak t s=t:=by unfold ak;rw[e3,e4]
  rw[this];exact h
 have e3:(ak t s).se=t.se++[s]:=if_pos hr
 have e4:(ak t s).hs=(ax t.hs (ab s) t.na).set (r7 t.hs (ab s)) (ba ((ax t.hs (ab s) t.na).getD (r7 t.hs (ab s)) e9) s):=if_pos hr
 have hlt:=cK t.hs (ab s) t.na
 have Ny:=kY t.hs (ab s) t.na
 have Rk:∀ y,y∈ax t.hs (ab s) t.na->y.kn=true->y.gr=bK w t.na y.na/\∀ x,x∈y.td->aD y.gr.ru (pathOf x.ad)=true:=fun y hy hk=>by
  unfold ax at hy
  split at hy
  exact h.gr y hy hk
  rcases Y1.1 hy with hy | hy
  exact h.gr y hy hk
  rw[YZ.1 hy]at hk;simp[bM]at hk
 have Oh:∀ y,y∈ax t.hs (ab s) t.na->y.kn=false->∀ q,q∈t.lk->ab q.ad=y.na->q.ad=ag y.na/\q.ki=3:=fun y hy hk q hq he=>by
  unfold ax at hy
  split at hy
  exact h.un y hy hk q hq he
  rename_i hc
  rcases Y1.1 hy with hy | hy
  exact h.un y hy hk q hq he
  exfalso
  rw[YZ.1 hy]at he
  obtain⟨z,z1,z2⟩:=(hG.lh q hq).1
  have he:ab q.ad=ab s:=he
  exact hc (List.findIdx_lt_length_of_exists ⟨z,z1,by simp[z2,he]⟩)
 have A4:=ay (d:=e9) hlt
 generalize hy:(ax t.hs (ab s) t.na).getD (r7 t.hs (ab s)) e9=y at *
 refine⟨fun z hz hk=>?_,fun z hz hk q hq he=>?_,fun q hq=>?_⟩
 rw[e4]at hz
 show z.gr=bK w t.na z.na/\_
 rcases bQ hz with e | e
 subst e
 unfold ba at hk ⊢
 split at hk
 rename_i c;rw[if_pos c];exact Rk y A4 hk
 rename_i c
 rw[if_neg c]
 have G7:y.kn=true:=hk
 obtain⟨a1,a2⟩:=Rk y A4 G7
 refine⟨a1,fun x hx=>?_⟩
 rcases Y1.1 hx with hx | hx
 exact a2 x hx
 rw[YZ.1 hx]
 cases hl:aD y.gr.ru (pathOf s) with
 | true=>rfl
 | false=>exact absurd ⟨G7,hl⟩ c
 exact Rk z e hk
 rw[e4]at hz
 have hq:q∈t.lk:=hq
 rcases bQ hz with e | e
 subst e
 rw[fE]at he ⊢
 refine Oh y A4 ?_ q hq he
 unfold ba at hk
 split at hk
 exact hk
 exact hk
 exact Oh z e hk q hq he
 rw[e4]
 rw[e3]at hq
 rcases Y1.1 hq with hq | hq
 obtain⟨z,z1,z2⟩:=h.se q hq
 exact gO hlt (by rw[fE,hy]) ⟨z,iE z1,z2⟩
 rw[YZ.1 hq]
 exact⟨_,List.mem_set hlt _,by rw[fE,Ny]⟩
theorem KI.bT{l:List BL}:∀ {t:j8},GI w n t->KI w t->KI w (l.foldl ak t):=by
 induction l with
 | nil=>exact fun _ h=>h
 | cons a l ih=>exact fun hG h=>ih hG.cS (h.cS hG)
theorem KI.call{t:j8} {i:Nat} {y':j9} {l:l7} {a7:Int} (hG:GI w n t) (h:KI w t) (hi:i<t.hs.length) (hl:ab l.ad=(t.hs.getD i e9).na) (Ny:y'.na=(t.hs.getD i e9).na)
 (hg:y'.kn=true->y'.gr=bK w t.na y'.na/\∀ x,x∈y'.td->aD y'.gr.ru (pathOf x.ad)=true)
 (hu:y'.kn=false->∀ q,q∈t.lk++[l]->ab q.ad=y'.na->q.ad=ag y'.na/\q.ki=3):KI w ⟨t.na,a7,t.hs.set i y',t.se,t.lk++[l]⟩:=by
 refine⟨fun z hz hk=>?_,fun z hz hk q hq he=>?_,fun q hq=>?_⟩
 rcases bQ hz with e | e
 subst e;exact hg hk
 exact h.gr z e hk
 rcases iU hG.nd hi hz with e | ⟨e,e2⟩
 subst e;exact hu hk q hq he
 rcases Y1.1 hq with hq | hq
 exact h.un z e hk q hq he
 rw[YZ.1 hq,hl]at he
 exact absurd he.symm e2
 exact gO hi Ny (h.se q hq)
end
section
def bb(L:List l7)(d:BL):Bool:=L.any fun q=>(ab q.ad==d)&&!((q.ad==ag d)&&decide (q.ki=3))
def eF(L:List l7)(l:l7):Bool:=(l.ad==ag (ab l.ad))&&!(bb L (ab l.ad))&&decide ((cls L (ab l.ad)).length<3)
def MZ(L:List l7)(l:l7):Prop:=l.ki≠3/\eF L l=false
instance (L:List l7) (l:l7):Decidable (MZ L l):=by unfold MZ;infer_instance
def bA(L:List l7):Nat->List BL
 | 0=>[]
 | i+1=>if MZ (L.take i) (L.getD i l4)/\(L.getD i l4).ad ∉ bA L i then bA L i++[(L.getD i l4).ad] else bA L i
def aW(t:j8):List BL:=if aC t=true then bA t.lk t.lk.length else []
theorem pt{L:List l7}{a:BL}:∀ i,a∈bA L i↔∃ k,k<i/\(L.getD k l4).ad=a/\MZ (L.take k) (L.getD k l4)
 | 0=>by simp[bA]
 | i+1=>by
   have ih:=pt (L:=L) (a:=a) i
   have key:a∈bA L (i+1)↔a∈bA L i\/((L.getD i l4).ad=a/\MZ (L.take i) (L.getD i l4)):=by
    rw[bA]
    split
    rename_i c
    rw[Y1,YZ]
    exact⟨fun h=>h.imp id fun h=>⟨h.symm,c.1⟩,fun h=>h.imp id fun h=>h.1.symm⟩
    rename_i c
    refine⟨.inl,fun h=>?_⟩
    rcases h with h | ⟨h1,h2⟩
    exact h
    rcases Decidable.em ((L.getD i l4).ad∈bA L i) with q | q
    rw[<- h1];exact q
    exact absurd ⟨h2,q⟩ c
   rw[key,ih]
   constructor
   rintro (⟨k,k1,k2⟩ | h)
   exact⟨k,Z9,k2⟩
   exact⟨i,Z9,h⟩
   rintro⟨k,k1,k2⟩
   rcases Nat.lt_or_ge k i with c | c
   exact .inl ⟨k,c,k2⟩
   obtain rfl:k=i:=Z9
   exact .inr k2
theorem kN(L:List l7):∀ i,(bA L i).length<=i
 | 0=>Zg _
 | i+1=>by
   have:=kN L i
   rw[bA]
   split
   simp;omega
   omega
def LI(w:List Pg)(t:j8):Prop:= ∀ k,k<t.lk.length->eF (t.lk.take k) (t.lk.getD k l4)=true\/(aD (bK w t.na (ab (t.lk.getD k l4).ad)).ru (pathOf (t.lk.getD k l4).ad)=true/\(t.lk.getD k l4).ad∈t.se)
variable {w:List Pg} {n:BL}
theorem nJ{t:j8}{s x:BL}(h:x∈t.se):x∈(ak t s).se:=by
 show x∈ct t.se s
 unfold ct
 split
 exact List.mem_append_left _ h
 exact h
theorem LI.bT:∀ {l:List BL} {t:j8},LI w t->LI w (l.foldl ak t)
 | [],_,h=>h
 | s::l,t,h=>LI.bT (l:=l) (t:=ak t s) fun k hk=>(h k hk).imp id fun⟨a,b⟩=>⟨a,nJ b⟩
theorem LI.call{t:j8}{hs:List j9}{l:l7}{a7:Int}(h:LI w t)(hl:eF t.lk l=true\/(aD (bK w t.na (ab l.ad)).ru (pathOf l.ad)=true/\l.ad∈t.se)):LI w ⟨t.na,a7,hs,t.se,t.lk++[l]⟩:=fun k hk=>by
 have hk:k<(t.lk++[l]).length:=hk
 show eF ((t.lk++[l]).take k) ((t.lk++[l]).getD k l4)=true\/(aD (bK w t.na (ab ((t.lk++[l]).getD k l4).ad)).ru (pathOf ((t.lk++[l]).getD k l4).ad)=true/\((t.lk++[l]).getD k l4).ad∈t.se)
 rw[YT,Zj]at hk
 rcases Nat.lt_or_ge k t.lk.length with c | c
 have:=h k c
 rw[List.take_append_of_le_length Z9,YQ,Zd c,<- YQ]
 exact this
 obtain rfl:k=t.lk.length:=Z9
 have e:(t.lk++[l]).getD t.lk.length l4=l:=by
  rw[YQ,Y8 (Zg _)];simp
 rw[List.take_left,e]
 exact hl
theorem AQ(w:List Pg):∀ (a b:Nat) (t:j8),B4 w (a+b) t=B4 w b (B4 w a t)
 | 0,b,t=>by rw[Y0];rfl
 | a+1,b,t=>by
   rw[show a+1+b=a+b+1 from Z9]
   by_cases hg:G0 t=true
   have e1:B4 w (a+b+1) t=B4 w (a+b) (B5 w t):=by rw[B4,if_pos hg]
   have e2:B4 w (a+1) t=B4 w a (B5 w t):=by rw[B4,if_pos hg]
   rw[e1,e2];exact AQ w a b _
   have e1:B4 w (a+b+1) t=t:=by rw[B4,if_neg hg]
   have e2:B4 w (a+1) t=t:=by rw[B4,if_neg hg]
   rw[e1,e2]
   cases b with
   | zero=>rfl
   | succ b=>rw[B4,if_neg hg]
theorem JI(w:List Pg)(t:j8):∃ l,(B5 w t).lk=t.lk++[l]:=by
 unfold B5
 split
 unfold MJ
 simp only
 split
 exact⟨_,rfl⟩
 split
 exact⟨_,(mN _ _).2.2⟩
 exact⟨_,rfl⟩
 exact⟨_,rfl⟩
theorem EF(w:List Pg):∀ (k:Nat) (t:j8),∃ r,(B4 w k t).lk=t.lk++r
 | 0,t=>⟨[],by simp[B4]⟩
 | k+1,t=>by
   unfold B4
   split
   obtain⟨l,e⟩:=JI w t
   obtain⟨r,e2⟩:=EF w k (B5 w t)
   exact⟨l::r,by rw[e2,e,List.append_assoc];rfl⟩
   exact⟨[],Z8⟩
theorem Bj{L r:List l7}:∀ i,i<=L.length->bA (L++r) i=bA L i
 | 0,_=>rfl
 | i+1,hi=>by
   have e1:(L++r).getD i l4=L.getD i l4:=by
    rw[YQ,Zd Z9,<- YQ]
   have e2:(L++r).take i=L.take i:=List.take_append_of_le_length Z9
   rw[bA,bA,Bj i Z9,e1,e2]
theorem Hg{L:List l7}{i j:Nat}{a:BL}(h:i<=j)(ha:a∈bA L i):a∈bA L j:=by
 rw[pt]at ha ⊢
 obtain⟨k,k1,k2⟩:=ha
 exact⟨k,Z9,k2⟩
end
def aY(w:List Pg)(n:BL)(p:List BL)(m:Int):j8:=oT (bp w (oT (aH n p)) m)
theorem si{w:List Pg}{n:BL}{p:List BL}{m:Int}:oT (bp w (oT (aH n p)) m)=aY w n p m:=rfl
theorem fW{w:List Pg}{n:BL}{p:List BL}{m:Int}(hm:A7 m 0 400=true):((aH n p).isSome&&(bp w (oT (aH n p)) m).isSome)=((aH n p).isSome&&an w):=by
 cases h:aH n p with
 | none=>rfl
 | some t=>
   have:=iA h
   simp only[oT,Option.getD_some,Option.isSome_some,Bool.true_and]
   unfold bp
   rw[this,Bool.and_true,hm]
   cases an w
   rfl
   rfl
theorem fM{w:List Pg}{n:BL}{p:List BL}{m:Int}(hm:A7 m 0 400=true)(h:(aH n p).isSome=true/\(bp w (oT (aH n p)) m).isSome=true):∃ t,aH n p=some t/\an w=true/\aY w n p m=B4 w m.toNat t:=by
 have h2:=(fW hm).symm.trans (show ((aH n p).isSome&&(bp w (oT (aH n p)) m).isSome)=true by rw[h.1,h.2];rfl)
 unfold aY
 cases hn:aH n p with
 | none=>rw[hn]at h;cases h.1
 | some t=>
   have h3:an w=true:=by
    rw[hn]at h2;exact h2
   refine⟨t,rfl,h3,?_⟩
   show oT (bp w t m)=_
   rw[ve hm h3 (iA hn)]
   rfl
theorem ka{w:List Pg}{n:BL}{p:List BL}{m:Int}(hm:A7 m 0 400=true)(h:(aH n p).isSome=true/\(bp w (oT (aH n p)) m).isSome=true):GI w n (aY w n p m)/\an w=true:=by
 obtain⟨t,h1,h2,h3⟩:=fM hm h
 rw[h3]
 exact⟨zX _ (kA h1),h2⟩
theorem nt{w:List Pg}{n:BL}{t:j8}(h:GI w n t):(t.lk.length:Int)<=3*((t.se.length:Int)+t.hs.length):=by
 have:=h.po
 have:=vt (f:=hp) (l:=t.hs) fun y hy=>by
  have hI:=h.hi y hy
  have h1:=zQ fun x hx=>(hI.it x hx).2.2.2.2.1
  unfold hp
  split
  omega
  rename_i c
  have:=hI.un (by simpa using c)
  omega
 omega
theorem dG{w:List Pg}{n:BL}{t:j8}(h:GI w n t):t.lk.length<=360:=by
 have:=nt h
 have:=h.hl
 have:=h.sn.2
 omega
theorem mo{s:BL}(h:az s=true):s.length<=60/\m5 s:=by
 constructor
 have:=fo h
 unfold aw at this
 split at this
 rename_i c;exact c.1
 cases this
 have:=h
 unfold az at this
 rw[YS,Zp]at this
 rw[<- this.2];exact pN _
theorem lp{L:List l7}{i:Nat}(hi:i<L.length):L.take (i+1)=L.take i++[L.getD i l4]:=by
 rw[List.take_succ_eq_append_getElem hi,YQ,YX hi];rfl
theorem pa(L:List l7)(i:Nat)(d:BL):(cls (L.take i) d).length<=i:=by
 unfold cls
 rw[Y2]
 have:=List.length_filter_le (fun l:l7=>ab l.ad==d) (L.take i)
 have h2:=List.length_take_le i L
 omega
theorem vv{t:j8}{i:Nat}(h:aC t=true)(hi:i<t.lk.length):az (t.lk.getD i l4).ad=true:=by
 unfold aC cH at h
 simp only[YS,Y6,Zo]at h
 exact(h.1.1.2.2 i (List.mem_range.2 hi)).2
theorem oH{w:List Pg}(hw:an w=true)(hz:∀ i,m9 (w.getD i m4)):∀ (k:Nat) {t:j8},Nl t->Nl (B4 w k t)
 | 0,_,h=>h
 | k+1,t,h=>by
   unfold B4
   split
   rename_i hg;exact oH hw hz k (lb hw hz h hg)
   exact h
theorem yJ{w:List Pg}{n:BL}{t:j8}(hG:GI w n t)(hT:Nl t)(hn:n.length<=1000):w8 t:=by
 have h1:=hG.sn.2
 have h2:=hG.hl
 have h3:=dG hG
 refine⟨by rw[hG.na];exact hn,Z9,Z9,Z9,fun x hx=>?_,fun x hx=>?_,fun y hy=>?_⟩
 have:=mo (hG.se x hx);exact⟨Z9,this.2⟩
 obtain⟨k,hk,e⟩:=Zk.1 hx
 have:=mo (hG.al k hk).rd
 rw[YQ,YX hk]at this
 subst e
 exact⟨Nat.le_trans this.1 Z9,this.2⟩
 have hI:=hG.hi y hy
 have hS:=hT.t0.ha y hy
 have hs:=hT.t0.s
 have hgl:=hI.gl
 exact⟨hS.n,hS.r,hS.rp,Z9,by have:=hS.t;omega,fun x hx=>⟨(hS.ta x hx).1,(hS.ta x hx).2.1⟩⟩
theorem vw{w:List Pg}{n:BL}{p:List BL}{m:Int}(hm:A7 m 0 400=true)(hz:∀ i,m9 (w.getD i m4))(hn:n.length<=1000)(hl:p.length<=400)(ha:∀ x,x∈p->x.length<=1000/\m5 x)(h:(aH n p).isSome=true/\(bp w (oT (aH n p)) m).isSome=true):w8 (aY w n p m):=by
 obtain⟨hG,hW⟩:=ka hm h
 refine yJ hG ?_ hn
 obtain⟨t,P7,_,h3⟩:=fM hm h
 have hS:=rM hn hl ha
 have hh:=rB (n:=n) hl
 rw[P7]at hS hh
 rw[h3]
 exact oH hW hz _ (nu hS hh (iA P7))
section
def Qd(B:Int)(t:j8):Prop:= ∀ y,y∈t.hs->y.re<=B
theorem Qd.cS{t:j8}{s:BL}{B:Int}(hB:0<=B)(h:Qd B t):Qd B (ak t s):=by
 intro z hz
 have hz:z∈aQ t.na t.hs t.se s:=hz
 unfold aQ at hz
 split at hz
 have hin:∀ y,y∈ax t.hs (ab s) t.na->y.re<=B:=fun y hy=>by
  unfold ax at hy
  split at hy
  exact h y hy
  rcases Y1.1 hy with hy | hy
  exact h y hy
  rw[YZ.1 hy];exact hB
 rcases bQ hz with e | e
 have:=hin _ (ay (d:=e9) (cK t.hs (ab s) t.na))
 rw[e]
 unfold ba
 split <;> exact this
 exact hin z e
 exact h z hz
def TM(i:Nat)(t:j8):Prop:=t.a7<=30*i/\Qd (30*i) t
theorem TM.bT{i:Nat}:∀ {l:List BL} {t:j8},TM i t->TM i (l.foldl ak t)
 | [],_,h=>h
 | s::l,t,h=>TM.bT (l:=l) (t:=ak t s) ⟨h.1,h.2.cS Z9⟩
variable {w:List Pg} {n:BL}
theorem iQ{y:j9}{a7 k m:Int}(h:y.gr.wa<=20):(de y a7 k m).re<=a7+28:=by
 have hb:=jZ (k:=m+1)
 unfold de
 simp only
 split <;> omega
theorem qW{t:j8}{i:Nat}(hO:OI t)(h:TM i t)(hg:G0 t=true):TM (i+1) (B5 w t):=by
 have hx:=jh hg
 have he:=yh hg
 have h1:=h.2 _ (ay (d:=e9) hx.1)
 have h2:=h.1
 have hy:=(hO.hs _ (ay (d:=e9) hx.1)).wa
 have hW:s8 t<=30*i:=Z9
 have c1:∀ (y':j9) (l:l7),y'.re<=30*(i:Int)+30->TM (i+1) ⟨t.na,s8 t,t.hs.set (m7 t) y',t.se,t.lk++[l]⟩:=fun y' l P3=>by
  refine⟨by show s8 t<=_;omega,fun z hz=>?_⟩
  rcases bQ hz with e | e
  rw[e];omega
  have:=h.2 z e;omega
 unfold B5
 split
 unfold MJ
 simp only
 have hf:(C3 w (t.hs.getD (m7 t) e9) (s8 t)).re<=s8 t+28:=iQ hy
 split
 exact c1 _ _ (by show (C3 w (t.hs.getD (m7 t) e9) (s8 t)).re<=_;omega)
 split
 exact(c1 _ _ Z9).bT
 exact c1 _ _ Z9
 unfold Qi
 refine c1 _ _ ?_
 have hf:(o5 w (t.hs.getD (m7 t) e9) (s8 t)).re<=s8 t+28:=iQ hy
 show (NW w t.na (t.hs.getD (m7 t) e9) (s8 t)).re<=_
 unfold NW
 split
 show (o5 w (t.hs.getD (m7 t) e9) (s8 t)).re<=_;omega
 have s2:(bK w t.na (t.hs.getD (m7 t) e9).na).wa<=20:=jS (af w (ag (t.hs.getD (m7 t) e9).na) 2).1 (af w (ag (t.hs.getD (m7 t) e9).na) 2).2 t.na
 simp only
 omega
structure WQ (w:List Pg) (n:BL) (i:Nat) (t:j8):Prop where
 gi:GI w n t
 oi:OI t
 ti:Nl t
 tm:TM i t
theorem WQ.step{t:j8}{i:Nat}(h:WQ w n i t)(hw:an w=true)(hz:∀ i,m9 (w.getD i m4))(hg:G0 t=true):WQ w n (i+1) (B5 w t):=
 ⟨lU h.gi hg,mQ h.gi h.oi hg,lb hw hz h.ti hg,qW h.oi h.tm hg⟩
theorem WQ.ok{t:j8}{i:Nat}(h:WQ w n i t):aC t=true:=qg h.gi h.oi (by have:=dG h.gi;omega)
theorem WQ.new{p:List BL}{t:j8}(h:aH n p=some t)(hS:w8 t)(hh:t.hs.length<=900):WQ w n 0 t:=by
 have hk:=iA h
 refine⟨kA h,nr h,nu hS hh hk,?_⟩
 unfold aH at h
 split at h
 cases h
 exact TM.bT (t:=aU n) ⟨Int.le_refl _,fun y hy=>by simp[aU]at hy⟩
 cases h
end
section
def ML(L:List l7)(k:Nat):Prop:=k<L.length/\MZ (L.take k) (L.getD k l4)
def fI(w:List Pg)(c9:List BL)(L:List l7)(s:BL):Prop:=s∈c9\/∃ k,ML L k/\s∈eA w (L.getD k l4).ad
structure CI (w:List Pg) (c9 K6:List BL) (t:j8):Prop where
 gr:∀ y,y∈t.hs->y.kn=true->y.gr=bK w t.na y.na
 kn:∀ y,y∈t.hs->y.kn=true->bb t.lk y.na=true\/3<=(cls t.lk y.na).length
 kd:∀ q,q∈t.lk->q.ki≠3->(af w q.ad 2).1=q.ki
 sr:∀ s,s∈t.se->fI w c9 t.lk s
 he:t.se.length<60->(∀ s,s∈c9->az s=true->s∈t.se\/s∈K6)/\∀ k,ML t.lk k->∀ x,x∈eA w (t.lk.getD k l4).ad->az x=true->x∈t.se\/x∈K6
 di:∀ s,s∈t.se->(∃ y,y∈t.hs/\∃ x,x∈y.td/\x.ad=s)\/aD (bK w t.na (ab s)).ru (pathOf s)=false\/(∃ k,ML t.lk k/\(t.lk.getD k l4).ad=s)\/(af w s 2).1=3
 ro:∀ k,ML t.lk k->fI w c9 (t.lk.take k) (t.lk.getD k l4).ad
theorem dD{L r:List l7}{k:Nat}(h:ML L k):ML (L++r) k/\(L++r).getD k l4=L.getD k l4:=by
 have e1:(L++r).getD k l4=L.getD k l4:=by
  rw[YQ,Zd h.1,<- YQ]
 refine⟨⟨by rw[YT];have:=h.1;omega,?_⟩,e1⟩
 rw[e1,List.take_append_of_le_length (Nat.le_of_lt h.1)]
 exact h.2
theorem jY{L:List l7}{l:l7}{k:Nat}(h:ML (L++[l]) k):ML L k\/(k=L.length/\MZ L l):=by
 obtain⟨h1,h2⟩:=h
 rw[YT,Zj]at h1
 rcases Nat.lt_or_ge k L.length with c | c
 rw[List.take_append_of_le_length Z9,YQ,Zd c,<- YQ]at h2
 exact .inl ⟨c,h2⟩
 obtain rfl:k=L.length:=Z9
 have e:(L++[l]).getD L.length l4=l:=by
  rw[YQ,Y8 (Zg _)];simp
 rw[List.take_left,e]at h2
 exact .inr ⟨rfl,h2⟩
theorem fk{L:List l7}{l:l7}(h:MZ L l):ML (L++[l]) L.length/\(L++[l]).getD L.length l4=l:=by
 have e:(L++[l]).getD L.length l4=l:=by
  rw[YQ,Y8 (Zg _)];simp
 refine⟨⟨Z8,?_⟩,e⟩
 rw[List.take_left,e];exact h
theorem pr{w:List Pg}{c9:List BL}{L r:List l7}{s:BL}(h:fI w c9 L s):fI w c9 (L++r) s:=
 h.imp id fun⟨k,h1,h2⟩=>⟨k,(dD h1).1,by rw[(dD h1).2];exact h2⟩
theorem gG{t:j8}{s:BL}{z:j9}(hz:z∈(ak t s).hs)(hk:z.kn=true):∃ y,y∈t.hs/\y.na=z.na/\y.kn=true/\y.gr=z.gr:=by
 have hz:z∈aQ t.na t.hs t.se s:=hz
 unfold aQ at hz
 split at hz
 have hin:∀ y,y∈ax t.hs (ab s) t.na->y.kn=true->y∈t.hs:=fun y hy hk=>by
  unfold ax at hy
  split at hy
  exact hy
  rcases Y1.1 hy with hy | hy
  exact hy
  rw[YZ.1 hy]at hk;simp[bM]at hk
 rcases bQ hz with e | e
 have A4:=ay (d:=e9) (cK t.hs (ab s) t.na)
 generalize (ax t.hs (ab s) t.na).getD (r7 t.hs (ab s)) e9=y at *
 have q:z.kn=y.kn/\y.na=z.na/\y.gr=z.gr:=by
  subst e;unfold ba;split <;> exact⟨rfl,rfl,rfl⟩
 exact⟨y,hin y A4 (by rw[<- q.1];exact hk),q.2.1,by rw[<- q.1];exact hk,q.2.2⟩
 exact⟨z,hin z e hk,rfl,hk,rfl⟩
 exact⟨z,hz,rfl,hk,rfl⟩
theorem oJ{t:j8}{s:BL}{y:j9}{x:u7}(hy:y∈t.hs)(hx:x∈y.td):∃ z,z∈(ak t s).hs/\x∈z.td:=by
 show ∃ z,z∈aQ t.na t.hs t.se s/\x∈z.td
 unfold aQ
 split
 obtain⟨j,hj,e⟩:=Zk.1 (iE (d:=ab s) (n:=t.na) hy)
 by_cases c:r7 t.hs (ab s)=j
 refine⟨_,Zk.2 ⟨r7 t.hs (ab s),by rw[List.length_set];exact cK ..,List.getElem_set_self ..⟩,?_⟩
 have e2:(ax t.hs (ab s) t.na).getD (r7 t.hs (ab s)) e9=y:=by
  rw[c,YQ,YX hj];exact e
 rw[e2]
 unfold ba
 split
 exact hx
 exact List.mem_append_left _ hx
 exact⟨y,Zk.2 ⟨j,by rw[List.length_set];exact hj,by rw[List.getElem_set_ne c];exact e⟩,hx⟩
 exact⟨y,hy,hx⟩
theorem nC{t:j8}{s:BL}(hr:dq t.se s):(∃ z,z∈(ak t s).hs/\∃ x,x∈z.td/\x.ad=s)\/∃ y,y∈t.hs/\y.kn=true/\y.na=ab s/\aD y.gr.ru (pathOf s)=false:=by
 have e4:(ak t s).hs=(ax t.hs (ab s) t.na).set (r7 t.hs (ab s)) (ba ((ax t.hs (ab s) t.na).getD (r7 t.hs (ab s)) e9) s):=if_pos hr
 have hm:ba ((ax t.hs (ab s) t.na).getD (r7 t.hs (ab s)) e9) s∈(ak t s).hs:=by
  rw[e4]
  exact Zk.2 ⟨r7 t.hs (ab s),by rw[List.length_set];exact cK ..,List.getElem_set_self ..⟩
 have A4:=ay (d:=e9) (cK t.hs (ab s) t.na)
 have Ny:=kY t.hs (ab s) t.na
 generalize (ax t.hs (ab s) t.na).getD (r7 t.hs (ab s)) e9=y at *
 by_cases c:y.kn=true/\aD y.gr.ru (pathOf s)=false
 refine .inr ⟨y,?_,c.1,Ny,c.2⟩
 unfold ax at A4
 split at A4
 exact A4
 rcases Y1.1 A4 with h | h
 exact h
 have:=c.1
 rw[YZ.1 h]at this;simp[bM]at this
 refine .inl ⟨_,hm,⟨s,0⟩,?_,rfl⟩
 unfold ba
 rw[if_neg c]
 exact List.mem_append_right _ (YZ.2 rfl)
variable {w:List Pg} {n:BL} {c9:List BL}
theorem CI.cS{l:List BL}{s:BL}{t:j8}(h:CI w c9 (s::l) t)(hs:fI w c9 t.lk s):CI w c9 l (ak t s):=by
 by_cases hr:dq t.se s
 case neg=>
  have e3:ct t.se s=t.se:=if_neg hr
  have e4:aQ t.na t.hs t.se s=t.hs:=if_neg hr
  have:ak t s=t:=by unfold ak;rw[e3,e4]
  rw[this]
  have key:t.se.length<60->∀ x,az x=true->x∈t.se\/x∈s::l->x∈t.se\/x∈l:=fun hl x ha c=>by
   rcases c with c | c
   exact .inl c
   rcases List.mem_cons.1 c with e | c
   subst e
   exact .inl (Decidable.byContradiction fun q=>hr ⟨ha,hl,q⟩)
   exact .inr c
  exact⟨h.gr,h.kn,h.kd,h.sr,fun hl=>⟨fun x hx ha=>key hl x ha ((h.he hl).1 x hx ha),fun k hk x hx ha=>key hl x ha ((h.he hl).2 k hk x hx ha)⟩,h.di,h.ro⟩
 have e3:(ak t s).se=t.se++[s]:=if_pos hr
 have key:(t.se++[s]).length<60->t.se.length<60:=fun h=>by rw[YT,Zj]at h;omega
 have O1:∀ x,x∈t.se\/x∈s::l->x∈t.se++[s]\/x∈l:=fun x c=>by
  rcases c with c | c
  exact .inl (List.mem_append_left _ c)
  rcases List.mem_cons.1 c with e | c
  exact .inl (List.mem_append_right _ (YZ.2 e))
  exact .inr c
 refine⟨fun z hz hk=>?_,fun z hz hk=>?_,h.kd,fun x hx=>?_,fun hl=>?_,fun x hx=>?_,h.ro⟩
 obtain⟨y,y1,y2,y3,y4⟩:=gG hz hk
 rw[<- y4,<- y2];exact h.gr y y1 y3
 obtain⟨y,y1,y2,y3,y4⟩:=gG hz hk
 rw[<- y2];exact h.kn y y1 y3
 rw[e3]at hx
 rcases Y1.1 hx with hx | hx
 exact h.sr x hx
 rw[YZ.1 hx];exact hs
 rw[e3]at hl ⊢
 exact⟨fun x hx ha=>O1 x ((h.he (key hl)).1 x hx ha),fun k hk x hx ha=>O1 x ((h.he (key hl)).2 k hk x hx ha)⟩
 rw[e3]at hx
 rcases Y1.1 hx with hx | hx
 rcases h.di x hx with ⟨y,y1,q,q1,q2⟩ | c
 obtain⟨z,z1,z2⟩:=oJ (s:=s) y1 q1
 exact .inl ⟨z,z1,q,z2,q2⟩
 exact .inr c
 rw[YZ.1 hx]
 rcases nC hr with c | ⟨y,y1,y2,y3,y4⟩
 exact .inl c
 rw[h.gr y y1 y2,y3]at y4
 exact .inr (.inl y4)
theorem CI.bT:∀ {l:List BL} {t:j8},CI w c9 l t->(∀ s,s∈l->fI w c9 t.lk s)->CI w c9 [] (l.foldl ak t)
 | [],_,h,_=>h
 | s::l,t,h,hs=>CI.bT (l:=l) (t:=ak t s) (h.cS (hs s Z8)) fun x hx=>hs x (List.mem_cons_of_mem _ hx)
theorem pf{L:List l7}{l:l7}{d:BL}(h:bb L d=true):bb (L++[l]) d=true:=by
 unfold bb at *
 rw[List.any_append,h,Bool.true_or]
theorem CI.call{K6:List BL} {t:j8} {i:Nat} {y':j9} {l:l7} {a7:Int} (h:CI w c9 [] t) (hi:i<t.hs.length)
 (hg:y'.kn=true->y'.gr=bK w t.na y'.na/\(bb (t.lk++[l]) y'.na=true\/3<=(cls (t.lk++[l]) y'.na).length)) (hk:l.ki≠3->(af w l.ad 2).1=l.ki) (hp:MZ t.lk l->l.ad∈t.se/\∀ x,x∈eA w l.ad->x∈K6)
 (ht:∀ x,x∈(t.hs.getD i e9).td->(∃ x',x'∈y'.td/\x'.ad=x.ad)\/aD (bK w t.na (ab x.ad)).ru (pathOf x.ad)=false\/(MZ t.lk l/\l.ad=x.ad)\/(af w x.ad 2).1=3):
 CI w c9 K6 ⟨t.na,a7,t.hs.set i y',t.se,t.lk++[l]⟩:=by
 refine⟨fun z hz MM=>?_,fun z hz MM=>?_,fun q hq=>?_,fun s hs=>pr (h.sr s hs),fun hl=>⟨fun s hs ha=>?_,fun k hk x hx ha=>?_⟩,fun s hs=>?_,fun k hk=>?_⟩
 rcases bQ hz with e | e
 subst e;exact(hg MM).1
 exact h.gr z e MM
 rcases bQ hz with e | e
 subst e;exact(hg MM).2
 rcases h.kn z e MM with c | c
 exact .inl (pf c)
 refine .inr ?_
 show 3<=(cls (t.lk++[l]) z.na).length
 rw[dy,YT];omega
 rcases Y1.1 hq with hq | hq
 exact h.kd q hq
 rw[YZ.1 hq];exact hk
 rcases (h.he hl).1 s hs ha with c | c
 exact .inl c
 simp at c
 have hx:x∈eA w ((t.lk++[l]).getD k l4).ad:=hx
 rcases jY hk with c | ⟨c1,c2⟩
 rw[(dD c).2]at hx
 rcases (h.he hl).2 k c x hx ha with c | c
 exact .inl c
 simp at c
 rw[c1,(fk c2).2]at hx
 exact .inr ((hp c2).2 x hx)
 rcases h.di s hs with ⟨y,y1,x,x1,x2⟩ | c | ⟨k,k1,k2⟩ | c
 obtain⟨j,hj,e⟩:=Zk.1 y1
 by_cases c:i=j
 have e2:t.hs.getD i e9=y:=by
  rw[c,YQ,YX hj];exact e
 rw[e2]at ht
 subst x2
 rcases ht x x1 with ⟨x',c1,c2⟩ | c | ⟨c1,c2⟩ | c
 exact .inl ⟨y',Zk.2 ⟨i,by rw[List.length_set];exact hi,List.getElem_set_self ..⟩,x',c1,c2⟩
 exact .inr (.inl c)
 exact .inr (.inr (.inl ⟨_,(fk c1).1,by rw[(fk c1).2];exact c2⟩))
 exact .inr (.inr (.inr c))
 exact .inl ⟨y,Zk.2 ⟨j,by rw[List.length_set];exact hj,by rw[List.getElem_set_ne c];exact e⟩,x,x1,x2⟩
 exact .inr (.inl c)
 exact .inr (.inr (.inl ⟨k,(dD k1).1,by rw[(dD k1).2];exact k2⟩))
 exact .inr (.inr (.inr c))
 show fI w c9 ((t.lk++[l]).take k) ((t.lk++[l]).getD k l4).ad
 rcases jY hk with c | ⟨c1,c2⟩
 rw[(dD c).2,List.take_append_of_le_length (Nat.le_of_lt c.1)]
 exact h.ro k c
 rw[c1,(fk c2).2,List.take_left]
 exact h.sr _ (hp c2).1
end
section
variable {w:List Pg} {n:BL} {c9:List BL}
def dF(y:j9):Nat:=(if y.kn=true then 0 else 1)+y.td.length
structure NI (t:j8):Prop where
 VV:t.lk.length+(t.hs.map dF).sum=t.se.length+t.hs.length
 PW:∀ y,y∈t.hs->y.kn=false->y.td≠[]
theorem oS{l:List j9}{i:Nat}{a:j9}(hi:i<l.length):((l.set i a).map dF).sum+dF (l.getD i e9)=(l.map dF).sum+dF a:=by
 induction l generalizing i with
 | nil=>simp at hi
 | cons b l ih=>
   cases i with
   | zero=>simp;omega
   | succ i=>
     have:=ih (i:=i) (by simpa using hi)
     simp only[List.set_cons_succ,Zi,List.sum_cons,List.getD_cons_succ]at *
     omega
theorem NI.cS{t:j8}{s:BL}(h:NI t)(hk:∀ y,y∈t.hs->y.kn=false):NI (ak t s)/\∀ y,y∈(ak t s).hs->y.kn=false:=by
 have QD:∀ y,y∈(ak t s).hs->y.kn=false:=fun y hy=>by
  cases e:y.kn with
  | false=>rfl
  | true=>
    obtain⟨y0,y1,_,y3,_⟩:=gG hy e
    rw[hk y0 y1]at y3;cases y3
 refine⟨?_,QD⟩
 by_cases hr:dq t.se s
 case neg=>
  have e3:ct t.se s=t.se:=if_neg hr
  have e4:aQ t.na t.hs t.se s=t.hs:=if_neg hr
  have:ak t s=t:=by unfold ak;rw[e3,e4]
  rw[this];exact h
 have e3:(ak t s).se=t.se++[s]:=if_pos hr
 have e4:(ak t s).hs=(ax t.hs (ab s) t.na).set (r7 t.hs (ab s)) (ba ((ax t.hs (ab s) t.na).getD (r7 t.hs (ab s)) e9) s):=if_pos hr
 have hlt:=cK t.hs (ab s) t.na
 have hin:(∀ y,y∈ax t.hs (ab s) t.na->y.kn=false/\(y.td≠[]\/y=bM (ab s) t.na))/\((ax t.hs (ab s) t.na).map dF).sum+t.hs.length=(t.hs.map dF).sum+(ax t.hs (ab s) t.na).length:=by
  unfold ax
  split
  exact⟨fun y hy=>⟨hk y hy,.inl (h.PW y hy (hk y hy))⟩,rfl⟩
  refine⟨fun y hy=>?_,?_⟩
  rcases Y1.1 hy with hy | hy
  exact⟨hk y hy,.inl (h.PW y hy (hk y hy))⟩
  exact⟨by rw[YZ.1 hy];rfl,.inr (YZ.1 hy)⟩
  simp only[Zf,List.sum_append,YT,Zi,List.map_nil,List.sum_cons,List.sum_nil,Zj]
  simp[dF,bM];omega
 have A4:=(hin.1 _ (ay (d:=e9) hlt)).1
 have hp:=oS (a:=ba ((ax t.hs (ab s) t.na).getD (r7 t.hs (ab s)) e9) s) hlt
 have e5:dF (ba ((ax t.hs (ab s) t.na).getD (r7 t.hs (ab s)) e9) s)=dF ((ax t.hs (ab s) t.na).getD (r7 t.hs (ab s)) e9)+1:=by
  unfold ba
  rw[if_neg (fun c=>by rw[A4]at c;cases c.1)]
  simp[dF];omega
 refine⟨?_,fun y hy _=>?_⟩
 have:=h.VV
 have:=hin.2
 rw[e3,e4,List.length_set,YT,Zj]
 show t.lk.length+_=_
 omega
 rw[e4]at hy
 obtain⟨j,hj,e⟩:=Zk.1 hy
 rw[List.length_set]at hj
 by_cases c:r7 t.hs (ab s)=j
 subst c
 rw[List.getElem_set_self]at e
 rw[<- e]
 unfold ba
 rw[if_neg (fun c=>by rw[A4]at c;cases c.1)]
 simp
 rw[List.getElem_set_ne c]at e
 rcases (hin.1 y (by rw[<- e];exact List.getElem_mem _)).2 with q | q
 exact q
 exfalso
 unfold ax at hj e
 split at hj
 rename_i c2
 simp only[c2,if_true]at e
 have:=h.PW y (by rw[<- e];exact List.getElem_mem _) (by rw[q];rfl)
 rw[q]at this;exact this rfl
 rename_i c2
 simp only[c2,if_false]at e
 have hle:r7 t.hs (ab s)<=t.hs.length:=List.findIdx_le_length
 rw[YT,Zj]at hj
 have Qn:j<t.hs.length:=Z9
 rw[List.getElem_append_left Qn]at e
 have:=h.PW y (by rw[<- e];exact List.getElem_mem _) (by rw[q];rfl)
 rw[q]at this;exact this rfl
theorem NI.bT:∀ {l:List BL} {t:j8},NI t->(∀ y,y∈t.hs->y.kn=false)->NI (l.foldl ak t)
 | [],_,h,_=>h
 | s::l,t,h,hk=>NI.bT (l:=l) (t:=ak t s) (h.cS hk).1 (h.cS hk).2
end
section
variable {P:Program}
def WA(P:Program)(T:TypeId)(vx vy:Value)(r:Bool):Prop:=(∀ x y w,(eqGuard .neq T x y vx vy).run P w=.ok () w)/\∀ w,(binOp .neq T vx vy).run P w=.ok (.bool r) w
def seC(vx vy:Value)(r:Bool):Cu P where
 X:=Unit
 pre N o A:=match o.op,o.dst with
  | .binOp .neq T x y _,some d=>match Nat.blt d N with
    | true=>(A.ev x).val? =some vx/\(A.ev y).val? =some vy/\WA P T vx vy r
    | false=>False
  | _,_=>False
 post _ o A:=A.put o.dst (bV r)
 ok:=by
  rintro N ⟨dst,op,ty,pos,after,D2⟩ A K-hp hK
  replace hK:=hK ()
  simp only at hp hK
  split at hp
  rename_i T x y p d
  split at hp
  rename_i e1
  obtain⟨h1,h2,h3,h4⟩:=hp
  refine fO (v:=bV r) rfl (bG e1) hK fun Pb Kb a w F hs=>⟨.bool r,?_,dk rfl⟩
  simp only[execOp,qY hs h1,qY hs h2,Y4,h3,h4,YW,Y5]
  exact hp.elim
  exact hp.elim
end
theorem zP(n k:Nat)(h:0<k/\k<=400):A7 ((n % k:Nat):Int) 0 400=true:=decide_eq_true (by have:=Nat.mod_lt n h.1;omega)
theorem wu{w:List Pg}{n:BL}{p:List BL}{m:Int}(hm:A7 m 0 400=true)(h:(aH n p).isSome=true/\(bp w (oT (aH n p)) m).isSome=true):aC (aY w n p m)=true/\bn n=true:=by
 obtain⟨t,h1,_,h3⟩:=fM hm h
 have hG:=(ka hm h).1
 have hO:OI (aY w n p m):=by
  rw[h3]
  exact qR _ (kA (w:=w) h1) (nr h1)
 exact⟨qg hG hO (by have:=dG hG;omega),by rw[<- hG.na];exact hO.nm⟩
def PT(L:List l7)(d:BL):Value:=.agg #[.int .i64 (((cls L d).length:Nat):Int),.bool (bb L d)]
def A8(L:List l7):Nat->List (BL×Value)
 | 0=>[]
 | i+1=>dC (A8 L i) (ab (L.getD i l4).ad) (PT (L.take (i+1)) (ab (L.getD i l4).ad))
theorem mO(L:List l7)(l:l7)(d:BL):bb (L++[l]) d=(bb L d||((ab l.ad==d)&&!((l.ad==ag d)&&decide (l.ki=3)))):=by
 unfold bb
 rw[List.any_append]
 simp
theorem vZ{L:List l7}{d:BL}(h:cls L d=[]):bb L d=false:=by
 unfold bb
 rw[List.any_eq_false]
 intro q hq
 have: ¬ ab q.ad=d:=fun c=>by
  have:q.ti∈cls L d:=List.mem_map.2 ⟨q,List.mem_filter.2 ⟨hq,by rw[c];simp⟩,rfl⟩
  rw[h]at this;simp at this
 simp[this]
theorem rr{L:List l7}(d:BL):∀ i,i<=L.length->bW (A8 L i) d=if cls (L.take i) d=[] then none else some (PT (L.take i) d)
 | 0,_=>rfl
 | i+1,hi=>by
   rw[A8,pY,rr d i Z9,lp Z9,dy]
   by_cases c:ab (L.getD i l4).ad=d
   rw[if_pos c.symm,if_pos c,if_neg Z8,c]
   rw[if_neg (fun e=>c e.symm),if_neg c,List.append_nil]
   have e:PT (L.take i++[L.getD i l4]) d=PT (L.take i) d:=by
    unfold PT
    rw[dy,if_neg c,List.append_nil,mO]
    rw[show (ab (L.getD i l4).ad==d)=false from by simpa using c,Bool.false_and,Bool.or_false]
   rw[e]
theorem wb{L:List l7}{i:Nat}(hi:i<=L.length)(d:BL):(∃ y,bW (A8 L i) d=some y/\(.agg [iN (cls (L.take i) d).length,bV (bb (L.take i) d)]:V).val? =some y)\/(bW (A8 L i) d=none/\∃ y,(.agg [iN (cls (L.take i) d).length,bV (bb (L.take i) d)]:V).val? =some y/\∀ w,(zeroValue 129).run Tryz.prog w=.ok y w):=by
 rw[rr d i hi]
 by_cases c:cls (L.take i) d=[]
 rw[if_pos c,vZ c,c]
 exact .inr ⟨rfl,_,rfl,fun w=>by kernel_rfl⟩
 rw[if_neg c]
 exact .inl ⟨_,rfl,rfl⟩
theorem wz{L:List l7}{l:l7}(NH:ar l.ad=aw l.ad):(((l.ad==ag (oA (ar l.ad)).c5)&&(!(bb L (oA (ar l.ad)).c5)))&&r9 (((cls L (oA (ar l.ad)).c5).length:Nat):Int) 3)=eF L l:=by
 rw[NH]
 have e:r9 (((cls L (oA (aw l.ad)).c5).length:Nat):Int) 3=decide ((cls L (ab l.ad)).length<3):=by
  unfold r9
  rw[Za,Zo,Zo]
  show _↔(cls L (oA (aw l.ad)).c5).length<3
  omega
 rw[e];rfl
theorem kK{L:List l7}{i:Nat}(hi:i<L.length)(NH:ar (L.getD i l4).ad=aw (L.getD i l4).ad):dC (A8 L i) ((oA (ar ((L.getD i l4).ad))).c5) (.agg #[.int .i64 ((((cls (L.take i) (oA (ar (L.getD i l4).ad)).c5).length)+1:Nat):Int),.bool (((bb (L.take i) (oA (ar (L.getD i l4).ad)).c5)||(!(((L.getD i l4).ad)==(ag ((oA (ar ((L.getD i l4).ad))).c5)))))||(A6 ((L.getD i l4).ki) 3))])=A8 L (i+1):=by
 rw[NH]
 show dC (A8 L i) (ab (L.getD i l4).ad) (.agg #[.int .i64 (((cls (L.take i) (ab (L.getD i l4).ad)).length+1:Nat):Int),.bool ((bb (L.take i) (ab (L.getD i l4).ad)||!((L.getD i l4).ad==ag (ab (L.getD i l4).ad)))||A6 (L.getD i l4).ki 3)])=dC (A8 L i) (ab (L.getD i l4).ad) (PT (L.take (i+1)) (ab (L.getD i l4).ad))
 unfold PT
 rw[lp hi,dy,if_pos rfl,mO,YT,Zj,beq_self_eq_true,Bool.true_and]
 have e:∀ o c:Bool,((o||!c)||A6 (L.getD i l4).ki 3)=(o||!(c&&decide ((L.getD i l4).ki=3))):=fun o c=>by
  have e2:A6 (L.getD i l4).ki 3=!decide ((L.getD i l4).ki=3):=by rw[Za];simp[A6]
  rw[e2]
  cases o <;> cases c <;> simp
 rw[e]
theorem CL{L:List l7}{i:Nat}{r:List BL}(h:r=bA L i)(c: ¬ (L.getD i l4).ki=3/\eF (L.take i) (L.getD i l4)=false)(d:r.contains (L.getD i l4).ad=false):r++[(L.getD i l4).ad]=bA L (i+1):=by
 rw[bA,<- h,if_pos ⟨c,fun q=>by rw[List.contains_iff_mem.2 q]at d;cases d⟩]
theorem CX{L:List l7}{i:Nat}{r:List BL}(h:r=bA L i)(d:r.contains (L.getD i l4).ad=true):r=bA L (i+1):=by
 rw[bA,<- h,if_neg (fun q=>q.2 (List.contains_iff_mem.1 d))]
theorem Cp{L:List l7}{i:Nat}{r:List BL}(h:r=bA L i)(c:(A6 (L.getD i l4).ki 3&&!eF (L.take i) (L.getD i l4))=false):r=bA L (i+1):=by
 have e2:A6 (L.getD i l4).ki 3=!decide ((L.getD i l4).ki=3):=by rw[Za];simp[A6]
 rw[bA,<- h,if_neg (fun q=>by rw[e2,decide_eq_false q.1.1,q.1.2]at c;cases c)]
theorem yR{t:j8}(h:aC t=true):t.lk.length<=400:=by
 unfold aC cH at h
 simp only[YS,Zo]at h
 exact h.1.1.2.1
theorem qV(ls:List l7)(hl:ls.length<=400)(ha:∀ x,x∈ls->x.ad.length<=1000/\m5 x.ad)(hk:∀ i,i<ls.length->az (ls.getD i l4).ad=true):PF Tryz.prog 47 [cG ls] [] (fun r h=>r=(ao (bA ls ls.length))/\h=[]):=by
 refine av (N:=89) (rs:=[.tmp 2]) Tryz.func47
  (.q 1<|.q 1<|.cu U6 (fun g12=>.q 1<|.q 3<|.h (.H7 3 1)<|.loop (Nat×(List BL)×Nat×Nat×Nat×Nat) (fun (i,r,gm,x1,x2,x3)=>⟨[(3,.own 1 (r.map sV) x1 x2 x3),(4,.om (A8 ls i) gm),(13,cG ls),(14,iN ls.length),(15,iN i)],[]⟩) (fun (i,r,gm,x1,x2,x3)=>i<=ls.length/\r=bA ls i) (fun (i,r,gm,x1,x2,x3)=>ls.length-i) (fun (i,r,gm,x1,x2,x3)=>.q 1<|.br (.r 2 [.agg [iV ((ls.getD i l4).ti),sV ((ls.getD i l4).ad),iV ((ls.getD i l4).ki)]]<|.al zB (fun g6=>.st none<|.r 2 [.a8]<|.c (cv ((ls.getD i l4).ad)) []<|.q 3<|.al dg (fun g7=>.st none<|.q 1<|.q 2<|.br (.q 2<|.nil) (.r 3 [.a8]<|.cu (WJ 4 (A8 ls i) ((oA (ar ((ls.getD i l4).ad))).c5) (.agg [iN ((cls (ls.take i) (oA (ar (ls.getD i l4).ad)).c5).length),bV (bb (ls.take i) (oA (ar (ls.getD i l4).ad)).c5)])) (fun _=>.al HT (fun g9=>.st none<|.dx 5 [0,1,2,3,4] [(1,⟨false,[],some [6],[32],[]⟩),(3,⟨false,[],some [7],[34],[]⟩)] []<|.q 1<|.r 1 [.a8]<|.q 1<|.r 1 [.a8]<|.c (ff ((oA (ar ((ls.getD i l4).ad))).c5)) []<|.q 2<|.r 11 [.a8,.a8]<|.h (.o4 47 (bV (eF (ls.take i) (ls.getD i l4))))<|.q 1<|.r 7 [.a8]<|.sp ((A6 ((ls.getD i l4).ki) 3)&&(!(eF (ls.take i) (ls.getD i l4)))) (.h (.o4 54 (bV true))<|.q 1<|.gt<|.q 1<|.gt<|.q 1<|.gt<|.r 1 [.a8]<|.gt<|.cl (nX r ((ls.getD i l4).ad))<|.gt<|.q 2<|.br (.r 3 [.a8]<|.bs<|.ap (fun Pq OX Pt=>.h (.o4 66 (.own 1 ((r++[(ls.getD i l4).ad]).map sV) Pq OX Pt))<|.q 1<|.r 4 [.a8]<|.st none<|.r 12 [.a8,.a8]<|.st none<|.r 4 [.a8,.a8]<|.cu (RU 4 (A8 ls i) ((oA (ar ((ls.getD i l4).ad))).c5) (.agg #[.int .i64 ((((cls (ls.take i) (oA (ar (ls.getD i l4).ad)).c5).length)+1:Nat):Int),.bool (((bb (ls.take i) (oA (ar (ls.getD i l4).ad)).c5)||(!(((ls.getD i l4).ad)==(ag ((oA (ar ((ls.getD i l4).ad))).c5)))))||(A6 ((ls.getD i l4).ki) 3))])) (fun _=>.h (.o4 4 (.om (A8 ls (i+1)) gm))<|.q 2<|.nil))) (.r 4 [.a8]<|.st none<|.r 12 [.a8,.a8]<|.st none<|.r 4 [.a8,.a8]<|.cu (RU 4 (A8 ls i) ((oA (ar ((ls.getD i l4).ad))).c5) (.agg #[.int .i64 ((((cls (ls.take i) (oA (ar (ls.getD i l4).ad)).c5).length)+1:Nat):Int),.bool (((bb (ls.take i) (oA (ar (ls.getD i l4).ad)).c5)||(!(((ls.getD i l4).ad)==(ag ((oA (ar ((ls.getD i l4).ad))).c5)))))||(A6 ((ls.getD i l4).ki) 3))])) (fun _=>.h (.o4 4 (.om (A8 ls (i+1)) gm))<|.q 2<|.nil))) (.h (.o4 54 (bV false))<|.q 1<|.gf (.a8)<|.gf (.a8)<|.gf (.a8)<|.gf (bV false)<|.gf (bV false)<|.q 1<|.br (.nil) (.r 4 [.a8]<|.st none<|.r 12 [.a8,.a8]<|.st none<|.r 4 [.a8,.a8]<|.cu (RU 4 (A8 ls i) ((oA (ar ((ls.getD i l4).ad))).c5) (.agg #[.int .i64 ((((cls (ls.take i) (oA (ar (ls.getD i l4).ad)).c5).length)+1:Nat):Int),.bool (((bb (ls.take i) (oA (ar (ls.getD i l4).ad)).c5)||(!(((ls.getD i l4).ad)==(ag ((oA (ar ((ls.getD i l4).ad))).c5)))))||(A6 ((ls.getD i l4).ki) 3))])) (fun _=>.h (.o4 4 (.om (A8 ls (i+1)) gm))<|.q 2<|.nil))))))))) (.h (.fz 3)<|.h (.o4 3 (ao r))<|.q 2<|.nil))))
  (True/\∀ g12:Nat,(∃ x:Nat×(List BL)×Nat×Nat×Nat×Nat,match x with | (j6,J8,Pp,ON,OM,OK)=>(j6<=ls.length/\J8=bA ls j6)/\Q (.own 1 ([].map sV) 0 0 0) (.own 1 (J8.map sV) ON OM OK)/\Q (.om [] g12) (.om (A8 ls j6) Pp)/\E (cG ls)/\Q (iN ((ls.map aO).length)) (iN ls.length)/\Q (iN 0) (iN j6)/\True)/\∀ x:Nat×(List BL)×Nat×Nat×Nat×Nat,match x with | (i,r,gm,x1,x2,x3)=>(i<=ls.length/\r=bA ls i)->(fun v1:l7=>(fun v5:r8=>(fun v11:BL=>(fun v2:Bool=>(fun v3:r8=>(fun v9:Int=>(fun v10:Bool=>(fun v4:V=>(fun v6:V=>(fun v7:Bool=>(fun v8:Int=>(fun v12:Bool=>(fun H5:V=>(fun M':Bool=>(fun NS:Bool=>(fun N9:List V=>(fun Py:V=>(fun OR:V=>Br (r9 (i:Int) (ls.length:Int)) (Ex (i:Int) (ls.map aO) (.agg [iV (v1.ti),sV (v1.ad),iV (v1.ki)])/\True/\∀ g6:Nat,Z g6 0/\Z g6 1/\(cv (v1.ad)).sm/\(((v1.ad).length<=1000000)/\(m5 (v1.ad)))/\∀ g7:Nat,Z g7 0/\Br (!((ar (v1.ad)).isSome)) (m8 ((i:Int)+1)/\∃ x:Nat×(List BL)×Nat×Nat×Nat×Nat,match x with | (b7,w7,E',E1,E0,D')=>(b7<=ls.length/\w7=bA ls b7)/\(ls.length-b7<ls.length-i)/\Q Py (.own 1 (w7.map sV) E1 E0 D')/\Q (.om (A8 ls i) gm) (.om (A8 ls b7) E')/\E (cG ls)/\E (iN ls.length)/\Q (iN (i+1)) (iN b7)/\True) (Z g7 0/\(((gm:Nat)=gm/\(A8 ls i:List (BL×Value))=A8 ls i)/\(OR=sV (v5.c5))/\((∃ y,bW (A8 ls i) (v5.c5)=some y/\H5.val? =some y)\/(bW (A8 ls i) (v5.c5)=none/\∃ y,H5.val? =some y/\∀ w,(zeroValue 129).run Tryz.prog w=.ok y w)))/\∀ _:Unit,∀ g9:Nat,Z g9 0/\Z g6 1/\Z g7 0/\(ff (v5.c5)).sm/\(((v5.c5).length<=4000000000000000000))/\Gd (((v1.ad)==v11)==true) (Z g9 1)/\Pk ((v1.ad)==v11) (((v1.ad)==v11)==true) true/\Gd ((((v1.ad)==v11)&&v12)==true) (Z g9 0)/\Pk (((v1.ad)==v11)&&v12) ((((v1.ad)==v11)&&v12)==true) true/\Q (bV ((((v1.ad)==v11)&&v12)&&(r9 v8 3))) (bV (eF (ls.take i) v1))/\Z g6 2/\Pk v10 (v10==true) true/\((v10&&NS)=true->((bV (v10&&NS):V)=bV true)/\(true=true)/\(true=true)/\(true=true)/\Z g6 1/\(true=true)/\(((1=1/\x1=x1/\x2=x2)/\0+((r.map sV).length)<=(r.map sV).length/\V.aE (r.map sV)=false/\aJ 1 (r.map sV))/\True)/\(([.sl false (((r.map sV).drop 0).take ((r.map sV).length)),sV (v1.ad)]:List V)=[ao r,sV (v1.ad)])/\((r.length<=1000000))/\(true=true)/\Pk true true true/\Br (true&&(!(r.contains (v1.ad)))) (Z g6 1/\((1,1,x1,x2,x3,(r.map sV).length)=(1,1,x1,x2,x3,(r.map sV).length))/\(True)/\(V.aE N9=false)/\(aJ 1 N9)/\(((r.map sV).length+N9.length)*16<=140737488355328)/\∀ Pq OX Pt:Nat,((.own 1 ((r.map sV)++N9) Pq OX Pt:V)=.own 1 ((r++[v1.ad]).map sV) Pq OX Pt)/\Z g9 0/\m8 (v8+1)/\Z g9 0/\Z g9 1/\Pk (bb (ls.take i) v3.c5) true M'/\Gd v7 (Z g6 2)/\Pk ((bb (ls.take i) v3.c5)||v2) true v7/\Z g9 1/\Z g7 0/\Z g9 0/\(((gm:Nat)=gm/\(A8 ls i:List (BL×Value))=A8 ls i)/\(OR=sV (v5.c5))/\v6.val? =some (.agg #[.int .i64 v9,.bool (((bb (ls.take i) v3.c5)||v2)||v10)]))/\∀ _:Unit,(v4=.om (A8 ls (i+1)) gm)/\m8 ((i:Int)+1)/\∃ x:Nat×(List BL)×Nat×Nat×Nat×Nat,match x with | (b7,w7,E',E1,E0,D')=>(b7<=ls.length/\w7=bA ls b7)/\(ls.length-b7<ls.length-i)/\Q (.own 1 ((r++[v1.ad]).map sV) Pq OX Pt) (.own 1 (w7.map sV) E1 E0 D')/\Q (.om (A8 ls (i+1)) gm) (.om (A8 ls b7) E')/\E (cG ls)/\E (iN ls.length)/\Q (iN (i+1)) (iN b7)/\True) (Z g9 0/\m8 (v8+1)/\Z g9 0/\Z g9 1/\Pk (bb (ls.take i) v3.c5) true M'/\Gd v7 (Z g6 2)/\Pk ((bb (ls.take i) v3.c5)||v2) true v7/\Z g9 1/\Z g7 0/\Z g9 0/\(((gm:Nat)=gm/\(A8 ls i:List (BL×Value))=A8 ls i)/\(OR=sV (v5.c5))/\v6.val? =some (.agg #[.int .i64 v9,.bool (((bb (ls.take i) v3.c5)||v2)||v10)]))/\∀ _:Unit,(v4=.om (A8 ls (i+1)) gm)/\m8 ((i:Int)+1)/\∃ x:Nat×(List BL)×Nat×Nat×Nat×Nat,match x with | (b7,w7,E',E1,E0,D')=>(b7<=ls.length/\w7=bA ls b7)/\(ls.length-b7<ls.length-i)/\Q Py (.own 1 (w7.map sV) E1 E0 D')/\Q (.om (A8 ls (i+1)) gm) (.om (A8 ls b7) E')/\E (cG ls)/\E (iN ls.length)/\Q (iN (i+1)) (iN b7)/\True))/\((v10&&NS)=false->((bV (v10&&NS):V)=bV false)/\(false=false)/\(false=false)/\(false=false)/\(false=false)/\(false=false)/\Pk false false true/\Br (false&&false) (False) (Z g9 0/\m8 (v8+1)/\Z g9 0/\Z g9 1/\Pk (bb (ls.take i) v3.c5) true M'/\Gd v7 (Z g6 2)/\Pk ((bb (ls.take i) v3.c5)||v2) true v7/\Z g9 1/\Z g7 0/\Z g9 0/\(((gm:Nat)=gm/\(A8 ls i:List (BL×Value))=A8 ls i)/\(OR=sV (v5.c5))/\v6.val? =some (.agg #[.int .i64 v9,.bool (((bb (ls.take i) v3.c5)||v2)||v10)]))/\∀ _:Unit,(v4=.om (A8 ls (i+1)) gm)/\m8 ((i:Int)+1)/\∃ x:Nat×(List BL)×Nat×Nat×Nat×Nat,match x with | (b7,w7,E',E1,E0,D')=>(b7<=ls.length/\w7=bA ls b7)/\(ls.length-b7<ls.length-i)/\Q Py (.own 1 (w7.map sV) E1 E0 D')/\Q (.om (A8 ls (i+1)) gm) (.om (A8 ls b7) E')/\E (cG ls)/\E (iN ls.length)/\Q (iN (i+1)) (iN b7)/\True)))) (((.sl false (V.B8 (r.map sV)):V)=ao r)/\Q (ao r) (ao (bA ls ls.length)))) (sV (v5.c5):V)) (.own 1 (r.map sV) x1 x2 x3)) ([sV (v1.ad)]:List V)) (!(eF (ls.take i) v1))) ((bb (ls.take i) v3.c5)==false)) (.agg [iN ((cls (ls.take i) v3.c5).length),bV (bb (ls.take i) v3.c5)]:V)) (!(bb (ls.take i) v3.c5))) (((cls (ls.take i) v3.c5).length:Nat):Int)) (((bb (ls.take i) v3.c5)||v2)==false)) (.agg [iN (((cls (ls.take i) v3.c5).length)+1),bV (((bb (ls.take i) v3.c5)||v2)||v10)]:V)) (.om (dC (A8 ls i) (v5.c5) (.agg #[.int .i64 v9,.bool (((bb (ls.take i) v3.c5)||v2)||v10)])) gm:V)) (A6 (v1.ki) 3)) ((((cls (ls.take i) v3.c5).length)+1:Nat):Int)) (oA (ar v1.ad))) (!((v1.ad)==v11))) (ag (v5.c5))) (oA (ar (v1.ad)))) (ls.getD i l4)) ?_
 refine⟨trivial,?_⟩
 intro g12
 refine⟨⟨(0,[],g12,0,0,0),?_,rfl,Z4,rfl,Z4,rfl,trivial⟩,?_⟩
 exact⟨Z9,rfl⟩
 rintro⟨i,r,gm,x1,x2,x3⟩ ⟨h1,h2⟩
 have NL:r.length<=i:=by rw[h2];exact kN ..
 refine bI (fun j7=>?_) fun j7=>?_
 · refine⟨⟨Z9,aj (d:=l4) Z9⟩,trivial,?_⟩
   intro g6
   refine⟨rfl,?_⟩
   have RF:=ha (ls.getD i l4) (ay (d:=l4) Z9)
   have RI:=hk i Z9
   have NH:ar (ls.getD i l4).ad=aw (ls.getD i l4).ad:=if_pos RI
   have Ql:=(kF (ls.getD i l4).ad).1
   have hcl:=pa ls i (oA (ar (ls.getD i l4).ad)).c5
   refine⟨rfl,rfl,⟨by have:=RF.1;omega,RF.2⟩,?_⟩
   intro g7
   refine⟨rfl,?_⟩
   refine bI (fun l6=>?_) fun l6=>?_
   rw[NH,fo RI]at l6;cases l6
   · refine⟨rfl,⟨⟨rfl,rfl⟩,rfl,wb Z9 (oA (ar (ls.getD i l4).ad)).c5⟩,?_⟩
     intro _
     intro g9
     refine⟨rfl,rfl,rfl,rfl,by rw[NH];omega,fun hG=>rfl,⟨fun h=>by rw[h] <;> rfl,fun _=>rfl⟩,fun hG=>rfl,⟨fun h=>by rw[h] <;> rfl,fun _=>rfl⟩,by unfold Q;exact Zq bV (wz NH),rfl,⟨fun h=>by rw[h] <;> rfl,fun _=>rfl⟩,?_⟩
     refine⟨fun E8=>?_,fun E8=>?_⟩
     have I5:=E8
     try simp only[nb]at I5
     refine⟨Zq bV E8,rfl,rfl,rfl,rfl,rfl,⟨⟨⟨rfl,rfl,rfl⟩,Z8,cN (f:=sV) (fun _=>rfl) _,ee (f:=sV) (fun _=>rfl) _⟩,trivial⟩,by simp[Y3],Z9,rfl,⟨fun _=>rfl,fun _=>rfl⟩,?_⟩
     refine bI (fun n6=>?_) fun n6=>?_
     refine⟨rfl,rfl,trivial,rfl,by simp[aJ,V.n,V.ns],Z0,?_⟩
     intro Pq OX Pt
     refine⟨Zq (V.own 1 · Pq OX Pt) Z8,rfl,Z9,rfl,rfl,⟨fun _=>rfl,fun h=>by rw[h] <;> rfl⟩,fun hG=>rfl,⟨fun _=>rfl,fun h=>by rw[h] <;> rfl⟩,rfl,rfl,rfl,⟨⟨rfl,rfl⟩,rfl,rfl⟩,?_⟩
     intro _
     refine⟨Zq (V.om · gm) (kK Z9 NH),Z9,?_⟩
     refine⟨(i+1,r++[(ls.getD i l4).ad],gm,Pq,OX,Pt),?_,?_,rfl,rfl,rfl,rfl,rfl,trivial⟩
     exact⟨Z9,CL h2 I5 n6⟩
     exact Z1
     refine⟨rfl,Z9,rfl,rfl,⟨fun _=>rfl,fun h=>by rw[h] <;> rfl⟩,fun hG=>rfl,⟨fun _=>rfl,fun h=>by rw[h] <;> rfl⟩,rfl,rfl,rfl,⟨⟨rfl,rfl⟩,rfl,rfl⟩,?_⟩
     intro _
     refine⟨Zq (V.om · gm) (kK Z9 NH),Z9,?_⟩
     refine⟨(i+1,r,gm,x1,x2,x3),?_,?_,rfl,rfl,rfl,rfl,rfl,trivial⟩
     exact⟨Z9,CX h2 n6⟩
     exact Z1
     · have I5:=E8
       try simp only[nb]at I5
       refine⟨Zq bV E8,rfl,rfl,rfl,rfl,rfl,⟨fun h=>by rw[h] <;> rfl,fun _=>rfl⟩,?_⟩
       refine bI (fun w6=>?_) fun w6=>?_
       · all_goals (first | exact absurd w6 Z6 | simp_all)
       refine⟨rfl,Z9,rfl,rfl,⟨fun _=>rfl,fun h=>by rw[h] <;> rfl⟩,fun hG=>rfl,⟨fun _=>rfl,fun h=>by rw[h] <;> rfl⟩,rfl,rfl,rfl,⟨⟨rfl,rfl⟩,rfl,rfl⟩,?_⟩
       intro _
       refine⟨Zq (V.om · gm) (kK Z9 NH),Z9,?_⟩
       refine⟨(i+1,r,gm,x1,x2,x3),?_,?_,rfl,rfl,rfl,rfl,rfl,trivial⟩
       exact⟨Z9,Cp h2 E8⟩
       exact Z1
 refine⟨Zq (V.sl false) (aM (fun _=>rfl) _),?_⟩
 unfold Q
 rw[h2,show i=ls.length from Z9]
def nz(ls:List l7):o6 Tryz.prog:={ f:=47,args:=[cG ls],H:=[],pre:=(ls.length<=400)/\(∀ x,x∈ls->x.ad.length<=1000/\m5 x.ad)/\(∀ i,i<ls.length->az (ls.getD i l4).ad=true),res:=ao (bA ls ls.length),H':=[],ok:=fun h=>qV ls h.1 h.2.1 h.2.2 }
theorem mb(t:j8)(ht:w8 t):PF Tryz.prog 22 [bB t.na t.a7 t.hs t.se t.lk] [] (fun r h=>r=(ao (aW t))/\h=[]):=by
 refine av (N:=9) (rs:=[.tmp 2]) Tryz.func22
  (.bx (fun g1=>.q 1<|.r 1 [.a8]<|.c (dP t) []<|.q 1<|.br (.q 1<|.nil) (.r 2 [.a8]<|.c (nz t.lk) []<|.q 1<|.nil)))
  (∀ g1:Nat,Z g1 0/\(dP t).sm/\((w8 t))/\Br (!(aC t)) (Q (.sl false []) (ao (aW t))) (Z g1 4/\(nz t.lk).sm/\((t.lk.length<=400)/\(∀ x,x∈t.lk->x.ad.length<=1000/\m5 x.ad)/\(∀ i,i<t.lk.length->az (t.lk.getD i l4).ad=true))/\Q (ao (bA t.lk t.lk.length)) (ao (aW t)))) ?_
 intro g1
 refine⟨rfl,rfl,ht,?_⟩
 refine bI (fun j7=>?_) fun j7=>?_
 unfold Q
 rw[show aW t=[] from if_neg (by rw[j7];decide)]
 rfl
 refine⟨rfl,rfl,⟨yR j7,ht.la,fun i hi=>vv j7 hi⟩,?_⟩
 unfold Q
 rw[show aW t=bA t.lk t.lk.length from if_pos j7]
def fH(t:j8):o6 Tryz.prog:={ f:=22,args:=[bB t.na t.a7 t.hs t.se t.lk],H:=[],pre:=(w8 t),res:=ao (aW t),H':=[],ok:=fun h=>mb t h }
theorem mf{w:List Pg}{n:BL}{t:j8}(hG:GI w n t):(aW t).length<=360:=by
 have:=dG hG
 unfold aW
 split
 have:=kN t.lk t.lk.length;omega
 simp
theorem GY{L M:List l7}(h:L.take M.length=M):M.length<=L.length:=by
 have:=Zq List.length h
 rw[List.length_take]at this;omega
theorem Ga{w:List Pg}{n:BL}{p:List BL}{m:Nat}(hG:GI w n (aY w n p 400))(hm:m<=400)(h:(aH n p).isSome=true/\(bp w (oT (aH n p)) 400).isSome=true):((aH n p).isSome=true/\(bp w (oT (aH n p)) (m:Int)).isSome=true)/\(aY w n p 400).lk.take (aY w n p m).lk.length=(aY w n p m).lk/\∀ y,y∈aW (aY w n p m)->y∈aW (aY w n p 400):=by
 have TY:A7 (m:Int) 0 400=true:=decide_eq_true Z9
 obtain⟨t,h1,h2,h3⟩:=fM rfl h
 have hf:(aH n p).isSome=true/\(bp w (oT (aH n p)) (m:Int)).isSome=true:=by
  have e:=fW (w:=w) (n:=n) (p:=p) TY
  rw[h.1,h2]at e
  simp only[Bool.true_and]at e
  exact⟨h.1,e⟩
 obtain⟨t',Qo,_,h3'⟩:=fM TY hf
 rw[h1]at Qo
 obtain rfl:=Option.some.inj Qo
 obtain⟨r,hr⟩:=EF w (400-m) (B4 w m t)
 rw[<- AQ,show m+(400-m)=400 from Z9]at hr
 have e1:(aY w n p 400).lk=(aY w n p m).lk++r:=by
  rw[h3,h3'];exact hr
 refine⟨hf,by rw[e1,List.take_left],fun y hy=>?_⟩
 unfold aW at hy
 split at hy
 have ho:aC (aY w n p 400)=true:=(wu rfl h).1
 rw[show aW (aY w n p 400)=bA (aY w n p 400).lk (aY w n p 400).lk.length from if_pos ho,e1]
 rw[<- Bj (r:=r) _ (Zg _)]at hy
 exact Hg Z8 hy
 cases hy
theorem Lr{a b:l7}(he:a=b):WA Tryz.prog 78 (.agg #[.int .i64 a.ti,.string (Str a.ad),.int .i64 a.ki]) (.agg #[.int .i64 b.ti,.string (Str b.ad),.int .i64 b.ki]) false:=by
 subst he
 have u3:=Tryz.underlying3
 have a3:=Tryz.isAgg3
 have z3:=Tryz.sizeOf3
 have u9:=Tryz.underlying9
 have a9:=Tryz.isAgg9
 have z9:=Tryz.sizeOf9
 refine⟨fun x y w=>run_eqGuard_agg w .neq _ x y _ _ Z7,fun w=>?_⟩
 rw[run_neq_struct,show (10000:Nat)=9999+1 from rfl,run_equalIn_agg w 9999 78 _ _ Z7 Z7]
 simp only[Program.fieldsOf,Tryz.underlying78]
 go_simp
theorem BY(l m:List l7)(hl:l.length<=1000000)(he:l=m):PF Tryz.prog 26 [cG l,cG m] [] (fun r h=>r=(bV true)/\h=[]):=by
 have hlm:l.length=m.length:=by rw[he]
 refine av (N:=26) (rs:=[.tmp 4]) Tryz.func26
  (.q 1<|.q 5<|.br (.q 1<|.nil) (.q 1<|.loop (Nat) (fun (i:Nat)=>⟨[(0,cG l),(1,cG m),(5,iN i)],[]⟩) (fun (i:Nat)=>i<=l.length) (fun (i:Nat)=>l.length-i) (fun (i:Nat)=>.q 4<|.br (.dx 8 [0,1,2,3,4,5,6,7] [(3,⟨false,[],some [],[20],[]⟩),(7,⟨false,[],some [],[24],[]⟩)] []<|.q 1<|.q 1<|.r 1 [.agg [iV ((l.getD i l4).ti),sV ((l.getD i l4).ad),iV ((l.getD i l4).ki)]]<|.q 1<|.q 1<|.q 1<|.r 1 [.agg [iV ((m.getD i l4).ti),sV ((m.getD i l4).ad),iV ((m.getD i l4).ki)]]<|.q 1<|.cu (seC (.agg #[.int .i64 ((l.getD i l4).ti),.string (Str ((l.getD i l4).ad)),.int .i64 ((l.getD i l4).ki)]) (.agg #[.int .i64 ((m.getD i l4).ti),.string (Str ((m.getD i l4).ad)),.int .i64 ((m.getD i l4).ki)]) false) (fun _=>.br (.q 1<|.nil) (.q 3<|.nil))) (.q 1<|.nil))))
  (Br (A6 (((l.map aO).length:Nat):Int) (((m.map aO).length:Nat):Int)) (Q (bV false) (bV true)) ((∃ j6:Nat,(j6<=l.length)/\E (cG l)/\E (cG m)/\Q (iN 0) (iN j6)/\True)/\∀ i:Nat,(i<=l.length)->(fun v1:l7=>(fun v2:l7=>Br (r9 (i:Int) (((l.map aO).length:Nat):Int)) (Ex (i:Int) (l.map aO) (.agg [iV (v1.ti),sV (v1.ad),iV (v1.ki)])/\True/\Ex (i:Int) (m.map aO) (.agg [iV (v2.ti),sV (v2.ad),iV (v2.ki)])/\True/\(((.agg [iV (v1.ti),sV (v1.ad),iV (v1.ki)]):V).val? =some (.agg #[.int .i64 (v1.ti),.string (Str (v1.ad)),.int .i64 (v1.ki)])/\((.agg [iV (v2.ti),sV (v2.ad),iV (v2.ki)]):V).val? =some (.agg #[.int .i64 (v2.ti),.string (Str (v2.ad)),.int .i64 (v2.ki)])/\WA Tryz.prog 78 (.agg #[.int .i64 (v1.ti),.string (Str (v1.ad)),.int .i64 (v1.ki)]) (.agg #[.int .i64 (v2.ti),.string (Str (v2.ad)),.int .i64 (v2.ki)]) false)/\∀ _:Unit,Br false (Q (bV false) (bV true)) (m8 ((i:Int)+1)/\∃ b7:Nat,(b7<=l.length)/\(l.length-b7<l.length-i)/\E (cG l)/\E (cG m)/\Q (iN (i+1)) (iN b7)/\True)) (Q (bV true) (bV true))) (m.getD i l4)) (l.getD i l4))) ?_
 refine bI (fun j7=>?_) fun j7=>?_
 exact absurd (Zq Int.ofNat hlm) j7
 refine⟨⟨0,?_,rfl,rfl,rfl,trivial⟩,?_⟩
 simp
 rintro i h1
 refine bI (fun l6=>?_) fun l6=>?_
 refine⟨⟨Z9,aj (d:=l4) Z9⟩,trivial,⟨Z9,aj (d:=l4) Z9⟩,trivial,⟨rfl,rfl,Lr (by rw[he])⟩,?_⟩
 intro _
 refine bI (fun n6=>?_) fun n6=>?_
 exact absurd n6 Z6
 refine⟨Z9,?_⟩
 refine⟨i+1,?_,?_,rfl,rfl,rfl,trivial⟩
 omega
 exact Z1
 unfold Q
 rfl
def wN(l:List l7)(m:List l7):o6 Tryz.prog:={ f:=26,args:=[cG l,cG m],H:=[],pre:=(l.length<=1000000)/\(l=m),res:=bV true,H':=[],ok:=fun h=>BY l m h.1 h.2 }
theorem Am(b c:BL)(ea:Addr)(hb:b.length<=9223372036854775807)(hc:c.length<=9223372036854775807):PF Tryz.prog 8 [fJ b,fJ c] [(9000,(0,.lit (.iface 252 (.pointer (some ea)))))] (fun r h=>r=(bV true)/\h=[(9000,(0,.lit (.iface 252 (.pointer (some ea)))))]):=by
 refine av (N:=87) (rs:=[.tmp 4]) Tryz.func8
  ((fun y1:Int=>(.q 1<|.q 8<|.br (.q 1<|.nil) (.q 1<|.cx (eQ b) [] (fun (h9:List Pg×BL×List BL)=>.q 7<|.q 3<|.c (kX h9.1 h9.2.1 h9.2.2 (400:Int) ea) [(9000,9000)]<|.mv<|.mv<|.q 1<|.al eR (fun g8=>.h (.fz 32)<|.h (.o4 32 (bB ((aY h9.1 h9.2.1 h9.2.2 400).na) ((aY h9.1 h9.2.1 h9.2.2 400).a7) ((aY h9.1 h9.2.1 h9.2.2 400).hs) ((aY h9.1 h9.2.1 h9.2.2 400).se) ((aY h9.1 h9.2.1 h9.2.2 400).lk)))<|.st none<|.q 1<|.q 4<|.c (fq h9.1 h9.2.1 h9.2.2) []<|.q 5<|.br (.q 4<|.c (fq h9.1 h9.2.1 h9.2.2) []<|.q 2<|.nil) (.q 6<|.h (.o4 56 (iN (c.length % 60)))<|.c (kX h9.1 h9.2.1 h9.2.2 y1 ea) [(9000,9000)]<|.mv<|.mv<|.q 1<|.al eR (fun g10=>.h (.fz 58)<|.h (.o4 58 (bB ((aY h9.1 h9.2.1 h9.2.2 y1).na) ((aY h9.1 h9.2.1 h9.2.2 y1).a7) ((aY h9.1 h9.2.1 h9.2.2 y1).hs) ((aY h9.1 h9.2.1 h9.2.2 y1).se) ((aY h9.1 h9.2.1 h9.2.2 y1).lk)))<|.st none<|.q 1<|.r 4 [.a8]<|.dx 21 [0,1,2,3,4,5,6,7,8,9,10,11,12,13,14,15,16,17,18,19,20] [(4,⟨false,[],some [8],[67],[]⟩),(10,⟨false,[],some [8],[73],[]⟩),(14,⟨false,[],some [10],[77],[]⟩),(18,⟨false,[],some [10],[81],[]⟩),(20,⟨false,[],some [8],[83],[]⟩)] []<|.q 1<|.q 1<|.q 1<|.q 1<|.r 1 [.a8]<|.q 1<|.q 1<|.q 1<|.q 1<|.q 1<|.r 1 [.a8]<|.q 1<|.q 1<|.h (.o4 75 (.gv ((((aH h9.2.1 h9.2.2).isSome&&(bp h9.1 (oT (aH h9.2.1 h9.2.2)) y1).isSome)&&(D1 (((((aY h9.1 h9.2.1 h9.2.2 y1).lk).map aO).length:Nat):Int) (((((aY h9.1 h9.2.1 h9.2.2 400).lk).map aO).length:Nat):Int)))==true) (cG ((aY h9.1 h9.2.1 h9.2.2 400).lk.take (aY h9.1 h9.2.1 h9.2.2 y1).lk.length))))<|.q 1<|.r 1 [.a8]<|.cg (wN ((aY h9.1 h9.2.1 h9.2.2 400).lk.take (aY h9.1 h9.2.1 h9.2.2 y1).lk.length) ((aY h9.1 h9.2.1 h9.2.2 y1).lk))<|.q 1<|.q 1<|.r 1 [.a8]<|.cg (fH (aY h9.1 h9.2.1 h9.2.2 y1))<|.r 1 [.a8]<|.cg (fH (aY h9.1 h9.2.1 h9.2.2 400))<|.cg (vG (aW (aY h9.1 h9.2.1 h9.2.2 y1)) (aW (aY h9.1 h9.2.1 h9.2.2 400)))<|.q 2<|.nil))))):Sc Tryz.prog)) (((c.length % 60):Nat):Int))
  ((fun v1:Int=>(fun v2:V=>(fun v3:Bool=>(Pk v3 true (v3==false)/\Br (v3||(s9 (((c.map n0).length:Nat):Int) 1048576)) (Q (bV true) (bV true)/\Er 0 v2) ((eQ b).sm/\((b.length<=9223372036854775807))/\∀ h9:List Pg×BL×List BL,(1<=h9.1.length/\h9.1.length<=30/\(∀ y,y∈h9.1->m9 y)/\h9.2.1.length<=5/\bn h9.2.1=true/\h9.2.2.length<=4/\(∀ y,y∈h9.2.2->y.length<=30/\m5 y))->(fun v7:j8=>(fun v11:Int=>(fun v8:j8=>(fun v4:Bool=>(fun v5:Option j8=>(fun v6:Option j8=>(fun v9:Option j8=>(fun v10:Bool=>(kX h9.1 h9.2.1 h9.2.2 (400:Int) ea).sm/\Er 0 v2/\((h9.1.length<=30)/\(∀ i,m9 (h9.1.getD i m4))/\(h9.2.1.length<=1000)/\(h9.2.2.length<=400)/\(∀ x,x∈h9.2.2->x.length<=1000/\m5 x))/\∀ g8:Nat,((.agg [sV ((oT v9).na),iV ((oT v9).a7),.sl false (V.B8 (((oT v9).hs).map aB)),.sl false (V.B8 (((oT v9).se).map sV)),.sl false (V.B8 (((oT v9).lk).map aO))]:V)=.agg [sV (v8.na),iV (v8.a7),.sl false ((v8.hs).map bR),.sl false ((v8.se).map sV),.sl false ((v8.lk).map aO)])/\Z g8 0/\(fq h9.1 h9.2.1 h9.2.2).sm/\((h9.1.length<=30)/\(∀ i,m9 (h9.1.getD i m4))/\(h9.2.1.length<=1000)/\(h9.2.2.length<=400)/\(∀ x,x∈h9.2.2->x.length<=1000/\m5 x))/\Pk v10 true (v10==false)/\Br (v10||(!(v5.isSome&&v9.isSome))) ((fq h9.1 h9.2.1 h9.2.2).sm/\((h9.1.length<=30)/\(∀ i,m9 (h9.1.getD i m4))/\(h9.2.1.length<=1000)/\(h9.2.2.length<=400)/\(∀ x,x∈h9.2.2->x.length<=1000/\m5 x))/\Q (bV ((v5.isSome&&v9.isSome)==(v5.isSome&&an h9.1))) (bV true)/\Er 0 v2) (((0:Int)<=(((c.map n0).length:Nat):Int)/\(0:Int)<60)/\Q (iN (((c.map n0).length) % 60)) (iN (c.length % 60))/\(kX h9.1 h9.2.1 h9.2.2 v1 ea).sm/\Er 0 v2/\((h9.1.length<=30)/\(∀ i,m9 (h9.1.getD i m4))/\(h9.2.1.length<=1000)/\(h9.2.2.length<=400)/\(∀ x,x∈h9.2.2->x.length<=1000/\m5 x))/\∀ g10:Nat,((.agg [sV ((oT v6).na),iV ((oT v6).a7),.sl false (V.B8 (((oT v6).hs).map aB)),.sl false (V.B8 (((oT v6).se).map sV)),.sl false (V.B8 (((oT v6).lk).map aO))]:V)=.agg [sV (v7.na),iV (v7.a7),.sl false ((v7.hs).map bR),.sl false ((v7.se).map sV),.sl false ((v7.lk).map aO)])/\Z g10 0/\Z g10 4/\Gd ((v5.isSome&&v6.isSome)==true) (((v5.isSome&&v6.isSome)==true)=true)/\Gd ((v5.isSome&&v6.isSome)==true) (Z g8 4)/\Gd ((v5.isSome&&v6.isSome)==true) (((v5.isSome&&v6.isSome)==true)=true)/\Gd ((v5.isSome&&v6.isSome)==true) (((v5.isSome&&v6.isSome)==true)=true)/\Gd ((v5.isSome&&v6.isSome)==true) (((v5.isSome&&v6.isSome)==true)=true)/\Pk (v5.isSome&&v6.isSome) ((v5.isSome&&v6.isSome)==true) true/\Gd (((v5.isSome&&v6.isSome)&&v4)==true) ((((v5.isSome&&v6.isSome)&&v4)==true)=true)/\Gd (((v5.isSome&&v6.isSome)&&v4)==true) (Z g8 4)/\Gd (((v5.isSome&&v6.isSome)&&v4)==true) ((((v5.isSome&&v6.isSome)&&v4)==true)=true)/\Gd (((v5.isSome&&v6.isSome)&&v4)==true) ((((v5.isSome&&v6.isSome)&&v4)==true)=true)/\Gd (((v5.isSome&&v6.isSome)&&v4)==true) ((0:Int)<=(0:Int)/\(0:Int)<=v11/\v11<=((v8.lk).map aO).length/\∀ x∈((v8.lk).map aO),x.n=3)/\Q (.gv (((v5.isSome&&v6.isSome)&&v4)==true) (.sl false ((((v8.lk).map aO).take (((v7.lk).map aO).length)).drop ((0:Int).toNat)))) (.gv (((v5.isSome&&v6.isSome)&&v4)==true) (.sl false ((v8.lk.take v7.lk.length).map aO)))/\Gd (((v5.isSome&&v6.isSome)&&v4)==true) ((((v5.isSome&&v6.isSome)&&v4)==true)=true)/\Gd (((v5.isSome&&v6.isSome)&&v4)==true) (Z g10 4)/\Gd (((v5.isSome&&v6.isSome)&&v4)==true) ((((v5.isSome&&v6.isSome)&&v4)==true)=true)/\Gd (((v5.isSome&&v6.isSome)&&v4)==true) ((((v5.isSome&&v6.isSome)&&v4)==true)=true)/\Gd (((v5.isSome&&v6.isSome)&&v4)==true) ((((v8.lk.take v7.lk.length).length<=1000000)/\((v8.lk.take v7.lk.length)=(v7.lk)))/\(wN (v8.lk.take v7.lk.length) (v7.lk)).sm)/\Pk ((v5.isSome&&v6.isSome)&&v4) (((v5.isSome&&v6.isSome)&&v4)==true) true/\Gd ((((v5.isSome&&v6.isSome)&&v4)||false)==true) (Z g10 0)/\Gd ((((v5.isSome&&v6.isSome)&&v4)||false)==true) (((((v5.isSome&&v6.isSome)&&v4)||false)==true)=true)/\Gd ((((v5.isSome&&v6.isSome)&&v4)||false)==true) (((w8 v7))/\(fH v7).sm)/\Gd ((((v5.isSome&&v6.isSome)&&v4)||false)==true) (Z g8 0)/\Gd ((((v5.isSome&&v6.isSome)&&v4)||false)==true) (((((v5.isSome&&v6.isSome)&&v4)||false)==true)=true)/\Gd ((((v5.isSome&&v6.isSome)&&v4)||false)==true) (((w8 v8))/\(fH v8).sm)/\Gd ((((v5.isSome&&v6.isSome)&&v4)||false)==true) (((((v5.isSome&&v6.isSome)&&v4)||false)==true)=true)/\Gd ((((v5.isSome&&v6.isSome)&&v4)||false)==true) ((((aW v7).length<=1000000)/\((aW v8).length<=1000000)/\(∀ y,y∈(aW v7)->y∈(aW v8)))/\(vG (aW v7) (aW v8)).sm)/\Pk (((v5.isSome&&v6.isSome)&&v4)||false) ((((v5.isSome&&v6.isSome)&&v4)||false)==true) true/\Q (bV ((((v5.isSome&&v6.isSome)&&v4)||false)||false)) (bV true)/\Er 0 v2)) (!((v5.isSome&&v9.isSome)==(v5.isSome&&an h9.1)))) (bp h9.1 (oT v5) (400:Int))) (bp h9.1 (oT v5) v1)) (aH h9.2.1 h9.2.2)) (D1 v11 ((((v8.lk).map aO).length:Nat):Int))) (aY h9.1 h9.2.1 h9.2.2 400)) ((((v7.lk).map aO).length:Nat):Int)) (aY h9.1 h9.2.1 h9.2.2 v1)))) (s9 (((b.map n0).length:Nat):Int) 1048576)) (.lit (.iface 252 (.pointer (some ea))))) (((c.length % 60):Nat):Int)) ?_
 refine⟨⟨fun _=>rfl,fun h=>by rw[h] <;> rfl⟩,?_⟩
 refine bI (fun j7=>?_) fun j7=>?_
 refine⟨?_,rfl⟩
 unfold Q
 rfl
 refine⟨rfl,Z9,?_⟩
 intro h9 o8
 refine⟨rfl,rfl,⟨Z9,fun i=>gH o8.2.2.1 i,Z9,Z9,fun x hx=>⟨by have:=(o8.2.2.2.2.2.2 x hx).1;omega,(o8.2.2.2.2.2.2 x hx).2⟩⟩,?_⟩
 intro g8
 refine⟨by rw[iS,aM (f:=sV) (fun _=>rfl),aM (f:=aO) (fun _=>rfl),si],rfl,rfl,⟨Z9,fun i=>gH o8.2.2.1 i,Z9,Z9,fun x hx=>⟨by have:=(o8.2.2.2.2.2.2 x hx).1;omega,(o8.2.2.2.2.2.2 x hx).2⟩⟩,⟨fun _=>rfl,fun h=>by rw[h] <;> rfl⟩,?_⟩
 refine bI (fun l6=>?_) fun l6=>?_
 refine⟨rfl,⟨Z9,fun i=>gH o8.2.2.1 i,Z9,Z9,fun x hx=>⟨by have:=(o8.2.2.2.2.2.2 x hx).1;omega,(o8.2.2.2.2.2.2 x hx).2⟩⟩,?_⟩
 refine⟨?_,rfl⟩
 unfold Q
 rw[fW rfl];simp
 obtain⟨hG,hW⟩:=ka rfl l6.2
 have Yg:=hG.sn.2
 have UB:=hG.hl
 have hl4:=dG hG
 have S5:=vw rfl (fun i=>gH o8.2.2.1 i) Z9 Z9 (fun x hx=>⟨by have:=(o8.2.2.2.2.2.2 x hx).1;omega,(o8.2.2.2.2.2.2 x hx).2⟩) l6.2
 refine⟨Z2,by unfold Q;simp,rfl,rfl,⟨Z9,fun i=>gH o8.2.2.1 i,Z9,Z9,fun x hx=>⟨by have:=(o8.2.2.2.2.2.2 x hx).1;omega,(o8.2.2.2.2.2.2 x hx).2⟩⟩,?_⟩
 intro g10
 refine⟨by rw[iS,aM (f:=sV) (fun _=>rfl),aM (f:=aO) (fun _=>rfl),si],rfl,?_⟩
 have hle:=Ga hG (m:=c.length % 60) Z9 l6.2
 have XD:=vw (zP c.length 60 Z9) (fun i=>gH o8.2.2.1 i) Z9 Z9 (fun x hx=>⟨by have:=(o8.2.2.2.2.2.2 x hx).1;omega,(o8.2.2.2.2.2.2 x hx).2⟩) hle.1
 have YB:=(ka (zP c.length 60 Z9) hle.1).1
 have hl5:=dG YB
 have Wc:=GY hle.2.1
 have hl6:=mf hG
 have hl7:=mf YB
 refine⟨rfl,fun h=>h,fun hG=>rfl,fun h=>h,fun h=>h,fun h=>h,⟨fun h=>by rw[h] <;> rfl,fun _=>rfl⟩,fun h=>h,fun hG=>rfl,fun h=>h,fun h=>h,fun hG=>⟨Z2,Z2,Z2,all_map (fun _=>rfl)⟩,by unfold Q;refine Zq (V.gv _) (Zq (V.sl false) ?_);rw[List.map_take];simp,fun h=>h,fun hG=>rfl,fun h=>h,fun h=>h,fun hG=>⟨⟨by(try simp only[nb]at hG);simp only[List.length_take];omega,hle.2.1⟩,rfl⟩,⟨fun h=>by rw[h] <;> rfl,fun _=>rfl⟩,fun hG=>rfl,fun h=>h,fun hG=>⟨XD,rfl⟩,fun hG=>rfl,fun h=>h,fun hG=>⟨S5,rfl⟩,fun h=>h,fun hG=>⟨⟨by(try simp only[nb]at hG);omega,by(try simp only[nb]at hG);omega,hle.2.2⟩,rfl⟩,⟨fun h=>by rw[h] <;> rfl,fun _=>rfl⟩,?_⟩
 refine⟨?_,rfl⟩
 unfold Q
 refine Zq bV ?_
 rw[hle.1.1,hle.1.2]
 simp only[Bool.true_and,Bool.and_true,Bool.or_false]
 exact decide_eq_true Z2
section
open Go Go.ChangeShapes Go.WideShapes Go.ChangeAt Go.RowKit
theorem own:ownKnob Tryz.prog.godebug=none:=Z7
theorem laidOut:laidOutB Tryz.prog=true:=Z7
theorem iK:Tryz.prog.globalNamed "loop.example/pedlar/impl.errNoCall" =some 0:=Z7
theorem ku:(Tryz.prog.globals[0]?).map (·.type)=some 116:=Z7
theorem ou: "*" ++ "errors.errorString" = "*errors.errorString" :=Z6
theorem yw(u:TypeId) (h:Tryz.prog.typeName? 3 u=some "*errors.errorString"):u=252:=
 typeName_ptr_named (nm:= "errors.errorString") (by rw[ou];kernel_rfl) Z7 Z6 u (by rw[ou];exact h)
theorem vk:Tryz.prog.cellsOf 275=1:=Z7
theorem um:Tryz.prog.cellsOf 9=1:=Z7
set_option maxRecDepth 100000 in
theorem fnGoLess_lifted(os:Os)(started:os.Started)(H:Type)(enc:TypeId×Value->H):
 ReturnsInHanded {} Tryz.checked os 8 .any (fun w args=>(Rows.fnGoLessSpec.pre enc Tryz.prog Tryz.f8 [] false w args/\laidMetH Tryz.prog Rows.fnGoLessRow.laid w)/\sizedMet enc Tryz.prog Tryz.f8 (OpenSpec.ofChange Rows.fnGoLessSpec) false w args)
  (Rows.fnGoLessSpec.post enc Tryz.prog Tryz.f8 false true false false):=by
 refine returnsInHanded_of_change_and (C:=Tryz.checked) (X:=fun w _=>laidMetH Tryz.prog Rows.fnGoLessRow.laid w) (fun _ _ _ hh h=>h.of_heap hh) own started Z7 Tryz.func8
  (ChangeSpec.witness_shaped (enc:=enc) (C:=Tryz.checked) (os:=os) (X:=fun w _=>laidMetH Tryz.prog Rows.fnGoLessRow.laid w) false (World.laidAll Tryz.prog os Rows.fnGoLessRow.laid) #[.slice none 0 0,.slice none 0 0] 8 (World.laidAll_os _ _ _)
   (World.shaped_of_ZipB Z7 Z7) Z7 Z7 Z7
   (by rw[MakeChecks.laidMetH_plain _ _ _ Z7];exact laidMet_laidAll _ Z7 Z7)) ?_
 intro W base args ds gs before Nu hW _ _ VQ _
 have hL:laidMet Tryz.prog Rows.fnGoLessRow.laid W:=by rw[<- MakeChecks.laidMetH_plain _ _ _ Z7];exact VQ
 have H4:∀ (j:Nat) t v,Tryz.f8.params[j]? =some t->args[j]? =some v->Value.okWide Tryz.prog W .any base t v:=Nu
 have VO:=hW
 obtain⟨p,q,S7,VP,rfl,Yt,hnd⟩:=hW
 have hV:DataW.TrodVars enc Tryz.prog W (fun _=>true) ["loop.example/pedlar/impl.errNoCall"] gs q:=VP
 have hA:DataW.TrodAll enc Tryz.prog W 0 (fun _=>true) true Tryz.f8.params.toList args.toList ds p:=S7
 rw[Tryz.params8]at hA H4
 obtain⟨v0,v1,d0,d1,p0,p1,rfl,rfl,rfl,h0,h1⟩:=trodAll_two hA
 obtain⟨ea,s0,Q7,_,_,_⟩:=laid_sentinel hL.tail iK ku (ms:=_) (tp:=252) (te:=275) (ts:=9) Tryz.underlying116 yw Tryz.underlying252 Tryz.underlying275 rfl rfl Tryz.underlying9 vk um
 obtain⟨bt,hbk⟩:=qk hL.tail iK Q7
 obtain⟨rfl,rfl⟩:=hV.unique (vars_read1 enc iK ku Tryz.underlying116 Q7 trivial _)
 obtain⟨a0,U8,VW,rfl⟩:=okWide_slice Tryz.underlying22 (H4 0 22 v0 rfl rfl)
 obtain⟨a1,WK,XM,rfl⟩:=okWide_slice Tryz.underlying22 (H4 1 22 v1 rfl rfl)
 have U7:∀ x∈p0,x.block<W.heap.size:=by obtain⟨m,hm⟩:=h0;exact DataW.trod_lt m _ _ _ hm
 have WI:∀ x∈p1,x.block<W.heap.size:=by obtain⟨m,hm⟩:=h1;exact DataW.trod_lt m _ _ _ hm
 obtain⟨b,rfl,hb,hv⟩:=mS Tryz.underlying22 Tryz.underlying5 Z7 h0
 obtain⟨c,rfl,hc,hu⟩:=mS Tryz.underlying22 Tryz.underlying5 Z7 h1
 clear S7 Nu
 refine(sW Am hb hc hv hu hbk).mono fun e W' ⟨he,Qt⟩=>?_
 subst he
 have Q6:W'.var? Tryz.prog "loop.example/pedlar/impl.errNoCall" =some #[.iface 252 (.pointer (some ea))]:=by
  rw[<- Q7];unfold World.var?;rw[iK,Option.bind_some,Option.bind_some,Qt.block 0 (Zl.1 hbk).1]
 exact⟨_,rfl,_,_,_,[],p0++p1,[.cell 0 0],VO,trodAll_mk1 (shut_bool Tryz.underlying4 _),trodAll_mk2 (Below.trod laidOut Z7 (of_decide_eq_true Z7) h0 Qt U7) (Below.trod laidOut Z7 (of_decide_eq_true Z7) h1 Qt WI),vars_read1 enc iK ku Tryz.underlying116 Q6 trivial _,Qt.frame _,fun h=>by cases h⟩
theorem fnGoLess_row:Rows.FnGoLessSaid:=
 OpenClaim.holds_of_wide 8 Tryz.f8 rfl rfl rfl rfl rfl rfl rfl ⟨rfl,rfl,rfl,rfl,rfl⟩ rfl rfl rfl rfl rfl Z7 Tryz.func8 Z7
  (of_decide_eq_true Z7) (by unfold Func.isWrapper;first | (rw[if_pos (by decide +kernel)];kernel_rfl) | (rw[if_neg (by decide +kernel)];exact⟨rfl,rfl⟩))
  (fun os started H enc _=>fnGoLess_lifted os started H enc)
theorem fnGoLess_holds:Rows.FnGoLessCardSaid:=
 Claim7.holds_tied_plain_at .later [] [.data,.sentinel,.pinned] true (true, "16e118b5155b7b11bee3017827cfe482af71541868a11eb0c882522f6f12ad60") true fnGoLess_row (fun _ h=>by cases h) Z7 (fun _ h=>by cases h) fnGoLess_row_tie rfl ⟨rfl,rfl⟩ Z7 rfl
  (fun f fn hf VH=>by
   obtain rfl:f=8:=Option.some.inj ((show Tryz.prog.funcNamed "loop.example/pedlar/laws.FnGoLess" =some 8 by kernel_rfl).symm.trans hf) |>.symm
   obtain rfl:fn=Tryz.f8:=(Option.some.inj (Tryz.func8.symm.trans VH)).symm
   exact⟨Z7,fun j t ht=>by
    rw[Tryz.params8]at ht
    have hm:t∈[22,22]:=by simpa using Array.mem_of_getElem? ht
    have G4:([22,22].all fun u=>!Tryz.prog.wantsStandIn u)=true:=Z7
    exact(show Tryz.prog.wantsStandIn t=false by simpa using Y6.1 G4 t hm)⟩)
  Z7
end
end Go.Proofs.YtbjbamjffkanbaaGreatDoor