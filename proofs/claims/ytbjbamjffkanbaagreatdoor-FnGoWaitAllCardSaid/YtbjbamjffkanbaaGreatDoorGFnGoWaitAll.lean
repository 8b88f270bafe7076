/-
  laws.FnGoWaitAll returns true for every input and leaves it as it was; conditions: the listed tables lie as the program's text lays them.
-/
import Derived.Test.YtbjbamjffkanbaaGreatDoorGE
import Derived.Laws.StructEq
import Derived.Test.YtbjbamjffkanbaaGreatDoorTie
import Derived.Test.YtbjbamjffkanbaaGreatDoorCards
set_option linter.unusedVariables false
set_option linter.unusedSimpArgs false
namespace Go.Proofs.YtbjbamjffkanbaaGreatDoor
open Go Go.RowKit
set_option maxRecDepth 20000
section
theorem oO{r:BL}(h:([47]++r).length<=60):aD [⟨false,[47]⟩] ([47]++r)=false:=by
 have h0:ah 42 (bH [47])=[[47]]:=Z6
 have h1:cD [47] ([47]++r)=true:=by
  unfold cD
  rw[show aN [47]=true from Z6,decide_eq_true h]
  unfold tt
  rw[h0]
  simp[lI,show fe [47]=false from Z6]
 have h2:cD [47] (47::r)=true:=h1
 simp[aD,dO,h2]
theorem ni{s:BL}(h:az s=true):aD [⟨false,[47]⟩] (pathOf s)=false:=by
 have ha:=(eV (gU (fo h))).2.2.2.2.2
 unfold pathOf
 have e:bj (oA (aw s))=[47]++(ck (oA (aw s)).b9++(if (oA (aw s)).asks=true then [63]++(oA (aw s)).ask else [])):=by
  unfold bj;rw[List.append_assoc]
 rw[e]
 refine oO ?_
 rw[<- e]
 unfold cJ at ha
 simp only[YT,YV,YY]at ha ⊢
 omega
def BI(w:List Pg)(t:j8):Prop:= ∀ y,y∈t.hs->y.kn=true->(af w (ag y.na) 2).1=3->y.td=[]/\y.gr.ru=[⟨false,[47]⟩]/\(cls t.lk y.na).length<=3
variable {w:List Pg} {n:BL}
theorem BI.call{t:j8} {i:Nat} {y':j9} {l:l7} {a7:Int} (hG:GI w n t) (h:BI w t) (hi:i<t.hs.length) (hl:ab l.ad=(t.hs.getD i e9).na)
 (hy:y'.kn=true->(af w (ag y'.na) 2).1=3->y'.td=[]/\y'.gr.ru=[⟨false,[47]⟩]/\(cls (t.lk++[l]) y'.na).length<=3):BI w ⟨t.na,a7,t.hs.set i y',t.se,t.lk++[l]⟩:=fun z hz hk h3=>by
 rcases iU hG.nd hi hz with e | ⟨e,e2⟩
 subst e;exact hy hk h3
 obtain⟨a1,a2,a3⟩:=h z e hk h3
 refine⟨a1,a2,?_⟩
 show (cls (t.lk++[l]) z.na).length<=3
 rw[dy,if_neg (by rw[hl];exact fun c=>e2 c.symm),List.append_nil]
 exact a3
theorem BI.cS{t:j8}{s:BL}(h:BI w t):BI w (ak t s):=by
 by_cases hr:dq t.se s
 case neg=>
  have e3:ct t.se s=t.se:=if_neg hr
  have e4:aQ t.na t.hs t.se s=t.hs:=if_neg hr
  have:ak t s=t:=by unfold ak;rw[e3,e4]
  rw[this];exact h
 have e4:(ak t s).hs=(ax t.hs (ab s) t.na).set (r7 t.hs (ab s)) (ba ((ax t.hs (ab s) t.na).getD (r7 t.hs (ab s)) e9) s):=if_pos hr
 have hin:∀ y,y∈ax t.hs (ab s) t.na->y.kn=true->(af w (ag y.na) 2).1=3->y.td=[]/\y.gr.ru=[⟨false,[47]⟩]/\(cls t.lk y.na).length<=3:=fun y hy hk h3=>by
  unfold ax at hy
  split at hy
  exact h y hy hk h3
  rcases Y1.1 hy with hy | hy
  exact h y hy hk h3
  rw[YZ.1 hy]at hk;simp[bM]at hk
 intro z hz hk h3
 rw[e4]at hz
 show z.td=[]/\z.gr.ru=_/\(cls t.lk z.na).length<=3
 rcases bQ hz with e | e
 have A4:=hin _ (ay (d:=e9) (cK t.hs (ab s) t.na))
 generalize (ax t.hs (ab s) t.na).getD (r7 t.hs (ab s)) e9=y at *
 subst e
 unfold ba at hk h3 ⊢
 split at hk
 rename_i c;rw[if_pos c]at h3 ⊢;exact A4 hk h3
 rename_i c
 exfalso
 rw[if_neg c]at h3
 have G7:y.kn=true:=hk
 have:=A4 G7 h3
 exact c ⟨G7,by rw[this.2.1];exact ni hr.1⟩
 exact hin z e hk h3
theorem BI.bT{l:List BL}:∀ {t:j8},BI w t->BI w (l.foldl ak t):=by
 induction l with
 | nil=>exact fun h=>h
 | cons a l ih=>exact fun h=>ih h.cS
end
section
def bm(gs:List k9):Nat:=(gs.map fun y=>y.ru.length).sum
def ey(gs:List k9):Prop:= ∀ y,y∈gs->∀ r,r∈y.ru->aN r.path=true
theorem fF(l r:List k9):bm (l++r)=bm l+bm r:=by unfold bm;rw[Zf,List.sum_append]
theorem gn(gs:List k9):gs=[]\/∃ l z,gs=l++[z]:=by
 by_cases h:gs=[]
 exact .inl h
 obtain⟨x,hx⟩:=jU h
 exact .inr ⟨x.1,x.2,hx⟩
theorem gC{gs:List k9}{f:k9->k9}{k:Nat}(hf:∀ z,(f z).ru.length<=z.ru.length+k):bm (cX gs f)<=bm gs+k:=by
 rcases gn gs with h | ⟨l,z,h⟩
 subst h;simp[cX,bm]
 subst h
 rw[dW,fF,fF]
 have:=hf z
 simp only[bm,Zi,List.map_nil,List.sum_cons,List.sum_nil]
 omega
theorem mZ{gs:List k9}{w d:BL}{b:Bool}:bm (fm gs w d b).1<=bm gs+1:=by
 unfold fm
 split
 split
 rw[fF];simp[bm]
 exact Nat.le_trans (gC (k:=0) fun z=>Zg _) Z9
 split
 simp only;omega
 split
 exact gC fun z=>by simp
 split
 exact Nat.le_trans (gC (k:=0) fun z=>Zg _) Z9
 simp only;omega
theorem iB{gs:List k9}{f:k9->k9}(h:ey gs)(hf:∀ z,(∀ r,r∈z.ru->aN r.path=true)->∀ r,r∈(f z).ru->aN r.path=true):ey (cX gs f):=by
 rcases gn gs with e | ⟨l,z,e⟩
 subst e;exact h
 subst e
 rw[dW]
 intro y hy
 rcases Y1.1 hy with hy | hy
 exact h y (List.mem_append_left _ hy)
 rw[YZ.1 hy]
 exact hf z (h z (List.mem_append_right _ (YZ.2 rfl)))
theorem pq{gs:List k9}{w d:BL}{b:Bool}(h:ey gs):ey (fm gs w d b).1:=by
 unfold fm
 split
 split
 intro y hy
 rcases Y1.1 hy with hy | hy
 exact h y hy
 rw[YZ.1 hy];intro r hr;simp at hr
 exact iB h fun z hz=>hz
 split
 exact h
 split
 rename_i c
 refine iB h fun z hz r hr=>?_
 rcases Y1.1 hr with hr | hr
 exact hz r hr
 rw[YZ.1 hr];exact c.2.1
 split
 exact iB h fun z hz=>hz
 exact h
theorem iJ:∀ (l:List BL) (x:List k9×Bool),bm (l.foldl cI x).1<=bm x.1+l.length
 | [],x=>Zg _
 | a::l,x=>by
   have h1:=iJ l (cI x a)
   have h2:bm (cI x a).1<=bm x.1+1:=mZ
   simp only[List.foldl_cons,YV]
   omega
theorem jP:∀ (l:List BL) (x:List k9×Bool),ey x.1->ey (l.foldl cI x).1
 | [],x,h=>h
 | a::l,x,h=>jP l (cI x a) (pq h)
theorem gg(t:BL):bm (cq t)<=40/\ey (cq t):=by
 constructor
 have:=iJ ((ah 10 t).take 40) ([],false)
 have h2:=List.length_take_le 40 (ah 10 t)
 simp only[bm,List.map_nil,List.sum_nil]at this
 unfold cq bm
 omega
 exact jP _ _ (fun y hy=>by simp at hy)
theorem lP(n:BL):∀ (gs:List k9) (x:(List s6×Nat)×Bool),ey gs->(∀ r,r∈x.1.1->aN r.path=true)->
 (gs.foldl (cm n) x).1.1.length<=x.1.1.length+bm gs/\∀ r,r∈(gs.foldl (cm n) x).1.1->aN r.path=true
 | [],x,_,h=>⟨by simp[bm],h⟩
 | g::gs,x,hg,h=>by
   have hs:(cm n x g).1.1.length<=x.1.1.length+g.ru.length/\∀ r,r∈(cm n x g).1.1->aN r.path=true:=by
    unfold cm
    split
    refine⟨Z8,fun r hr=>?_⟩
    rcases Y1.1 hr with hr | hr
    exact h r hr
    exact hg g Z8 r hr
    exact⟨Z9,h⟩
   obtain⟨h1,h2⟩:=lP n gs (cm n x g) (fun y hy=>hg y (List.mem_cons_of_mem _ hy)) hs.2
   refine⟨?_,h2⟩
   have e:bm (g::gs)=g.ru.length+bm gs:=by simp[bm]
   rw[e]
   have:=hs.1
   simp only[List.foldl_cons]
   omega
theorem kc{gs:List k9}(n:BL)(h1:bm gs<=40)(h2:ey gs):(fc gs n).ru.length<=40/\∀ r,r∈(fc gs n).ru->aN r.path=true:=by
 have key:∀ q,(OD gs q).1.ru.length<=40/\∀ r,r∈(OD gs q).1.ru->aN r.path=true:=fun q=>by
  obtain⟨a,b⟩:=lP q gs (([],0),false) h2 (fun r hr=>by simp at hr)
  exact⟨by unfold OD;simp only[YY]at a ⊢;omega,b⟩
 unfold fc
 split
 exact key n
 exact key [42]
theorem pb(k:Int)(t n:BL):(bD k t n).ru.length<=40/\∀ r,r∈(bD k t n).ru->aN r.path=true:=by
 unfold bD
 split
 exact kc n (gg t).1 (gg t).2
 split
 exact⟨Z8,fun r hr=>by rw[YZ.1 hr];decide⟩
 exact kc n (by simp[bm]) (fun y hy=>by simp at hy)
structure HO (n:BL) (y:j9):Prop where
 na:y.gr.na=[n]
 re:0<=y.re/\y.re<=5100
 tr:0<=y.tr/\y.tr<=2
 ru:y.gr.ru.length<=40/\∀ r,r∈y.gr.ru->aN r.path=true
 wa:y.gr.wa<=20
structure OI (t:j8):Prop where
 nm:bn t.na=true
 nw:0<=t.a7/\t.a7<=5000
 hs:∀ y,y∈t.hs->HO t.na y
 ki:∀ q,q∈t.lk->0<=q.ki/\q.ki<=3/\0<=q.ti/\q.ti<=t.a7
 lt:∀ k,k+1<t.lk.length->(t.lk.getD k l4).ti<=(t.lk.getD (k+1) l4).ti
theorem lS(w:List Pg)(a:BL)(n:Int):0<=(af w a n).1/\(af w a n).1<=3:=by
 unfold af
 split
 exact⟨Int.le_refl _,Z6⟩
 split
 exact⟨Z6,Int.le_refl _⟩
 split <;> exact⟨by simp only;omega,by simp only;omega⟩
theorem jZ{k:Int}:0<=cW k/\cW k<=8:=by
 unfold cW
 split
 omega
 split
 omega
 split <;> omega
variable {w:List Pg} {n:BL}
theorem OI.cS{t:j8}{s:BL}(h:OI t):OI (ak t s):=by
 refine⟨h.nm,h.nw,fun z hz=>?_,h.ki,h.lt⟩
 have hz:z∈aQ t.na t.hs t.se s:=hz
 have hin:∀ y,y∈ax t.hs (ab s) t.na->HO t.na y:=fun y hy=>by
  unfold ax at hy
  split at hy
  exact h.hs y hy
  rcases Y1.1 hy with hy | hy
  exact h.hs y hy
  rw[YZ.1 hy]
  exact⟨rfl,by simp[bM],by simp[bM],⟨by simp[bM],fun r hr=>by simp[bM]at hr⟩,by simp[bM]⟩
 show HO t.na z
 unfold aQ at hz
 split at hz
 rcases bQ hz with e | e
 have hy:=hin _ (ay (d:=e9) (cK t.hs (ab s) t.na))
 rw[e]
 unfold ba
 split
 exact hy
 exact⟨hy.na,hy.re,hy.tr,hy.ru,hy.wa⟩
 exact hin z e
 exact h.hs z hz
theorem OI.bT{l:List BL}:∀ {t:j8},OI t->OI (l.foldl ak t):=by
 induction l with
 | nil=>exact fun h=>h
 | cons a l ih=>exact fun h=>ih h.cS
theorem OI.call{t:j8}{i:Nat}{y':j9}{l:l7}{a7:Int}(h:OI t)(hn:t.a7<=a7/\a7<=5000)(hy:HO t.na y')(hl:l.ti=a7)(hk:0<=l.ki/\l.ki<=3):OI ⟨t.na,a7,t.hs.set i y',t.se,t.lk++[l]⟩:=by
 have hno:=h.nw
 refine⟨h.nm,by simp only;omega,fun z hz=>?_,fun q hq=>?_,fun k MT=>?_⟩
 rcases bQ hz with e | e
 rw[e];exact hy
 exact h.hs z e
 show 0<=q.ki/\q.ki<=3/\0<=q.ti/\q.ti<=a7
 rcases Y1.1 hq with hq | hq
 have:=h.ki q hq;omega
 rw[YZ.1 hq];omega
 show ((t.lk++[l]).getD k l4).ti<=((t.lk++[l]).getD (k+1) l4).ti
 have MT:k+1<(t.lk++[l]).length:=MT
 rw[YT,Zj]at MT
 have e1:∀ j,j<t.lk.length->(t.lk++[l]).getD j l4=t.lk.getD j l4:=fun j hj=>by
  rw[YQ,Zd hj,<- YQ]
 rcases Nat.lt_or_ge (k+1) t.lk.length with c | c
 rw[e1 k Z9,e1 _ c];exact h.lt k c
 have e2:(t.lk++[l]).getD (k+1) l4=l:=by
  rw[YQ,Y8 Z9,show k+1-t.lk.length=0 from Z9];rfl
 rw[e2,e1 k Z9,hl]
 have:=h.ki _ (ay (d:=l4) (show k<t.lk.length by omega))
 omega
theorem jR{y:j9}{a7 k m:Int}(h:HO n y)(hn:0<=a7/\a7<=5000):HO n (de y a7 k m):=by
 refine⟨h.na,?_,h.tr,h.ru,h.wa⟩
 have:=h.wa
 have hb:=jZ (k:=m+1)
 unfold de
 simp only
 split <;> constructor <;> omega
theorem mQ{t:j8}(hG:GI w n t)(h:OI t)(hg:G0 t=true):OI (B5 w t):=by
 have hx:=jh hg
 have hno:=h.nw
 have hw:0<=s8 t/\s8 t<=5000:=⟨Z9,hx.2.2.2⟩
 have hy:=h.hs _ (ay (d:=e9) hx.1)
 have hI:=hG.hi _ (ay (d:=e9) hx.1)
 unfold B5
 split
 unfold MJ
 simp only
 have hf:HO t.na (C3 w (t.hs.getD (m7 t) e9) (s8 t)):=jR (y:={ t.hs.getD (m7 t) e9 with td:=(t.hs.getD (m7 t) e9).td.drop 1 }) ⟨hy.na,hy.re,hy.tr,hy.ru,hy.wa⟩ hw
 have c1:∀ y',HO t.na y'->OI ⟨t.na,s8 t,t.hs.set (m7 t) y',t.se,t.lk++[⟨s8 t,((t.hs.getD (m7 t) e9).td.getD 0 l3).ad,(af w ((t.hs.getD (m7 t) e9).td.getD 0 l3).ad ((t.hs.getD (m7 t) e9).td.getD 0 l3).tr).1⟩]⟩:=
  fun y' P3=>OI.call h ⟨hx.2.2.1,hw.2⟩ P3 rfl (lS _ _ _)
 split
 exact c1 _ ⟨hf.na,hf.re,hf.tr,hf.ru,hf.wa⟩
 split
 exact(c1 _ hf).bT
 exact c1 _ hf
 rename_i hk
 have hk:(t.hs.getD (m7 t) e9).kn=false:=by simpa using hk
 have Oh:=hI.un hk
 unfold Qi
 have c1:∀ y',HO t.na y'->OI ⟨t.na,s8 t,t.hs.set (m7 t) y',t.se,t.lk++[⟨s8 t,ag (t.hs.getD (m7 t) e9).na,(af w (ag (t.hs.getD (m7 t) e9).na) (t.hs.getD (m7 t) e9).tr).1⟩]⟩:=
  fun y' P3=>OI.call h ⟨hx.2.2.1,hw.2⟩ P3 rfl (lS _ _ _)
 refine c1 _ ?_
 have h1:HO t.na (o5 w (t.hs.getD (m7 t) e9) (s8 t)):=jR hy hw
 unfold NW
 split
 rename_i c
 have c2:(t.hs.getD (m7 t) e9).tr+1<3:=c.2
 exact⟨h1.na,h1.re,⟨by show 0<=(t.hs.getD (m7 t) e9).tr+1;omega,by show (t.hs.getD (m7 t) e9).tr+1<=2;omega⟩,h1.ru,h1.wa⟩
 have s1:=pb (af w (ag (t.hs.getD (m7 t) e9).na) 2).1 (af w (ag (t.hs.getD (m7 t) e9).na) 2).2 t.na
 have s2:=jS (af w (ag (t.hs.getD (m7 t) e9).na) 2).1 (af w (ag (t.hs.getD (m7 t) e9).na) 2).2 t.na
 refine⟨rfl,?_,h1.tr,s1,s2⟩
 have h3:=h1.re
 have h4:(bK w t.na (t.hs.getD (m7 t) e9).na).wa<=20:=s2
 simp only
 omega
theorem nr{c9:List BL}{t:j8}(h:aH n c9=some t):OI t:=by
 unfold aH at h
 split at h
 rename_i c
 cases h
 exact OI.bT ⟨c.1,by simp[aU],fun y hy=>by simp[aU]at hy,fun q hq=>by simp[aU]at hq,fun k hk=>by simp[aU]at hk⟩
 cases h
theorem qg{t:j8}(hG:GI w n t)(h:OI t)(hl:t.lk.length<=400):aC t=true:=by
 have hI:∀ {a b c:Int},a<=b->b<=c->A7 b a c=true:=fun h1 h2=>decide_eq_true ⟨h1,h2⟩
 unfold aC
 simp only[YS,Y6,Zo]
 refine⟨⟨⟨⟨⟨h.nm,hI h.nw.1 h.nw.2⟩,?_⟩,?_⟩,fun y hy=>⟨?_,?_⟩⟩,hG.nd⟩
 unfold cY
 simp only[YS,Y6,Zo]
 exact⟨⟨hG.sn.2,hG.sn.1⟩,hG.se⟩
 unfold cH
 simp only[YS,Y6,Zo]
 refine⟨hl,fun k hk=>?_⟩
 have hk:=List.mem_range.1 hk
 have hq:=h.ki _ (ay (d:=l4) hk)
 refine⟨⟨⟨?_,hq.2.2.2⟩,hI hq.1 hq.2.1⟩,(hG.al k hk).rd⟩
 split
 exact hq.2.2.1
 have:=h.lt (k-1) Z9
 rw[show k-1+1=k from Z9]at this
 exact this
 have a:=h.hs y hy
 have b:=hG.hi y hy
 unfold dj
 rw[a.na]
 simp only[YS]
 refine⟨⟨⟨⟨b.hn,hI a.re.1 a.re.2⟩,hI a.tr.1 a.tr.2⟩,Z8⟩,?_⟩
 split
 simp only[YS,Zo,Y6]
 exact⟨⟨a.ru.1,a.ru.2⟩,hI Z9 (by have:=a.wa;omega)⟩
 rename_i c
 have:=b.un (by simpa using c)
 rw[Zo]
 exact⟨this.2.2.2.1,this.2.2.1⟩
 have hH:=hG.hi y hy
 unfold cU
 simp only[YS,Y6,Zo]
 refine⟨⟨?_,fun x hx=>?_⟩,hH.nd⟩
 have:=jN (u:=t.se) hH.nd fun a ha=>by
  obtain⟨x,hx,e⟩:=List.mem_map.1 ha
  rw[<- e];exact(hH.it x hx).2.2.1
 simpa using this
 obtain⟨a1,a2,a3,a4,a5,_⟩:=hH.it x hx
 exact⟨⟨⟨a1,by simpa using a2⟩,by simpa using a3⟩,decide_eq_true ⟨a4,a5⟩⟩
end
section
structure KI (w:List Pg) (t:j8):Prop where
 gr:∀ y,y∈t.hs->y.kn=true->y.gr=bK w t.na y.na/\∀ x,x∈y.td->aD y.gr.ru (pathOf x.ad)=true
 un:∀ y,y∈t.hs->y.kn=false->∀ q,q∈t.lk->ab q.ad=y.na->q.ad=ag y.na/\q.ki=3
 se:∀ s,s∈t.se->∃ y,y∈t.hs/\y.na=ab s
variable {w:List Pg} {n:BL}
theorem iE{hs:List j9}{d n:BL}{y:j9}(h:y∈hs):y∈ax hs d n:=by
 unfold ax
 split
 exact h
 exact List.mem_append_left _ h
theorem gO{l:List j9}{i:Nat}{a:j9}(hi:i<l.length)(ha:a.na=(l.getD i e9).na){d:BL}(h:∃ y,y∈l/\y.na=d):∃ y,y∈l.set i a/\y.na=d:=by
 obtain⟨y,y1,y2⟩:=h
 have:d∈(l.set i a).map (·.na):=by
  rw[jo hi ha];exact List.mem_map.2 ⟨y,y1,y2⟩
 obtain⟨z,z1,z2⟩:=List.mem_map.1 this
 exact⟨z,z1,z2⟩
theorem KI.cS{t:j8}{s:BL}(hG:GI w n t)(h:KI w t):KI w (ak t s):=by
 by_cases hr:dq t.se s
 case neg=>
  have e3:ct t.se s=t.se:=if_neg hr
  have e4:aQ t.na t.hs t.se s=t.hs:=if_neg hr
  have:ak t s=t:=by unfold ak;rw[e3,e4]
  rw[this];exact h
 have e3:(ak t s).se=t.se++[s]:=if_pos hr
 have e4:(ak t s).hs=(ax t.hs (ab s) t.na).set (r7 t.hs (ab s)) (ba ((ax t.hs (ab s) t.na).getD (r7 t.hs (ab s)) e9) s):=if_pos hr
 have hlt:=cK t.hs (ab s) t.na
 have Ny:=kY t.hs (ab s) t.na
 have Rk:∀ y,y∈ax t.hs (ab s) t.na->y.kn=true->y.gr=bK w t.na y.na/\∀ x,x∈y.td->aD y.gr.ru (pathOf x.ad)=true:=fun y hy hk=>by
  unfold ax at hy
  split at hy
  exact h.gr y hy hk
  rcases Y1.1 hy with hy | hy
  exact h.gr y hy hk
  rw[YZ.1 hy]at hk;simp[bM]at hk
 have Oh:∀ y,y∈ax t.hs (ab s) t.na->y.kn=false->∀ q,q∈t.lk->ab q.ad=y.na->q.ad=ag y.na/\q.ki=3:=fun y hy hk q hq he=>by
  unfold ax at hy
  split at hy
  exact h.un y hy hk q hq he
  rename_i hc
  rcases Y1.1 hy with hy | hy
  exact h.un y hy hk q hq he
  exfalso
  rw[YZ.1 hy]at he
  obtain⟨z,z1,z2⟩:=(hG.lh q hq).1
  have he:ab q.ad=ab s:=he
  exact hc (List.findIdx_lt_length_of_exists ⟨z,z1,by simp[z2,he]⟩)
 have A4:=ay (d:=e9) hlt
 generalize hy:(ax t.hs (ab s) t.na).getD (r7 t.hs (ab s)) e9=y at *
 refine⟨fun z hz hk=>?_,fun z hz hk q hq he=>?_,fun q hq=>?_⟩
 rw[e4]at hz
 show z.gr=bK w t.na z.na/\_
 rcases bQ hz with e | e
 subst e
 unfold ba at hk ⊢
 split at hk
 rename_i c;rw[if_pos c];exact Rk y A4 hk
 rename_i c
 rw[if_neg c]
 have G7:y.kn=true:=hk
 obtain⟨a1,a2⟩:=Rk y A4 G7
 refine⟨a1,fun x hx=>?_⟩
 rcases Y1.1 hx with hx | hx
 exact a2 x hx
 rw[YZ.1 hx]
 cases hl:aD y.gr.ru (pathOf s) with
 | true=>rfl
 | false=>exact absurd ⟨G7,hl⟩ c
 exact Rk z e hk
 rw[e4]at hz
 have hq:q∈t.lk:=hq
 rcases bQ hz with e | e
 subst e
 rw[fE]at he ⊢
 refine Oh y A4 ?_ q hq he
 unfold ba at hk
 split at hk
 exact hk
 exact hk
 exact Oh z e hk q hq he
 rw[e4]
 rw[e3]at hq
 rcases Y1.1 hq with hq | hq
 obtain⟨z,z1,z2⟩:=h.se q hq
 exact gO hlt (by rw[fE,hy]) ⟨z,iE z1,z2⟩
 rw[YZ.1 hq]
 exact⟨_,List.mem_set hlt _,by rw[fE,Ny]⟩
theorem KI.bT{l:List BL}:∀ {t:j8},GI w n t->KI w t->KI w (l.foldl ak t):=by
 induction l with
 | nil=>exact fun _ h=>h
 | cons a l ih=>exact fun hG h=>ih hG.cS (h.cS hG)
theorem KI.call{t:j8} {i:Nat} {y':j9} {l:l7} {a7:Int} (hG:GI w n t) (h:KI w t) (hi:i<t.hs.length) (hl:ab l.ad=(t.hs.getD i e9).na) (Ny:y'.na=(t.hs.getD i e9).na)
 (hg:y'.kn=true->y'.gr=bK w t.na y'.na/\∀ x,x∈y'.td->aD y'.gr.ru (pathOf x.ad)=true)
 (hu:y'.kn=false->∀ q,q∈t.lk++[l]->ab q.ad=y'.na->q.ad=ag y'.na/\q.ki=3):KI w ⟨t.na,a7,t.hs.set i y',t.se,t.lk++[l]⟩:=by
 refine⟨fun z hz hk=>?_,fun z hz hk q hq he=>?_,fun q hq=>?_⟩
 rcases bQ hz with e | e
 subst e;exact hg hk
 exact h.gr z e hk
 rcases iU hG.nd hi hz with e | ⟨e,e2⟩
 subst e;exact hu hk q hq he
 rcases Y1.1 hq with hq | hq
 exact h.un z e hk q hq he
 rw[YZ.1 hq,hl]at he
 exact absurd he.symm e2
 exact gO hi Ny (h.se q hq)
end
section
def bb(L:List l7)(d:BL):Bool:=L.any fun q=>(ab q.ad==d)&&!((q.ad==ag d)&&decide (q.ki=3))
def eF(L:List l7)(l:l7):Bool:=(l.ad==ag (ab l.ad))&&!(bb L (ab l.ad))&&decide ((cls L (ab l.ad)).length<3)
def MZ(L:List l7)(l:l7):Prop:=l.ki≠3/\eF L l=false
instance (L:List l7) (l:l7):Decidable (MZ L l):=by unfold MZ;infer_instance
def LI(w:List Pg)(t:j8):Prop:= ∀ k,k<t.lk.length->eF (t.lk.take k) (t.lk.getD k l4)=true\/(aD (bK w t.na (ab (t.lk.getD k l4).ad)).ru (pathOf (t.lk.getD k l4).ad)=true/\(t.lk.getD k l4).ad∈t.se)
variable {w:List Pg} {n:BL}
theorem nJ{t:j8}{s x:BL}(h:x∈t.se):x∈(ak t s).se:=by
 show x∈ct t.se s
 unfold ct
 split
 exact List.mem_append_left _ h
 exact h
theorem LI.bT:∀ {l:List BL} {t:j8},LI w t->LI w (l.foldl ak t)
 | [],_,h=>h
 | s::l,t,h=>LI.bT (l:=l) (t:=ak t s) fun k hk=>(h k hk).imp id fun⟨a,b⟩=>⟨a,nJ b⟩
theorem LI.call{t:j8}{hs:List j9}{l:l7}{a7:Int}(h:LI w t)(hl:eF t.lk l=true\/(aD (bK w t.na (ab l.ad)).ru (pathOf l.ad)=true/\l.ad∈t.se)):LI w ⟨t.na,a7,hs,t.se,t.lk++[l]⟩:=fun k hk=>by
 have hk:k<(t.lk++[l]).length:=hk
 show eF ((t.lk++[l]).take k) ((t.lk++[l]).getD k l4)=true\/(aD (bK w t.na (ab ((t.lk++[l]).getD k l4).ad)).ru (pathOf ((t.lk++[l]).getD k l4).ad)=true/\((t.lk++[l]).getD k l4).ad∈t.se)
 rw[YT,Zj]at hk
 rcases Nat.lt_or_ge k t.lk.length with c | c
 have:=h k c
 rw[List.take_append_of_le_length Z9,YQ,Zd c,<- YQ]
 exact this
 obtain rfl:k=t.lk.length:=Z9
 have e:(t.lk++[l]).getD t.lk.length l4=l:=by
  rw[YQ,Y8 (Zg _)];simp
 rw[List.take_left,e]
 exact hl
end
def aY(w:List Pg)(n:BL)(p:List BL)(m:Int):j8:=oT (bp w (oT (aH n p)) m)
theorem fW{w:List Pg}{n:BL}{p:List BL}{m:Int}(hm:A7 m 0 400=true):((aH n p).isSome&&(bp w (oT (aH n p)) m).isSome)=((aH n p).isSome&&an w):=by
 cases h:aH n p with
 | none=>rfl
 | some t=>
   have:=iA h
   simp only[oT,Option.getD_some,Option.isSome_some,Bool.true_and]
   unfold bp
   rw[this,Bool.and_true,hm]
   cases an w
   rfl
   rfl
theorem fM{w:List Pg}{n:BL}{p:List BL}{m:Int}(hm:A7 m 0 400=true)(h:(aH n p).isSome=true/\(bp w (oT (aH n p)) m).isSome=true):∃ t,aH n p=some t/\an w=true/\aY w n p m=B4 w m.toNat t:=by
 have h2:=(fW hm).symm.trans (show ((aH n p).isSome&&(bp w (oT (aH n p)) m).isSome)=true by rw[h.1,h.2];rfl)
 unfold aY
 cases hn:aH n p with
 | none=>rw[hn]at h;cases h.1
 | some t=>
   have h3:an w=true:=by
    rw[hn]at h2;exact h2
   refine⟨t,rfl,h3,?_⟩
   show oT (bp w t m)=_
   rw[ve hm h3 (iA hn)]
   rfl
theorem nt{w:List Pg}{n:BL}{t:j8}(h:GI w n t):(t.lk.length:Int)<=3*((t.se.length:Int)+t.hs.length):=by
 have:=h.po
 have:=vt (f:=hp) (l:=t.hs) fun y hy=>by
  have hI:=h.hi y hy
  have h1:=zQ fun x hx=>(hI.it x hx).2.2.2.2.1
  unfold hp
  split
  omega
  rename_i c
  have:=hI.un (by simpa using c)
  omega
 omega
theorem dG{w:List Pg}{n:BL}{t:j8}(h:GI w n t):t.lk.length<=360:=by
 have:=nt h
 have:=h.hl
 have:=h.sn.2
 omega
theorem mo{s:BL}(h:az s=true):s.length<=60/\m5 s:=by
 constructor
 have:=fo h
 unfold aw at this
 split at this
 rename_i c;exact c.1
 cases this
 have:=h
 unfold az at this
 rw[YS,Zp]at this
 rw[<- this.2];exact pN _
theorem lp{L:List l7}{i:Nat}(hi:i<L.length):L.take (i+1)=L.take i++[L.getD i l4]:=by
 rw[List.take_succ_eq_append_getElem hi,YQ,YX hi];rfl
def NT(t:j8)(d:BL):List Int:=if aC t=true then cls t.lk d else []
theorem pa(L:List l7)(i:Nat)(d:BL):(cls (L.take i) d).length<=i:=by
 unfold cls
 rw[Y2]
 have:=List.length_filter_le (fun l:l7=>ab l.ad==d) (L.take i)
 have h2:=List.length_take_le i L
 omega
theorem yo{L:List l7}{i:Nat}{d:BL}(hi:i<L.length):cls (L.take (i+1)) d=cls (L.take i) d++(if ab (L.getD i l4).ad=d then [(L.getD i l4).ti] else []):=by
 rw[lp hi,dy]
theorem vv{t:j8}{i:Nat}(h:aC t=true)(hi:i<t.lk.length):az (t.lk.getD i l4).ad=true:=by
 unfold aC cH at h
 simp only[YS,Y6,Zo]at h
 exact(h.1.1.2.2 i (List.mem_range.2 hi)).2
theorem yl(t:j8)(d:BL)(ht:w8 t):PF Tryz.prog 13 [bB t.na t.a7 t.hs t.se t.lk,sV d] [] (fun r h=>r=(.sl false ((NT t d).map iV))/\h=[]):=by
 refine av (N:=40) (rs:=[.tmp 4]) Tryz.func13
  (.bx (fun g2=>.q 1<|.r 1 [.a8]<|.c (dP t) []<|.q 1<|.br (.q 1<|.nil) (.q 1<|.r 4 [.a8]<|.h (.H7 5 1)<|.loop (Nat×(List Int)×Nat×Nat×Nat) (fun (i,r,x1,x2,x3)=>⟨[(1,sV d),(5,.own 1 (r.map iV) x1 x2 x3),(14,cG t.lk),(15,iN t.lk.length),(16,iN i)],[]⟩) (fun (i,r,x1,x2,x3)=>i<=t.lk.length/\r=(cls (t.lk.take i) d)) (fun (i,r,x1,x2,x3)=>t.lk.length-i) (fun (i,r,x1,x2,x3)=>.q 1<|.br (.r 2 [.agg [iV ((t.lk.getD i l4).ti),sV ((t.lk.getD i l4).ad),iV ((t.lk.getD i l4).ki)]]<|.al zB (fun g7=>.st none<|.r 2 [.a8]<|.c (cv ((t.lk.getD i l4).ad)) []<|.q 3<|.al dg (fun g8=>.st none<|.q 1<|.r 7 [.a8]<|.br (.r 3 [.a8]<|.bs<|.ap (fun M5 PG PS=>.h (.o4 37 (.own 1 ((r++[(t.lk.getD i l4).ti]).map iV) M5 PG PS))<|.q 1<|.q 2<|.nil)) (.q 2<|.nil)))) (.h (.fz 5)<|.h (.o4 5 (.sl false (r.map iV)))<|.q 2<|.nil)))))
  (∀ g2:Nat,Z g2 0/\(dP t).sm/\((w8 t))/\Br (!(aC t)) (Q (.sl false []) (.sl false ((NT t d).map iV))) (Z g2 4/\(∃ x:Nat×(List Int)×Nat×Nat×Nat,match x with | (j6,J8,ON,OM,OK)=>(j6<=t.lk.length/\J8=(cls (t.lk.take j6) d))/\E (sV d)/\Q (.own 1 ([].map iV) 0 0 0) (.own 1 (J8.map iV) ON OM OK)/\E (cG t.lk)/\Q (iN ((t.lk.map aO).length)) (iN t.lk.length)/\Q (iN 0) (iN j6)/\True)/\∀ x:Nat×(List Int)×Nat×Nat×Nat,match x with | (i,r,x1,x2,x3)=>(i<=t.lk.length/\r=(cls (t.lk.take i) d))->(fun v1:l7=>(fun v2:List V=>Br (r9 (i:Int) (t.lk.length:Int)) (Ex (i:Int) (t.lk.map aO) (.agg [iV (v1.ti),sV (v1.ad),iV (v1.ki)])/\True/\∀ g7:Nat,Z g7 0/\Z g7 1/\(cv (v1.ad)).sm/\(((v1.ad).length<=1000000)/\(m5 (v1.ad)))/\∀ g8:Nat,Z g8 0/\Gd (((ar (v1.ad)).isSome)==true) (Z g8 0)/\Pk ((ar (v1.ad)).isSome) (((ar (v1.ad)).isSome)==true) true/\Br (((ar (v1.ad)).isSome)&&(((oA (ar (v1.ad))).c5)==d)) (Z g7 0/\((1,1,x1,x2,x3,(r.map iV).length)=(1,1,x1,x2,x3,(r.map iV).length))/\(True)/\(V.aE v2=false)/\(aJ 1 v2)/\(((r.map iV).length+v2.length)*8<=140737488355328)/\∀ M5 PG PS:Nat,((.own 1 ((r.map iV)++v2) M5 PG PS:V)=.own 1 ((r++[v1.ti]).map iV) M5 PG PS)/\m8 ((i:Int)+1)/\∃ x:Nat×(List Int)×Nat×Nat×Nat,match x with | (b7,w7,E1,E0,D')=>(b7<=t.lk.length/\w7=(cls (t.lk.take b7) d))/\(t.lk.length-b7<t.lk.length-i)/\E (sV d)/\Q (.own 1 ((r++[v1.ti]).map iV) M5 PG PS) (.own 1 (w7.map iV) E1 E0 D')/\E (cG t.lk)/\E (iN t.lk.length)/\Q (iN (i+1)) (iN b7)/\True) (m8 ((i:Int)+1)/\∃ x:Nat×(List Int)×Nat×Nat×Nat,match x with | (b7,w7,E1,E0,D')=>(b7<=t.lk.length/\w7=(cls (t.lk.take b7) d))/\(t.lk.length-b7<t.lk.length-i)/\E (sV d)/\Q (.own 1 (r.map iV) x1 x2 x3) (.own 1 (w7.map iV) E1 E0 D')/\E (cG t.lk)/\E (iN t.lk.length)/\Q (iN (i+1)) (iN b7)/\True)) (((.sl false (V.B8 (r.map iV)):V)=.sl false (r.map iV))/\Q (.sl false (r.map iV)) (.sl false ((NT t d).map iV)))) ([iV (v1.ti)]:List V)) (t.lk.getD i l4))) ?_
 intro g2
 refine⟨rfl,rfl,ht,?_⟩
 refine bI (fun j7=>?_) fun j7=>?_
 unfold Q
 rw[show NT t d=[] from if_neg (by rw[j7];decide)]
 rfl
 have Xm:=ht.l
 refine⟨rfl,?_⟩
 refine⟨⟨(0,[],0,0,0),?_,rfl,rfl,rfl,Z4,rfl,trivial⟩,?_⟩
 exact⟨Z9,rfl⟩
 rintro⟨i,r,x1,x2,x3⟩ ⟨h1,h2⟩
 have NL:r.length<=i:=by rw[h2];exact pa ..
 refine bI (fun l6=>?_) fun l6=>?_
 have RF:=ht.la (t.lk.getD i l4) (ay (d:=l4) Z9)
 have RI:=vv j7 (i:=i) Z9
 refine⟨⟨Z9,aj (d:=l4) Z9⟩,trivial,?_⟩
 intro g7
 refine⟨rfl,rfl,rfl,⟨by have:=RF.1;omega,RF.2⟩,?_⟩
 intro g8
 refine⟨rfl,fun hG=>rfl,⟨fun h=>by rw[h] <;> rfl,fun _=>rfl⟩,?_⟩
 refine bI (fun n6=>?_) fun n6=>?_
 refine⟨rfl,rfl,trivial,rfl,by simp[aJ,V.n,V.ns],Z0,?_⟩
 intro M5 PG PS
 refine⟨Zq (V.own 1 · M5 PG PS) Z8,Z9,?_⟩
 refine⟨(i+1,r++[(t.lk.getD i l4).ti],M5,PG,PS),?_,?_,rfl,rfl,rfl,rfl,rfl,trivial⟩
 have NH:ar (t.lk.getD i l4).ad=aw (t.lk.getD i l4).ad:=if_pos RI
 have Ql:=fo RI
 rw[NH]at n6
 rw[yo Z9,h2]
 first
 | exact⟨Z9,by rw[if_pos (show ab (t.lk.getD i l4).ad=d from n6.2)]⟩
 | exact⟨Z9,by rw[if_neg (fun c:ab (t.lk.getD i l4).ad=d=>n6 Ql c),List.append_nil]⟩
 | exact⟨Z9,by rw[if_neg (fun c:ab (t.lk.getD i l4).ad=d=>n6.elim (fun e=>by rw[Ql]at e;cases e) (fun e=>e c)),List.append_nil]⟩
 exact Z1
 refine⟨Z9,?_⟩
 refine⟨(i+1,r,x1,x2,x3),?_,?_,rfl,rfl,rfl,rfl,rfl,trivial⟩
 have NH:ar (t.lk.getD i l4).ad=aw (t.lk.getD i l4).ad:=if_pos RI
 have Ql:=fo RI
 rw[NH]at n6
 rw[yo Z9,h2]
 first
 | exact⟨Z9,by rw[if_pos (show ab (t.lk.getD i l4).ad=d from n6.2)]⟩
 | exact⟨Z9,by rw[if_neg (fun c:ab (t.lk.getD i l4).ad=d=>n6 Ql c),List.append_nil]⟩
 | exact⟨Z9,by rw[if_neg (fun c:ab (t.lk.getD i l4).ad=d=>n6.elim (fun e=>by rw[Ql]at e;cases e) (fun e=>e c)),List.append_nil]⟩
 exact Z1
 refine⟨Zq (V.sl false) (aM (fun _=>rfl) _),?_⟩
 unfold Q
 rw[show NT t d=cls t.lk d from if_pos j7,h2,Y3 Z9]
def sQ(t:j8)(d:BL):o6 Tryz.prog:={ f:=13,args:=[bB t.na t.a7 t.hs t.se t.lk,sV d],H:=[],pre:=(w8 t),res:=.sl false ((NT t d).map iV),H':=[],ok:=fun h=>yl t d h }
theorem yJ{w:List Pg}{n:BL}{t:j8}(hG:GI w n t)(hT:Nl t)(hn:n.length<=1000):w8 t:=by
 have h1:=hG.sn.2
 have h2:=hG.hl
 have h3:=dG hG
 refine⟨by rw[hG.na];exact hn,Z9,Z9,Z9,fun x hx=>?_,fun x hx=>?_,fun y hy=>?_⟩
 have:=mo (hG.se x hx);exact⟨Z9,this.2⟩
 obtain⟨k,hk,e⟩:=Zk.1 hx
 have:=mo (hG.al k hk).rd
 rw[YQ,YX hk]at this
 subst e
 exact⟨Nat.le_trans this.1 Z9,this.2⟩
 have hI:=hG.hi y hy
 have hS:=hT.t0.ha y hy
 have hs:=hT.t0.s
 have hgl:=hI.gl
 exact⟨hS.n,hS.r,hS.rp,Z9,by have:=hS.t;omega,fun x hx=>⟨(hS.ta x hx).1,(hS.ta x hx).2.1⟩⟩
theorem Mj{w:List Pg}{n:BL}{t:j8}(h:GI w n t)(d:BL)(k:Nat):0<=(NT t d).getD k 0/\(NT t d).getD k 0<=5000:=by
 rcases Nat.lt_or_ge k (NT t d).length with hk | hk
 have hm:(NT t d).getD k 0∈NT t d:=by
  rw[YQ,YX hk];exact List.getElem_mem _
 generalize (NT t d).getD k 0=x at *
 unfold NT at hm
 split at hm
 obtain⟨q,q1,_,q3⟩:=pk hm
 obtain⟨j,hj,e⟩:=Zk.1 q1
 have:=(h.al j hj).tm
 rw[YQ,YX hj]at this
 subst e
 rw[<- q3];exact this
 cases hm
 rw[YQ,List.getElem?_eq_none hk]
 exact⟨Int.le_refl _,Z6⟩
theorem KR{w:List Pg}{n:BL}{t:j8}(h:GI w n t)(d:BL):(NT t d).length<=360:=by
 have:=dG h
 unfold NT
 split
 have:=pa t.lk t.lk.length d
 rw[Y3 (Zg _)]at this
 omega
 simp
section
def Qd(B:Int)(t:j8):Prop:= ∀ y,y∈t.hs->y.re<=B
theorem Qd.cS{t:j8}{s:BL}{B:Int}(hB:0<=B)(h:Qd B t):Qd B (ak t s):=by
 intro z hz
 have hz:z∈aQ t.na t.hs t.se s:=hz
 unfold aQ at hz
 split at hz
 have hin:∀ y,y∈ax t.hs (ab s) t.na->y.re<=B:=fun y hy=>by
  unfold ax at hy
  split at hy
  exact h y hy
  rcases Y1.1 hy with hy | hy
  exact h y hy
  rw[YZ.1 hy];exact hB
 rcases bQ hz with e | e
 have:=hin _ (ay (d:=e9) (cK t.hs (ab s) t.na))
 rw[e]
 unfold ba
 split <;> exact this
 exact hin z e
 exact h z hz
def TM(i:Nat)(t:j8):Prop:=t.a7<=30*i/\Qd (30*i) t
theorem TM.bT{i:Nat}:∀ {l:List BL} {t:j8},TM i t->TM i (l.foldl ak t)
 | [],_,h=>h
 | s::l,t,h=>TM.bT (l:=l) (t:=ak t s) ⟨h.1,h.2.cS Z9⟩
variable {w:List Pg} {n:BL}
theorem iQ{y:j9}{a7 k m:Int}(h:y.gr.wa<=20):(de y a7 k m).re<=a7+28:=by
 have hb:=jZ (k:=m+1)
 unfold de
 simp only
 split <;> omega
theorem qW{t:j8}{i:Nat}(hO:OI t)(h:TM i t)(hg:G0 t=true):TM (i+1) (B5 w t):=by
 have hx:=jh hg
 have he:=yh hg
 have h1:=h.2 _ (ay (d:=e9) hx.1)
 have h2:=h.1
 have hy:=(hO.hs _ (ay (d:=e9) hx.1)).wa
 have hW:s8 t<=30*i:=Z9
 have c1:∀ (y':j9) (l:l7),y'.re<=30*(i:Int)+30->TM (i+1) ⟨t.na,s8 t,t.hs.set (m7 t) y',t.se,t.lk++[l]⟩:=fun y' l P3=>by
  refine⟨by show s8 t<=_;omega,fun z hz=>?_⟩
  rcases bQ hz with e | e
  rw[e];omega
  have:=h.2 z e;omega
 unfold B5
 split
 unfold MJ
 simp only
 have hf:(C3 w (t.hs.getD (m7 t) e9) (s8 t)).re<=s8 t+28:=iQ hy
 split
 exact c1 _ _ (by show (C3 w (t.hs.getD (m7 t) e9) (s8 t)).re<=_;omega)
 split
 exact(c1 _ _ Z9).bT
 exact c1 _ _ Z9
 unfold Qi
 refine c1 _ _ ?_
 have hf:(o5 w (t.hs.getD (m7 t) e9) (s8 t)).re<=s8 t+28:=iQ hy
 show (NW w t.na (t.hs.getD (m7 t) e9) (s8 t)).re<=_
 unfold NW
 split
 show (o5 w (t.hs.getD (m7 t) e9) (s8 t)).re<=_;omega
 have s2:(bK w t.na (t.hs.getD (m7 t) e9).na).wa<=20:=jS (af w (ag (t.hs.getD (m7 t) e9).na) 2).1 (af w (ag (t.hs.getD (m7 t) e9).na) 2).2 t.na
 simp only
 omega
theorem Dk(t:j8):∀ i,i<=t.hs.length->(C8 t i).1<0->∀ j,j<i->(t.hs.getD j e9).td=[]
 | 0,_,_,j,hj=>absurd hj Z9
 | i+1,hi,h,j,hj=>by
   rw[nh Z9]at h
   unfold nH at h
   split at h
   simp only at h;omega
   rename_i c
   have h2:=Dk t i Z9 h
   rcases Nat.lt_or_ge j i with q | q
   exact h2 j q
   obtain rfl:j=i:=Z9
   by_cases e:(t.hs.getD j e9).td=[]
   exact e
   exact absurd ⟨e,.inl h⟩ c
theorem JO{t:j8}{i:Nat}(hG:GI w n t)(h:TM i t)(hi:i<=100)(hg:G0 t=false):∀ y,y∈t.hs->y.td=[]:=by
 have hl:=dG hG
 unfold G0 at hg
 rw[Bool.and_eq_false_iff,decide_eq_false_iff_not]at hg
 rcases hg with hg | hg
 unfold fv at hg
 split at hg
 rename_i c
 have Xe:(C8 t t.hs.length).1<0:=by
  rcases c with c | c
  exact c
  rcases CH t _ (Zg _) with e | ⟨j,e1,e2⟩
  rw[e];decide
  exfalso
  have h1:=h.1
  have h2:(t.hs.getD j e9).re<=30*i:=by
   rcases Nat.lt_or_ge j t.hs.length with q | q
   exact h.2 _ (ay (d:=e9) q)
   rw[YQ,List.getElem?_eq_none q]
   show (0:Int)<=_;omega
  omega
 intro y hy
 obtain⟨j,hj,e⟩:=Zk.1 hy
 have:=Dk t _ (Zg _) Xe j hj
 rw[YQ,YX hj]at this
 rw[<- e];exact this
 cases hg
 omega
structure WQ (w:List Pg) (n:BL) (i:Nat) (t:j8):Prop where
 gi:GI w n t
 oi:OI t
 ti:Nl t
 tm:TM i t
theorem WQ.step{t:j8}{i:Nat}(h:WQ w n i t)(hw:an w=true)(hz:∀ i,m9 (w.getD i m4))(hg:G0 t=true):WQ w n (i+1) (B5 w t):=
 ⟨lU h.gi hg,mQ h.gi h.oi hg,lb hw hz h.ti hg,qW h.oi h.tm hg⟩
theorem WQ.ok{t:j8}{i:Nat}(h:WQ w n i t):aC t=true:=qg h.gi h.oi (by have:=dG h.gi;omega)
theorem WQ.new{p:List BL}{t:j8}(h:aH n p=some t)(hS:w8 t)(hh:t.hs.length<=900):WQ w n 0 t:=by
 have hk:=iA h
 refine⟨kA h,nr h,nu hS hh hk,?_⟩
 unfold aH at h
 split at h
 cases h
 exact TM.bT (t:=aU n) ⟨Int.le_refl _,fun y hy=>by simp[aU]at hy⟩
 cases h
end
section
def ML(L:List l7)(k:Nat):Prop:=k<L.length/\MZ (L.take k) (L.getD k l4)
def fI(w:List Pg)(c9:List BL)(L:List l7)(s:BL):Prop:=s∈c9\/∃ k,ML L k/\s∈eA w (L.getD k l4).ad
structure CI (w:List Pg) (c9 K6:List BL) (t:j8):Prop where
 gr:∀ y,y∈t.hs->y.kn=true->y.gr=bK w t.na y.na
 kn:∀ y,y∈t.hs->y.kn=true->bb t.lk y.na=true\/3<=(cls t.lk y.na).length
 kd:∀ q,q∈t.lk->q.ki≠3->(af w q.ad 2).1=q.ki
 sr:∀ s,s∈t.se->fI w c9 t.lk s
 he:t.se.length<60->(∀ s,s∈c9->az s=true->s∈t.se\/s∈K6)/\∀ k,ML t.lk k->∀ x,x∈eA w (t.lk.getD k l4).ad->az x=true->x∈t.se\/x∈K6
 di:∀ s,s∈t.se->(∃ y,y∈t.hs/\∃ x,x∈y.td/\x.ad=s)\/aD (bK w t.na (ab s)).ru (pathOf s)=false\/(∃ k,ML t.lk k/\(t.lk.getD k l4).ad=s)\/(af w s 2).1=3
 ro:∀ k,ML t.lk k->fI w c9 (t.lk.take k) (t.lk.getD k l4).ad
theorem dD{L r:List l7}{k:Nat}(h:ML L k):ML (L++r) k/\(L++r).getD k l4=L.getD k l4:=by
 have e1:(L++r).getD k l4=L.getD k l4:=by
  rw[YQ,Zd h.1,<- YQ]
 refine⟨⟨by rw[YT];have:=h.1;omega,?_⟩,e1⟩
 rw[e1,List.take_append_of_le_length (Nat.le_of_lt h.1)]
 exact h.2
theorem jY{L:List l7}{l:l7}{k:Nat}(h:ML (L++[l]) k):ML L k\/(k=L.length/\MZ L l):=by
 obtain⟨h1,h2⟩:=h
 rw[YT,Zj]at h1
 rcases Nat.lt_or_ge k L.length with c | c
 rw[List.take_append_of_le_length Z9,YQ,Zd c,<- YQ]at h2
 exact .inl ⟨c,h2⟩
 obtain rfl:k=L.length:=Z9
 have e:(L++[l]).getD L.length l4=l:=by
  rw[YQ,Y8 (Zg _)];simp
 rw[List.take_left,e]at h2
 exact .inr ⟨rfl,h2⟩
theorem fk{L:List l7}{l:l7}(h:MZ L l):ML (L++[l]) L.length/\(L++[l]).getD L.length l4=l:=by
 have e:(L++[l]).getD L.length l4=l:=by
  rw[YQ,Y8 (Zg _)];simp
 refine⟨⟨Z8,?_⟩,e⟩
 rw[List.take_left,e];exact h
theorem pr{w:List Pg}{c9:List BL}{L r:List l7}{s:BL}(h:fI w c9 L s):fI w c9 (L++r) s:=
 h.imp id fun⟨k,h1,h2⟩=>⟨k,(dD h1).1,by rw[(dD h1).2];exact h2⟩
theorem gG{t:j8}{s:BL}{z:j9}(hz:z∈(ak t s).hs)(hk:z.kn=true):∃ y,y∈t.hs/\y.na=z.na/\y.kn=true/\y.gr=z.gr:=by
 have hz:z∈aQ t.na t.hs t.se s:=hz
 unfold aQ at hz
 split at hz
 have hin:∀ y,y∈ax t.hs (ab s) t.na->y.kn=true->y∈t.hs:=fun y hy hk=>by
  unfold ax at hy
  split at hy
  exact hy
  rcases Y1.1 hy with hy | hy
  exact hy
  rw[YZ.1 hy]at hk;simp[bM]at hk
 rcases bQ hz with e | e
 have A4:=ay (d:=e9) (cK t.hs (ab s) t.na)
 generalize (ax t.hs (ab s) t.na).getD (r7 t.hs (ab s)) e9=y at *
 have q:z.kn=y.kn/\y.na=z.na/\y.gr=z.gr:=by
  subst e;unfold ba;split <;> exact⟨rfl,rfl,rfl⟩
 exact⟨y,hin y A4 (by rw[<- q.1];exact hk),q.2.1,by rw[<- q.1];exact hk,q.2.2⟩
 exact⟨z,hin z e hk,rfl,hk,rfl⟩
 exact⟨z,hz,rfl,hk,rfl⟩
theorem oJ{t:j8}{s:BL}{y:j9}{x:u7}(hy:y∈t.hs)(hx:x∈y.td):∃ z,z∈(ak t s).hs/\x∈z.td:=by
 show ∃ z,z∈aQ t.na t.hs t.se s/\x∈z.td
 unfold aQ
 split
 obtain⟨j,hj,e⟩:=Zk.1 (iE (d:=ab s) (n:=t.na) hy)
 by_cases c:r7 t.hs (ab s)=j
 refine⟨_,Zk.2 ⟨r7 t.hs (ab s),by rw[List.length_set];exact cK ..,List.getElem_set_self ..⟩,?_⟩
 have e2:(ax t.hs (ab s) t.na).getD (r7 t.hs (ab s)) e9=y:=by
  rw[c,YQ,YX hj];exact e
 rw[e2]
 unfold ba
 split
 exact hx
 exact List.mem_append_left _ hx
 exact⟨y,Zk.2 ⟨j,by rw[List.length_set];exact hj,by rw[List.getElem_set_ne c];exact e⟩,hx⟩
 exact⟨y,hy,hx⟩
theorem nC{t:j8}{s:BL}(hr:dq t.se s):(∃ z,z∈(ak t s).hs/\∃ x,x∈z.td/\x.ad=s)\/∃ y,y∈t.hs/\y.kn=true/\y.na=ab s/\aD y.gr.ru (pathOf s)=false:=by
 have e4:(ak t s).hs=(ax t.hs (ab s) t.na).set (r7 t.hs (ab s)) (ba ((ax t.hs (ab s) t.na).getD (r7 t.hs (ab s)) e9) s):=if_pos hr
 have hm:ba ((ax t.hs (ab s) t.na).getD (r7 t.hs (ab s)) e9) s∈(ak t s).hs:=by
  rw[e4]
  exact Zk.2 ⟨r7 t.hs (ab s),by rw[List.length_set];exact cK ..,List.getElem_set_self ..⟩
 have A4:=ay (d:=e9) (cK t.hs (ab s) t.na)
 have Ny:=kY t.hs (ab s) t.na
 generalize (ax t.hs (ab s) t.na).getD (r7 t.hs (ab s)) e9=y at *
 by_cases c:y.kn=true/\aD y.gr.ru (pathOf s)=false
 refine .inr ⟨y,?_,c.1,Ny,c.2⟩
 unfold ax at A4
 split at A4
 exact A4
 rcases Y1.1 A4 with h | h
 exact h
 have:=c.1
 rw[YZ.1 h]at this;simp[bM]at this
 refine .inl ⟨_,hm,⟨s,0⟩,?_,rfl⟩
 unfold ba
 rw[if_neg c]
 exact List.mem_append_right _ (YZ.2 rfl)
variable {w:List Pg} {n:BL} {c9:List BL}
theorem CI.cS{l:List BL}{s:BL}{t:j8}(h:CI w c9 (s::l) t)(hs:fI w c9 t.lk s):CI w c9 l (ak t s):=by
 by_cases hr:dq t.se s
 case neg=>
  have e3:ct t.se s=t.se:=if_neg hr
  have e4:aQ t.na t.hs t.se s=t.hs:=if_neg hr
  have:ak t s=t:=by unfold ak;rw[e3,e4]
  rw[this]
  have key:t.se.length<60->∀ x,az x=true->x∈t.se\/x∈s::l->x∈t.se\/x∈l:=fun hl x ha c=>by
   rcases c with c | c
   exact .inl c
   rcases List.mem_cons.1 c with e | c
   subst e
   exact .inl (Decidable.byContradiction fun q=>hr ⟨ha,hl,q⟩)
   exact .inr c
  exact⟨h.gr,h.kn,h.kd,h.sr,fun hl=>⟨fun x hx ha=>key hl x ha ((h.he hl).1 x hx ha),fun k hk x hx ha=>key hl x ha ((h.he hl).2 k hk x hx ha)⟩,h.di,h.ro⟩
 have e3:(ak t s).se=t.se++[s]:=if_pos hr
 have key:(t.se++[s]).length<60->t.se.length<60:=fun h=>by rw[YT,Zj]at h;omega
 have O1:∀ x,x∈t.se\/x∈s::l->x∈t.se++[s]\/x∈l:=fun x c=>by
  rcases c with c | c
  exact .inl (List.mem_append_left _ c)
  rcases List.mem_cons.1 c with e | c
  exact .inl (List.mem_append_right _ (YZ.2 e))
  exact .inr c
 refine⟨fun z hz hk=>?_,fun z hz hk=>?_,h.kd,fun x hx=>?_,fun hl=>?_,fun x hx=>?_,h.ro⟩
 obtain⟨y,y1,y2,y3,y4⟩:=gG hz hk
 rw[<- y4,<- y2];exact h.gr y y1 y3
 obtain⟨y,y1,y2,y3,y4⟩:=gG hz hk
 rw[<- y2];exact h.kn y y1 y3
 rw[e3]at hx
 rcases Y1.1 hx with hx | hx
 exact h.sr x hx
 rw[YZ.1 hx];exact hs
 rw[e3]at hl ⊢
 exact⟨fun x hx ha=>O1 x ((h.he (key hl)).1 x hx ha),fun k hk x hx ha=>O1 x ((h.he (key hl)).2 k hk x hx ha)⟩
 rw[e3]at hx
 rcases Y1.1 hx with hx | hx
 rcases h.di x hx with ⟨y,y1,q,q1,q2⟩ | c
 obtain⟨z,z1,z2⟩:=oJ (s:=s) y1 q1
 exact .inl ⟨z,z1,q,z2,q2⟩
 exact .inr c
 rw[YZ.1 hx]
 rcases nC hr with c | ⟨y,y1,y2,y3,y4⟩
 exact .inl c
 rw[h.gr y y1 y2,y3]at y4
 exact .inr (.inl y4)
theorem CI.bT:∀ {l:List BL} {t:j8},CI w c9 l t->(∀ s,s∈l->fI w c9 t.lk s)->CI w c9 [] (l.foldl ak t)
 | [],_,h,_=>h
 | s::l,t,h,hs=>CI.bT (l:=l) (t:=ak t s) (h.cS (hs s Z8)) fun x hx=>hs x (List.mem_cons_of_mem _ hx)
theorem pf{L:List l7}{l:l7}{d:BL}(h:bb L d=true):bb (L++[l]) d=true:=by
 unfold bb at *
 rw[List.any_append,h,Bool.true_or]
theorem CI.call{K6:List BL} {t:j8} {i:Nat} {y':j9} {l:l7} {a7:Int} (h:CI w c9 [] t) (hi:i<t.hs.length)
 (hg:y'.kn=true->y'.gr=bK w t.na y'.na/\(bb (t.lk++[l]) y'.na=true\/3<=(cls (t.lk++[l]) y'.na).length)) (hk:l.ki≠3->(af w l.ad 2).1=l.ki) (hp:MZ t.lk l->l.ad∈t.se/\∀ x,x∈eA w l.ad->x∈K6)
 (ht:∀ x,x∈(t.hs.getD i e9).td->(∃ x',x'∈y'.td/\x'.ad=x.ad)\/aD (bK w t.na (ab x.ad)).ru (pathOf x.ad)=false\/(MZ t.lk l/\l.ad=x.ad)\/(af w x.ad 2).1=3):
 CI w c9 K6 ⟨t.na,a7,t.hs.set i y',t.se,t.lk++[l]⟩:=by
 refine⟨fun z hz MM=>?_,fun z hz MM=>?_,fun q hq=>?_,fun s hs=>pr (h.sr s hs),fun hl=>⟨fun s hs ha=>?_,fun k hk x hx ha=>?_⟩,fun s hs=>?_,fun k hk=>?_⟩
 rcases bQ hz with e | e
 subst e;exact(hg MM).1
 exact h.gr z e MM
 rcases bQ hz with e | e
 subst e;exact(hg MM).2
 rcases h.kn z e MM with c | c
 exact .inl (pf c)
 refine .inr ?_
 show 3<=(cls (t.lk++[l]) z.na).length
 rw[dy,YT];omega
 rcases Y1.1 hq with hq | hq
 exact h.kd q hq
 rw[YZ.1 hq];exact hk
 rcases (h.he hl).1 s hs ha with c | c
 exact .inl c
 simp at c
 have hx:x∈eA w ((t.lk++[l]).getD k l4).ad:=hx
 rcases jY hk with c | ⟨c1,c2⟩
 rw[(dD c).2]at hx
 rcases (h.he hl).2 k c x hx ha with c | c
 exact .inl c
 simp at c
 rw[c1,(fk c2).2]at hx
 exact .inr ((hp c2).2 x hx)
 rcases h.di s hs with ⟨y,y1,x,x1,x2⟩ | c | ⟨k,k1,k2⟩ | c
 obtain⟨j,hj,e⟩:=Zk.1 y1
 by_cases c:i=j
 have e2:t.hs.getD i e9=y:=by
  rw[c,YQ,YX hj];exact e
 rw[e2]at ht
 subst x2
 rcases ht x x1 with ⟨x',c1,c2⟩ | c | ⟨c1,c2⟩ | c
 exact .inl ⟨y',Zk.2 ⟨i,by rw[List.length_set];exact hi,List.getElem_set_self ..⟩,x',c1,c2⟩
 exact .inr (.inl c)
 exact .inr (.inr (.inl ⟨_,(fk c1).1,by rw[(fk c1).2];exact c2⟩))
 exact .inr (.inr (.inr c))
 exact .inl ⟨y,Zk.2 ⟨j,by rw[List.length_set];exact hj,by rw[List.getElem_set_ne c];exact e⟩,x,x1,x2⟩
 exact .inr (.inl c)
 exact .inr (.inr (.inl ⟨k,(dD k1).1,by rw[(dD k1).2];exact k2⟩))
 exact .inr (.inr (.inr c))
 show fI w c9 ((t.lk++[l]).take k) ((t.lk++[l]).getD k l4).ad
 rcases jY hk with c | ⟨c1,c2⟩
 rw[(dD c).2,List.take_append_of_le_length (Nat.le_of_lt c.1)]
 exact h.ro k c
 rw[c1,(fk c2).2,List.take_left]
 exact h.sr _ (hp c2).1
end
section
variable {w:List Pg} {n:BL} {c9:List BL}
def dF(y:j9):Nat:=(if y.kn=true then 0 else 1)+y.td.length
structure NI (t:j8):Prop where
 VV:t.lk.length+(t.hs.map dF).sum=t.se.length+t.hs.length
 PW:∀ y,y∈t.hs->y.kn=false->y.td≠[]
theorem oS{l:List j9}{i:Nat}{a:j9}(hi:i<l.length):((l.set i a).map dF).sum+dF (l.getD i e9)=(l.map dF).sum+dF a:=by
 induction l generalizing i with
 | nil=>simp at hi
 | cons b l ih=>
   cases i with
   | zero=>simp;omega
   | succ i=>
     have:=ih (i:=i) (by simpa using hi)
     simp only[List.set_cons_succ,Zi,List.sum_cons,List.getD_cons_succ]at *
     omega
theorem NI.cS{t:j8}{s:BL}(h:NI t)(hk:∀ y,y∈t.hs->y.kn=false):NI (ak t s)/\∀ y,y∈(ak t s).hs->y.kn=false:=by
 have QD:∀ y,y∈(ak t s).hs->y.kn=false:=fun y hy=>by
  cases e:y.kn with
  | false=>rfl
  | true=>
    obtain⟨y0,y1,_,y3,_⟩:=gG hy e
    rw[hk y0 y1]at y3;cases y3
 refine⟨?_,QD⟩
 by_cases hr:dq t.se s
 case neg=>
  have e3:ct t.se s=t.se:=if_neg hr
  have e4:aQ t.na t.hs t.se s=t.hs:=if_neg hr
  have:ak t s=t:=by unfold ak;rw[e3,e4]
  rw[this];exact h
 have e3:(ak t s).se=t.se++[s]:=if_pos hr
 have e4:(ak t s).hs=(ax t.hs (ab s) t.na).set (r7 t.hs (ab s)) (ba ((ax t.hs (ab s) t.na).getD (r7 t.hs (ab s)) e9) s):=if_pos hr
 have hlt:=cK t.hs (ab s) t.na
 have hin:(∀ y,y∈ax t.hs (ab s) t.na->y.kn=false/\(y.td≠[]\/y=bM (ab s) t.na))/\((ax t.hs (ab s) t.na).map dF).sum+t.hs.length=(t.hs.map dF).sum+(ax t.hs (ab s) t.na).length:=by
  unfold ax
  split
  exact⟨fun y hy=>⟨hk y hy,.inl (h.PW y hy (hk y hy))⟩,rfl⟩
  refine⟨fun y hy=>?_,?_⟩
  rcases Y1.1 hy with hy | hy
  exact⟨hk y hy,.inl (h.PW y hy (hk y hy))⟩
  exact⟨by rw[YZ.1 hy];rfl,.inr (YZ.1 hy)⟩
  simp only[Zf,List.sum_append,YT,Zi,List.map_nil,List.sum_cons,List.sum_nil,Zj]
  simp[dF,bM];omega
 have A4:=(hin.1 _ (ay (d:=e9) hlt)).1
 have hp:=oS (a:=ba ((ax t.hs (ab s) t.na).getD (r7 t.hs (ab s)) e9) s) hlt
 have e5:dF (ba ((ax t.hs (ab s) t.na).getD (r7 t.hs (ab s)) e9) s)=dF ((ax t.hs (ab s) t.na).getD (r7 t.hs (ab s)) e9)+1:=by
  unfold ba
  rw[if_neg (fun c=>by rw[A4]at c;cases c.1)]
  simp[dF];omega
 refine⟨?_,fun y hy _=>?_⟩
 have:=h.VV
 have:=hin.2
 rw[e3,e4,List.length_set,YT,Zj]
 show t.lk.length+_=_
 omega
 rw[e4]at hy
 obtain⟨j,hj,e⟩:=Zk.1 hy
 rw[List.length_set]at hj
 by_cases c:r7 t.hs (ab s)=j
 subst c
 rw[List.getElem_set_self]at e
 rw[<- e]
 unfold ba
 rw[if_neg (fun c=>by rw[A4]at c;cases c.1)]
 simp
 rw[List.getElem_set_ne c]at e
 rcases (hin.1 y (by rw[<- e];exact List.getElem_mem _)).2 with q | q
 exact q
 exfalso
 unfold ax at hj e
 split at hj
 rename_i c2
 simp only[c2,if_true]at e
 have:=h.PW y (by rw[<- e];exact List.getElem_mem _) (by rw[q];rfl)
 rw[q]at this;exact this rfl
 rename_i c2
 simp only[c2,if_false]at e
 have hle:r7 t.hs (ab s)<=t.hs.length:=List.findIdx_le_length
 rw[YT,Zj]at hj
 have Qn:j<t.hs.length:=Z9
 rw[List.getElem_append_left Qn]at e
 have:=h.PW y (by rw[<- e];exact List.getElem_mem _) (by rw[q];rfl)
 rw[q]at this;exact this rfl
theorem NI.bT:∀ {l:List BL} {t:j8},NI t->(∀ y,y∈t.hs->y.kn=false)->NI (l.foldl ak t)
 | [],_,h,_=>h
 | s::l,t,h,hk=>NI.bT (l:=l) (t:=ak t s) (h.cS hk).1 (h.cS hk).2
end
section
variable {P:Program}
end
def eg(w:List Pg)(t:j8):Option j8:=if (an w&&aC t)=true/\G0 t=true then some (B5 w t) else none
theorem CK{l:List j9}{i:Nat}(h:i<l.length):(l.map cC).getD i false=cC (l.getD i e9):=by
 rw[YQ,YQ,List.getElem?_map,YX h];rfl
theorem IC{w:List Pg}{t:j8}(h:G0 t=false):eg w t=none:=if_neg fun c=>by rw[h]at c;cases c.2
theorem vL{w:List Pg}{t:j8}(h1:an w=true)(h2:aC t=true)(h:G0 t=true):eg w t=some (B5 w t):=if_pos ⟨by rw[h1,h2];rfl,h⟩
theorem Ja{w:List Pg}{t:j8}(h:(an w&&aC t)=false):eg w t=none:=if_neg fun c=>by rw[h]at c;cases c.1
theorem md1{w:List Pg}{t:j8}(h:((L2 w (1:Int).toNat t:Nat):Int)=0):G0 t=false:=by
 cases e:G0 t with
 | false=>rfl
 | true=>
   have:L2 w 1 t=1:=by rw[L2,if_pos e];rfl
   have h:((L2 w 1 t:Nat):Int)=0:=h
   omega
theorem md2{w:List Pg}{t:j8}(h: ¬ ((L2 w (1:Int).toNat t:Nat):Int)=0):G0 t=true:=by
 cases e:G0 t with
 | true=>rfl
 | false=>
   have:L2 w 1 t=0:=by rw[L2,if_neg (by rw[e];decide)]
   have h: ¬ ((L2 w 1 t:Nat):Int)=0:=h
   omega
theorem rn1{w:List Pg}{t:j8}(h:G0 t=true):B4 w 1 t=B5 w t:=by rw[B4,if_pos h];rfl
theorem xR{t:j8}{i:Nat}{b q:Int}(h:i<t.hs.length)(h2:b=(C8 t i).1)(h3:q=(C8 t i).2)(c:cC (t.hs.getD i e9)=true/\(b<0\/max (t.hs.getD i e9).re t.a7<q)):C8 t (i+1)=((i:Int),max (t.hs.getD i e9).re t.a7):=yx (n:=t.na) (se:=t.se) (ls:=t.lk) h h2 h3 c
theorem ya{t:j8}{i:Nat}{b q:Int}(h:i<t.hs.length)(h2:b=(C8 t i).1)(h3:q=(C8 t i).2)(c:cC (t.hs.getD i e9)=true->(0<=b/\q<=max (t.hs.getD i e9).re t.a7)):C8 t (i+1)=C8 t i:=zW (n:=t.na) (se:=t.se) (ls:=t.lk) h h2 h3 c
theorem FT(y:j9):PF Tryz.prog 78 [fa y.na y.re y.kn y.gr.na y.gr.ru y.gr.wa y.tr y.td] [] (fun r h=>r=(bV (cC y))/\h=[]):=by
 refine av (N:=7) (rs:=[.tmp 2]) Tryz.func78
  (.bx (fun g1=>.q 1<|.r 5 [.a8]<|.nil))
  (∀ g1:Nat,Z g1 7/\Q (bV (s9 (((y.td.map ai).length:Nat):Int) 0)) (bV (cC y))) ?_
 intro g1
 refine⟨rfl,?_⟩
 unfold Q
 rw[wv]
def AN(y:j9):o6 Tryz.prog:={ f:=78,args:=[fa y.na y.re y.kn y.gr.na y.gr.ru y.gr.wa y.tr y.td],H:=[],pre:=True,res:=bV (cC y),H':=[],ok:=fun _=>FT y }
theorem FK(l:List j9)(hl:l.length<=1000000):PF Tryz.prog 114 [.sl false (l.map bR),.lit (.func (.func 78) #[] #[])] [] (fun r h=>r=(iV (dm (l.map cC) true))/\h=[]):=by
 refine av (N:=19) (rs:=[.tmp 4]) Tryz.func114
  (.q 1<|.q 3<|.loop (Nat) (fun (i:Nat)=>⟨[(0,.sl false (l.map bR)),(1,.lit (.func (.func 78) #[] #[])),(6,.sl false (l.map bR)),(7,iN l.length),(8,iN i)],[]⟩) (fun (i:Nat)=>i<=l.length/\∀ j,j<i->cC (l.getD j e9)=false) (fun (i:Nat)=>l.length-i) (fun (i:Nat)=>.q 1<|.br (.q 2<|.r 5 [fa ((l.getD i e9).na) ((l.getD i e9).re) ((l.getD i e9).kn) ((l.getD i e9).gr.na) ((l.getD i e9).gr.ru) ((l.getD i e9).gr.wa) ((l.getD i e9).tr) ((l.getD i e9).td)]<|.c (AN (l.getD i e9)) []<|.br (.q 2<|.nil) (.q 2<|.nil)) (.q 1<|.nil)))
  ((fun v1:V=>((∃ j6:Nat,(j6<=l.length/\∀ j,j<j6->cC (l.getD j e9)=false)/\E v1/\E (.lit (.func (.func 78) #[] #[]))/\E v1/\Q (iN ((l.map bR).length)) (iN l.length)/\Q (iN 0) (iN j6)/\True)/\∀ i:Nat,(i<=l.length/\∀ j,j<i->cC (l.getD j e9)=false)->(fun v2:j9=>Br (r9 (i:Int) (l.length:Int)) (Ex (i:Int) (l.map bR) (fa (v2.na) (v2.re) (v2.kn) (v2.gr.na) (v2.gr.ru) (v2.gr.wa) (v2.tr) (v2.td))/\True/\(AN v2).sm/\(True)/\Br (cC v2) (Q (iN i) (iV (dm (l.map cC) true))) (m8 ((i:Int)+1)/\∃ b7:Nat,(b7<=l.length/\∀ j,j<b7->cC (l.getD j e9)=false)/\(l.length-b7<l.length-i)/\E v1/\E (.lit (.func (.func 78) #[] #[]))/\E v1/\E (iN l.length)/\Q (iN (i+1)) (iN b7)/\True)) (Q (iV (-1)) (iV (dm (l.map cC) true)))) (l.getD i e9))) (.sl false (l.map bR))) ?_
 refine⟨⟨0,?_,rfl,rfl,rfl,Z4,rfl,trivial⟩,?_⟩
 simp
 rintro i ⟨h1,h2⟩
 refine bI (fun j7=>?_) fun j7=>?_
 refine⟨⟨Z9,aj (d:=e9) Z9⟩,trivial,rfl,trivial,?_⟩
 refine bI (fun l6=>?_) fun l6=>?_
 unfold Q
 rw[mu (i:=i) (by rw[Y2];omega) (by rw[CK Z9];exact l6) (fun j hj=>by rw[CK Z9];rw[h2 j hj];decide)]
 refine⟨Z9,?_⟩
 refine⟨i+1,?_,?_,rfl,rfl,rfl,rfl,rfl,trivial⟩
 exact⟨Z9,bS h2 l6⟩
 exact Z1
 unfold Q
 rw[lH (fun j hj=>by rw[Y2]at hj;rw[CK hj];rw[h2 j Z9];decide)]
def AJ(l:List j9):o6 Tryz.prog:={ f:=114,args:=[.sl false (l.map bR),.lit (.func (.func 78) #[] #[])],H:=[],pre:=(l.length<=1000000),res:=iV (dm (l.map cC) true),H':=[],ok:=fun h=>FK l h }
theorem FD(l:List j9)(hl:l.length<=1000000):PF Tryz.prog 77 [.sl false (l.map bR),.lit (.func (.func 78) #[] #[])] [] (fun r h=>r=(bV (l.any cC))/\h=[]):=by
 refine av (N:=9) (rs:=[.tmp 4]) Tryz.func77
  (.q 1<|.q 2<|.c (AJ l) []<|.q 2<|.nil)
  ((AJ l).sm/\((l.length<=1000000))/\Q (bV (z6 (dm (l.map cC) true) 0)) (bV (l.any cC))) ?_
 refine⟨rfl,Z5,?_⟩
 unfold Q
 refine Zq bV ?_
 show decide (dm (l.map cC) true>=0)=_
 rw[show decide (dm (l.map cC) true>=0)=(l.map cC).contains true from mr _ _]
 rw[Za];simp
def BC(l:List j9):o6 Tryz.prog:={ f:=77,args:=[.sl false (l.map bR),.lit (.func (.func 78) #[] #[])],H:=[],pre:=(l.length<=1000000),res:=bV (l.any cC),H':=[],ok:=fun h=>FD l h }
theorem Jh(t:j8)(hh:t.hs.length<=1000000):PF Tryz.prog 43 [bB t.na t.a7 t.hs t.se t.lk] [] (fun r h=>r=(bV (!(t.hs.any cC)))/\h=[]):=by
 refine av (N:=7) (rs:=[.tmp 2]) Tryz.func43
  (.bx (fun g1=>.q 1<|.r 2 [.a8]<|.c (BC t.hs) []<|.q 2<|.nil))
  (∀ g1:Nat,Z g1 2/\(BC t.hs).sm/\((t.hs.length<=1000000))/\Q (bV (!(t.hs.any cC))) (bV (!(t.hs.any cC)))) ?_
 intro g1
 refine⟨rfl,rfl,Z5,?_⟩
 unfold Q
 rfl
def EK(t:j8):o6 Tryz.prog:={ f:=43,args:=[bB t.na t.a7 t.hs t.se t.lk],H:=[],pre:=(t.hs.length<=1000000),res:=bV (!(t.hs.any cC)),H':=[],ok:=fun h=>Jh t h }
theorem As(t:j8)(ht:w8 t):PF Tryz.prog 17 [bB t.na t.a7 t.hs t.se t.lk] [] (fun r h=>r=(bV (aC t&&!(t.hs.any cC)))/\h=[]):=by
 refine av (N:=9) (rs:=[.tmp 2]) Tryz.func17
  (.bx (fun g1=>.q 1<|.r 1 [.a8]<|.c (dP t) []<|.r 2 [.a8]<|.cg (EK t)<|.q 2<|.nil))
  (∀ g1:Nat,Z g1 0/\(dP t).sm/\((w8 t))/\Gd ((aC t)==true) (Z g1 0)/\Gd ((aC t)==true) (((t.hs.length<=1000000))/\(EK t).sm)/\Pk (aC t) ((aC t)==true) true/\Q (bV ((aC t)&&(!(t.hs.any cC)))) (bV (aC t&&!(t.hs.any cC)))) ?_
 intro g1
 refine⟨rfl,rfl,ht,fun hG=>rfl,fun hG=>⟨by(try simp only[nb]at hG);have:=ht.h;omega,rfl⟩,⟨fun h=>by rw[h] <;> rfl,fun _=>rfl⟩,?_⟩
 unfold Q
 rfl
def uh(t:j8):o6 Tryz.prog:={ f:=17,args:=[bB t.na t.a7 t.hs t.se t.lk],H:=[],pre:=(w8 t),res:=bV (aC t&&!(t.hs.any cC)),H':=[],ok:=fun h=>As t h }
abbrev fV(w:List Pg)(t:j8)(ea:Addr):V:=.tup [bz ((oT (eg w t)).na) ((oT (eg w t)).a7) ((oT (eg w t)).hs) ((oT (eg w t)).se) ((oT (eg w t)).lk),bV ((eg w t).isSome)]
theorem Af(w:List Pg)(t:j8)(ea:Addr)(hw:w.length<=30)(hz:∀ i,m9 (w.getD i m4))(ht:w8 t)(hh:t.hs.length<=900):PF Tryz.prog 16 [bZ w,bB t.na t.a7 t.hs t.se t.lk] [(9000,(0,.lit (.iface 252 (.pointer (some ea)))))] (fun r h=>r=(fV w t ea)/\h=[(9000,(0,.lit (.iface 252 (.pointer (some ea)))))]):=by
 refine av (N:=28) (rs:=[.cell 4 30,.tmp 5]) Tryz.func16
  (.bx (fun g3=>.al eR (fun g4=>.q 1<|.r 2 [.a8]<|.sp (an w&&aC t) (.cx (lB w t) [(1001,11),(1000,3011)] (fun (w3:Nat×Nat)=>.q 5<|.q 2<|.h (.o4 15 (bV false))<|.q 1<|.gt<|.q 1<|.gt<|.c (sq t.na t.a7 t.hs t.se t.lk w3.2 w3.1 ea w (1:Int)) [(1001,11),(1000,3011),(9000,9000)]<|.gt<|.q 2<|.br (.bd eR<|.st none<|.q 1<|.h (.y7 (.key 4) [2] 8)<|.h (.y7 (.key 4) [3] 1)<|.h (.y7 (.key 4) [4] 3)<|.nil) (.r 5 [.a8]<|.mv<|.st none<|.q 1<|.nil))) (.c (kj w t) []<|.q 5<|.q 2<|.h (.o4 15 (bV true))<|.q 1<|.gf (.a8)<|.gf (.a8)<|.gf (bV false)<|.q 1<|.br (.bd eR<|.st none<|.q 1<|.h (.y7 (.key 4) [2] 8)<|.h (.y7 (.key 4) [3] 1)<|.h (.y7 (.key 4) [4] 3)<|.nil) (.nil)))))
  ((fun v1:j8=>(fun v2:V=>(fun v3:V=>(∀ g3:Nat,∀ g4:Nat,Z g3 0/\((an w&&aC t)=true->(lB w t).sm/\((w.length<=30)/\(∀ i,m9 (w.getD i m4))/\(w8 t)/\(an w=true)/\(aC t=true))/\∀ w3:Nat×Nat,(True)->Q (bV (!true)) (bV false)/\(true=true)/\(true=true)/\(sq t.na t.a7 t.hs t.se t.lk w3.2 w3.1 ea w (1:Int)).sm/\Er w3.1 (.agg [.mp (w.map E9),.ptr (.key 1000) [] w3.2 0])/\Er w3.2 (bz t.na t.a7 t.hs t.se t.lk)/\Er 0 v2/\((an w=true)/\(∀ i,m9 (w.getD i m4))/\(Nl (⟨t.na,t.a7,t.hs,t.se,t.lk⟩:j8))/\(0<=(1:Int)/\(1:Int)<=1000))/\(true=true)/\Pk false true true/\Br (false||(o9 (((L2 w (1:Int).toNat (⟨t.na,t.a7,t.hs,t.se,t.lk⟩:j8)):Nat):Int) 0)) (Z g4 0/\(g4=g4)/\Q v3 (fV w t ea)/\Er 0 v2) (True/\Z w3.1 1/\True/\Z w3.2 0/\Z g4 0/\(g4=g4)/\Q (.tup [bz t.na (v1.a7) (v1.hs) (v1.se) (v1.lk),bV true]) (fV w t ea)/\Er 0 v2))/\((an w&&aC t)=false->(kj w t).sm/\((w.length<=30)/\(∀ i,m9 (w.getD i m4))/\(w8 t)/\((an w&&aC t)=false))/\Q (bV (!false)) (bV true)/\(false=false)/\(false=false)/\(false=false)/\Pk true true false/\Br (true||false) (Z g4 0/\(g4=g4)/\Q v3 (fV w t ea)/\Er 0 v2) (False)))) (.tup [.agg [sV [],iN 0,.ow 8 ([].map aB),.ow 1 ([].map sV),.ow 3 ([].map aO)],bV false])) (.lit (.iface 252 (.pointer (some ea))))) (B4 w (1:Int).toNat (⟨t.na,t.a7,t.hs,t.se,t.lk⟩:j8))) ?_
 intro g3
 intro g4
 refine⟨rfl,?_⟩
 refine⟨fun O7=>?_,fun O7=>?_⟩
 have M3:=O7
 try simp only[nb]at M3
 refine⟨rfl,⟨hw,hz,ht,M3.1,M3.2⟩,?_⟩
 intro w3 O4
 refine⟨by unfold Q;rfl,rfl,rfl,rfl,rfl,rfl,rfl,⟨M3.1,hz,nu ht hh M3.2,Z9⟩,rfl,⟨fun _=>rfl,fun _=>rfl⟩,?_⟩
 refine bI (fun j7=>?_) fun j7=>?_
 refine⟨rfl,?_⟩
 refine⟨rfl,?_,rfl⟩
 unfold Q fV
 rw[IC (md1 (j7.resolve_left Z6))];rfl
 refine⟨trivial,rfl,trivial,rfl,rfl,?_⟩
 refine⟨rfl,?_,rfl⟩
 unfold Q fV
 have hg:=md2 j7.2
 rw[vL M3.1 M3.2 hg]
 show V.tup [V.agg [sV t.na,iV (B4 w 1 t).a7,V.ow 8 ((B4 w 1 t).hs.map aB),V.ow 1 ((B4 w 1 t).se.map sV),V.ow 3 ((B4 w 1 t).lk.map aO)],bV true]=_
 rw[rn1 hg]
 exact Zq (fun s:BL=>V.tup [V.agg [sV s,iV (B5 w t).a7,V.ow 8 ((B5 w t).hs.map aB),V.ow 1 ((B5 w t).se.map sV),V.ow 3 ((B5 w t).lk.map aO)],bV true]) (zD w t).symm
 · have M3:=O7
   try simp only[nb]at M3
   refine⟨rfl,⟨hw,hz,ht,O7⟩,by unfold Q;rfl,rfl,rfl,rfl,⟨fun _=>rfl,fun h=>by rw[h] <;> rfl⟩,?_⟩
   refine bI (fun l6=>?_) fun l6=>?_
   refine⟨rfl,?_⟩
   refine⟨rfl,?_,rfl⟩
   unfold Q fV
   rw[Ja O7];rfl
   · all_goals (first | exact absurd l6 Z6 | simp_all)
def vf(w:List Pg)(t:j8)(ea:Addr):o6 Tryz.prog:={ f:=16,args:=[bZ w,bB t.na t.a7 t.hs t.se t.lk],H:=[(9000,(0,.lit (.iface 252 (.pointer (some ea)))))],pre:=(w.length<=30)/\(∀ i,m9 (w.getD i m4))/\(w8 t)/\(t.hs.length<=900),res:=fV w t ea,H':=[(9000,(0,.lit (.iface 252 (.pointer (some ea)))))],ok:=fun h=>Af w t ea h.1 h.2.1 h.2.2.1 h.2.2.2 }
theorem EG(t:j8)(gt gb:Nat)(y:j9):PF Tryz.prog 80 [.ep (fa y.na y.re y.kn y.gr.na y.gr.ru y.gr.wa y.tr y.td),.ptr (.key 1001) [] gb 0] [(1001,(gb,.ptr (.key 1000) [] gt 0)),(1000,(gt,bB t.na t.a7 t.hs t.se t.lk))] (fun r h=>r=(.tup [iV (max y.re t.a7),bV (cC y)])/\h=[(1001,(gb,.ptr (.key 1000) [] gt 0)),(1000,(gt,bB t.na t.a7 t.hs t.se t.lk))]):=by
 refine av (N:=20) (rs:=[.tmp 3,.tmp 4]) Tryz.func80
  (.q 2<|.dx 16 [0,1,2,3,4,5,6,7,8,9,10,11,12,13,14,15] [(3,⟨false,[],some [],[8],[]⟩),(4,⟨false,[],some [1001],[9],[]⟩),(7,⟨false,[],some [1000],[12],[]⟩),(12,⟨false,[],some [],[17],[]⟩)] []<|.q 1<|.q 1<|.q 1<|.q 1<|.r 1 [.a8]<|.q 1<|.q 1<|.r 1 [.a8]<|.mm<|.q 1<|.q 1<|.q 1<|.q 1<|.q 1<|.q 1<|.q 1<|.q 1<|.nil)
  (True/\True/\Z gb 0/\True/\Z gt 1/\(IntKind.i64=IntKind.i64)/\True/\True/\Q (.tup [iV (max y.re t.a7),bV (s9 (((y.td.map ai).length:Nat):Int) 0)]) (.tup [iV (max y.re t.a7),bV (cC y)])/\Er gb (.ptr (.key 1000) [] gt 0)/\Er gt (bB t.na t.a7 t.hs t.se t.lk)) ?_
 refine⟨trivial,trivial,rfl,trivial,rfl,rfl,trivial,trivial,?_⟩
 refine⟨?_,rfl,rfl⟩
 unfold Q
 rw[wv]
def zO(t:j8)(gt:Nat)(gb:Nat)(y:j9):o6 Tryz.prog:={ f:=80,args:=[.ep (fa y.na y.re y.kn y.gr.na y.gr.ru y.gr.wa y.tr y.td),.ptr (.key 1001) [] gb 0],H:=[(1001,(gb,.ptr (.key 1000) [] gt 0)),(1000,(gt,bB t.na t.a7 t.hs t.se t.lk))],pre:=True,res:=.tup [iV (max y.re t.a7),bV (cC y)],H':=[(1001,(gb,.ptr (.key 1000) [] gt 0)),(1000,(gt,bB t.na t.a7 t.hs t.se t.lk))],ok:=fun _=>EG t gt gb y }
abbrev jy(t:j8)(gt:Nat)(gb:Nat):V:=.tup [iV (max (C8 t t.hs.length).1 0),iV ((C8 t t.hs.length).2),bV (z6 (C8 t t.hs.length).1 0)]
theorem wi(t:j8)(gt gb:Nat)(hl:t.hs.length<=1000):PF Tryz.prog 79 [.sl false (t.hs.map bR),.lit (.func (.func 80) #[] #[.pointer (some ⟨gb,0,none⟩)])] [(1001,(gb,.ptr (.key 1000) [] gt 0)),(1000,(gt,bB t.na t.a7 t.hs t.se t.lk))] (fun r h=>r=(jy t gt gb)/\h=[(1001,(gb,.ptr (.key 1000) [] gt 0)),(1000,(gt,bB t.na t.a7 t.hs t.se t.lk))]):=by
 refine av (N:=43) (rs:=[.tmp 4,.tmp 5,.tmp 6]) Tryz.func79
  (.q 3<|.q 2<|.q 3<|.loop (Nat×Int×Int) (fun (i,b,q)=>⟨[(0,.sl false (t.hs.map bR)),(1,.lit (.func (.func 80) #[] #[.pointer (some ⟨gb,0,none⟩)])),(7,iV b),(8,iV q),(13,iN t.hs.length),(14,iN i)],[(1001,(gb,.ptr (.key 1000) [] gt 0)),(1000,(gt,bB t.na t.a7 t.hs t.se t.lk))]⟩) (fun (i,b,q)=>i<=t.hs.length/\b=(C8 t i).1/\q=(C8 t i).2) (fun (i,b,q)=>t.hs.length-i) (fun (i,b,q)=>.q 1<|.br (.q 2<|.r 4 [fa ((t.hs.getD i e9).na) ((t.hs.getD i e9).re) ((t.hs.getD i e9).kn) ((t.hs.getD i e9).gr.na) ((t.hs.getD i e9).gr.ru) ((t.hs.getD i e9).gr.wa) ((t.hs.getD i e9).tr) ((t.hs.getD i e9).td)]<|.c (zO t gt gb (t.hs.getD i e9)) [(1001,1001),(1000,1000)]<|.q 5<|.q 10<|.br (.q 4<|.q 2<|.nil) (.q 2<|.nil)) (.q 1<|.mm<|.q 6<|.nil)))
  ((fun v1:V=>(fun v2:V=>((∃ x:Nat×Int×Int,match x with | (j6,M7,z7)=>(j6<=t.hs.length/\M7=(C8 t j6).1/\z7=(C8 t j6).2)/\E (.sl false (t.hs.map bR))/\E v1/\Q (iV (-1)) (iV M7)/\Q (iN 0) (iV z7)/\Q (iN ((t.hs.map bR).length)) (iN t.hs.length)/\Q (iN 0) (iN j6)/\Er gb v2/\Er gt (bB t.na t.a7 t.hs t.se t.lk)/\True)/\∀ x:Nat×Int×Int,match x with | (i,b,q)=>(i<=t.hs.length/\b=(C8 t i).1/\q=(C8 t i).2)->Br (r9 (i:Int) (t.hs.length:Int)) (Ex (i:Int) (t.hs.map bR) (fa ((t.hs.getD i e9).na) ((t.hs.getD i e9).re) ((t.hs.getD i e9).kn) ((t.hs.getD i e9).gr.na) ((t.hs.getD i e9).gr.ru) ((t.hs.getD i e9).gr.wa) ((t.hs.getD i e9).tr) ((t.hs.getD i e9).td))/\(zO t gt gb (t.hs.getD i e9)).sm/\Er gb v2/\Er gt (bB t.na t.a7 t.hs t.se t.lk)/\(True)/\Gd ((cC (t.hs.getD i e9))==true) (Pk (r9 b 0) true (((cC (t.hs.getD i e9))==true)&&((r9 b 0)==false)))/\Pk (cC (t.hs.getD i e9)) ((cC (t.hs.getD i e9))==true) true/\Br ((cC (t.hs.getD i e9))&&((r9 b 0)||(r9 (max (t.hs.getD i e9).re t.a7) q))) (m8 ((i:Int)+1)/\∃ x:Nat×Int×Int,match x with | (b7,B3,n9)=>(b7<=t.hs.length/\B3=(C8 t b7).1/\n9=(C8 t b7).2)/\(t.hs.length-b7<t.hs.length-i)/\E (.sl false (t.hs.map bR))/\E v1/\Q (iN i) (iV B3)/\Q (iV (max (t.hs.getD i e9).re t.a7)) (iV n9)/\E (iN t.hs.length)/\Q (iN (i+1)) (iN b7)/\Er gb v2/\Er gt (bB t.na t.a7 t.hs t.se t.lk)/\True) (m8 ((i:Int)+1)/\∃ x:Nat×Int×Int,match x with | (b7,B3,n9)=>(b7<=t.hs.length/\B3=(C8 t b7).1/\n9=(C8 t b7).2)/\(t.hs.length-b7<t.hs.length-i)/\E (.sl false (t.hs.map bR))/\E v1/\Q (iV b) (iV B3)/\Q (iV q) (iV n9)/\E (iN t.hs.length)/\Q (iN (i+1)) (iN b7)/\Er gb v2/\Er gt (bB t.na t.a7 t.hs t.se t.lk)/\True)) ((IntKind.i64=IntKind.i64)/\Q (.tup [iV (max b 0),iV q,bV (z6 b 0)]) (jy t gt gb)/\Er gb v2/\Er gt (bB t.na t.a7 t.hs t.se t.lk)))) (.ptr (.key 1000) [] gt 0)) (.lit (.func (.func 80) #[] #[.pointer (some ⟨gb,0,none⟩)]))) ?_
 refine⟨⟨(0, -1,0),?_,rfl,rfl,rfl,Z4,Z4,rfl,rfl,rfl,trivial⟩,?_⟩
 exact⟨Z8,rfl,rfl⟩
 rintro⟨i,b,q⟩ ⟨h1,h2,h3⟩
 refine bI (fun j7=>?_) fun j7=>?_
 refine⟨⟨Z9,aj (d:=e9) Z9⟩,rfl,rfl,rfl,trivial,fun hG=>⟨fun _=>rfl,fun h=>by rw[h];exact(YS _ _).mpr ⟨hG,rfl⟩⟩,⟨fun h=>by rw[h] <;> rfl,fun _=>rfl⟩,?_⟩
 refine bI (fun l6=>?_) fun l6=>?_
 refine⟨Z9,?_⟩
 refine⟨(i+1,(i:Int),max (t.hs.getD i e9).re t.a7),?_,?_,rfl,rfl,Z4,rfl,rfl,rfl,rfl,rfl,trivial⟩
 first | exact⟨Z9,by rw[xR Z9 h2 h3 l6],by rw[xR Z9 h2 h3 l6]⟩ | exact⟨Z9,by rw[ya Z9 h2 h3 l6];exact h2,by rw[ya Z9 h2 h3 l6];exact h3⟩
 exact Z1
 refine⟨Z9,?_⟩
 refine⟨(i+1,b,q),?_,?_,rfl,rfl,rfl,rfl,rfl,rfl,rfl,rfl,trivial⟩
 first | exact⟨Z9,by rw[xR Z9 h2 h3 l6],by rw[xR Z9 h2 h3 l6]⟩ | exact⟨Z9,by rw[ya Z9 h2 h3 l6];exact h2,by rw[ya Z9 h2 h3 l6];exact h3⟩
 exact Z1
 refine⟨rfl,?_⟩
 refine⟨?_,rfl,rfl⟩
 unfold Q jy
 obtain rfl:i=t.hs.length:=Z9
 rw[h2,h3]
def qz(t:j8)(gt:Nat)(gb:Nat):o6 Tryz.prog:={ f:=79,args:=[.sl false (t.hs.map bR),.lit (.func (.func 80) #[] #[.pointer (some ⟨gb,0,none⟩)])],H:=[(1001,(gb,.ptr (.key 1000) [] gt 0)),(1000,(gt,bB t.na t.a7 t.hs t.se t.lk))],pre:=(t.hs.length<=1000),res:=jy t gt gb,H':=[(1001,(gb,.ptr (.key 1000) [] gt 0)),(1000,(gt,bB t.na t.a7 t.hs t.se t.lk))],ok:=fun h=>wi t gt gb h }
theorem FB(t:j8)(gt:Nat)(hl:t.hs.length<=1000):PF Tryz.prog 44 [.ptr (.key 1000) [] gt 0] [(1000,(gt,bB t.na t.a7 t.hs t.se t.lk))] (fun r h=>r=(.tup [iN (m7 t),iV (s8 t),bV ((fv t).isSome)])/\h=[(1000,(gt,bB t.na t.a7 t.hs t.se t.lk))]):=by
 refine av (N:=26) (rs:=[.tmp 2,.tmp 3,.tmp 4]) Tryz.func44
  (.bx (fun g1=>.q 3<|.r 4 [.a8,.a8]<|.cu RW (fun _=>.c (qz t gt g1) [(1001,1),(1000,1000)]<|.q 7<|.q 6<|.br (.q 3<|.nil) (.q 5<|.nil))))
  ((fun v1:V=>(fun v2:Bool=>(fun v3:V=>(∀ g1:Nat,Z g1 0/\True/\Z gt 2/\((Value.func (.func 80) #[] #[.pointer (some ⟨g1,0,none⟩)]).oneCell'=true)/\∀ _:Unit,(qz t gt g1).sm/\Er g1 (.ptr (.key 1000) [] gt 0)/\Er gt v1/\((t.hs.length<=1000))/\Pk v2 true (v2==false)/\Br (v2||(s9 ((C8 t t.hs.length).2) 5000)) (Q (.tup [iN 0,iN 0,bV false]) v3/\Er gt v1) (Q (.tup [iV (max (C8 t t.hs.length).1 0),iV ((C8 t t.hs.length).2),bV true]) v3/\Er gt v1))) (.tup [iN (m7 t),iV (s8 t),bV ((fv t).isSome)])) (!(z6 (C8 t t.hs.length).1 0))) (bB t.na t.a7 t.hs t.se t.lk)) ?_
 intro g1
 refine⟨rfl,trivial,rfl,rfl,?_⟩
 intro _
 refine⟨rfl,rfl,rfl,hl,⟨fun _=>rfl,fun h=>by rw[h] <;> rfl⟩,?_⟩
 refine bI (fun j7=>?_) fun j7=>?_
 refine⟨?_,rfl⟩
 unfold Q
 rw[m7,s8,BB j7];rfl
 refine⟨?_,rfl⟩
 unfold Q
 rw[m7,s8,AL j7]
 rw[show max (C8 t t.hs.length).1 0=((C8 t t.hs.length).1.toNat:Int) from Z9];rfl
def Bf(t:j8)(gt:Nat):o6 Tryz.prog:={ f:=44,args:=[.ptr (.key 1000) [] gt 0],H:=[(1000,(gt,bB t.na t.a7 t.hs t.se t.lk))],pre:=(t.hs.length<=1000),res:=.tup [iN (m7 t),iV (s8 t),bV ((fv t).isSome)],H':=[(1000,(gt,bB t.na t.a7 t.hs t.se t.lk))],ok:=fun h=>FB t gt h }
theorem Ar(t:j8)(ht:w8 t)(hk:aC t=true):PF Tryz.prog 18 [bB t.na t.a7 t.hs t.se t.lk] [] (fun r h=>r=(.tup [iN (m7 t),iV (s8 t),bV ((fv t).isSome)])/\h=[]):=by
 refine av (N:=12) (rs:=[.tmp 2,.tmp 3,.tmp 4]) Tryz.func18
  (.bx (fun g1=>.q 3<|.r 1 [.a8]<|.c (dP t) []<|.q 1<|.br (.q 3<|.nil) (.c (Bf t g1) [(1000,1)]<|.q 6<|.nil)))
  ((fun v1:V=>(∀ g1:Nat,Z g1 0/\(dP t).sm/\((w8 t))/\Br (!(aC t)) (Q (.tup [iN 0,iN 0,bV false]) v1) ((Bf t g1).sm/\Er g1 (bB t.na t.a7 t.hs t.se t.lk)/\((t.hs.length<=1000))/\Q v1 v1))) (.tup [iN (m7 t),iV (s8 t),bV ((fv t).isSome)])) ?_
 intro g1
 refine⟨rfl,rfl,ht,?_⟩
 refine bI (fun j7=>?_) fun j7=>?_
 rw[hk]at j7;cases j7
 refine⟨rfl,rfl,ht.h,?_⟩
 unfold Q
 rfl
def vz(t:j8):o6 Tryz.prog:={ f:=18,args:=[bB t.na t.a7 t.hs t.se t.lk],H:=[],pre:=(w8 t)/\(aC t=true),res:=.tup [iN (m7 t),iV (s8 t),bV ((fv t).isSome)],H':=[],ok:=fun h=>Ar t h.1 h.2 }
theorem Lc{w:List Pg}{t:j8}(h:(eg w t).isSome=true):G0 t=true:=by
 unfold eg at h
 split at h
 rename_i c;exact c.2
 cases h
theorem LY{w:List Pg}{t:j8}(hw:an w=true)(ho:aC t=true)(h:(eg w t).isSome=false):G0 t=false:=by
 cases e:G0 t with
 | false=>rfl
 | true=>rw[vL hw ho e]at h;cases h
theorem GW{t:j8}(h:∀ y,y∈t.hs->y.td=[]):t.hs.any cC=false:=by
 rw[List.any_eq_false]
 intro y hy
 rw[show cC y=decide (y.td≠[]) from rfl,h y hy];simp
theorem JF{w:List Pg}{n:BL}{p:List BL}(hz:∀ i,m9 (w.getD i m4))(hn:n.length<=1000)(hl:p.length<=400)(ha:∀ x,x∈p->x.length<=1000/\m5 x)(h:(aH n p).isSome=true/\(bp w (oT (aH n p)) 0).isSome=true):WQ w n 0 (oT (bp w (oT (aH n p)) 0))/\an w=true:=by
 obtain⟨t,h1,h2,h3⟩:=fM (m:=0) rfl h
 have hS:=rM hn hl ha
 have hh:=rB (n:=n) hl
 rw[h1]at hS hh
 refine⟨?_,h2⟩
 show WQ w n 0 (aY w n p 0)
 rw[h3]
 exact WQ.new h1 hS hh
theorem LZ{w:List Pg}{n:BL}{t:j8}{i:Nat}(h:WQ w n i t)(hg:G0 t=true)(hl:0<(NT t (t.hs.getD (m7 t) e9).na).length):max ((t.hs.getD (m7 t) e9).gr.wa:Int) 1<=s8 t-(NT t (t.hs.getD (m7 t) e9).na).getD (((NT t (t.hs.getD (m7 t) e9).na).length:Int)-1).toNat 0:=by
 have hx:=Cl hg
 have hI:=h.gi.hi _ (ay (d:=e9) (jh hg).1)
 generalize t.hs.getD (m7 t) e9=y at *
 rw[show NT t y.na=cls t.lk y.na from if_pos h.ok]at hl ⊢
 have hm:(cls t.lk y.na).getD (((cls t.lk y.na).length:Int)-1).toNat 0∈cls t.lk y.na:=by
  rw[YQ,YX Z9];exact List.getElem_mem _
 obtain⟨q,q1,q2,q3⟩:=pk hm
 rw[<- q3]
 have:=hI.re q q1 q2
 omega
theorem wh(b:BL)(ea:Addr)(hb:b.length<=9223372036854775807):PF Tryz.prog 4 [fJ b] [(9000,(0,.lit (.iface 252 (.pointer (some ea)))))] (fun r h=>r=(bV true)/\h=[(9000,(0,.lit (.iface 252 (.pointer (some ea)))))]):=by
 refine av (N:=115) (rs:=[.tmp 2]) Tryz.func4
  (.q 1<|.q 3<|.br (.q 1<|.nil) (.q 1<|.cx (eQ b) [] (fun (h9:List Pg×BL×List BL)=>.q 7<|.q 2<|.c (nP h9.2.1 h9.2.2) []<|.mv<|.mv<|.q 1<|.al eR (fun g6=>.h (.fz 30)<|.h (.o4 30 (bB ((oT (aH h9.2.1 h9.2.2)).na) ((oT (aH h9.2.1 h9.2.2)).a7) ((oT (aH h9.2.1 h9.2.2)).hs) ((oT (aH h9.2.1 h9.2.2)).se) ((oT (aH h9.2.1 h9.2.2)).lk)))<|.st none<|.q 1<|.r 2 [.a8]<|.c (nW h9.1 (oT (aH h9.2.1 h9.2.2)) (0:Int) ea) [(9000,9000)]<|.mv<|.mv<|.q 1<|.al eR (fun g8=>.h (.fz 36)<|.h (.o4 36 (bB ((oT (bp h9.1 (oT (aH h9.2.1 h9.2.2)) 0)).na) ((oT (bp h9.1 (oT (aH h9.2.1 h9.2.2)) 0)).a7) ((oT (bp h9.1 (oT (aH h9.2.1 h9.2.2)) 0)).hs) ((oT (bp h9.1 (oT (aH h9.2.1 h9.2.2)) 0)).se) ((oT (bp h9.1 (oT (aH h9.2.1 h9.2.2)) 0)).lk)))<|.st none<|.q 1<|.q 7<|.c (fq h9.1 h9.2.1 h9.2.2) []<|.q 9<|.br (.q 7<|.c (fq h9.1 h9.2.1 h9.2.2) []<|.q 2<|.nil) (.q 1<|.loop (Nat×j8) (fun (i,X)=>⟨[(3,bZ h9.1),(8,.ptr (.key 8) [] g8 0),(10,iN i)],[(8,(g8,bB X.na X.a7 X.hs X.se X.lk)),(9000,(0,.lit (.iface 252 (.pointer (some ea)))))]⟩) (fun (i,X)=>i<=60/\WQ h9.1 h9.2.1 i X) (fun (i,X)=>60-i) (fun (i,X)=>.q 2<|.br (.r 2 [.a8]<|.c (vf h9.1 X ea) [(9000,9000)]<|.mv<|.mv<|.q 1<|.al eR (fun g11=>.h (.fz 72)<|.h (.o4 72 (bB ((oT (eg h9.1 X)).na) ((oT (eg h9.1 X)).a7) ((oT (eg h9.1 X)).hs) ((oT (eg h9.1 X)).se) ((oT (eg h9.1 X)).lk)))<|.st none<|.q 1<|.q 2<|.br (.r 1 [.a8]<|.c (uh X) []<|.q 1<|.nil) (.r 1 [.a8]<|.c (vz X) []<|.q 7<|.dx 7 [0,1,2,3,4,5,6] [(0,⟨false,[],some [8],[84],[]⟩),(2,⟨false,[],some [8],[86],[]⟩),(6,⟨false,[],some [],[90],[]⟩)] []<|.r 1 [.a8]<|.q 1<|.r 1 [.a8]<|.q 1<|.r 1 [fa ((X.hs.getD (m7 X) e9).na) ((X.hs.getD (m7 X) e9).re) ((X.hs.getD (m7 X) e9).kn) ((X.hs.getD (m7 X) e9).gr.na) ((X.hs.getD (m7 X) e9).gr.ru) ((X.hs.getD (m7 X) e9).gr.wa) ((X.hs.getD (m7 X) e9).tr) ((X.hs.getD (m7 X) e9).td)]<|.q 1<|.q 1<|.c (sQ X ((X.hs.getD (m7 X) e9).na)) []<|.q 1<|.dx 20 [0,1,2,3,4,5,6,7,8,9,10,11,12,13,14,15,16,17,18,19] [(10,⟨false,[],some [],[102],[]⟩),(13,⟨false,[],some [8],[105],[]⟩),(18,⟨false,[],some [],[110],[]⟩)] []<|.q 1<|.q 1<|.q 1<|.q 1<|.q 1<|.q 1<|.q 1<|.q 1<|.q 1<|.r 1 [iV ((NT X ((X.hs.getD (m7 X) e9).na)).getD (Int.toNat (((((NT X ((X.hs.getD (m7 X) e9).na)).map iV).length:Nat):Int)-1)) 0)]<|.q 1<|.q 1<|.q 1<|.r 1 [.a8]<|.q 1<|.r 1 [fa ((X.hs.getD (m7 X) e9).na) ((X.hs.getD (m7 X) e9).re) ((X.hs.getD (m7 X) e9).kn) ((X.hs.getD (m7 X) e9).gr.na) ((X.hs.getD (m7 X) e9).gr.ru) ((X.hs.getD (m7 X) e9).gr.wa) ((X.hs.getD (m7 X) e9).tr) ((X.hs.getD (m7 X) e9).td)]<|.q 1<|.q 1<|.q 1<|.q 1<|.q 2<|.br (.q 1<|.nil) (.r 1 [.a8]<|.st none<|.q 3<|.nil)))) (.q 1<|.nil))))))))
  ((fun v1:V=>(Br (s9 (((b.map n0).length:Nat):Int) 1048576) (Q (bV true) (bV true)/\Er 0 v1) ((eQ b).sm/\((b.length<=9223372036854775807))/\∀ h9:List Pg×BL×List BL,(1<=h9.1.length/\h9.1.length<=30/\(∀ y,y∈h9.1->m9 y)/\h9.2.1.length<=5/\bn h9.2.1=true/\h9.2.2.length<=4/\(∀ y,y∈h9.2.2->y.length<=30/\m5 y))->(fun v2:Option j8=>(fun v5:Option j8=>(fun v3:Bool=>(fun v4:j8=>(nP h9.2.1 h9.2.2).sm/\((h9.2.1.length<=1000)/\(h9.2.2.length<=1000)/\(∀ x,x∈h9.2.2->x.length<=1000/\m5 x))/\∀ g6:Nat,((.agg [sV ((oT v2).na),iV ((oT v2).a7),.sl false (V.B8 (((oT v2).hs).map aB)),.sl false (V.B8 (((oT v2).se).map sV)),.sl false (V.B8 (((oT v2).lk).map aO))]:V)=bB ((oT v2).na) ((oT v2).a7) ((oT v2).hs) ((oT v2).se) ((oT v2).lk))/\Z g6 0/\Z g6 0/\(nW h9.1 (oT v2) (0:Int) ea).sm/\Er 0 v1/\((h9.1.length<=30)/\(∀ i,m9 (h9.1.getD i m4))/\(w8 (oT v2))/\((oT v2).hs.length<=900))/\∀ g8:Nat,((.agg [sV ((oT v5).na),iV ((oT v5).a7),.sl false (V.B8 (((oT v5).hs).map aB)),.sl false (V.B8 (((oT v5).se).map sV)),.sl false (V.B8 (((oT v5).lk).map aO))]:V)=bB (v4.na) (v4.a7) (v4.hs) (v4.se) (v4.lk))/\Z g8 0/\Pk (v2.isSome) ((v2.isSome)==true) true/\(fq h9.1 h9.2.1 h9.2.2).sm/\((h9.1.length<=30)/\(∀ i,m9 (h9.1.getD i m4))/\(h9.2.1.length<=1000)/\(h9.2.2.length<=400)/\(∀ x,x∈h9.2.2->x.length<=1000/\m5 x))/\Pk v3 true (v3==false)/\Pk (v3||(!(v2.isSome))) true ((v3||(!(v2.isSome)))==false)/\Br ((v3||(!(v2.isSome)))||(!(v5.isSome))) (Pk (v2.isSome) ((v2.isSome)==true) true/\(fq h9.1 h9.2.1 h9.2.2).sm/\((h9.1.length<=30)/\(∀ i,m9 (h9.1.getD i m4))/\(h9.2.1.length<=1000)/\(h9.2.2.length<=400)/\(∀ x,x∈h9.2.2->x.length<=1000/\m5 x))/\Q (bV (((v2.isSome)&&(v5.isSome))==(v2.isSome&&an h9.1))) (bV true)/\Er 0 v1) ((∃ x:Nat×j8,match x with | (j6,Qx)=>(j6<=60/\WQ h9.1 h9.2.1 j6 Qx)/\E (bZ h9.1)/\E (.ptr (.key 8) [] g8 0)/\Q (iN 0) (iN j6)/\Qr g8 (bB (v4.na) (v4.a7) (v4.hs) (v4.se) (v4.lk)) g8 (bB Qx.na Qx.a7 Qx.hs Qx.se Qx.lk)/\Er 0 v1/\True)/\∀ x:Nat×j8,match x with | (i,X)=>(i<=60/\WQ h9.1 h9.2.1 i X)->(fun v7:j9=>(fun v11:List Int=>(fun v9:Int=>(fun v6:Bool=>(fun v8:j8=>(fun v10:V=>Br (r9 (i:Int) 60) (Z g8 0/\(vf h9.1 X ea).sm/\Er 0 v1/\((h9.1.length<=30)/\(∀ i,m9 (h9.1.getD i m4))/\(w8 X)/\(X.hs.length<=900))/\∀ g11:Nat,((.agg [sV (v8.na),iV (v8.a7),.sl false (V.B8 ((v8.hs).map aB)),.sl false (V.B8 ((v8.se).map sV)),.sl false (V.B8 ((v8.lk).map aO))]:V)=bB (v8.na) (v8.a7) (v8.hs) (v8.se) (v8.lk))/\Z g11 0/\Br (!((eg h9.1 X).isSome)) (Z g8 0/\(uh X).sm/\((w8 X))/\Q (bV (aC X&&!(X.hs.any cC))) (bV true)/\Er 0 v1) (Z g8 0/\(vz X).sm/\((w8 X)/\(aC X=true))/\Z g8 0/\Z g8 2/\Ex (((m7 X):Nat):Int) (X.hs.map bR) v10/\True/\(sQ X (v7.na)).sm/\((w8 X))/\Gd (v6==true) ((v6==true)=true)/\Gd (v6==true) ((v6==true)=true)/\Gd (v6==true) (m8 (v9-1))/\Gd (v6==true) ((v6==true)=true)/\Gd (v6==true) ((v6==true)=true)/\Gd (v6==true) (Ex (v9-1) (v11.map iV) (iV (v11.getD (Int.toNat (v9-1)) 0)))/\Gd (v6==true) ((v6==true)=true)/\Gd (v6==true) True/\Gd (v6==true) ((v6==true)=true)/\Gd (v6==true) ((v6==true)=true)/\Gd (v6==true) (m8 ((s8 X)-(v11.getD (Int.toNat (v9-1)) 0)))/\Gd (v6==true) ((v6==true)=true)/\Gd (v6==true) (Z g8 2)/\Gd (v6==true) ((v6==true)=true)/\Gd (v6==true) ((v6==true)=true)/\Gd (v6==true) (Ex (((m7 X):Nat):Int) (X.hs.map bR) v10)/\Gd (v6==true) ((v6==true)=true)/\Gd (v6==true) ((v6==true)=true)/\Gd (v6==true) ((v6==true)=true)/\Gd (v6==true) True/\Gd (v6==true) ((v6==true)=true)/\Gd (v6==true) ((v6==true)=true)/\Gd (v6==true) ((v6==true)=true)/\Pk v6 (v6==true) true/\Br (v6&&(r9 ((s8 X)-(v11.getD (Int.toNat (v9-1)) 0)) (max ((v7.gr.wa:Nat):Int) 1))) (Q (bV false) (bV true)/\Er 0 v1) (Z g11 0/\Z g8 0/\m8 ((i:Int)+1)/\∃ x:Nat×j8,match x with | (b7,Qw)=>(b7<=60/\WQ h9.1 h9.2.1 b7 Qw)/\(60-b7<60-i)/\E (bZ h9.1)/\E (.ptr (.key 8) [] g8 0)/\Q (iN (i+1)) (iN b7)/\Qr g8 (bB (v8.na) (v8.a7) (v8.hs) (v8.se) (v8.lk)) g8 (bB Qw.na Qw.a7 Qw.hs Qw.se Qw.lk)/\Er 0 v1/\True))) (Q (bV true) (bV true)/\Er 0 v1)) (fa (v7.na) (v7.re) (v7.kn) (v7.gr.na) (v7.gr.ru) (v7.gr.wa) (v7.tr) (v7.td))) (oT (eg h9.1 X))) (s9 v9 0)) (((v11.map iV).length:Nat):Int)) (NT X (v7.na))) (X.hs.getD (m7 X) e9))) (oT (bp h9.1 (oT v2) 0))) (!(((v2.isSome)&&(v5.isSome))==(v2.isSome&&an h9.1)))) (bp h9.1 (oT v2) (0:Int))) (aH h9.2.1 h9.2.2)))) (.lit (.iface 252 (.pointer (some ea))))) ?_
 refine bI (fun j7=>?_) fun j7=>?_
 refine⟨?_,rfl⟩
 unfold Q
 rfl
 refine⟨rfl,Z9,?_⟩
 intro h9 o8
 refine⟨rfl,⟨Z9,Z9,fun x hx=>⟨by have:=(o8.2.2.2.2.2.2 x hx).1;omega,(o8.2.2.2.2.2.2 x hx).2⟩⟩,?_⟩
 intro g6
 refine⟨by rw[iS,aM (f:=sV) (fun _=>rfl),aM (f:=aO) (fun _=>rfl)],rfl,rfl,rfl,rfl,⟨Z9,fun i=>gH o8.2.2.1 i,rM Z9 Z9 (fun x hx=>⟨by have:=(o8.2.2.2.2.2.2 x hx).1;omega,(o8.2.2.2.2.2.2 x hx).2⟩),rB Z9⟩,?_⟩
 intro g8
 refine⟨by rw[iS,aM (f:=sV) (fun _=>rfl),aM (f:=aO) (fun _=>rfl)],rfl,⟨fun h=>by rw[h] <;> rfl,fun _=>rfl⟩,rfl,⟨Z9,fun i=>gH o8.2.2.1 i,Z9,Z9,fun x hx=>⟨by have:=(o8.2.2.2.2.2.2 x hx).1;omega,(o8.2.2.2.2.2.2 x hx).2⟩⟩,⟨fun _=>rfl,fun h=>by rw[h] <;> rfl⟩,⟨fun _=>rfl,fun h=>by rw[h] <;> rfl⟩,?_⟩
 refine bI (fun l6=>?_) fun l6=>?_
 refine⟨⟨fun h=>by rw[h] <;> rfl,fun _=>rfl⟩,rfl,⟨Z9,fun i=>gH o8.2.2.1 i,Z9,Z9,fun x hx=>⟨by have:=(o8.2.2.2.2.2.2 x hx).1;omega,(o8.2.2.2.2.2.2 x hx).2⟩⟩,?_⟩
 refine⟨?_,rfl⟩
 unfold Q
 rw[fW rfl];simp
 obtain⟨R4,hW⟩:=JF (fun i=>gH o8.2.2.1 i) Z9 Z9 (fun x hx=>⟨by have:=(o8.2.2.2.2.2.2 x hx).1;omega,(o8.2.2.2.2.2.2 x hx).2⟩) ⟨l6.1.2,l6.2⟩
 refine⟨⟨(0,(oT (bp h9.1 (oT (aH h9.2.1 h9.2.2)) 0))),?_,rfl,rfl,rfl,rfl,rfl,trivial⟩,?_⟩
 exact⟨Z9,R4⟩
 rintro⟨i,X⟩ ⟨h1,h2⟩
 have S5:=yJ h2.gi h2.ti Z9
 have UB:=h2.gi.hl
 have Yg:=h2.gi.sn.2
 refine bI (fun n6=>?_) fun n6=>?_
 refine⟨rfl,rfl,rfl,⟨Z9,fun i=>gH o8.2.2.1 i,S5,Z9⟩,?_⟩
 intro g11
 refine⟨by rw[iS,aM (f:=sV) (fun _=>rfl),aM (f:=aO) (fun _=>rfl)],rfl,?_⟩
 refine bI (fun w6=>?_) fun w6=>?_
 refine⟨rfl,rfl,S5,?_⟩
 refine⟨?_,rfl⟩
 unfold Q
 refine Zq bV ?_
 rw[h2.ok,GW (JO h2.gi h2.tm Z9 (LY hW h2.ok (by simpa using w6)))];rfl
 have hg:=Lc (by simpa using w6)
 have hnx:=jh hg
 refine⟨rfl,rfl,⟨S5,h2.ok⟩,rfl,rfl,⟨Z9,aj (d:=e9) Z9⟩,trivial,rfl,S5,?_⟩
 have hno:=h2.gi.no
 have hcb:=Mj h2.gi (X.hs.getD (m7 X) e9).na ((((NT X (X.hs.getD (m7 X) e9).na).length:Nat):Int)-1).toNat
 have hcl:=KR h2.gi (X.hs.getD (m7 X) e9).na
 refine⟨fun h=>h,fun h=>h,fun hG=>by(try simp only[nb]at hG);(try simp only[Y2]at *);omega,fun h=>h,fun h=>h,fun hG=>⟨by(try simp only[nb]at hG);simp only[Y2]at *;omega,aj (d:=0) (by(try simp only[nb]at hG);simp only[Y2]at *;omega)⟩,fun h=>h,fun hG=>trivial,fun h=>h,fun h=>h,fun hG=>by(try simp only[nb]at hG);(try simp only[Y2]at *);omega,fun h=>h,fun hG=>rfl,fun h=>h,fun h=>h,fun hG=>⟨Z9,aj (d:=e9) Z9⟩,fun h=>h,fun h=>h,fun h=>h,fun hG=>trivial,fun h=>h,fun h=>h,fun h=>h,⟨fun h=>by rw[h] <;> rfl,fun _=>rfl⟩,?_⟩
 refine bI (fun G8=>?_) fun G8=>?_
 have:=LZ h2 hg (by have:=G8.1;(try simp only[Y2]at this);omega)
 have:=G8.2
 omega
 refine⟨rfl,rfl,Z9,?_⟩
 refine⟨(i+1,(oT (eg h9.1 X))),?_,?_,rfl,rfl,rfl,rfl,rfl,trivial⟩
 exact⟨Z9,by rw[vL hW h2.ok hg];exact h2.step hW (fun i=>gH o8.2.2.1 i) hg⟩
 exact Z1
 refine⟨?_,rfl⟩
 unfold Q
 rfl
section
open Go Go.ChangeShapes Go.WideShapes Go.ChangeAt Go.RowKit
theorem own:ownKnob Tryz.prog.godebug=none:=Z7
theorem laidOut:laidOutB Tryz.prog=true:=Z7
theorem iK:Tryz.prog.globalNamed "loop.example/pedlar/impl.errNoCall" =some 0:=Z7
theorem ku:(Tryz.prog.globals[0]?).map (·.type)=some 116:=Z7
theorem ou: "*" ++ "errors.errorString" = "*errors.errorString" :=Z6
theorem yw(u:TypeId) (h:Tryz.prog.typeName? 3 u=some "*errors.errorString"):u=252:=
 typeName_ptr_named (nm:= "errors.errorString") (by rw[ou];kernel_rfl) Z7 Z6 u (by rw[ou];exact h)
theorem vk:Tryz.prog.cellsOf 275=1:=Z7
theorem um:Tryz.prog.cellsOf 9=1:=Z7
set_option maxRecDepth 100000 in
theorem fnGoWaitAll_lifted(os:Os)(started:os.Started)(H:Type)(enc:TypeId×Value->H):
 ReturnsInHanded {} Tryz.checked os 4 .any (fun w args=>(Rows.fnGoWaitAllSpec.pre enc Tryz.prog Tryz.f4 [] false w args/\laidMetH Tryz.prog Rows.fnGoWaitAllRow.laid w)/\sizedMet enc Tryz.prog Tryz.f4 (OpenSpec.ofChange Rows.fnGoWaitAllSpec) false w args)
  (Rows.fnGoWaitAllSpec.post enc Tryz.prog Tryz.f4 false true false false):=by
 refine returnsInHanded_of_change_and (C:=Tryz.checked) (X:=fun w _=>laidMetH Tryz.prog Rows.fnGoWaitAllRow.laid w) (fun _ _ _ hh h=>h.of_heap hh) own started Z7 Tryz.func4
  (ChangeSpec.witness_shaped (enc:=enc) (C:=Tryz.checked) (os:=os) (X:=fun w _=>laidMetH Tryz.prog Rows.fnGoWaitAllRow.laid w) false (World.laidAll Tryz.prog os Rows.fnGoWaitAllRow.laid) #[.slice none 0 0] 8 (World.laidAll_os _ _ _)
   (World.shaped_of_ZipB Z7 Z7) Z7 Z7 Z7
   (by rw[MakeChecks.laidMetH_plain _ _ _ Z7];exact laidMet_laidAll _ Z7 Z7)) ?_
 intro W base args ds gs before Nu hW _ _ VQ _
 have hL:laidMet Tryz.prog Rows.fnGoWaitAllRow.laid W:=by rw[<- MakeChecks.laidMetH_plain _ _ _ Z7];exact VQ
 have H4:∀ (j:Nat) t v,Tryz.f4.params[j]? =some t->args[j]? =some v->Value.okWide Tryz.prog W .any base t v:=Nu
 have VO:=hW
 obtain⟨p,q,S7,VP,rfl,Yt,hnd⟩:=hW
 have hV:DataW.TrodVars enc Tryz.prog W (fun _=>true) ["loop.example/pedlar/impl.errNoCall"] gs q:=VP
 have hA:DataW.TrodAll enc Tryz.prog W 0 (fun _=>true) true Tryz.f4.params.toList args.toList ds p:=S7
 rw[Tryz.params4]at hA H4
 obtain⟨v0,d0,rfl,rfl,h0⟩:=trodAll_one hA
 obtain⟨ea,s0,Q7,_,_,_⟩:=laid_sentinel hL.tail iK ku (ms:=_) (tp:=252) (te:=275) (ts:=9) Tryz.underlying116 yw Tryz.underlying252 Tryz.underlying275 rfl rfl Tryz.underlying9 vk um
 obtain⟨bt,hbk⟩:=qk hL.tail iK Q7
 obtain⟨rfl,rfl⟩:=hV.unique (vars_read1 enc iK ku Tryz.underlying116 Q7 trivial _)
 obtain⟨a0,U8,VW,rfl⟩:=okWide_slice Tryz.underlying22 (H4 0 22 v0 rfl rfl)
 have U7:∀ x∈p,x.block<W.heap.size:=by obtain⟨m,hm⟩:=h0;exact DataW.trod_lt m _ _ _ hm
 obtain⟨b,rfl,hb,hv⟩:=mS Tryz.underlying22 Tryz.underlying5 Z7 h0
 clear S7 Nu
 refine(Cq wh hb hv hbk).mono fun e W' ⟨he,Qt⟩=>?_
 subst he
 have Q6:W'.var? Tryz.prog "loop.example/pedlar/impl.errNoCall" =some #[.iface 252 (.pointer (some ea))]:=by
  rw[<- Q7];unfold World.var?;rw[iK,Option.bind_some,Option.bind_some,Qt.block 0 (Zl.1 hbk).1]
 exact⟨_,rfl,_,_,_,[],p,[.cell 0 0],VO,trodAll_mk1 (shut_bool Tryz.underlying4 _),trodAll_mk1 (Below.trod laidOut Z7 (of_decide_eq_true Z7) h0 Qt U7),vars_read1 enc iK ku Tryz.underlying116 Q6 trivial _,Qt.frame _,fun h=>by cases h⟩
theorem fnGoWaitAll_row:Rows.FnGoWaitAllSaid:=
 OpenClaim.holds_of_wide 4 Tryz.f4 rfl rfl rfl rfl rfl rfl rfl ⟨rfl,rfl,rfl,rfl,rfl⟩ rfl rfl rfl rfl rfl Z7 Tryz.func4 Z7
  (of_decide_eq_true Z7) (by unfold Func.isWrapper;first | (rw[if_pos (by decide +kernel)];kernel_rfl) | (rw[if_neg (by decide +kernel)];exact⟨rfl,rfl⟩))
  (fun os started H enc _=>fnGoWaitAll_lifted os started H enc)
theorem fnGoWaitAll_holds:Rows.FnGoWaitAllCardSaid:=
 Claim7.holds_tied_plain_at .later [] [.data,.sentinel,.pinned] true (true, "16e118b5155b7b11bee3017827cfe482af71541868a11eb0c882522f6f12ad60") true fnGoWaitAll_row (fun _ h=>by cases h) Z7 (fun _ h=>by cases h) fnGoWaitAll_row_tie rfl ⟨rfl,rfl⟩ Z7 rfl
  (fun f fn hf VH=>by
   obtain rfl:f=4:=Option.some.inj ((show Tryz.prog.funcNamed "loop.example/pedlar/laws.FnGoWaitAll" =some 4 by kernel_rfl).symm.trans hf) |>.symm
   obtain rfl:fn=Tryz.f4:=(Option.some.inj (Tryz.func4.symm.trans VH)).symm
   exact⟨Z7,fun j t ht=>by
    rw[Tryz.params4]at ht
    have hm:t∈[22]:=by simpa using Array.mem_of_getElem? ht
    have G4:([22].all fun u=>!Tryz.prog.wantsStandIn u)=true:=Z7
    exact(show Tryz.prog.wantsStandIn t=false by simpa using Y6.1 G4 t hm)⟩)
  Z7
end
end Go.Proofs.YtbjbamjffkanbaaGreatDoor