/-
  laws.FnGoHouses returns true for every input and leaves it as it was; conditions: the listed tables lie as the program's text lays them.
-/
import Derived.Test.YtbjbamjffkanbaaGreatDoorGE
import Derived.Laws.StructEq
import Derived.Test.YtbjbamjffkanbaaGreatDoorTie
import Derived.Test.YtbjbamjffkanbaaGreatDoorCards
set_option linter.unusedVariables false
set_option linter.unusedSimpArgs false
namespace Go.Pd
open Go.Abs Go.Proofs.YtbjbamjffkanbaaGreatDoor
theorem oH{r:BL}(h:([47]++r).length<=60):aH [⟨false,[47]⟩] ([47]++r)=false:=by
 have h0:aj 42 (bE [47])=[[47]]:=Z6
 have h1:cw [47] ([47]++r)=true:=by
  unfold cw
  rw[show aO [47]=true from Z6,decide_eq_true h]
  unfold tw
  rw[h0]
  simp[lx,show eV [47]=false from Z6]
 have h2:cw [47] (47::r)=true:=h1
 simp[aH,dF,h2]
theorem lj{s:BL}(h:aD s=true):aH [⟨false,[47]⟩] (pathOf s)=false:=by
 have ha:=(eR (gW (fg h))).2.2.2.2.2
 unfold pathOf
 have e:bm (oA (ar s))=[47]++(bZ (oA (ar s)).b9++(if (oA (ar s)).asks=true then [63]++(oA (ar s)).ask else [])):=by
  unfold bm;rw[List.append_assoc]
 rw[e]
 refine oH ?_
 rw[<- e]
 unfold cC at ha
 simp only[List.length_append,List.length_cons,List.length_nil]at ha ⊢
 omega
def BI(w:List Pg)(t:l4):Prop:= ∀ y,y∈t.hs->y.kn=true->(ab w (ae y.na) 2).1=3->y.td=[]/\y.gr.ru=[⟨false,[47]⟩]/\(cls t.lk y.na).length<=3
variable {w:List Pg} {n:BL}
theorem BI.call{t:l4} {i:Nat} {y':k9} {l:l8} {a8:Int} (hG:GI w n t) (h:BI w t) (hi:i<t.hs.length) (hl:af l.ad=(t.hs.getD i b7).na)
 (hy:y'.kn=true->(ab w (ae y'.na) 2).1=3->y'.td=[]/\y'.gr.ru=[⟨false,[47]⟩]/\(cls (t.lk++[l]) y'.na).length<=3):BI w ⟨t.na,a8,t.hs.set i y',t.se,t.lk++[l]⟩:=fun z hz hk h3=>by
 rcases iJ hG.nd hi hz with e | ⟨e,e2⟩
 subst e;exact hy hk h3
 obtain⟨a1,a2,a3⟩:=h z e hk h3
 refine⟨a1,a2,?_⟩
 show (cls (t.lk++[l]) z.na).length<=3
 rw[dS,if_neg (by rw[hl];exact fun c=>e2 c.symm),List.append_nil]
 exact a3
theorem BI.cO{t:l4}{s:BL}(h:BI w t):BI w (ao t s):=by
 by_cases hr:dh t.se s
 case neg=>
  have e3:cf t.se s=t.se:=if_neg hr
  have e4:aQ t.na t.hs t.se s=t.hs:=if_neg hr
  have:ao t s=t:=by unfold ao;rw[e3,e4]
  rw[this];exact h
 have e4:(ao t s).hs=(aA t.hs (af s) t.na).set (r7 t.hs (af s)) (bc ((aA t.hs (af s) t.na).getD (r7 t.hs (af s)) b7) s):=if_pos hr
 have hin:∀ y,y∈aA t.hs (af s) t.na->y.kn=true->(ab w (ae y.na) 2).1=3->y.td=[]/\y.gr.ru=[⟨false,[47]⟩]/\(cls t.lk y.na).length<=3:=fun y hy hk h3=>by
  unfold aA at hy
  split at hy
  exact h y hy hk h3
  rcases List.mem_append.1 hy with hy | hy
  exact h y hy hk h3
  rw[List.mem_singleton.1 hy]at hk;simp[bK]at hk
 intro z hz hk h3
 rw[e4]at hz
 show z.td=[]/\z.gr.ru=_/\(cls t.lk z.na).length<=3
 rcases bN hz with e | e
 have x9:=hin _ (aw (d:=b7) (cF t.hs (af s) t.na))
 generalize (aA t.hs (af s) t.na).getD (r7 t.hs (af s)) b7=y at *
 subst e
 unfold bc at hk h3 ⊢
 split at hk
 rename_i c;rw[if_pos c]at h3 ⊢;exact x9 hk h3
 rename_i c
 exfalso
 rw[if_neg c]at h3
 have E2:y.kn=true:=hk
 have:=x9 E2 h3
 exact c ⟨E2,by rw[this.2.1];exact lj hr.1⟩
 exact hin z e hk h3
theorem BI.bL{l:List BL}:∀ {t:l4},BI w t->BI w (l.foldl ao t):=by
 induction l with
 | nil=>exact fun h=>h
 | cons a l ih=>exact fun h=>ih h.cO
end Go.Pd
namespace Go.Pd
open Go.Abs Go.Proofs.YtbjbamjffkanbaaGreatDoor
def bp(gs:List l3):Nat:=(gs.map fun y=>y.ru.length).sum
def ey(gs:List l3):Prop:= ∀ y,y∈gs->∀ r,r∈y.ru->aO r.path=true
theorem fv(l r:List l3):bp (l++r)=bp l+bp r:=by unfold bp;rw[List.map_append,List.sum_append]
theorem fN(gs:List l3):gs=[]\/∃ l z,gs=l++[z]:=by
 by_cases h:gs=[]
 exact .inl h
 obtain⟨x,hx⟩:=jL h
 exact .inr ⟨x.1,x.2,hx⟩
theorem gu{gs:List l3}{f:l3->l3}{k:Nat}(hf:∀ z,(f z).ru.length<=z.ru.length+k):bp (cS gs f)<=bp gs+k:=by
 rcases fN gs with h | ⟨l,z,h⟩
 subst h;simp[cS,bp]
 subst h
 rw[dQ,fv,fv]
 have:=hf z
 simp only[bp,List.map_cons,List.map_nil,List.sum_cons,List.sum_nil]
 omega
theorem nk{gs:List l3}{w d:BL}{b:Bool}:bp (eZ gs w d b).1<=bp gs+1:=by
 unfold eZ
 split
 split
 rw[fv];simp[bp]
 exact Nat.le_trans (gu (k:=0) fun z=>Nat.le_refl _) Z9
 split
 simp only;omega
 split
 exact gu fun z=>by simp
 split
 exact Nat.le_trans (gu (k:=0) fun z=>Nat.le_refl _) Z9
 simp only;omega
theorem iG{gs:List l3}{f:l3->l3}(h:ey gs)(hf:∀ z,(∀ r,r∈z.ru->aO r.path=true)->∀ r,r∈(f z).ru->aO r.path=true):ey (cS gs f):=by
 rcases fN gs with e | ⟨l,z,e⟩
 subst e;exact h
 subst e
 rw[dQ]
 intro y hy
 rcases List.mem_append.1 hy with hy | hy
 exact h y (List.mem_append_left _ hy)
 rw[List.mem_singleton.1 hy]
 exact hf z (h z (List.mem_append_right _ (List.mem_singleton.2 rfl)))
theorem oj{gs:List l3}{w d:BL}{b:Bool}(h:ey gs):ey (eZ gs w d b).1:=by
 unfold eZ
 split
 split
 intro y hy
 rcases List.mem_append.1 hy with hy | hy
 exact h y hy
 rw[List.mem_singleton.1 hy];intro r hr;simp at hr
 exact iG h fun z hz=>hz
 split
 exact h
 split
 rename_i c
 refine iG h fun z hz r hr=>?_
 rcases List.mem_append.1 hr with hr | hr
 exact hz r hr
 rw[List.mem_singleton.1 hr];exact c.2.1
 split
 exact iG h fun z hz=>hz
 exact h
theorem iR:∀ (l:List BL) (x:List l3×Bool),bp (l.foldl cD x).1<=bp x.1+l.length
 | [],x=>Nat.le_refl _
 | a::l,x=>by
   have h1:=iR l (cD x a)
   have h2:bp (cD x a).1<=bp x.1+1:=nk
   simp only[List.foldl_cons,List.length_cons]
   omega
theorem kg:∀ (l:List BL) (x:List l3×Bool),ey x.1->ey (l.foldl cD x).1
 | [],x,h=>h
 | a::l,x,h=>kg l (cD x a) (oj h)
theorem fJ(t:BL):bp (cd t)<=40/\ey (cd t):=by
 constructor
 have:=iR ((aj 10 t).take 40) ([],false)
 have h2:=List.length_take_le 40 (aj 10 t)
 simp only[bp,List.map_nil,List.sum_nil]at this
 unfold cd bp
 omega
 exact kg _ _ (fun y hy=>by simp at hy)
theorem lK(n:BL):∀ (gs:List l3) (x:(List o9×Nat)×Bool),ey gs->(∀ r,r∈x.1.1->aO r.path=true)->
 (gs.foldl (cb n) x).1.1.length<=x.1.1.length+bp gs/\∀ r,r∈(gs.foldl (cb n) x).1.1->aO r.path=true
 | [],x,_,h=>⟨by simp[bp],h⟩
 | g::gs,x,hg,h=>by
   have hs:(cb n x g).1.1.length<=x.1.1.length+g.ru.length/\∀ r,r∈(cb n x g).1.1->aO r.path=true:=by
    unfold cb
    split
    refine⟨Z8,fun r hr=>?_⟩
    rcases List.mem_append.1 hr with hr | hr
    exact h r hr
    exact hg g Z8 r hr
    exact⟨Z9,h⟩
   obtain⟨h1,h2⟩:=lK n gs (cb n x g) (fun y hy=>hg y (List.mem_cons_of_mem _ hy)) hs.2
   refine⟨?_,h2⟩
   have e:bp (g::gs)=g.ru.length+bp gs:=by simp[bp]
   rw[e]
   have:=hs.1
   simp only[List.foldl_cons]
   omega
theorem ke{gs:List l3}(n:BL)(h1:bp gs<=40)(h2:ey gs):(eU gs n).ru.length<=40/\∀ r,r∈(eU gs n).ru->aO r.path=true:=by
 have key:∀ q,(NG gs q).1.ru.length<=40/\∀ r,r∈(NG gs q).1.ru->aO r.path=true:=fun q=>by
  obtain⟨a,b⟩:=lK q gs (([],0),false) h2 (fun r hr=>by simp at hr)
  exact⟨by unfold NG;simp only[List.length_nil]at a ⊢;omega,b⟩
 unfold eU
 split
 exact key n
 exact key [42]
theorem og(k:Int)(t n:BL):(ah k t n).ru.length<=40/\∀ r,r∈(ah k t n).ru->aO r.path=true:=by
 unfold ah
 split
 exact ke n (fJ t).1 (fJ t).2
 split
 exact⟨Z8,fun r hr=>by rw[List.mem_singleton.1 hr];decide⟩
 exact ke n (by simp[bp]) (fun y hy=>by simp at hy)
structure HO (n:BL) (y:k9):Prop where
 na:y.gr.na=[n]
 re:0<=y.re/\y.re<=5100
 tr:0<=y.tr/\y.tr<=2
 ru:y.gr.ru.length<=40/\∀ r,r∈y.gr.ru->aO r.path=true
 wa:y.gr.wa<=20
structure OI (t:l4):Prop where
 nm:bh t.na=true
 nw:0<=t.a8/\t.a8<=5000
 hs:∀ y,y∈t.hs->HO t.na y
 ki:∀ q,q∈t.lk->0<=q.ki/\q.ki<=3/\0<=q.ti/\q.ti<=t.a8
 lt:∀ k,k+1<t.lk.length->(t.lk.getD k m7).ti<=(t.lk.getD (k+1) m7).ti
theorem lV(w:List Pg)(a:BL)(n:Int):0<=(ab w a n).1/\(ab w a n).1<=3:=by
 unfold ab
 split
 exact⟨Int.le_refl _,Z6⟩
 split
 exact⟨Z6,Int.le_refl _⟩
 split <;> exact⟨by simp only;omega,by simp only;omega⟩
theorem jR{k:Int}:0<=cR k/\cR k<=8:=by
 unfold cR
 split
 omega
 split
 omega
 split <;> omega
variable {w:List Pg} {n:BL}
theorem OI.cO{t:l4}{s:BL}(h:OI t):OI (ao t s):=by
 refine⟨h.nm,h.nw,fun z hz=>?_,h.ki,h.lt⟩
 have hz:z∈aQ t.na t.hs t.se s:=hz
 have hin:∀ y,y∈aA t.hs (af s) t.na->HO t.na y:=fun y hy=>by
  unfold aA at hy
  split at hy
  exact h.hs y hy
  rcases List.mem_append.1 hy with hy | hy
  exact h.hs y hy
  rw[List.mem_singleton.1 hy]
  exact⟨rfl,by simp[bK],by simp[bK],⟨by simp[bK],fun r hr=>by simp[bK]at hr⟩,by simp[bK]⟩
 show HO t.na z
 unfold aQ at hz
 split at hz
 rcases bN hz with e | e
 have hy:=hin _ (aw (d:=b7) (cF t.hs (af s) t.na))
 rw[e]
 unfold bc
 split
 exact hy
 exact⟨hy.na,hy.re,hy.tr,hy.ru,hy.wa⟩
 exact hin z e
 exact h.hs z hz
theorem OI.bL{l:List BL}:∀ {t:l4},OI t->OI (l.foldl ao t):=by
 induction l with
 | nil=>exact fun h=>h
 | cons a l ih=>exact fun h=>ih h.cO
theorem OI.call{t:l4}{i:Nat}{y':k9}{l:l8}{a8:Int}(h:OI t)(hn:t.a8<=a8/\a8<=5000)(hy:HO t.na y')(hl:l.ti=a8)(hk:0<=l.ki/\l.ki<=3):OI ⟨t.na,a8,t.hs.set i y',t.se,t.lk++[l]⟩:=by
 have hno:=h.nw
 refine⟨h.nm,by simp only;omega,fun z hz=>?_,fun q hq=>?_,fun k LZ=>?_⟩
 rcases bN hz with e | e
 rw[e];exact hy
 exact h.hs z e
 show 0<=q.ki/\q.ki<=3/\0<=q.ti/\q.ti<=a8
 rcases List.mem_append.1 hq with hq | hq
 have:=h.ki q hq;omega
 rw[List.mem_singleton.1 hq];omega
 show ((t.lk++[l]).getD k m7).ti<=((t.lk++[l]).getD (k+1) m7).ti
 have LZ:k+1<(t.lk++[l]).length:=LZ
 rw[List.length_append,List.length_singleton]at LZ
 have e1:∀ j,j<t.lk.length->(t.lk++[l]).getD j m7=t.lk.getD j m7:=fun j hj=>by
  rw[List.getD_eq_getElem?_getD,List.getElem?_append_left hj,<- List.getD_eq_getElem?_getD]
 rcases Nat.lt_or_ge (k+1) t.lk.length with c | c
 rw[e1 k Z9,e1 _ c];exact h.lt k c
 have e2:(t.lk++[l]).getD (k+1) m7=l:=by
  rw[List.getD_eq_getElem?_getD,List.getElem?_append_right Z9,show k+1-t.lk.length=0 from Z9];rfl
 rw[e2,e1 k Z9,hl]
 have:=h.ki _ (aw (d:=m7) (show k<t.lk.length by omega))
 omega
theorem jV{y:k9}{a8 k m:Int}(h:HO n y)(hn:0<=a8/\a8<=5000):HO n (cL y a8 k m):=by
 refine⟨h.na,?_,h.tr,h.ru,h.wa⟩
 have:=h.wa
 have hb:=jR (k:=m+1)
 unfold cL
 simp only
 split <;> constructor <;> omega
theorem np{t:l4}(hG:GI w n t)(h:OI t)(hg:K3 t=true):OI (A7 w t):=by
 have hx:=jA hg
 have hno:=h.nw
 have hw:0<=s6 t/\s6 t<=5000:=⟨Z9,hx.2.2.2⟩
 have hy:=h.hs _ (aw (d:=b7) hx.1)
 have hI:=hG.hi _ (aw (d:=b7) hx.1)
 unfold A7
 split
 unfold LQ
 simp only
 have hf:HO t.na (A8 w (t.hs.getD (m6 t) b7) (s6 t)):=jV (y:={ t.hs.getD (m6 t) b7 with td:=(t.hs.getD (m6 t) b7).td.drop 1 }) ⟨hy.na,hy.re,hy.tr,hy.ru,hy.wa⟩ hw
 have c1:∀ y',HO t.na y'->OI ⟨t.na,s6 t,t.hs.set (m6 t) y',t.se,t.lk++[⟨s6 t,((t.hs.getD (m6 t) b7).td.getD 0 j6).ad,(ab w ((t.hs.getD (m6 t) b7).td.getD 0 j6).ad ((t.hs.getD (m6 t) b7).td.getD 0 j6).tr).1⟩]⟩:=
  fun y' OW=>OI.call h ⟨hx.2.2.1,hw.2⟩ OW rfl (lV _ _ _)
 split
 exact c1 _ ⟨hf.na,hf.re,hf.tr,hf.ru,hf.wa⟩
 split
 exact(c1 _ hf).bL
 exact c1 _ hf
 rename_i hk
 have hk:(t.hs.getD (m6 t) b7).kn=false:=by simpa using hk
 have M8:=hI.un hk
 unfold OR
 have c1:∀ y',HO t.na y'->OI ⟨t.na,s6 t,t.hs.set (m6 t) y',t.se,t.lk++[⟨s6 t,ae (t.hs.getD (m6 t) b7).na,(ab w (ae (t.hs.getD (m6 t) b7).na) (t.hs.getD (m6 t) b7).tr).1⟩]⟩:=
  fun y' OW=>OI.call h ⟨hx.2.2.1,hw.2⟩ OW rfl (lV _ _ _)
 refine c1 _ ?_
 have h1:HO t.na (n9 w (t.hs.getD (m6 t) b7) (s6 t)):=jV hy hw
 unfold Ml
 split
 rename_i c
 have c2:(t.hs.getD (m6 t) b7).tr+1<3:=c.2
 exact⟨h1.na,h1.re,⟨by show 0<=(t.hs.getD (m6 t) b7).tr+1;omega,by show (t.hs.getD (m6 t) b7).tr+1<=2;omega⟩,h1.ru,h1.wa⟩
 have s1:=og (ab w (ae (t.hs.getD (m6 t) b7).na) 2).1 (ab w (ae (t.hs.getD (m6 t) b7).na) 2).2 t.na
 have s2:=jY (ab w (ae (t.hs.getD (m6 t) b7).na) 2).1 (ab w (ae (t.hs.getD (m6 t) b7).na) 2).2 t.na
 refine⟨rfl,?_,h1.tr,s1,s2⟩
 have h3:=h1.re
 have h4:(bg w t.na (t.hs.getD (m6 t) b7).na).wa<=20:=s2
 simp only
 omega
theorem qN:∀ (k:Nat) {t:l4},GI w n t->OI t->OI (D1 w k t)
 | 0,_,_,h=>h
 | k+1,t,hG,h=>by
   unfold D1
   split
   rename_i hg;exact qN k (iP hG hg) (np hG h hg)
   exact h
theorem mY{e9:List BL}{t:l4}(h:ax n e9=some t):OI t:=by
 unfold ax at h
 split at h
 rename_i c
 cases h
 exact OI.bL ⟨c.1,by simp[aV],fun y hy=>by simp[aV]at hy,fun q hq=>by simp[aV]at hq,fun k hk=>by simp[aV]at hk⟩
 cases h
theorem pI{t:l4}(hG:GI w n t)(h:OI t)(hl:t.lk.length<=400):aZ t=true:=by
 have hI:∀ {a b c:Int},a<=b->b<=c->y8 b a c=true:=fun h1 h2=>decide_eq_true ⟨h1,h2⟩
 unfold aZ
 simp only[Bool.and_eq_true,List.all_eq_true,decide_eq_true_eq]
 refine⟨⟨⟨⟨⟨h.nm,hI h.nw.1 h.nw.2⟩,?_⟩,?_⟩,fun y hy=>⟨?_,?_⟩⟩,hG.nd⟩
 unfold cQ
 simp only[Bool.and_eq_true,List.all_eq_true,decide_eq_true_eq]
 exact⟨⟨hG.sn.2,hG.sn.1⟩,hG.se⟩
 unfold cN
 simp only[Bool.and_eq_true,List.all_eq_true,decide_eq_true_eq]
 refine⟨hl,fun k hk=>?_⟩
 have hk:=List.mem_range.1 hk
 have hq:=h.ki _ (aw (d:=m7) hk)
 refine⟨⟨⟨?_,hq.2.2.2⟩,hI hq.1 hq.2.1⟩,(hG.al k hk).rd⟩
 split
 exact hq.2.2.1
 have:=h.lt (k-1) Z9
 rw[show k-1+1=k from Z9]at this
 exact this
 have a:=h.hs y hy
 have b:=hG.hi y hy
 unfold dg
 rw[a.na]
 simp only[Bool.and_eq_true]
 refine⟨⟨⟨⟨b.hn,hI a.re.1 a.re.2⟩,hI a.tr.1 a.tr.2⟩,Z8⟩,?_⟩
 split
 simp only[Bool.and_eq_true,decide_eq_true_eq,List.all_eq_true]
 exact⟨⟨a.ru.1,a.ru.2⟩,hI Z9 (by have:=a.wa;omega)⟩
 rename_i c
 have:=b.un (by simpa using c)
 rw[decide_eq_true_eq]
 exact⟨this.2.2.2.1,this.2.2.1⟩
 have hH:=hG.hi y hy
 unfold cP
 simp only[Bool.and_eq_true,List.all_eq_true,decide_eq_true_eq]
 refine⟨⟨?_,fun x hx=>?_⟩,hH.nd⟩
 have:=jO (u:=t.se) hH.nd fun a ha=>by
  obtain⟨x,hx,e⟩:=List.mem_map.1 ha
  rw[<- e];exact(hH.it x hx).2.2.1
 simpa using this
 obtain⟨a1,a2,a3,a4,a5,_⟩:=hH.it x hx
 exact⟨⟨⟨a1,by simpa using a2⟩,by simpa using a3⟩,decide_eq_true ⟨a4,a5⟩⟩
end Go.Pd
namespace Go.Pd
open Go.Abs Go.Proofs.YtbjbamjffkanbaaGreatDoor
structure KI (w:List Pg) (t:l4):Prop where
 gr:∀ y,y∈t.hs->y.kn=true->y.gr=bg w t.na y.na/\∀ x,x∈y.td->aH y.gr.ru (pathOf x.ad)=true
 un:∀ y,y∈t.hs->y.kn=false->∀ q,q∈t.lk->af q.ad=y.na->q.ad=ae y.na/\q.ki=3
 se:∀ s,s∈t.se->∃ y,y∈t.hs/\y.na=af s
variable {w:List Pg} {n:BL}
theorem BM{t:l4}{i:Nat}(h:GI w n t)(hi:i<t.hs.length)(hk:(t.hs.getD i b7).kn=true)(hne:(t.hs.getD i b7).td≠[])(hr:(t.hs.getD i b7).re<=t.a8)(K9:0<=t.a8/\t.a8<=5000):GI w n ⟨t.na,t.a8,t.hs.set i (A8 w (t.hs.getD i b7) t.a8),t.se,t.lk++[⟨t.a8,((t.hs.getD i b7).td.getD 0 j6).ad,(ab w ((t.hs.getD i b7).td.getD 0 j6).ad ((t.hs.getD i b7).td.getD 0 j6).tr).1⟩]⟩:=by
 have hy:=h.hi _ (aw (d:=b7) hi)
 generalize x9:t.hs.getD i b7=y at *
 have G6:=List.length_pos_iff.2 hne
 have hit:=hy.it _ (aw (d:=j6) G6)
 have Ve:=qC hne
 have MJ:(y.td.getD 0 j6).ad ∉ (y.td.drop 1).map (·.ad)/\((y.td.drop 1).map (·.ad)).Nodup:=by
  have:=hy.nd
  cases P':y.td with
  | nil=>exact absurd P' hne
  | cons a r=>rw[P']at this;simpa using List.nodup_cons.1 this
 generalize Py:y.td.getD 0 j6=x0 at *
 obtain⟨a1,a2,a3,a4,a5,a6⟩:=hit
 have Nl:=pD (y:={ y with td:=y.td.drop 1 }) (a8:=t.a8) (k:=(ab w x0.ad x0.tr).1) (m:=x0.tr) ⟨a4,a5⟩
 have hq:QL w t.lk ⟨t.a8,x0.ad,(ab w x0.ad x0.tr).1⟩:=by
  refine⟨fun c=>⟨(a6 c).1,by have:=(a6 c).2;show (OL t.lk x0.ad).length<3;omega⟩,fun hc=>?_,fun q hq he h3=>?_,⟨_,rfl⟩,a1,K9⟩
  exfalso
  have:=hy.kn hk
  obtain⟨z,hz⟩:=List.exists_mem_of_ne_nil _ this
  obtain⟨q,q1,q2,_⟩:=rL hz
  exact hc q q1 (by rw[q2];exact a2.symm)
  have:=(hy.re q hq (by rw[he];exact a2)).2.1 h3
  show q.ti+3<=t.a8
  omega
 have hcl:cls (t.lk++[⟨t.a8,x0.ad,(ab w x0.ad x0.tr).1⟩]) y.na=cls t.lk y.na++[t.a8]:=by rw[dS,if_pos a2]
 have Rc:∀ x,x∈y.td.drop 1->aD x.ad=true/\af x.ad=y.na/\x.ad∈t.se/\0<=x.tr/\x.tr<=2/\(pathOf x.ad≠fF->(∀ q,q∈t.lk++[⟨t.a8,x0.ad,(ab w x0.ad x0.tr).1⟩]->q.ad=x.ad->q.ki=3)/\((OL (t.lk++[⟨t.a8,x0.ad,(ab w x0.ad x0.tr).1⟩]) x.ad).length:Int)=x.tr):=fun x hx=>by
  have N4:x0.ad≠x.ad:=fun c=>MJ.1 (by rw[c];exact List.mem_map.2 ⟨x,hx,rfl⟩)
  obtain⟨b1,b2,b3,b4,b5,b6⟩:=hy.it x (List.mem_of_mem_drop hx)
  refine⟨b1,b2,b3,b4,b5,fun hp=>⟨fun q hq he=>?_,?_⟩⟩
  rcases List.mem_append.1 hq with hq | hq
  exact(b6 hp).1 q hq he
  rw[List.mem_singleton.1 hq]at he;exact absurd he N4
  rw[kW,if_neg N4,List.append_nil];exact(b6 hp).2
 have M8:∀ {P:Prop},(y.kn=false->P):=fun c=>by rw[hk]at c;cases c
 have O1:cls (t.lk++[⟨t.a8,x0.ad,(ab w x0.ad x0.tr).1⟩]) y.na≠[]:=by rw[hcl];simp
 have c1:GI w n ⟨t.na,t.a8,t.hs.set i (A8 w y t.a8),t.se,t.lk++[⟨t.a8,x0.ad,(ab w x0.ad x0.tr).1⟩]⟩:=by
  have S7:A8 w y t.a8=cL { y with td:=y.td.drop 1 } t.a8 (ab w x0.ad x0.tr).1 x0.tr:=by unfold A8;rw[Py]
  rw[S7]
  obtain⟨k1,k2⟩:=hy.core (y':=cL { y with td:=y.td.drop 1 } t.a8 (ab w x0.ad x0.tr).1 x0.tr) (l:=⟨t.a8,x0.ad,(ab w x0.ad x0.tr).1⟩) a2 rfl hr Nl.1 Nl.2.1 Nl.2.2 (fun _=>rfl)
  refine h.call hi (by rw[x9];exact a2) hq (by rw[x9];rfl) ⟨hy.hn,Rc,MJ.2,hy.gl,M8,fun _=>O1,k1,k2⟩ (.inr a3) ?_ K9.1
  rw[x9]
  show (if y.kn=true then 0 else 3-y.tr)+Mm (y.td.drop 1)+1<=hp y
  unfold hp
  omega
 exact c1
theorem iM{hs:List k9}{d n:BL}{y:k9}(h:y∈hs):y∈aA hs d n:=by
 unfold aA
 split
 exact h
 exact List.mem_append_left _ h
theorem gJ{l:List k9}{i:Nat}{a:k9}(hi:i<l.length)(ha:a.na=(l.getD i b7).na){d:BL}(h:∃ y,y∈l/\y.na=d):∃ y,y∈l.set i a/\y.na=d:=by
 obtain⟨y,y1,y2⟩:=h
 have:d∈(l.set i a).map (·.na):=by
  rw[ja hi ha];exact List.mem_map.2 ⟨y,y1,y2⟩
 obtain⟨z,z1,z2⟩:=List.mem_map.1 this
 exact⟨z,z1,z2⟩
theorem KI.cO{t:l4}{s:BL}(hG:GI w n t)(h:KI w t):KI w (ao t s):=by
 by_cases hr:dh t.se s
 case neg=>
  have e3:cf t.se s=t.se:=if_neg hr
  have e4:aQ t.na t.hs t.se s=t.hs:=if_neg hr
  have:ao t s=t:=by unfold ao;rw[e3,e4]
  rw[this];exact h
 have e3:(ao t s).se=t.se++[s]:=if_pos hr
 have e4:(ao t s).hs=(aA t.hs (af s) t.na).set (r7 t.hs (af s)) (bc ((aA t.hs (af s) t.na).getD (r7 t.hs (af s)) b7) s):=if_pos hr
 have hlt:=cF t.hs (af s) t.na
 have MB:=lq t.hs (af s) t.na
 have Pm:∀ y,y∈aA t.hs (af s) t.na->y.kn=true->y.gr=bg w t.na y.na/\∀ x,x∈y.td->aH y.gr.ru (pathOf x.ad)=true:=fun y hy hk=>by
  unfold aA at hy
  split at hy
  exact h.gr y hy hk
  rcases List.mem_append.1 hy with hy | hy
  exact h.gr y hy hk
  rw[List.mem_singleton.1 hy]at hk;simp[bK]at hk
 have M8:∀ y,y∈aA t.hs (af s) t.na->y.kn=false->∀ q,q∈t.lk->af q.ad=y.na->q.ad=ae y.na/\q.ki=3:=fun y hy hk q hq he=>by
  unfold aA at hy
  split at hy
  exact h.un y hy hk q hq he
  rename_i hc
  rcases List.mem_append.1 hy with hy | hy
  exact h.un y hy hk q hq he
  exfalso
  rw[List.mem_singleton.1 hy]at he
  obtain⟨z,z1,z2⟩:=(hG.lh q hq).1
  have he:af q.ad=af s:=he
  exact hc (List.findIdx_lt_length_of_exists ⟨z,z1,by simp[z2,he]⟩)
 have x9:=aw (d:=b7) hlt
 generalize hy:(aA t.hs (af s) t.na).getD (r7 t.hs (af s)) b7=y at *
 refine⟨fun z hz hk=>?_,fun z hz hk q hq he=>?_,fun q hq=>?_⟩
 rw[e4]at hz
 show z.gr=bg w t.na z.na/\_
 rcases bN hz with e | e
 subst e
 unfold bc at hk ⊢
 split at hk
 rename_i c;rw[if_pos c];exact Pm y x9 hk
 rename_i c
 rw[if_neg c]
 have E2:y.kn=true:=hk
 obtain⟨a1,a2⟩:=Pm y x9 E2
 refine⟨a1,fun x hx=>?_⟩
 rcases List.mem_append.1 hx with hx | hx
 exact a2 x hx
 rw[List.mem_singleton.1 hx]
 cases hl:aH y.gr.ru (pathOf s) with
 | true=>rfl
 | false=>exact absurd ⟨E2,hl⟩ c
 exact Pm z e hk
 rw[e4]at hz
 have hq:q∈t.lk:=hq
 rcases bN hz with e | e
 subst e
 rw[fw]at he ⊢
 refine M8 y x9 ?_ q hq he
 unfold bc at hk
 split at hk
 exact hk
 exact hk
 exact M8 z e hk q hq he
 rw[e4]
 rw[e3]at hq
 rcases List.mem_append.1 hq with hq | hq
 obtain⟨z,z1,z2⟩:=h.se q hq
 exact gJ hlt (by rw[fw,hy]) ⟨z,iM z1,z2⟩
 rw[List.mem_singleton.1 hq]
 exact⟨_,List.mem_set hlt _,by rw[fw,MB]⟩
theorem KI.bL{l:List BL}:∀ {t:l4},GI w n t->KI w t->KI w (l.foldl ao t):=by
 induction l with
 | nil=>exact fun _ h=>h
 | cons a l ih=>exact fun hG h=>ih hG.cO (h.cO hG)
theorem KI.call{t:l4} {i:Nat} {y':k9} {l:l8} {a8:Int} (hG:GI w n t) (h:KI w t) (hi:i<t.hs.length) (hl:af l.ad=(t.hs.getD i b7).na) (MB:y'.na=(t.hs.getD i b7).na)
 (hg:y'.kn=true->y'.gr=bg w t.na y'.na/\∀ x,x∈y'.td->aH y'.gr.ru (pathOf x.ad)=true)
 (hu:y'.kn=false->∀ q,q∈t.lk++[l]->af q.ad=y'.na->q.ad=ae y'.na/\q.ki=3):KI w ⟨t.na,a8,t.hs.set i y',t.se,t.lk++[l]⟩:=by
 refine⟨fun z hz hk=>?_,fun z hz hk q hq he=>?_,fun q hq=>?_⟩
 rcases bN hz with e | e
 subst e;exact hg hk
 exact h.gr z e hk
 rcases iJ hG.nd hi hz with e | ⟨e,e2⟩
 subst e;exact hu hk q hq he
 rcases List.mem_append.1 hq with hq | hq
 exact h.un z e hk q hq he
 rw[List.mem_singleton.1 hq,hl]at he
 exact absurd he.symm e2
 exact gJ hi MB (h.se q hq)
theorem yH{t:l4}(hG:GI w n t)(h:KI w t)(hg:K3 t=true):KI w (A7 w t):=by
 have hx:=jA hg
 have hno:=hG.no
 have OJ:GI w n { t with a8:=s6 t }:=hG.at_ Z9
 have h':KI w { t with a8:=s6 t }:=⟨h.gr,h.un,h.se⟩
 have hm:=aw (d:=b7) hx.1
 have hy:=hG.hi _ hm
 have S6:=h.gr _ hm
 have V9:=h.un _ hm
 have Qj:=iP hG hg
 unfold A7 at Qj ⊢
 split
 rename_i hk
 rw[if_pos hk]at Qj
 have hit:=hy.it _ (aw (d:=j6) (List.length_pos_iff.2 hx.2.1))
 have Py:=aw (d:=j6) (List.length_pos_iff.2 hx.2.1)
 obtain⟨g1,g2⟩:=S6 hk
 have Wk:∀ {P:Prop},(t.hs.getD (m6 t) b7).kn=false->P:=fun c=>by rw[hk]at c;cases c
 unfold LQ at Qj ⊢
 simp only at Qj ⊢
 have cc:∀ y':k9,y'.na=(t.hs.getD (m6 t) b7).na->y'.kn=(t.hs.getD (m6 t) b7).kn->y'.gr=(t.hs.getD (m6 t) b7).gr->(∀ x,x∈y'.td->aH y'.gr.ru (pathOf x.ad)=true)->
  KI w ⟨t.na,s6 t,t.hs.set (m6 t) y',t.se,t.lk++[⟨s6 t,((t.hs.getD (m6 t) b7).td.getD 0 j6).ad,(ab w ((t.hs.getD (m6 t) b7).td.getD 0 j6).ad ((t.hs.getD (m6 t) b7).td.getD 0 j6).tr).1⟩]⟩:=fun y' e1 e2 e3 e4=>
  KI.call (t:={ t with a8:=s6 t }) (i:=m6 t) (l:=⟨s6 t,((t.hs.getD (m6 t) b7).td.getD 0 j6).ad,(ab w ((t.hs.getD (m6 t) b7).td.getD 0 j6).ad ((t.hs.getD (m6 t) b7).td.getD 0 j6).tr).1⟩) OJ h' hx.1 hit.2.1 e1
   (fun _=>⟨by rw[e3,e1];exact g1,e4⟩) (fun c=>Wk (by rw[<- e2];exact c))
 split
 refine cc _ rfl rfl rfl fun x H2=>?_
 rcases List.mem_append.1 H2 with H2 | H2
 exact g2 x (List.mem_of_mem_drop H2)
 rw[List.mem_singleton.1 H2];exact g2 ((t.hs.getD (m6 t) b7).td.getD 0 j6) Py
 rename_i c
 rw[if_neg c]at Qj
 have c1:=cc (A8 w (t.hs.getD (m6 t) b7) (s6 t)) rfl rfl rfl fun x H2=>g2 x (List.mem_of_mem_drop H2)
 have g3:GI w n ⟨t.na,s6 t,t.hs.set (m6 t) (A8 w (t.hs.getD (m6 t) b7) (s6 t)),t.se,t.lk++[⟨s6 t,((t.hs.getD (m6 t) b7).td.getD 0 j6).ad,(ab w ((t.hs.getD (m6 t) b7).td.getD 0 j6).ad ((t.hs.getD (m6 t) b7).td.getD 0 j6).tr).1⟩]⟩:=
  BM OJ hx.1 hk hx.2.1 (Ch hg) ⟨by simp only;omega,hx.2.2.2⟩
 split
 exact c1.bL g3
 exact c1
 rename_i hk
 have hk:(t.hs.getD (m6 t) b7).kn=false:=by simpa using hk
 have Pz:=mi hy.hn
 unfold OR
 refine KI.call (t:={ t with a8:=s6 t }) (i:=m6 t) (l:=⟨s6 t,ae (t.hs.getD (m6 t) b7).na,(ab w (ae (t.hs.getD (m6 t) b7).na) (t.hs.getD (m6 t) b7).tr).1⟩) OJ h' hx.1 Pz ?_ (fun E2=>?_) (fun E2 q hq he=>?_)
 unfold Ml;split <;> rfl
 unfold Ml at E2 ⊢
 split at E2
 have:(t.hs.getD (m6 t) b7).kn=true:=E2
 rw[hk]at this;cases this
 rename_i c
 rw[if_neg c]
 refine⟨rfl,fun x H2=>?_⟩
 have:=(List.mem_filter.1 H2).2
 unfold MP at this
 rw[Bool.and_eq_true]at this
 exact this.2
 unfold Ml at E2 he ⊢
 split at E2
 rename_i c
 rw[if_pos c]at he ⊢
 have he:af q.ad=(t.hs.getD (m6 t) b7).na:=he
 show q.ad=ae (t.hs.getD (m6 t) b7).na/\q.ki=3
 rcases List.mem_append.1 hq with hq | hq
 exact V9 hk q hq he
 rw[List.mem_singleton.1 hq];exact⟨rfl,c.1⟩
 cases E2
theorem qL:∀ (k:Nat) {t:l4},GI w n t->KI w t->KI w (D1 w k t)
 | 0,_,_,h=>h
 | k+1,t,hG,h=>by
   unfold D1
   split
   rename_i hg;exact qL k (iP hG hg) (yH hG h hg)
   exact h
theorem xY{e9:List BL}{t:l4}(h:ax n e9=some t):KI w t:=by
 unfold ax at h
 split at h
 cases h
 exact KI.bL (w:=w) (n:=n) GI.zero ⟨fun y hy=>by simp[aV]at hy,fun y hy=>by simp[aV]at hy,fun q hq=>by simp[aV]at hq⟩
 cases h
theorem Iv:∀ (hs:List k9) (L:List l8),(hs.map (·.na)).Nodup->(∀ q,q∈L->∃ y,y∈hs/\y.na=af q.ad)->(hs.map fun y=>(cls L y.na).length).sum=L.length:=by
 intro hs L hn
 induction L with
 | nil=>intro _;simp only[cls,List.filter_nil,List.map_nil,List.length_nil];clear hn;induction hs with
   | nil=>rfl
   | cons a l ih=>simpa using ih
 | cons q L ih=>
   intro h
   have ih:=ih fun p hp=>h p (List.mem_cons_of_mem _ hp)
   obtain⟨y,y1,y2⟩:=h q Z8
   have key:∀ l:List k9,(l.map (·.na)).Nodup->(l.map fun y=>(cls (q::L) y.na).length).sum=(l.map fun y=>(cls L y.na).length).sum+(if af q.ad∈l.map (·.na) then 1 else 0):=by
    intro l
    induction l with
    | nil=>intro _;simp
    | cons a l ihl=>
      intro hnd
      rw[List.map_cons,List.nodup_cons]at hnd
      have:=ihl hnd.2
      have e:(cls (q::L) a.na).length=(cls L a.na).length+(if af q.ad=a.na then 1 else 0):=by
       unfold cls
       rw[List.filter_cons]
       by_cases c:af q.ad=a.na
       rw[if_pos (by simpa using c),if_pos c];simp
       rw[if_neg (by simpa using c),if_neg c];simp
      simp only[List.map_cons,List.sum_cons,e,this,List.mem_cons]
      by_cases c:af q.ad=a.na
      rw[if_pos c,if_neg (by rw[c];exact hnd.1),if_pos (.inl c)];omega
      rw[if_neg c]
      by_cases c2:af q.ad∈l.map (·.na)
      rw[if_pos c2,if_pos (.inr c2)];omega
      rw[if_neg c2,if_neg (by rintro (h | h);exact c h;exact c2 h)];omega
   rw[key hs hn,ih,if_pos (List.mem_map.2 ⟨y,y1,y2⟩),List.length_cons]
end Go.Pd
namespace Go.Pd
open Go.Abs Go.Proofs.YtbjbamjffkanbaaGreatDoor
def gG(L:List l8)(d:BL):Bool:=L.any fun q=>(af q.ad==d)&&!((q.ad==ae d)&&decide (q.ki=3))
def kq(L:List l8)(l:l8):Bool:=(l.ad==ae (af l.ad))&&!(gG L (af l.ad))&&decide ((cls L (af l.ad)).length<3)
def M0(L:List l8)(l:l8):Prop:=l.ki≠3/\kq L l=false
instance (L:List l8) (l:l8):Decidable (M0 L l):=by unfold M0;infer_instance
def LI(w:List Pg)(t:l4):Prop:= ∀ k,k<t.lk.length->kq (t.lk.take k) (t.lk.getD k m7)=true\/(aH (bg w t.na (af (t.lk.getD k m7).ad)).ru (pathOf (t.lk.getD k m7).ad)=true/\(t.lk.getD k m7).ad∈t.se)
variable {w:List Pg} {n:BL}
theorem mI{t:l4}{s x:BL}(h:x∈t.se):x∈(ao t s).se:=by
 show x∈cf t.se s
 unfold cf
 split
 exact List.mem_append_left _ h
 exact h
theorem LI.bL:∀ {l:List BL} {t:l4},LI w t->LI w (l.foldl ao t)
 | [],_,h=>h
 | s::l,t,h=>LI.bL (l:=l) (t:=ao t s) fun k hk=>(h k hk).imp id fun⟨a,b⟩=>⟨a,mI b⟩
theorem LI.call{t:l4}{hs:List k9}{l:l8}{a8:Int}(h:LI w t)(hl:kq t.lk l=true\/(aH (bg w t.na (af l.ad)).ru (pathOf l.ad)=true/\l.ad∈t.se)):LI w ⟨t.na,a8,hs,t.se,t.lk++[l]⟩:=fun k hk=>by
 have hk:k<(t.lk++[l]).length:=hk
 show kq ((t.lk++[l]).take k) ((t.lk++[l]).getD k m7)=true\/(aH (bg w t.na (af ((t.lk++[l]).getD k m7).ad)).ru (pathOf ((t.lk++[l]).getD k m7).ad)=true/\((t.lk++[l]).getD k m7).ad∈t.se)
 rw[List.length_append,List.length_singleton]at hk
 rcases Nat.lt_or_ge k t.lk.length with c | c
 have:=h k c
 rw[List.take_append_of_le_length Z9,List.getD_eq_getElem?_getD,List.getElem?_append_left c,<- List.getD_eq_getElem?_getD]
 exact this
 obtain rfl:k=t.lk.length:=Z9
 have e:(t.lk++[l]).getD t.lk.length m7=l:=by
  rw[List.getD_eq_getElem?_getD,List.getElem?_append_right (Nat.le_refl _)];simp
 rw[List.take_left,e]
 exact hl
end Go.Pd
namespace Go.Pd
open Go.Abs Go.Proofs.YtbjbamjffkanbaaGreatDoor
def ai(w:List Pg)(n:BL)(p:List BL)(m:Int):l4:=oT (aU w (oT (ax n p)) m)
theorem oz{w:List Pg}{n:BL}{p:List BL}{m:Int}:oT (aU w (oT (ax n p)) m)=ai w n p m:=rfl
theorem gI{w:List Pg}{n:BL}{p:List BL}{m:Int}(hm:y8 m 0 400=true):((ax n p).isSome&&(aU w (oT (ax n p)) m).isSome)=((ax n p).isSome&&aq w):=by
 cases h:ax n p with
 | none=>rfl
 | some t=>
   have:=hX h
   simp only[oT,Option.getD_some,Option.isSome_some,Bool.true_and]
   unfold aU
   rw[this,Bool.and_true,hm]
   cases aq w
   rfl
   rfl
theorem fu{w:List Pg}{n:BL}{p:List BL}{m:Int}(hm:y8 m 0 400=true)(h:(ax n p).isSome=true/\(aU w (oT (ax n p)) m).isSome=true):∃ t,ax n p=some t/\aq w=true/\ai w n p m=D1 w m.toNat t:=by
 have h2:=(gI hm).symm.trans (show ((ax n p).isSome&&(aU w (oT (ax n p)) m).isSome)=true by rw[h.1,h.2];rfl)
 unfold ai
 cases hn:ax n p with
 | none=>rw[hn]at h;cases h.1
 | some t=>
   have h3:aq w=true:=by
    rw[hn]at h2;exact h2
   refine⟨t,rfl,h3,?_⟩
   show oT (aU w t m)=_
   rw[tR hm h3 (hX hn)]
   rfl
theorem ij{w:List Pg}{n:BL}{p:List BL}{m:Int}(hm:y8 m 0 400=true)(h:(ax n p).isSome=true/\(aU w (oT (ax n p)) m).isSome=true):GI w n (ai w n p m)/\aq w=true:=by
 obtain⟨t,h1,h2,h3⟩:=fu hm h
 rw[h3]
 exact⟨ud _ (ia h1),h2⟩
theorem nv{w:List Pg}{n:BL}{t:l4}(h:GI w n t):(t.lk.length:Int)<=3*((t.se.length:Int)+t.hs.length):=by
 have:=h.po
 have:=uy (f:=hp) (l:=t.hs) fun y hy=>by
  have hI:=h.hi y hy
  have h1:=zh fun x hx=>(hI.it x hx).2.2.2.2.1
  unfold hp
  split
  omega
  rename_i c
  have:=hI.un (by simpa using c)
  omega
 omega
theorem eh{w:List Pg}{n:BL}{t:l4}(h:GI w n t):t.lk.length<=360:=by
 have:=nv h
 have:=h.hl
 have:=h.sn.2
 omega
theorem jC{s:BL}(h:aD s=true):s.length<=60/\m4 s:=by
 constructor
 have:=fg h
 unfold ar at this
 split at this
 rename_i c;exact c.1
 cases this
 have:=h
 unfold aD at this
 rw[Bool.and_eq_true,beq_iff_eq]at this
 rw[<- this.2];exact qi _
end Go.Pd
namespace Go.Proofs.YtbjbamjffkanbaaGreatDoor
open Go Go.Abs Go.RowKit Go.Pd
set_option maxRecDepth 20000
end Go.Proofs.YtbjbamjffkanbaaGreatDoor
namespace Go.Pd
open Go.Abs Go.Proofs.YtbjbamjffkanbaaGreatDoor
theorem wi{L:List l8}{i:Nat}(hi:i<L.length):L.take (i+1)=L.take i++[L.getD i m7]:=by
 rw[List.take_succ_eq_append_getElem hi,List.getD_eq_getElem?_getD,List.getElem?_eq_getElem hi];rfl
end Go.Pd
namespace Go.Proofs.YtbjbamjffkanbaaGreatDoor
open Go Go.Abs Go.RowKit Go.Pd
set_option maxRecDepth 20000
end Go.Proofs.YtbjbamjffkanbaaGreatDoor
namespace Go.Pd
open Go.Abs Go.Proofs.YtbjbamjffkanbaaGreatDoor
def K7(t:l4)(d:BL):List Int:=if aZ t=true then cls t.lk d else []
theorem uo(L:List l8)(i:Nat)(d:BL):(cls (L.take i) d).length<=i:=by
 unfold cls
 rw[List.length_map]
 have:=List.length_filter_le (fun l:l8=>af l.ad==d) (L.take i)
 have h2:=List.length_take_le i L
 omega
theorem mL{L:List l8}{i:Nat}{d:BL}(hi:i<L.length):cls (L.take (i+1)) d=cls (L.take i) d++(if af (L.getD i m7).ad=d then [(L.getD i m7).ti] else []):=by
 rw[wi hi,dS]
theorem Cv{t:l4}{i:Nat}(h:aZ t=true)(hi:i<t.lk.length):aD (t.lk.getD i m7).ad=true:=by
 unfold aZ cN at h
 simp only[Bool.and_eq_true,List.all_eq_true,decide_eq_true_eq]at h
 exact(h.1.1.2.2 i (List.mem_range.2 hi)).2
end Go.Pd
namespace Go.Proofs.YtbjbamjffkanbaaGreatDoor
open Go Go.Abs Go.RowKit Go.Pd
set_option maxRecDepth 20000
theorem mQ(t:l4)(d:BL)(ht:C5 t):PF Tryz.prog 13 [dX t.na t.a8 t.hs t.se t.lk,sV d] [] (fun r h=>r=(.sl false ((K7 t d).map iV))/\h=[]):=by
 refine az (N:=40) (rs:=[.tmp 4]) Tryz.func13
  (.bx (fun g2=>.q 1<|.r 1 [.c9]<|.c (fX t) []<|.q 1<|.br (.q 1<|.nil) (.q 1<|.r 4 [.c9]<|.h (.H4 5 1)<|.loop (Nat×(List Int)×Nat×Nat×Nat) (fun (i,r,x1,x2,x3)=>⟨[(1,sV d),(5,.own 1 (r.map iV) x1 x2 x3),(14,gj t.lk),(15,iN t.lk.length),(16,iN i)],[]⟩) (fun (i,r,x1,x2,x3)=>i<=t.lk.length/\r=(cls (t.lk.take i) d)) (fun (i,r,x1,x2,x3)=>t.lk.length-i) (fun (i,r,x1,x2,x3)=>.q 1<|.br (.r 2 [.agg [iV ((t.lk.getD i m7).ti),sV ((t.lk.getD i m7).ad),iV ((t.lk.getD i m7).ki)]]<|.al BE (fun g7=>.st none<|.r 2 [.c9]<|.c (cH ((t.lk.getD i m7).ad)) []<|.q 3<|.al dc (fun g8=>.st none<|.q 1<|.r 7 [.c9]<|.br (.r 3 [.c9]<|.bs<|.ap (fun I9 MN MS=>.h (.o5 37 (.own 1 ((r++[(t.lk.getD i m7).ti]).map iV) I9 MN MS))<|.q 1<|.q 2<|.nil)) (.q 2<|.nil)))) (.h (.fz 5)<|.h (.o5 5 (.sl false (r.map iV)))<|.q 2<|.nil)))))
  (∀ g2:Nat,Z g2 0/\(fX t).sm/\((C5 t))/\Br (!(aZ t)) (Q (.sl false []) (.sl false ((K7 t d).map iV))) (Z g2 4/\(∃ x:Nat×(List Int)×Nat×Nat×Nat,match x with | (j7,LS,NQ,NP,NN)=>(j7<=t.lk.length/\LS=(cls (t.lk.take j7) d))/\E (sV d)/\Q (.own 1 ([].map iV) 0 0 0) (.own 1 (LS.map iV) NQ NP NN)/\E (gj t.lk)/\Q (iN ((t.lk.map ba).length)) (iN t.lk.length)/\Q (iN 0) (iN j7)/\True)/\∀ x:Nat×(List Int)×Nat×Nat×Nat,match x with | (i,r,x1,x2,x3)=>(i<=t.lk.length/\r=(cls (t.lk.take i) d))->(fun v1:List V=>Br (s8 (i:Int) (t.lk.length:Int)) (Ex (i:Int) (t.lk.map ba) (.agg [iV ((t.lk.getD i m7).ti),sV ((t.lk.getD i m7).ad),iV ((t.lk.getD i m7).ki)])/\True/\∀ g7:Nat,Z g7 0/\Z g7 1/\(cH ((t.lk.getD i m7).ad)).sm/\((((t.lk.getD i m7).ad).length<=1000000)/\(m4 ((t.lk.getD i m7).ad)))/\∀ g8:Nat,Z g8 0/\Gd (((aB ((t.lk.getD i m7).ad)).isSome)==true) (Z g8 0)/\Pk ((aB ((t.lk.getD i m7).ad)).isSome) (((aB ((t.lk.getD i m7).ad)).isSome)==true) true/\Br (((aB ((t.lk.getD i m7).ad)).isSome)&&(((oA (aB ((t.lk.getD i m7).ad))).h9)==d)) (Z g7 0/\((1,1,x1,x2,x3,(r.map iV).length)=(1,1,x1,x2,x3,(r.map iV).length))/\(True)/\(V.aG v1=false)/\(aL 1 v1)/\(((r.map iV).length+v1.length)*8<=140737488355328)/\∀ I9 MN MS:Nat,((.own 1 ((r.map iV)++v1) I9 MN MS:V)=.own 1 ((r++[(t.lk.getD i m7).ti]).map iV) I9 MN MS)/\m9 ((i:Int)+1)/\∃ x:Nat×(List Int)×Nat×Nat×Nat,match x with | (c5,B9,L5,L4,L3)=>(c5<=t.lk.length/\B9=(cls (t.lk.take c5) d))/\(t.lk.length-c5<t.lk.length-i)/\E (sV d)/\Q (.own 1 ((r++[(t.lk.getD i m7).ti]).map iV) I9 MN MS) (.own 1 (B9.map iV) L5 L4 L3)/\E (gj t.lk)/\E (iN t.lk.length)/\Q (iN (i+1)) (iN c5)/\True) (m9 ((i:Int)+1)/\∃ x:Nat×(List Int)×Nat×Nat×Nat,match x with | (c5,B9,L5,L4,L3)=>(c5<=t.lk.length/\B9=(cls (t.lk.take c5) d))/\(t.lk.length-c5<t.lk.length-i)/\E (sV d)/\Q (.own 1 (r.map iV) x1 x2 x3) (.own 1 (B9.map iV) L5 L4 L3)/\E (gj t.lk)/\E (iN t.lk.length)/\Q (iN (i+1)) (iN c5)/\True)) (((.sl false (V.D5 (r.map iV)):V)=.sl false (r.map iV))/\Q (.sl false (r.map iV)) (.sl false ((K7 t d).map iV)))) ([iV ((t.lk.getD i m7).ti)]:List V))) ?_
 intro g2
 refine⟨rfl,rfl,ht,?_⟩
 refine bI (fun j9=>?_) fun j9=>?_
 unfold Q
 rw[show K7 t d=[] from if_neg (by rw[j9];decide)]
 rfl
 have XE:=ht.l
 refine⟨rfl,?_⟩
 refine⟨⟨(0,[],0,0,0),?_,rfl,rfl,rfl,Z4,rfl,trivial⟩,?_⟩
 exact⟨Z9,rfl⟩
 rintro⟨i,r,x1,x2,x3⟩ ⟨h1,h2⟩
 have M3:r.length<=i:=by rw[h2];exact uo ..
 refine bI (fun l6=>?_) fun l6=>?_
 have S1:=ht.la (t.lk.getD i m7) (aw (d:=m7) Z9)
 have Pn:=Cv j9 (i:=i) Z9
 refine⟨⟨Z9,an (d:=m7) Z9⟩,trivial,?_⟩
 intro g7
 refine⟨rfl,rfl,rfl,⟨by have:=S1.1;omega,S1.2⟩,?_⟩
 intro g8
 refine⟨rfl,fun hG=>rfl,⟨fun h=>by rw[h] <;> rfl,fun _=>rfl⟩,?_⟩
 refine bI (fun n0=>?_) fun n0=>?_
 refine⟨rfl,rfl,trivial,rfl,by simp[aL,V.n,V.ns],Z0,?_⟩
 intro I9 MN MS
 refine⟨congrArg (V.own 1 · I9 MN MS) Z8,Z9,?_⟩
 refine⟨(i+1,r++[(t.lk.getD i m7).ti],I9,MN,MS),?_,?_,rfl,rfl,rfl,rfl,rfl,trivial⟩
 have S5:aB (t.lk.getD i m7).ad=ar (t.lk.getD i m7).ad:=if_pos Pn
 have N9:=fg Pn
 rw[S5]at n0
 rw[mL Z9,h2]
 first
 | exact⟨Z9,by rw[if_pos (show af (t.lk.getD i m7).ad=d from n0.2)]⟩
 | exact⟨Z9,by rw[if_neg (fun c:af (t.lk.getD i m7).ad=d=>n0 N9 c),List.append_nil]⟩
 | exact⟨Z9,by rw[if_neg (fun c:af (t.lk.getD i m7).ad=d=>n0.elim (fun e=>by rw[N9]at e;cases e) (fun e=>e c)),List.append_nil]⟩
 exact Z1
 refine⟨Z9,?_⟩
 refine⟨(i+1,r,x1,x2,x3),?_,?_,rfl,rfl,rfl,rfl,rfl,trivial⟩
 have S5:aB (t.lk.getD i m7).ad=ar (t.lk.getD i m7).ad:=if_pos Pn
 have N9:=fg Pn
 rw[S5]at n0
 rw[mL Z9,h2]
 first
 | exact⟨Z9,by rw[if_pos (show af (t.lk.getD i m7).ad=d from n0.2)]⟩
 | exact⟨Z9,by rw[if_neg (fun c:af (t.lk.getD i m7).ad=d=>n0 N9 c),List.append_nil]⟩
 | exact⟨Z9,by rw[if_neg (fun c:af (t.lk.getD i m7).ad=d=>n0.elim (fun e=>by rw[N9]at e;cases e) (fun e=>e c)),List.append_nil]⟩
 exact Z1
 refine⟨congrArg (V.sl false) (aR (fun _=>rfl) _),?_⟩
 unfold Q
 rw[show K7 t d=cls t.lk d from if_pos j9,h2,List.take_of_length_le Z9]
def ju(t:l4)(d:BL):o8 Tryz.prog:={ f:=13,args:=[dX t.na t.a8 t.hs t.se t.lk,sV d],H:=[],pre:=(C5 t),res:=.sl false ((K7 t d).map iV),H':=[],ok:=fun h=>mQ t d h }
end Go.Proofs.YtbjbamjffkanbaaGreatDoor
namespace Go.Pd
open Go.Abs Go.Proofs.YtbjbamjffkanbaaGreatDoor
theorem jX{w:List Pg}(hw:aq w=true)(hz:∀ i,m8 (w.getD i l5)):∀ (k:Nat) {t:l4},Mi t->Mi (D1 w k t)
 | 0,_,h=>h
 | k+1,t,h=>by
   unfold D1
   split
   rename_i hg;exact jX hw hz k (jK hw hz h hg)
   exact h
theorem zl{w:List Pg}{n:BL}{t:l4}(hG:GI w n t)(hT:Mi t)(hn:n.length<=1000):C5 t:=by
 have h1:=hG.sn.2
 have h2:=hG.hl
 have h3:=eh hG
 refine⟨by rw[hG.na];exact hn,Z9,Z9,Z9,fun x hx=>?_,fun x hx=>?_,fun y hy=>?_⟩
 have:=jC (hG.se x hx);exact⟨Z9,this.2⟩
 obtain⟨k,hk,e⟩:=List.mem_iff_getElem.1 hx
 have:=jC (hG.al k hk).rd
 rw[List.getD_eq_getElem?_getD,List.getElem?_eq_getElem hk]at this
 subst e
 exact⟨Nat.le_trans this.1 Z9,this.2⟩
 have hI:=hG.hi y hy
 have hS:=hT.t0.ha y hy
 have hs:=hT.t0.s
 have hgl:=hI.gl
 exact⟨hS.n,hS.r,hS.rp,Z9,by have:=hS.t;omega,fun x hx=>⟨(hS.ta x hx).1,(hS.ta x hx).2.1⟩⟩
theorem qO{w:List Pg}{n:BL}{p:List BL}{m:Int}(hm:y8 m 0 400=true)(hz:∀ i,m8 (w.getD i l5))(hn:n.length<=1000)(hl:p.length<=400)(ha:∀ x,x∈p->x.length<=1000/\m4 x)(h:(ax n p).isSome=true/\(aU w (oT (ax n p)) m).isSome=true):C5 (ai w n p m):=by
 obtain⟨hG,hW⟩:=ij hm h
 refine zl hG ?_ hn
 obtain⟨t,Oa,_,h3⟩:=fu hm h
 have hS:=tN hn hl ha
 have hh:=uP (n:=n) hl
 rw[Oa]at hS hh
 rw[h3]
 exact jX hW hz _ (mE hS hh (hX Oa))
theorem Jo{w:List Pg}{n:BL}{t:l4}(h:GI w n t)(d:BL):(K7 t d).length<=360:=by
 have:=eh h
 unfold K7
 split
 have:=uo t.lk t.lk.length d
 rw[List.take_of_length_le (Nat.le_refl _)]at this
 omega
 simp
end Go.Pd
namespace Go.Proofs.YtbjbamjffkanbaaGreatDoor
open Go Go.Abs Go.RowKit Go.Pd
set_option maxRecDepth 20000
end Go.Proofs.YtbjbamjffkanbaaGreatDoor
namespace Go.Pd
open Go.Abs Go.Proofs.YtbjbamjffkanbaaGreatDoor
def O8(B:Int)(t:l4):Prop:= ∀ y,y∈t.hs->y.re<=B
theorem O8.cO{t:l4}{s:BL}{B:Int}(hB:0<=B)(h:O8 B t):O8 B (ao t s):=by
 intro z hz
 have hz:z∈aQ t.na t.hs t.se s:=hz
 unfold aQ at hz
 split at hz
 have hin:∀ y,y∈aA t.hs (af s) t.na->y.re<=B:=fun y hy=>by
  unfold aA at hy
  split at hy
  exact h y hy
  rcases List.mem_append.1 hy with hy | hy
  exact h y hy
  rw[List.mem_singleton.1 hy];exact hB
 rcases bN hz with e | e
 have:=hin _ (aw (d:=b7) (cF t.hs (af s) t.na))
 rw[e]
 unfold bc
 split <;> exact this
 exact hin z e
 exact h z hz
def TM(i:Nat)(t:l4):Prop:=t.a8<=30*i/\O8 (30*i) t
theorem TM.bL{i:Nat}:∀ {l:List BL} {t:l4},TM i t->TM i (l.foldl ao t)
 | [],_,h=>h
 | s::l,t,h=>TM.bL (l:=l) (t:=ao t s) ⟨h.1,h.2.cO Z9⟩
variable {w:List Pg} {n:BL}
theorem iD{y:k9}{a8 k m:Int}(h:y.gr.wa<=20):(cL y a8 k m).re<=a8+28:=by
 have hb:=jR (k:=m+1)
 unfold cL
 simp only
 split <;> omega
theorem qX{t:l4}{i:Nat}(hO:OI t)(h:TM i t)(hg:K3 t=true):TM (i+1) (A7 w t):=by
 have hx:=jA hg
 have he:=xQ hg
 have h1:=h.2 _ (aw (d:=b7) hx.1)
 have h2:=h.1
 have hy:=(hO.hs _ (aw (d:=b7) hx.1)).wa
 have hW:s6 t<=30*i:=Z9
 have c1:∀ (y':k9) (l:l8),y'.re<=30*(i:Int)+30->TM (i+1) ⟨t.na,s6 t,t.hs.set (m6 t) y',t.se,t.lk++[l]⟩:=fun y' l OW=>by
  refine⟨by show s6 t<=_;omega,fun z hz=>?_⟩
  rcases bN hz with e | e
  rw[e];omega
  have:=h.2 z e;omega
 unfold A7
 split
 unfold LQ
 simp only
 have hf:(A8 w (t.hs.getD (m6 t) b7) (s6 t)).re<=s6 t+28:=iD hy
 split
 exact c1 _ _ (by show (A8 w (t.hs.getD (m6 t) b7) (s6 t)).re<=_;omega)
 split
 exact(c1 _ _ Z9).bL
 exact c1 _ _ Z9
 unfold OR
 refine c1 _ _ ?_
 have hf:(n9 w (t.hs.getD (m6 t) b7) (s6 t)).re<=s6 t+28:=iD hy
 show (Ml w t.na (t.hs.getD (m6 t) b7) (s6 t)).re<=_
 unfold Ml
 split
 show (n9 w (t.hs.getD (m6 t) b7) (s6 t)).re<=_;omega
 have s2:(bg w t.na (t.hs.getD (m6 t) b7).na).wa<=20:=jY (ab w (ae (t.hs.getD (m6 t) b7).na) 2).1 (ab w (ae (t.hs.getD (m6 t) b7).na) 2).2 t.na
 simp only
 omega
structure WQ (w:List Pg) (n:BL) (i:Nat) (t:l4):Prop where
 gi:GI w n t
 oi:OI t
 ti:Mi t
 tm:TM i t
theorem WQ.step{t:l4}{i:Nat}(h:WQ w n i t)(hw:aq w=true)(hz:∀ i,m8 (w.getD i l5))(hg:K3 t=true):WQ w n (i+1) (A7 w t):=
 ⟨iP h.gi hg,np h.gi h.oi hg,jK hw hz h.ti hg,qX h.oi h.tm hg⟩
theorem WQ.ok{t:l4}{i:Nat}(h:WQ w n i t):aZ t=true:=pI h.gi h.oi (by have:=eh h.gi;omega)
theorem WQ.new{p:List BL}{t:l4}(h:ax n p=some t)(hS:C5 t)(hh:t.hs.length<=900):WQ w n 0 t:=by
 have hk:=hX h
 refine⟨ia h,mY h,mE hS hh hk,?_⟩
 unfold ax at h
 split at h
 cases h
 exact TM.bL (t:=aV n) ⟨Int.le_refl _,fun y hy=>by simp[aV]at hy⟩
 cases h
end Go.Pd
namespace Go.Pd
open Go.Abs Go.Proofs.YtbjbamjffkanbaaGreatDoor
def L8(L:List l8)(k:Nat):Prop:=k<L.length/\M0 (L.take k) (L.getD k m7)
def fy(w:List Pg)(e9:List BL)(L:List l8)(s:BL):Prop:=s∈e9\/∃ k,L8 L k/\s∈dY w (L.getD k m7).ad
structure CI (w:List Pg) (e9 J':List BL) (t:l4):Prop where
 gr:∀ y,y∈t.hs->y.kn=true->y.gr=bg w t.na y.na
 kn:∀ y,y∈t.hs->y.kn=true->gG t.lk y.na=true\/3<=(cls t.lk y.na).length
 kd:∀ q,q∈t.lk->q.ki≠3->(ab w q.ad 2).1=q.ki
 sr:∀ s,s∈t.se->fy w e9 t.lk s
 he:t.se.length<60->(∀ s,s∈e9->aD s=true->s∈t.se\/s∈J')/\∀ k,L8 t.lk k->∀ x,x∈dY w (t.lk.getD k m7).ad->aD x=true->x∈t.se\/x∈J'
 di:∀ s,s∈t.se->(∃ y,y∈t.hs/\∃ x,x∈y.td/\x.ad=s)\/aH (bg w t.na (af s)).ru (pathOf s)=false\/(∃ k,L8 t.lk k/\(t.lk.getD k m7).ad=s)\/(ab w s 2).1=3
 ro:∀ k,L8 t.lk k->fy w e9 (t.lk.take k) (t.lk.getD k m7).ad
theorem du{L r:List l8}{k:Nat}(h:L8 L k):L8 (L++r) k/\(L++r).getD k m7=L.getD k m7:=by
 have e1:(L++r).getD k m7=L.getD k m7:=by
  rw[List.getD_eq_getElem?_getD,List.getElem?_append_left h.1,<- List.getD_eq_getElem?_getD]
 refine⟨⟨by rw[List.length_append];have:=h.1;omega,?_⟩,e1⟩
 rw[e1,List.take_append_of_le_length (Nat.le_of_lt h.1)]
 exact h.2
theorem jS{L:List l8}{l:l8}{k:Nat}(h:L8 (L++[l]) k):L8 L k\/(k=L.length/\M0 L l):=by
 obtain⟨h1,h2⟩:=h
 rw[List.length_append,List.length_singleton]at h1
 rcases Nat.lt_or_ge k L.length with c | c
 rw[List.take_append_of_le_length Z9,List.getD_eq_getElem?_getD,List.getElem?_append_left c,<- List.getD_eq_getElem?_getD]at h2
 exact .inl ⟨c,h2⟩
 obtain rfl:k=L.length:=Z9
 have e:(L++[l]).getD L.length m7=l:=by
  rw[List.getD_eq_getElem?_getD,List.getElem?_append_right (Nat.le_refl _)];simp
 rw[List.take_left,e]at h2
 exact .inr ⟨rfl,h2⟩
theorem fb{L:List l8}{l:l8}(h:M0 L l):L8 (L++[l]) L.length/\(L++[l]).getD L.length m7=l:=by
 have e:(L++[l]).getD L.length m7=l:=by
  rw[List.getD_eq_getElem?_getD,List.getElem?_append_right (Nat.le_refl _)];simp
 refine⟨⟨Z8,?_⟩,e⟩
 rw[List.take_left,e];exact h
theorem pc{w:List Pg}{e9:List BL}{L r:List l8}{s:BL}(h:fy w e9 L s):fy w e9 (L++r) s:=
 h.imp id fun⟨k,h1,h2⟩=>⟨k,(du h1).1,by rw[(du h1).2];exact h2⟩
theorem gB{t:l4}{s:BL}{z:k9}(hz:z∈(ao t s).hs)(hk:z.kn=true):∃ y,y∈t.hs/\y.na=z.na/\y.kn=true/\y.gr=z.gr:=by
 have hz:z∈aQ t.na t.hs t.se s:=hz
 unfold aQ at hz
 split at hz
 have hin:∀ y,y∈aA t.hs (af s) t.na->y.kn=true->y∈t.hs:=fun y hy hk=>by
  unfold aA at hy
  split at hy
  exact hy
  rcases List.mem_append.1 hy with hy | hy
  exact hy
  rw[List.mem_singleton.1 hy]at hk;simp[bK]at hk
 rcases bN hz with e | e
 have x9:=aw (d:=b7) (cF t.hs (af s) t.na)
 generalize (aA t.hs (af s) t.na).getD (r7 t.hs (af s)) b7=y at *
 have q:z.kn=y.kn/\y.na=z.na/\y.gr=z.gr:=by
  subst e;unfold bc;split <;> exact⟨rfl,rfl,rfl⟩
 exact⟨y,hin y x9 (by rw[<- q.1];exact hk),q.2.1,by rw[<- q.1];exact hk,q.2.2⟩
 exact⟨z,hin z e hk,rfl,hk,rfl⟩
 exact⟨z,hz,rfl,hk,rfl⟩
theorem oN{t:l4}{s:BL}{y:k9}{x:w4}(hy:y∈t.hs)(hx:x∈y.td):∃ z,z∈(ao t s).hs/\x∈z.td:=by
 show ∃ z,z∈aQ t.na t.hs t.se s/\x∈z.td
 unfold aQ
 split
 obtain⟨j,hj,e⟩:=List.mem_iff_getElem.1 (iM (d:=af s) (n:=t.na) hy)
 by_cases c:r7 t.hs (af s)=j
 refine⟨_,List.mem_iff_getElem.2 ⟨r7 t.hs (af s),by rw[List.length_set];exact cF ..,List.getElem_set_self ..⟩,?_⟩
 have e2:(aA t.hs (af s) t.na).getD (r7 t.hs (af s)) b7=y:=by
  rw[c,List.getD_eq_getElem?_getD,List.getElem?_eq_getElem hj];exact e
 rw[e2]
 unfold bc
 split
 exact hx
 exact List.mem_append_left _ hx
 exact⟨y,List.mem_iff_getElem.2 ⟨j,by rw[List.length_set];exact hj,by rw[List.getElem_set_ne c];exact e⟩,hx⟩
 exact⟨y,hy,hx⟩
theorem mO{t:l4}{s:BL}(hr:dh t.se s):(∃ z,z∈(ao t s).hs/\∃ x,x∈z.td/\x.ad=s)\/∃ y,y∈t.hs/\y.kn=true/\y.na=af s/\aH y.gr.ru (pathOf s)=false:=by
 have e4:(ao t s).hs=(aA t.hs (af s) t.na).set (r7 t.hs (af s)) (bc ((aA t.hs (af s) t.na).getD (r7 t.hs (af s)) b7) s):=if_pos hr
 have hm:bc ((aA t.hs (af s) t.na).getD (r7 t.hs (af s)) b7) s∈(ao t s).hs:=by
  rw[e4]
  exact List.mem_iff_getElem.2 ⟨r7 t.hs (af s),by rw[List.length_set];exact cF ..,List.getElem_set_self ..⟩
 have x9:=aw (d:=b7) (cF t.hs (af s) t.na)
 have MB:=lq t.hs (af s) t.na
 generalize (aA t.hs (af s) t.na).getD (r7 t.hs (af s)) b7=y at *
 by_cases c:y.kn=true/\aH y.gr.ru (pathOf s)=false
 refine .inr ⟨y,?_,c.1,MB,c.2⟩
 unfold aA at x9
 split at x9
 exact x9
 rcases List.mem_append.1 x9 with h | h
 exact h
 have:=c.1
 rw[List.mem_singleton.1 h]at this;simp[bK]at this
 refine .inl ⟨_,hm,⟨s,0⟩,?_,rfl⟩
 unfold bc
 rw[if_neg c]
 exact List.mem_append_right _ (List.mem_singleton.2 rfl)
variable {w:List Pg} {n:BL} {e9:List BL}
theorem CI.cO{l:List BL}{s:BL}{t:l4}(h:CI w e9 (s::l) t)(hs:fy w e9 t.lk s):CI w e9 l (ao t s):=by
 by_cases hr:dh t.se s
 case neg=>
  have e3:cf t.se s=t.se:=if_neg hr
  have e4:aQ t.na t.hs t.se s=t.hs:=if_neg hr
  have:ao t s=t:=by unfold ao;rw[e3,e4]
  rw[this]
  have key:t.se.length<60->∀ x,aD x=true->x∈t.se\/x∈s::l->x∈t.se\/x∈l:=fun hl x ha c=>by
   rcases c with c | c
   exact .inl c
   rcases List.mem_cons.1 c with e | c
   subst e
   exact .inl (Decidable.byContradiction fun q=>hr ⟨ha,hl,q⟩)
   exact .inr c
  exact⟨h.gr,h.kn,h.kd,h.sr,fun hl=>⟨fun x hx ha=>key hl x ha ((h.he hl).1 x hx ha),fun k hk x hx ha=>key hl x ha ((h.he hl).2 k hk x hx ha)⟩,h.di,h.ro⟩
 have e3:(ao t s).se=t.se++[s]:=if_pos hr
 have key:(t.se++[s]).length<60->t.se.length<60:=fun h=>by rw[List.length_append,List.length_singleton]at h;omega
 have N2:∀ x,x∈t.se\/x∈s::l->x∈t.se++[s]\/x∈l:=fun x c=>by
  rcases c with c | c
  exact .inl (List.mem_append_left _ c)
  rcases List.mem_cons.1 c with e | c
  exact .inl (List.mem_append_right _ (List.mem_singleton.2 e))
  exact .inr c
 refine⟨fun z hz hk=>?_,fun z hz hk=>?_,h.kd,fun x hx=>?_,fun hl=>?_,fun x hx=>?_,h.ro⟩
 obtain⟨y,y1,y2,y3,y4⟩:=gB hz hk
 rw[<- y4,<- y2];exact h.gr y y1 y3
 obtain⟨y,y1,y2,y3,y4⟩:=gB hz hk
 rw[<- y2];exact h.kn y y1 y3
 rw[e3]at hx
 rcases List.mem_append.1 hx with hx | hx
 exact h.sr x hx
 rw[List.mem_singleton.1 hx];exact hs
 rw[e3]at hl ⊢
 exact⟨fun x hx ha=>N2 x ((h.he (key hl)).1 x hx ha),fun k hk x hx ha=>N2 x ((h.he (key hl)).2 k hk x hx ha)⟩
 rw[e3]at hx
 rcases List.mem_append.1 hx with hx | hx
 rcases h.di x hx with ⟨y,y1,q,q1,q2⟩ | c
 obtain⟨z,z1,z2⟩:=oN (s:=s) y1 q1
 exact .inl ⟨z,z1,q,z2,q2⟩
 exact .inr c
 rw[List.mem_singleton.1 hx]
 rcases mO hr with c | ⟨y,y1,y2,y3,y4⟩
 exact .inl c
 rw[h.gr y y1 y2,y3]at y4
 exact .inr (.inl y4)
theorem CI.bL:∀ {l:List BL} {t:l4},CI w e9 l t->(∀ s,s∈l->fy w e9 t.lk s)->CI w e9 [] (l.foldl ao t)
 | [],_,h,_=>h
 | s::l,t,h,hs=>CI.bL (l:=l) (t:=ao t s) (h.cO (hs s Z8)) fun x hx=>hs x (List.mem_cons_of_mem _ hx)
theorem oh{L:List l8}{l:l8}{d:BL}(h:gG L d=true):gG (L++[l]) d=true:=by
 unfold gG at *
 rw[List.any_append,h,Bool.true_or]
theorem CI.call{J':List BL} {t:l4} {i:Nat} {y':k9} {l:l8} {a8:Int} (h:CI w e9 [] t) (hi:i<t.hs.length)
 (hg:y'.kn=true->y'.gr=bg w t.na y'.na/\(gG (t.lk++[l]) y'.na=true\/3<=(cls (t.lk++[l]) y'.na).length)) (hk:l.ki≠3->(ab w l.ad 2).1=l.ki) (hp:M0 t.lk l->l.ad∈t.se/\∀ x,x∈dY w l.ad->x∈J')
 (ht:∀ x,x∈(t.hs.getD i b7).td->(∃ x',x'∈y'.td/\x'.ad=x.ad)\/aH (bg w t.na (af x.ad)).ru (pathOf x.ad)=false\/(M0 t.lk l/\l.ad=x.ad)\/(ab w x.ad 2).1=3):
 CI w e9 J' ⟨t.na,a8,t.hs.set i y',t.se,t.lk++[l]⟩:=by
 refine⟨fun z hz LU=>?_,fun z hz LU=>?_,fun q hq=>?_,fun s hs=>pc (h.sr s hs),fun hl=>⟨fun s hs ha=>?_,fun k hk x hx ha=>?_⟩,fun s hs=>?_,fun k hk=>?_⟩
 rcases bN hz with e | e
 subst e;exact(hg LU).1
 exact h.gr z e LU
 rcases bN hz with e | e
 subst e;exact(hg LU).2
 rcases h.kn z e LU with c | c
 exact .inl (oh c)
 refine .inr ?_
 show 3<=(cls (t.lk++[l]) z.na).length
 rw[dS,List.length_append];omega
 rcases List.mem_append.1 hq with hq | hq
 exact h.kd q hq
 rw[List.mem_singleton.1 hq];exact hk
 rcases (h.he hl).1 s hs ha with c | c
 exact .inl c
 simp at c
 have hx:x∈dY w ((t.lk++[l]).getD k m7).ad:=hx
 rcases jS hk with c | ⟨c1,c2⟩
 rw[(du c).2]at hx
 rcases (h.he hl).2 k c x hx ha with c | c
 exact .inl c
 simp at c
 rw[c1,(fb c2).2]at hx
 exact .inr ((hp c2).2 x hx)
 rcases h.di s hs with ⟨y,y1,x,x1,x2⟩ | c | ⟨k,k1,k2⟩ | c
 obtain⟨j,hj,e⟩:=List.mem_iff_getElem.1 y1
 by_cases c:i=j
 have e2:t.hs.getD i b7=y:=by
  rw[c,List.getD_eq_getElem?_getD,List.getElem?_eq_getElem hj];exact e
 rw[e2]at ht
 subst x2
 rcases ht x x1 with ⟨x',c1,c2⟩ | c | ⟨c1,c2⟩ | c
 exact .inl ⟨y',List.mem_iff_getElem.2 ⟨i,by rw[List.length_set];exact hi,List.getElem_set_self ..⟩,x',c1,c2⟩
 exact .inr (.inl c)
 exact .inr (.inr (.inl ⟨_,(fb c1).1,by rw[(fb c1).2];exact c2⟩))
 exact .inr (.inr (.inr c))
 exact .inl ⟨y,List.mem_iff_getElem.2 ⟨j,by rw[List.length_set];exact hj,by rw[List.getElem_set_ne c];exact e⟩,x,x1,x2⟩
 exact .inr (.inl c)
 exact .inr (.inr (.inl ⟨k,(du k1).1,by rw[(du k1).2];exact k2⟩))
 exact .inr (.inr (.inr c))
 show fy w e9 ((t.lk++[l]).take k) ((t.lk++[l]).getD k m7).ad
 rcases jS hk with c | ⟨c1,c2⟩
 rw[(du c).2,List.take_append_of_le_length (Nat.le_of_lt c.1)]
 exact h.ro k c
 rw[c1,(fb c2).2,List.take_left]
 exact h.sr _ (hp c2).1
end Go.Pd
namespace Go.Pd
open Go.Abs Go.Proofs.YtbjbamjffkanbaaGreatDoor
variable {w:List Pg} {n:BL} {e9:List BL}
def dv(y:k9):Nat:=(if y.kn=true then 0 else 1)+y.td.length
structure NI (t:l4):Prop where
 U0:t.lk.length+(t.hs.map dv).sum=t.se.length+t.hs.length
 OO:∀ y,y∈t.hs->y.kn=false->y.td≠[]
theorem oD{l:List k9}{i:Nat}{a:k9}(hi:i<l.length):((l.set i a).map dv).sum+dv (l.getD i b7)=(l.map dv).sum+dv a:=by
 induction l generalizing i with
 | nil=>simp at hi
 | cons b l ih=>
   cases i with
   | zero=>simp;omega
   | succ i=>
     have:=ih (i:=i) (by simpa using hi)
     simp only[List.set_cons_succ,List.map_cons,List.sum_cons,List.getD_cons_succ]at *
     omega
theorem NI.cO{t:l4}{s:BL}(h:NI t)(hk:∀ y,y∈t.hs->y.kn=false):NI (ao t s)/\∀ y,y∈(ao t s).hs->y.kn=false:=by
 have O1:∀ y,y∈(ao t s).hs->y.kn=false:=fun y hy=>by
  cases e:y.kn with
  | false=>rfl
  | true=>
    obtain⟨y0,y1,_,y3,_⟩:=gB hy e
    rw[hk y0 y1]at y3;cases y3
 refine⟨?_,O1⟩
 by_cases hr:dh t.se s
 case neg=>
  have e3:cf t.se s=t.se:=if_neg hr
  have e4:aQ t.na t.hs t.se s=t.hs:=if_neg hr
  have:ao t s=t:=by unfold ao;rw[e3,e4]
  rw[this];exact h
 have e3:(ao t s).se=t.se++[s]:=if_pos hr
 have e4:(ao t s).hs=(aA t.hs (af s) t.na).set (r7 t.hs (af s)) (bc ((aA t.hs (af s) t.na).getD (r7 t.hs (af s)) b7) s):=if_pos hr
 have hlt:=cF t.hs (af s) t.na
 have hin:(∀ y,y∈aA t.hs (af s) t.na->y.kn=false/\(y.td≠[]\/y=bK (af s) t.na))/\((aA t.hs (af s) t.na).map dv).sum+t.hs.length=(t.hs.map dv).sum+(aA t.hs (af s) t.na).length:=by
  unfold aA
  split
  exact⟨fun y hy=>⟨hk y hy,.inl (h.OO y hy (hk y hy))⟩,rfl⟩
  refine⟨fun y hy=>?_,?_⟩
  rcases List.mem_append.1 hy with hy | hy
  exact⟨hk y hy,.inl (h.OO y hy (hk y hy))⟩
  exact⟨by rw[List.mem_singleton.1 hy];rfl,.inr (List.mem_singleton.1 hy)⟩
  simp only[List.map_append,List.sum_append,List.length_append,List.map_cons,List.map_nil,List.sum_cons,List.sum_nil,List.length_singleton]
  simp[dv,bK];omega
 have x9:=(hin.1 _ (aw (d:=b7) hlt)).1
 have hp:=oD (a:=bc ((aA t.hs (af s) t.na).getD (r7 t.hs (af s)) b7) s) hlt
 have e5:dv (bc ((aA t.hs (af s) t.na).getD (r7 t.hs (af s)) b7) s)=dv ((aA t.hs (af s) t.na).getD (r7 t.hs (af s)) b7)+1:=by
  unfold bc
  rw[if_neg (fun c=>by rw[x9]at c;cases c.1)]
  simp[dv];omega
 refine⟨?_,fun y hy _=>?_⟩
 have:=h.U0
 have:=hin.2
 rw[e3,e4,List.length_set,List.length_append,List.length_singleton]
 show t.lk.length+_=_
 omega
 rw[e4]at hy
 obtain⟨j,hj,e⟩:=List.mem_iff_getElem.1 hy
 rw[List.length_set]at hj
 by_cases c:r7 t.hs (af s)=j
 subst c
 rw[List.getElem_set_self]at e
 rw[<- e]
 unfold bc
 rw[if_neg (fun c=>by rw[x9]at c;cases c.1)]
 simp
 rw[List.getElem_set_ne c]at e
 rcases (hin.1 y (by rw[<- e];exact List.getElem_mem _)).2 with q | q
 exact q
 exfalso
 unfold aA at hj e
 split at hj
 rename_i c2
 simp only[c2,if_true]at e
 have:=h.OO y (by rw[<- e];exact List.getElem_mem _) (by rw[q];rfl)
 rw[q]at this;exact this rfl
 rename_i c2
 simp only[c2,if_false]at e
 have hle:r7 t.hs (af s)<=t.hs.length:=List.findIdx_le_length
 rw[List.length_append,List.length_singleton]at hj
 have Pl:j<t.hs.length:=Z9
 rw[List.getElem_append_left Pl]at e
 have:=h.OO y (by rw[<- e];exact List.getElem_mem _) (by rw[q];rfl)
 rw[q]at this;exact this rfl
theorem NI.bL:∀ {l:List BL} {t:l4},NI t->(∀ y,y∈t.hs->y.kn=false)->NI (l.foldl ao t)
 | [],_,h,_=>h
 | s::l,t,h,hk=>NI.bL (l:=l) (t:=ao t s) (h.cO hk).1 (h.cO hk).2
end Go.Pd
namespace Go.Abs
open Go Go.RowKit
section
variable {P:Program}
end
end Go.Abs
namespace Go.Pd
open Go.Abs Go.Proofs.YtbjbamjffkanbaaGreatDoor
theorem yN(n k:Nat)(h:0<k/\k<=400):y8 ((n % k:Nat):Int) 0 400=true:=decide_eq_true (by have:=Nat.mod_lt n h.1;omega)
theorem wg{w:List Pg}{n:BL}{p:List BL}{m:Int}(hm:y8 m 0 400=true)(h:(ax n p).isSome=true/\(aU w (oT (ax n p)) m).isSome=true):KI w (ai w n p m):=by
 obtain⟨t,h1,_,h3⟩:=fu hm h
 rw[h3]
 exact qL _ (ia h1) (xY h1)
theorem vH{w:List Pg}{n:BL}{p:List BL}{m:Int}(hm:y8 m 0 400=true)(h:(ax n p).isSome=true/\(aU w (oT (ax n p)) m).isSome=true):aZ (ai w n p m)=true/\bh n=true:=by
 obtain⟨t,h1,_,h3⟩:=fu hm h
 have hG:=(ij hm h).1
 have hO:OI (ai w n p m):=by
  rw[h3]
  exact qN _ (ia (w:=w) h1) (mY h1)
 exact⟨pI hG hO (by have:=eh hG;omega),by rw[<- hG.na];exact hO.nm⟩
theorem Hq{w:List Pg}{t:l4}{s:BL}(h:KI w t)(hs:s∈t.se):(t.hs.map (·.na)).contains (oA (ar s)).h9=true:=by
 obtain⟨y,h1,h2⟩:=h.se s hs
 exact List.contains_iff_mem.2 (List.mem_map.2 ⟨y,h1,h2⟩)
theorem Ig{t:l4}{i al:Nat}{ms:List BL}(hi:i<t.hs.length)(h2:ms=(t.hs.take i).map (·.na))(h3:al=((t.hs.take i).map fun y=>(K7 t y.na).length).sum)(h4:al<=400*i)(h5:ms.length=i)(h6:(K7 t (t.hs.getD i b7).na).length<=400):
 i+1<=t.hs.length/\ms++[(t.hs.getD i b7).na]=(t.hs.take (i+1)).map (·.na)/\al+(K7 t (t.hs.getD i b7).na).length=((t.hs.take (i+1)).map fun y=>(K7 t y.na).length).sum/\al+(K7 t (t.hs.getD i b7).na).length<=400*(i+1)/\(ms++[(t.hs.getD i b7).na]).length=i+1:=by
 have e:t.hs.take (i+1)=t.hs.take i++[t.hs.getD i b7]:=by
  rw[List.take_succ_eq_append_getElem hi,List.getD_eq_getElem?_getD,List.getElem?_eq_getElem hi];rfl
 rw[e]
 refine⟨hi,by rw[h2];simp,by rw[h3];simp,Z9,by simp[h5]⟩
theorem JG{w:List Pg}{n:BL}{t:l4}(hG:GI w n t)(ho:aZ t=true):(t.hs.map fun y=>(K7 t y.na).length).sum=t.lk.length:=by
 have e:(fun y:k9=>(K7 t y.na).length)=fun y=>(cls t.lk y.na).length:=by
  funext y
  rw[show K7 t y.na=cls t.lk y.na from if_pos ho]
 rw[e]
 exact Iv t.hs t.lk hG.nd fun q hq=>(hG.lh q hq).1
end Go.Pd
namespace Go.Proofs.YtbjbamjffkanbaaGreatDoor
open Go Go.Abs Go.RowKit Go.Pd
set_option maxRecDepth 20000
theorem xB(b c:BL)(ea:Addr)(hb:b.length<=9223372036854775807)(hc:c.length<=9223372036854775807):PF Tryz.prog 5 [fB b,fB c] [(9000,(0,.lit (.iface 252 (.pointer (some ea)))))] (fun r h=>r=(bV true)/\h=[(9000,(0,.lit (.iface 252 (.pointer (some ea)))))]):=by
 refine az (N:=114) (rs:=[.tmp 4]) Tryz.func5
  (.q 1<|.q 8<|.br (.q 1<|.nil) (.q 1<|.cx (eL b) [] (fun (a7:List Pg×BL×List BL)=>.q 7<|.q 6<|.h (.o5 36 (iN (c.length % 300)))<|.c (kX a7.1 a7.2.1 a7.2.2 (((c.length % 300):Nat):Int) ea) [(9000,9000)]<|.mv<|.mv<|.q 1<|.h (.fz 38)<|.h (.o5 38 (dX ((ai a7.1 a7.2.1 a7.2.2 (((c.length % 300):Nat):Int)).na) ((ai a7.1 a7.2.1 a7.2.2 (((c.length % 300):Nat):Int)).a8) ((ai a7.1 a7.2.1 a7.2.2 (((c.length % 300):Nat):Int)).hs) ((ai a7.1 a7.2.1 a7.2.2 (((c.length % 300):Nat):Int)).se) ((ai a7.1 a7.2.1 a7.2.2 (((c.length % 300):Nat):Int)).lk)))<|.al fV (fun g8=>.st none<|.q 1<|.q 4<|.c (fe a7.1 a7.2.1 a7.2.2) []<|.q 5<|.br (.q 4<|.c (fe a7.1 a7.2.1 a7.2.2) []<|.q 2<|.nil) (.q 1<|.bs<|.q 1<|.q 1<|.h (.H4 11 1)<|.loop (Nat×Nat×(List BL)×Nat×Nat×Nat) (fun (i,al,ms,x1,x2,x3)=>⟨[(8,.ptr (.key 8) [] g8 0),(10,iN al),(11,.own 1 (ms.map sV) x1 x2 x3),(12,iN i)],[(8,(g8,dX ((ai a7.1 a7.2.1 a7.2.2 (((c.length % 300):Nat):Int)).na) ((ai a7.1 a7.2.1 a7.2.2 (((c.length % 300):Nat):Int)).a8) ((ai a7.1 a7.2.1 a7.2.2 (((c.length % 300):Nat):Int)).hs) ((ai a7.1 a7.2.1 a7.2.2 (((c.length % 300):Nat):Int)).se) ((ai a7.1 a7.2.1 a7.2.2 (((c.length % 300):Nat):Int)).lk))),(9000,(0,.lit (.iface 252 (.pointer (some ea)))))]⟩) (fun (i,al,ms,x1,x2,x3)=>i<=(ai a7.1 a7.2.1 a7.2.2 (((c.length % 300):Nat):Int)).hs.length/\ms=(((ai a7.1 a7.2.1 a7.2.2 (((c.length % 300):Nat):Int)).hs.take i).map (·.na))/\al=((((ai a7.1 a7.2.1 a7.2.2 (((c.length % 300):Nat):Int)).hs.take i).map fun y=>(K7 (ai a7.1 a7.2.1 a7.2.2 (((c.length % 300):Nat):Int)) y.na).length).sum)/\al<=400*i/\ms.length=i) (fun (i,al,ms,x1,x2,x3)=>(ai a7.1 a7.2.1 a7.2.2 (((c.length % 300):Nat):Int)).hs.length-i) (fun (i,al,ms,x1,x2,x3)=>.r 5 [.c9]<|.br (.r 7 [.c9,fL ((((ai a7.1 a7.2.1 a7.2.2 (((c.length % 300):Nat):Int)).hs).getD i b7).na) ((((ai a7.1 a7.2.1 a7.2.2 (((c.length % 300):Nat):Int)).hs).getD i b7).re) ((((ai a7.1 a7.2.1 a7.2.2 (((c.length % 300):Nat):Int)).hs).getD i b7).kn) ((((ai a7.1 a7.2.1 a7.2.2 (((c.length % 300):Nat):Int)).hs).getD i b7).gr.na) ((((ai a7.1 a7.2.1 a7.2.2 (((c.length % 300):Nat):Int)).hs).getD i b7).gr.ru) ((((ai a7.1 a7.2.1 a7.2.2 (((c.length % 300):Nat):Int)).hs).getD i b7).gr.wa) ((((ai a7.1 a7.2.1 a7.2.2 (((c.length % 300):Nat):Int)).hs).getD i b7).tr) ((((ai a7.1 a7.2.1 a7.2.2 (((c.length % 300):Nat):Int)).hs).getD i b7).td)]<|.bs<|.ap (fun R7 Rs Sm=>.h (.o5 72 (.own 1 ((ms++[(((ai a7.1 a7.2.1 a7.2.2 (((c.length % 300):Nat):Int)).hs).getD i b7).na]).map sV) R7 Rs Sm))<|.q 1<|.dx 10 [0,1,2,3,4,5,6,7,8,9] [(1,⟨false,[],some [8],[74],[]⟩),(3,⟨false,[],some [8],[76],[]⟩),(7,⟨false,[],some [],[80],[]⟩)] []<|.q 1<|.r 1 [.c9]<|.q 1<|.r 1 [.c9]<|.q 1<|.r 1 [fL ((((ai a7.1 a7.2.1 a7.2.2 (((c.length % 300):Nat):Int)).hs).getD i b7).na) ((((ai a7.1 a7.2.1 a7.2.2 (((c.length % 300):Nat):Int)).hs).getD i b7).re) ((((ai a7.1 a7.2.1 a7.2.2 (((c.length % 300):Nat):Int)).hs).getD i b7).kn) ((((ai a7.1 a7.2.1 a7.2.2 (((c.length % 300):Nat):Int)).hs).getD i b7).gr.na) ((((ai a7.1 a7.2.1 a7.2.2 (((c.length % 300):Nat):Int)).hs).getD i b7).gr.ru) ((((ai a7.1 a7.2.1 a7.2.2 (((c.length % 300):Nat):Int)).hs).getD i b7).gr.wa) ((((ai a7.1 a7.2.1 a7.2.2 (((c.length % 300):Nat):Int)).hs).getD i b7).tr) ((((ai a7.1 a7.2.1 a7.2.2 (((c.length % 300):Nat):Int)).hs).getD i b7).td)]<|.q 1<|.q 1<|.c (ju (ai a7.1 a7.2.1 a7.2.2 (((c.length % 300):Nat):Int)) ((((ai a7.1 a7.2.1 a7.2.2 (((c.length % 300):Nat):Int)).hs).getD i b7).na)) []<|.q 1<|.q 2<|.q 3<|.nil)) (.q 1<|.loop (Nat) (fun (i:Nat)=>⟨[(8,.ptr (.key 8) [] g8 0),(10,iN al),(11,.own 1 (ms.map sV) x1 x2 x3),(13,iN i)],[(8,(g8,dX ((ai a7.1 a7.2.1 a7.2.2 (((c.length % 300):Nat):Int)).na) ((ai a7.1 a7.2.1 a7.2.2 (((c.length % 300):Nat):Int)).a8) ((ai a7.1 a7.2.1 a7.2.2 (((c.length % 300):Nat):Int)).hs) ((ai a7.1 a7.2.1 a7.2.2 (((c.length % 300):Nat):Int)).se) ((ai a7.1 a7.2.1 a7.2.2 (((c.length % 300):Nat):Int)).lk))),(9000,(0,.lit (.iface 252 (.pointer (some ea)))))]⟩) (fun (i:Nat)=>i<=(ai a7.1 a7.2.1 a7.2.2 (((c.length % 300):Nat):Int)).se.length) (fun (i:Nat)=>(ai a7.1 a7.2.1 a7.2.2 (((c.length % 300):Nat):Int)).se.length-i) (fun (i:Nat)=>.r 5 [.c9]<|.br (.r 5 [.c9,sV (((ai a7.1 a7.2.1 a7.2.2 (((c.length % 300):Nat):Int)).se).getD i [])]<|.c (ik (((ai a7.1 a7.2.1 a7.2.2 (((c.length % 300):Nat):Int)).se).getD i [])) []<|.q 3<|.al dc (fun g14=>.st none<|.q 1<|.r 3 [.c9]<|.cl (vO ms ((oA (ar (((ai a7.1 a7.2.1 a7.2.2 (((c.length % 300):Nat):Int)).se).getD i []))).h9))<|.q 1<|.br (.q 1<|.nil) (.q 3<|.nil))) (.h (.fz 11)<|.h (.o5 11 (ay ms))<|.r 7 [.c9]<|.cg (yU ms)<|.q 2<|.nil)))))))))
  ((fun v1:Int=>(fun v2:V=>(fun v3:Bool=>(Pk v3 true (v3==false)/\Br (v3||(s9 (((c.map n6).length:Nat):Int) 1048576)) (Q (bV true) (bV true)/\Er 0 v2) ((eL b).sm/\((b.length<=9223372036854775807))/\∀ a7:List Pg×BL×List BL,(1<=a7.1.length/\a7.1.length<=30/\(∀ y,y∈a7.1->m8 y)/\a7.2.1.length<=5/\bh a7.2.1=true/\a7.2.2.length<=4/\(∀ y,y∈a7.2.2->y.length<=30/\m4 y))->(fun v4:V=>(fun v5:Bool=>(fun v6:Int=>((0:Int)<=(((c.map n6).length:Nat):Int)/\(0:Int)<300)/\Q (iN (((c.map n6).length) % 300)) (iN (c.length % 300))/\(kX a7.1 a7.2.1 a7.2.2 v1 ea).sm/\Er 0 v2/\((a7.1.length<=30)/\(∀ i,m8 (a7.1.getD i l5))/\(a7.2.1.length<=1000)/\(a7.2.2.length<=400)/\(∀ x,x∈a7.2.2->x.length<=1000/\m4 x))/\((.agg [sV ((oT (aU a7.1 (oT (ax a7.2.1 a7.2.2)) v1)).na),iV ((oT (aU a7.1 (oT (ax a7.2.1 a7.2.2)) v1)).a8),.sl false (V.D5 (((oT (aU a7.1 (oT (ax a7.2.1 a7.2.2)) v1)).hs).map aE)),.sl false (V.D5 (((oT (aU a7.1 (oT (ax a7.2.1 a7.2.2)) v1)).se).map sV)),.sl false (V.D5 (((oT (aU a7.1 (oT (ax a7.2.1 a7.2.2)) v1)).lk).map ba))]:V)=.agg [sV ((ai a7.1 a7.2.1 a7.2.2 v1).na),iV ((ai a7.1 a7.2.1 a7.2.2 v1).a8),.sl false (((ai a7.1 a7.2.1 a7.2.2 v1).hs).map ck),.sl false (((ai a7.1 a7.2.1 a7.2.2 v1).se).map sV),.sl false (((ai a7.1 a7.2.1 a7.2.2 v1).lk).map ba)])/\∀ g8:Nat,(fun v7:V=>Z g8 0/\(fe a7.1 a7.2.1 a7.2.2).sm/\((a7.1.length<=30)/\(∀ i,m8 (a7.1.getD i l5))/\(a7.2.1.length<=1000)/\(a7.2.2.length<=400)/\(∀ x,x∈a7.2.2->x.length<=1000/\m4 x))/\Pk v5 true (v5==false)/\Br (v5||(!((ax a7.2.1 a7.2.2).isSome&&(aU a7.1 (oT (ax a7.2.1 a7.2.2)) v1).isSome))) ((fe a7.1 a7.2.1 a7.2.2).sm/\((a7.1.length<=30)/\(∀ i,m8 (a7.1.getD i l5))/\(a7.2.1.length<=1000)/\(a7.2.2.length<=400)/\(∀ x,x∈a7.2.2->x.length<=1000/\m4 x))/\Q (bV (((ax a7.2.1 a7.2.2).isSome&&(aU a7.1 (oT (ax a7.2.1 a7.2.2)) v1).isSome)==((ax a7.2.1 a7.2.2).isSome&&aq a7.1))) (bV true)/\Er 0 v2) ((∃ x:Nat×Nat×(List BL)×Nat×Nat×Nat,match x with | (j7,QB,PZ,NQ,NP,NN)=>(j7<=(ai a7.1 a7.2.1 a7.2.2 v1).hs.length/\PZ=(((ai a7.1 a7.2.1 a7.2.2 v1).hs.take j7).map (·.na))/\QB=((((ai a7.1 a7.2.1 a7.2.2 v1).hs.take j7).map fun y=>(K7 (ai a7.1 a7.2.1 a7.2.2 v1) y.na).length).sum)/\QB<=400*j7/\PZ.length=j7)/\E v7/\Q (iN 0) (iN QB)/\Q (.own 1 ([].map sV) 0 0 0) (.own 1 (PZ.map sV) NQ NP NN)/\Q (iN 0) (iN j7)/\Er g8 v4/\Er 0 v2/\True)/\∀ x:Nat×Nat×(List BL)×Nat×Nat×Nat,match x with | (i,al,ms,x1,x2,x3)=>(i<=(ai a7.1 a7.2.1 a7.2.2 v1).hs.length/\ms=(((ai a7.1 a7.2.1 a7.2.2 v1).hs.take i).map (·.na))/\al=((((ai a7.1 a7.2.1 a7.2.2 v1).hs.take i).map fun y=>(K7 (ai a7.1 a7.2.1 a7.2.2 v1) y.na).length).sum)/\al<=400*i/\ms.length=i)->(fun v8:Bool=>Z g8 2/\Br (s8 (i:Int) (((((ai a7.1 a7.2.1 a7.2.2 v1).hs).map ck).length:Nat):Int)) (Z g8 2/\Ex (i:Int) (((ai a7.1 a7.2.1 a7.2.2 v1).hs).map ck) (.agg [sV ((((ai a7.1 a7.2.1 a7.2.2 v1).hs).getD i b7).na),iV ((((ai a7.1 a7.2.1 a7.2.2 v1).hs).getD i b7).re),bV ((((ai a7.1 a7.2.1 a7.2.2 v1).hs).getD i b7).kn),.agg [.sl false (((((ai a7.1 a7.2.1 a7.2.2 v1).hs).getD i b7).gr.na).map sV),.sl false (((((ai a7.1 a7.2.1 a7.2.2 v1).hs).getD i b7).gr.ru).map au),iN ((((ai a7.1 a7.2.1 a7.2.2 v1).hs).getD i b7).gr.wa)],iV ((((ai a7.1 a7.2.1 a7.2.2 v1).hs).getD i b7).tr),.sl false (((((ai a7.1 a7.2.1 a7.2.2 v1).hs).getD i b7).td).map ak)])/\True/\((1,1,x1,x2,x3,(ms.map sV).length)=(1,1,x1,x2,x3,(ms.map sV).length))/\(True)/\(V.aG ([sV ((((ai a7.1 a7.2.1 a7.2.2 v1).hs).getD i b7).na)]:List V)=false)/\(aL 1 ([sV ((((ai a7.1 a7.2.1 a7.2.2 v1).hs).getD i b7).na)]:List V))/\(((ms.map sV).length+([sV ((((ai a7.1 a7.2.1 a7.2.2 v1).hs).getD i b7).na)]:List V).length)*16<=140737488355328)/\∀ R7 Rs Sm:Nat,((.own 1 ((ms.map sV)++([sV ((((ai a7.1 a7.2.1 a7.2.2 v1).hs).getD i b7).na)]:List V)) R7 Rs Sm:V)=.own 1 ((ms++[(((ai a7.1 a7.2.1 a7.2.2 v1).hs).getD i b7).na]).map sV) R7 Rs Sm)/\Z g8 0/\Z g8 2/\Ex (i:Int) (((ai a7.1 a7.2.1 a7.2.2 v1).hs).map ck) (.agg [sV ((((ai a7.1 a7.2.1 a7.2.2 v1).hs).getD i b7).na),iV ((((ai a7.1 a7.2.1 a7.2.2 v1).hs).getD i b7).re),bV ((((ai a7.1 a7.2.1 a7.2.2 v1).hs).getD i b7).kn),.agg [.sl false (((((ai a7.1 a7.2.1 a7.2.2 v1).hs).getD i b7).gr.na).map sV),.sl false (((((ai a7.1 a7.2.1 a7.2.2 v1).hs).getD i b7).gr.ru).map au),iN ((((ai a7.1 a7.2.1 a7.2.2 v1).hs).getD i b7).gr.wa)],iV ((((ai a7.1 a7.2.1 a7.2.2 v1).hs).getD i b7).tr),.sl false (((((ai a7.1 a7.2.1 a7.2.2 v1).hs).getD i b7).td).map ak)])/\True/\(ju (ai a7.1 a7.2.1 a7.2.2 v1) ((((ai a7.1 a7.2.1 a7.2.2 v1).hs).getD i b7).na)).sm/\((C5 (ai a7.1 a7.2.1 a7.2.2 v1)))/\m9 ((al:Int)+((((K7 (ai a7.1 a7.2.1 a7.2.2 v1) ((((ai a7.1 a7.2.1 a7.2.2 v1).hs).getD i b7).na)).map iV).length:Nat):Int))/\m9 ((i:Int)+1)/\∃ x:Nat×Nat×(List BL)×Nat×Nat×Nat,match x with | (c5,QA,PY,L5,L4,L3)=>(c5<=(ai a7.1 a7.2.1 a7.2.2 v1).hs.length/\PY=(((ai a7.1 a7.2.1 a7.2.2 v1).hs.take c5).map (·.na))/\QA=((((ai a7.1 a7.2.1 a7.2.2 v1).hs.take c5).map fun y=>(K7 (ai a7.1 a7.2.1 a7.2.2 v1) y.na).length).sum)/\QA<=400*c5/\PY.length=c5)/\((ai a7.1 a7.2.1 a7.2.2 v1).hs.length-c5<(ai a7.1 a7.2.1 a7.2.2 v1).hs.length-i)/\E v7/\Q (iN (al+(((K7 (ai a7.1 a7.2.1 a7.2.2 v1) ((((ai a7.1 a7.2.1 a7.2.2 v1).hs).getD i b7).na)).map iV).length))) (iN QA)/\Q (.own 1 ((ms++[(((ai a7.1 a7.2.1 a7.2.2 v1).hs).getD i b7).na]).map sV) R7 Rs Sm) (.own 1 (PY.map sV) L5 L4 L3)/\Q (iN (i+1)) (iN c5)/\Er g8 v4/\Er 0 v2/\True) ((∃ j7:Nat,(j7<=(ai a7.1 a7.2.1 a7.2.2 v1).se.length)/\E v7/\E (iN al)/\E (.own 1 (ms.map sV) x1 x2 x3)/\Q (iN 0) (iN j7)/\Er g8 v4/\Er 0 v2/\True)/\∀ i:Nat,(i<=(ai a7.1 a7.2.1 a7.2.2 v1).se.length)->Z g8 3/\Br (s8 (i:Int) (((((ai a7.1 a7.2.1 a7.2.2 v1).se).map sV).length:Nat):Int)) (Z g8 3/\Ex (i:Int) (((ai a7.1 a7.2.1 a7.2.2 v1).se).map sV) (sV (((ai a7.1 a7.2.1 a7.2.2 v1).se).getD i []))/\True/\(ik (((ai a7.1 a7.2.1 a7.2.2 v1).se).getD i [])).sm/\(((((ai a7.1 a7.2.1 a7.2.2 v1).se).getD i []).length<=1000000)/\(m4 (((ai a7.1 a7.2.1 a7.2.2 v1).se).getD i [])))/\∀ g14:Nat,Z g14 0/\Z g14 0/\(((1=1/\x1=x1/\x2=x2)/\0+((ms.map sV).length)<=(ms.map sV).length/\V.aG (ms.map sV)=false/\aL 1 (ms.map sV))/\True)/\(([.sl false (((ms.map sV).drop 0).take ((ms.map sV).length)),sV ((oA (ar (((ai a7.1 a7.2.1 a7.2.2 v1).se).getD i []))).h9)]:List V)=[.sl false (ms.map sV),sV ((oA (ar (((ai a7.1 a7.2.1 a7.2.2 v1).se).getD i []))).h9)])/\((ms.length<=1000000))/\Br (!(ms.contains ((oA (ar (((ai a7.1 a7.2.1 a7.2.2 v1).se).getD i []))).h9))) (Q (bV false) (bV true)/\Er 0 v2) (m9 ((i:Int)+1)/\∃ c5:Nat,(c5<=(ai a7.1 a7.2.1 a7.2.2 v1).se.length)/\((ai a7.1 a7.2.1 a7.2.2 v1).se.length-c5<(ai a7.1 a7.2.1 a7.2.2 v1).se.length-i)/\E v7/\E (iN al)/\E (.own 1 (ms.map sV) x1 x2 x3)/\Q (iN (i+1)) (iN c5)/\Er g8 v4/\Er 0 v2/\True)) (((.sl false (V.D5 (ms.map sV)):V)=.sl false (ms.map sV))/\Z g8 4/\Gd (v8==true) (((ms.length<=1000000)/\(ms.Nodup))/\(yU ms).sm)/\Pk v8 (v8==true) true/\Q (bV (v8||false)) (bV true)/\Er 0 v2))) (o6 (al:Int) v6))) (.ptr (.key 8) [] g8 0)) (((((ai a7.1 a7.2.1 a7.2.2 v1).lk).map ba).length:Nat):Int)) (!(((ax a7.2.1 a7.2.2).isSome&&(aU a7.1 (oT (ax a7.2.1 a7.2.2)) v1).isSome)==((ax a7.2.1 a7.2.2).isSome&&aq a7.1)))) (.agg [sV ((ai a7.1 a7.2.1 a7.2.2 v1).na),iV ((ai a7.1 a7.2.1 a7.2.2 v1).a8),.sl false (((ai a7.1 a7.2.1 a7.2.2 v1).hs).map ck),.sl false (((ai a7.1 a7.2.1 a7.2.2 v1).se).map sV),.sl false (((ai a7.1 a7.2.1 a7.2.2 v1).lk).map ba)])))) (s9 (((b.map n6).length:Nat):Int) 1048576)) (.lit (.iface 252 (.pointer (some ea))))) (((c.length % 300):Nat):Int)) ?_
 refine⟨⟨fun _=>rfl,fun h=>by rw[h] <;> rfl⟩,?_⟩
 refine bI (fun j9=>?_) fun j9=>?_
 refine⟨?_,rfl⟩
 unfold Q
 rfl
 refine⟨rfl,Z9,?_⟩
 intro a7 r9
 refine⟨Z2,by unfold Q;simp,rfl,rfl,⟨Z9,fun i=>iu r9.2.2.1 i,Z9,Z9,fun x hx=>⟨by have:=(r9.2.2.2.2.2.2 x hx).1;omega,(r9.2.2.2.2.2.2 x hx).2⟩⟩,by rw[ny,aR (f:=sV) (fun _=>rfl),aR (f:=ba) (fun _=>rfl),oz],?_⟩
 intro g8
 refine⟨rfl,rfl,⟨Z9,fun i=>iu r9.2.2.1 i,Z9,Z9,fun x hx=>⟨by have:=(r9.2.2.2.2.2.2 x hx).1;omega,(r9.2.2.2.2.2.2 x hx).2⟩⟩,⟨fun _=>rfl,fun h=>by rw[h] <;> rfl⟩,?_⟩
 refine bI (fun l6=>?_) fun l6=>?_
 refine⟨rfl,⟨Z9,fun i=>iu r9.2.2.1 i,Z9,Z9,fun x hx=>⟨by have:=(r9.2.2.2.2.2.2 x hx).1;omega,(r9.2.2.2.2.2.2 x hx).2⟩⟩,?_⟩
 refine⟨?_,rfl⟩
 unfold Q
 rw[gI (yN _ _ Z9)];simp
 have Q3:=yN c.length 300 Z9
 obtain⟨hG,hW⟩:=ij Q3 l6.2
 have Xt:=hG.sn.2
 have TB:=hG.hl
 have XF:=eh hG
 have UR:=qO Q3 (fun i=>iu r9.2.2.1 i) Z9 Z9 (fun x hx=>⟨by have:=(r9.2.2.2.2.2.2 x hx).1;omega,(r9.2.2.2.2.2.2 x hx).2⟩) l6.2
 have Vt:=wg Q3 l6.2
 have Vs:=vH Q3 l6.2
 have hnd:=hG.nd
 have Vr:=JG hG Vs.1
 refine⟨⟨(0,0,[],0,0,0),?_,rfl,rfl,rfl,rfl,rfl,rfl,trivial⟩,?_⟩
 exact⟨Z9,rfl,rfl,Z9,rfl⟩
 rintro⟨i,al,ms,x1,x2,x3⟩ ⟨h1,h2,h3,h4,h5⟩
 refine⟨rfl,?_⟩
 refine bI (fun n0=>?_) fun n0=>?_
 refine⟨rfl,⟨Z9,an (d:=b7) Z9⟩,trivial,rfl,trivial,rfl,by simp[aL,V.n,V.ns],Z0,?_⟩
 intro R7 Rs Sm
 refine⟨congrArg (V.own 1 · R7 Rs Sm) Z8,?_⟩
 have Tt:=Jo hG ((ai a7.1 a7.2.1 a7.2.2 (((c.length % 300):Nat):Int)).hs.getD i b7).na
 refine⟨rfl,rfl,⟨Z9,an (d:=b7) Z9⟩,trivial,rfl,UR,Z2,Z9,?_⟩
 refine⟨(i+1,al+(((K7 (ai a7.1 a7.2.1 a7.2.2 (((c.length % 300):Nat):Int)) ((((ai a7.1 a7.2.1 a7.2.2 (((c.length % 300):Nat):Int)).hs).getD i b7).na)).map iV).length),ms++[(((ai a7.1 a7.2.1 a7.2.2 (((c.length % 300):Nat):Int)).hs).getD i b7).na],R7,Rs,Sm),?_,?_,rfl,rfl,rfl,rfl,rfl,rfl,trivial⟩
 simp only[List.length_map]
 exact Ig Z9 h2 h3 h4 h5 Z9
 exact Z1
 refine⟨⟨0,?_,rfl,rfl,rfl,rfl,rfl,rfl,trivial⟩,?_⟩
 simp
 rintro i h1
 refine⟨rfl,?_⟩
 refine bI (fun w5=>?_) fun w5=>?_
 have hsz:=jC (hG.se _ (ld (show i<(ai a7.1 a7.2.1 a7.2.2 (((c.length % 300):Nat):Int)).se.length by omega)))
 refine⟨rfl,⟨Z9,an (d:=[]) Z9⟩,trivial,rfl,⟨Z9,hsz.2⟩,?_⟩
 intro g14
 refine⟨rfl,rfl,⟨⟨⟨rfl,rfl,rfl⟩,Z8,cM (f:=sV) (fun _=>rfl) _,ee (f:=sV) (fun _=>rfl) _⟩,trivial⟩,by simp[List.take_of_length_le],Z9,?_⟩
 refine bI (fun G0=>?_) fun G0=>?_
 exact absurd G0 (by rw[h2,List.take_of_length_le Z9,Hq Vt (ld Z9)];decide)
 refine⟨Z9,?_⟩
 refine⟨i+1,?_,?_,rfl,rfl,rfl,rfl,rfl,rfl,trivial⟩
 omega
 exact Z1
 refine⟨congrArg (V.sl false) (aR (fun _=>rfl) _),rfl,fun hG=>⟨⟨by(try simp only[nb]at hG);omega,by(try simp only[nb]at hG);rw[h2,List.take_of_length_le Z9];exact hnd⟩,rfl⟩,⟨fun h=>by rw[h] <;> rfl,fun _=>rfl⟩,?_⟩
 refine⟨?_,rfl⟩
 unfold Q
 rw[List.take_of_length_le Z9]at h3
 refine congrArg bV ?_
 simp only[List.length_map]at *
 simp only[Bool.and_true,Bool.or_false]
 exact decide_eq_true Z9
end Go.Proofs.YtbjbamjffkanbaaGreatDoor
namespace Go.Pd
open Go.Abs Go.Proofs.YtbjbamjffkanbaaGreatDoor
end Go.Pd
namespace Go.Proofs.YtbjbamjffkanbaaGreatDoor
open Go Go.Abs Go.RowKit Go.Pd
set_option maxRecDepth 20000
end Go.Proofs.YtbjbamjffkanbaaGreatDoor
namespace Go.Pd
open Go.Abs
end Go.Pd
namespace Go.Proofs.YtbjbamjffkanbaaGreatDoor
open Go Go.Abs Go.RowKit Go.Pd
set_option maxRecDepth 20000
end Go.Proofs.YtbjbamjffkanbaaGreatDoor
namespace Go.Pd
open Go.Abs Go.Proofs.YtbjbamjffkanbaaGreatDoor
end Go.Pd
namespace Go.Proofs.YtbjbamjffkanbaaGreatDoor
open Go Go.Abs Go.RowKit Go.Pd
set_option maxRecDepth 20000
end Go.Proofs.YtbjbamjffkanbaaGreatDoor
namespace Go.Pd
open Go.Abs Go.Proofs.YtbjbamjffkanbaaGreatDoor
end Go.Pd
namespace Go.Proofs.YtbjbamjffkanbaaGreatDoor
open Go Go.Abs Go.RowKit Go.Pd
set_option maxRecDepth 20000
end Go.Proofs.YtbjbamjffkanbaaGreatDoor
namespace Go.Pd
open Go.Abs Go.Proofs.YtbjbamjffkanbaaGreatDoor
end Go.Pd
namespace Go.Proofs.YtbjbamjffkanbaaGreatDoor
open Go Go.Abs Go.RowKit Go.Pd
set_option maxRecDepth 20000
end Go.Proofs.YtbjbamjffkanbaaGreatDoor
namespace Go.Proofs.YtbjbamjffkanbaaGreatDoor
open Go Go.ChangeShapes Go.WideShapes Go.ChangeAt Go.RowKit Go.Abs
theorem own:ownKnob Tryz.prog.godebug=none:=Z7
theorem laidOut:laidOutB Tryz.prog=true:=Z7
theorem iO:Tryz.prog.globalNamed "loop.example/pedlar/impl.errNoCall" =some 0:=Z7
theorem kj:(Tryz.prog.globals[0]?).map (·.type)=some 116:=Z7
theorem nQ: "*" ++ "errors.errorString" = "*errors.errorString" :=Z6
theorem zd(u:TypeId) (h:Tryz.prog.typeName? 3 u=some "*errors.errorString"):u=252:=
 typeName_ptr_named (nm:= "errors.errorString") (by rw[nQ];kernel_rfl) Z7 Z6 u (by rw[nQ];exact h)
theorem vd:Tryz.prog.cellsOf 275=1:=Z7
theorem tU:Tryz.prog.cellsOf 9=1:=Z7
set_option maxRecDepth 100000 in
theorem fnGoHouses_lifted(os:Os)(started:os.Started)(H:Type)(enc:TypeId×Value->H):
 ReturnsInHanded {} Tryz.checked os 5 .any (fun w args=>(Rows.fnGoHousesSpec.pre enc Tryz.prog Tryz.f5 [] false w args/\laidMetH Tryz.prog Rows.fnGoHousesRow.laid w)/\sizedMet enc Tryz.prog Tryz.f5 (OpenSpec.ofChange Rows.fnGoHousesSpec) false w args)
  (Rows.fnGoHousesSpec.post enc Tryz.prog Tryz.f5 false true false false):=by
 refine returnsInHanded_of_change_and (C:=Tryz.checked) (X:=fun w _=>laidMetH Tryz.prog Rows.fnGoHousesRow.laid w) (fun _ _ _ hh h=>h.of_heap hh) own started Z7 Tryz.func5
  (ChangeSpec.witness_shaped (enc:=enc) (C:=Tryz.checked) (os:=os) (X:=fun w _=>laidMetH Tryz.prog Rows.fnGoHousesRow.laid w) false (World.laidAll Tryz.prog os Rows.fnGoHousesRow.laid) #[.slice none 0 0,.slice none 0 0] 8 (World.laidAll_os _ _ _)
   (World.shaped_of_ZipB Z7 Z7) Z7 Z7 Z7
   (by rw[MakeChecks.laidMetH_plain _ _ _ Z7];exact laidMet_laidAll _ Z7 Z7)) ?_
 intro W base args ds gs before My hW _ _ US _
 have hL:laidMet Tryz.prog Rows.fnGoHousesRow.laid W:=by rw[<- MakeChecks.laidMetH_plain _ _ _ Z7];exact US
 have G':∀ (j:Nat) t v,Tryz.f5.params[j]? =some t->args[j]? =some v->Value.okWide Tryz.prog W .any base t v:=My
 have UP:=hW
 obtain⟨p,q,R4,UQ,rfl,XJ,hnd⟩:=hW
 have hV:DataW.TrodVars enc Tryz.prog W (fun _=>true) ["loop.example/pedlar/impl.errNoCall"] gs q:=UQ
 have hA:DataW.TrodAll enc Tryz.prog W 0 (fun _=>true) true Tryz.f5.params.toList args.toList ds p:=R4
 rw[Tryz.params5]at hA G'
 obtain⟨v0,v1,d0,d1,p0,p1,rfl,rfl,rfl,h0,h1⟩:=trodAll_two hA
 obtain⟨ea,s0,P7,_,_,_⟩:=laid_sentinel hL.tail iO kj (ms:=_) (tp:=252) (te:=275) (ts:=9) Tryz.underlying116 zd Tryz.underlying252 Tryz.underlying275 rfl rfl Tryz.underlying9 vd tU
 obtain⟨bt,hbk⟩:=qe hL.tail iO P7
 obtain⟨rfl,rfl⟩:=hV.unique (vars_read1 enc iO kj Tryz.underlying116 P7 trivial _)
 obtain⟨a0,Uc,U1,rfl⟩:=okWide_slice Tryz.underlying22 (G' 0 22 v0 rfl rfl)
 obtain⟨a1,VS,WV,rfl⟩:=okWide_slice Tryz.underlying22 (G' 1 22 v1 rfl rfl)
 have Ub:∀ x∈p0,x.block<W.heap.size:=by obtain⟨m,hm⟩:=h0;exact DataW.trod_lt m _ _ _ hm
 have VR:∀ x∈p1,x.block<W.heap.size:=by obtain⟨m,hm⟩:=h1;exact DataW.trod_lt m _ _ _ hm
 obtain⟨b,rfl,hb,hv⟩:=mT Tryz.underlying22 Tryz.underlying5 Z7 h0
 obtain⟨c,rfl,hc,hu⟩:=mT Tryz.underlying22 Tryz.underlying5 Z7 h1
 clear R4 My
 refine(sq xB hb hc hv hu hbk).mono fun e W' ⟨he,Pr⟩=>?_
 subst he
 have P6:W'.var? Tryz.prog "loop.example/pedlar/impl.errNoCall" =some #[.iface 252 (.pointer (some ea))]:=by
  rw[<- P7];unfold World.var?;rw[iO,Option.bind_some,Option.bind_some,Pr.block 0 (Array.getElem?_eq_some_iff.1 hbk).1]
 exact⟨_,rfl,_,_,_,[],p0++p1,[.cell 0 0],UP,trodAll_mk1 (shut_bool Tryz.underlying4 _),trodAll_mk2 (Below.trod laidOut Z7 (of_decide_eq_true Z7) h0 Pr Ub) (Below.trod laidOut Z7 (of_decide_eq_true Z7) h1 Pr VR),vars_read1 enc iO kj Tryz.underlying116 P6 trivial _,Pr.frame _,fun h=>by cases h⟩
theorem fnGoHouses_row:Rows.FnGoHousesSaid:=
 OpenClaim.holds_of_wide 5 Tryz.f5 rfl rfl rfl rfl rfl rfl rfl ⟨rfl,rfl,rfl,rfl,rfl⟩ rfl rfl rfl rfl rfl Z7 Tryz.func5 Z7
  (of_decide_eq_true Z7) (by unfold Func.isWrapper;first | (rw[if_pos (by decide +kernel)];kernel_rfl) | (rw[if_neg (by decide +kernel)];exact⟨rfl,rfl⟩))
  (fun os started H enc _=>fnGoHouses_lifted os started H enc)
theorem fnGoHouses_holds:Rows.FnGoHousesCardSaid:=
 Claim7.holds_tied_plain_at .later [] [.data,.sentinel,.pinned] true (true, "16e118b5155b7b11bee3017827cfe482af71541868a11eb0c882522f6f12ad60") true fnGoHouses_row (fun _ h=>by cases h) Z7 (fun _ h=>by cases h) fnGoHouses_row_tie rfl ⟨rfl,rfl⟩ Z7 rfl
  (fun f fn hf UH=>by
   obtain rfl:f=5:=Option.some.inj ((show Tryz.prog.funcNamed "loop.example/pedlar/laws.FnGoHouses" =some 5 by kernel_rfl).symm.trans hf) |>.symm
   obtain rfl:fn=Tryz.f5:=(Option.some.inj (Tryz.func5.symm.trans UH)).symm
   exact⟨Z7,fun j t ht=>by
    rw[Tryz.params5]at ht
    have hm:t∈[22,22]:=by simpa using Array.mem_of_getElem? ht
    have G3:([22,22].all fun u=>!Tryz.prog.wantsStandIn u)=true:=Z7
    exact(show Tryz.prog.wantsStandIn t=false by simpa using List.all_eq_true.1 G3 t hm)⟩)
  Z7
end Go.Proofs.YtbjbamjffkanbaaGreatDoor
