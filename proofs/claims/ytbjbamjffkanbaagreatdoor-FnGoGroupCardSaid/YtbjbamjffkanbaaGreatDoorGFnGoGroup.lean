/-
  laws.FnGoGroup returns true for every input and leaves it as it was; conditions: the listed tables lie as the program's text lays them.
-/
import Derived.Test.YtbjbamjffkanbaaGreatDoorGE
import Derived.Laws.StructEq
import Derived.Test.YtbjbamjffkanbaaGreatDoorTie
import Derived.Test.YtbjbamjffkanbaaGreatDoorCards
set_option linter.unusedVariables false
set_option linter.unusedSimpArgs false
namespace Go.Pd
open Go.Abs Go.Proofs.YtbjbamjffkanbaaGreatDoor
theorem oH{r:BL}(h:([47]++r).length<=60):aH [⟨false,[47]⟩] ([47]++r)=false:=by
 have h0:aj 42 (bE [47])=[[47]]:=Z6
 have h1:cw [47] ([47]++r)=true:=by
  unfold cw
  rw[show aO [47]=true from Z6,decide_eq_true h]
  unfold tw
  rw[h0]
  simp[lx,show eV [47]=false from Z6]
 have h2:cw [47] (47::r)=true:=h1
 simp[aH,dF,h2]
theorem lj{s:BL}(h:aD s=true):aH [⟨false,[47]⟩] (pathOf s)=false:=by
 have ha:=(eR (gW (fg h))).2.2.2.2.2
 unfold pathOf
 have e:bm (oA (ar s))=[47]++(bZ (oA (ar s)).b9++(if (oA (ar s)).asks=true then [63]++(oA (ar s)).ask else [])):=by
  unfold bm;rw[List.append_assoc]
 rw[e]
 refine oH ?_
 rw[<- e]
 unfold cC at ha
 simp only[List.length_append,List.length_cons,List.length_nil]at ha ⊢
 omega
def BI(w:List Pg)(t:l4):Prop:= ∀ y,y∈t.hs->y.kn=true->(ab w (ae y.na) 2).1=3->y.td=[]/\y.gr.ru=[⟨false,[47]⟩]/\(cls t.lk y.na).length<=3
variable {w:List Pg} {n:BL}
theorem BI.call{t:l4} {i:Nat} {y':k9} {l:l8} {a8:Int} (hG:GI w n t) (h:BI w t) (hi:i<t.hs.length) (hl:af l.ad=(t.hs.getD i b7).na)
 (hy:y'.kn=true->(ab w (ae y'.na) 2).1=3->y'.td=[]/\y'.gr.ru=[⟨false,[47]⟩]/\(cls (t.lk++[l]) y'.na).length<=3):BI w ⟨t.na,a8,t.hs.set i y',t.se,t.lk++[l]⟩:=fun z hz hk h3=>by
 rcases iJ hG.nd hi hz with e | ⟨e,e2⟩
 subst e;exact hy hk h3
 obtain⟨a1,a2,a3⟩:=h z e hk h3
 refine⟨a1,a2,?_⟩
 show (cls (t.lk++[l]) z.na).length<=3
 rw[dS,if_neg (by rw[hl];exact fun c=>e2 c.symm),List.append_nil]
 exact a3
theorem BI.cO{t:l4}{s:BL}(h:BI w t):BI w (ao t s):=by
 by_cases hr:dh t.se s
 case neg=>
  have e3:cf t.se s=t.se:=if_neg hr
  have e4:aQ t.na t.hs t.se s=t.hs:=if_neg hr
  have:ao t s=t:=by unfold ao;rw[e3,e4]
  rw[this];exact h
 have e4:(ao t s).hs=(aA t.hs (af s) t.na).set (r7 t.hs (af s)) (bc ((aA t.hs (af s) t.na).getD (r7 t.hs (af s)) b7) s):=if_pos hr
 have hin:∀ y,y∈aA t.hs (af s) t.na->y.kn=true->(ab w (ae y.na) 2).1=3->y.td=[]/\y.gr.ru=[⟨false,[47]⟩]/\(cls t.lk y.na).length<=3:=fun y hy hk h3=>by
  unfold aA at hy
  split at hy
  exact h y hy hk h3
  rcases List.mem_append.1 hy with hy | hy
  exact h y hy hk h3
  rw[List.mem_singleton.1 hy]at hk;simp[bK]at hk
 intro z hz hk h3
 rw[e4]at hz
 show z.td=[]/\z.gr.ru=_/\(cls t.lk z.na).length<=3
 rcases bN hz with e | e
 have x9:=hin _ (aw (d:=b7) (cF t.hs (af s) t.na))
 generalize (aA t.hs (af s) t.na).getD (r7 t.hs (af s)) b7=y at *
 subst e
 unfold bc at hk h3 ⊢
 split at hk
 rename_i c;rw[if_pos c]at h3 ⊢;exact x9 hk h3
 rename_i c
 exfalso
 rw[if_neg c]at h3
 have E2:y.kn=true:=hk
 have:=x9 E2 h3
 exact c ⟨E2,by rw[this.2.1];exact lj hr.1⟩
 exact hin z e hk h3
theorem BI.bL{l:List BL}:∀ {t:l4},BI w t->BI w (l.foldl ao t):=by
 induction l with
 | nil=>exact fun h=>h
 | cons a l ih=>exact fun h=>ih h.cO
end Go.Pd
namespace Go.Pd
open Go.Abs Go.Proofs.YtbjbamjffkanbaaGreatDoor
def bp(gs:List l3):Nat:=(gs.map fun y=>y.ru.length).sum
def ey(gs:List l3):Prop:= ∀ y,y∈gs->∀ r,r∈y.ru->aO r.path=true
theorem fv(l r:List l3):bp (l++r)=bp l+bp r:=by unfold bp;rw[List.map_append,List.sum_append]
theorem fN(gs:List l3):gs=[]\/∃ l z,gs=l++[z]:=by
 by_cases h:gs=[]
 exact .inl h
 obtain⟨x,hx⟩:=jL h
 exact .inr ⟨x.1,x.2,hx⟩
theorem gu{gs:List l3}{f:l3->l3}{k:Nat}(hf:∀ z,(f z).ru.length<=z.ru.length+k):bp (cS gs f)<=bp gs+k:=by
 rcases fN gs with h | ⟨l,z,h⟩
 subst h;simp[cS,bp]
 subst h
 rw[dQ,fv,fv]
 have:=hf z
 simp only[bp,List.map_cons,List.map_nil,List.sum_cons,List.sum_nil]
 omega
theorem nk{gs:List l3}{w d:BL}{b:Bool}:bp (eZ gs w d b).1<=bp gs+1:=by
 unfold eZ
 split
 split
 rw[fv];simp[bp]
 exact Nat.le_trans (gu (k:=0) fun z=>Nat.le_refl _) Z9
 split
 simp only;omega
 split
 exact gu fun z=>by simp
 split
 exact Nat.le_trans (gu (k:=0) fun z=>Nat.le_refl _) Z9
 simp only;omega
theorem iG{gs:List l3}{f:l3->l3}(h:ey gs)(hf:∀ z,(∀ r,r∈z.ru->aO r.path=true)->∀ r,r∈(f z).ru->aO r.path=true):ey (cS gs f):=by
 rcases fN gs with e | ⟨l,z,e⟩
 subst e;exact h
 subst e
 rw[dQ]
 intro y hy
 rcases List.mem_append.1 hy with hy | hy
 exact h y (List.mem_append_left _ hy)
 rw[List.mem_singleton.1 hy]
 exact hf z (h z (List.mem_append_right _ (List.mem_singleton.2 rfl)))
theorem oj{gs:List l3}{w d:BL}{b:Bool}(h:ey gs):ey (eZ gs w d b).1:=by
 unfold eZ
 split
 split
 intro y hy
 rcases List.mem_append.1 hy with hy | hy
 exact h y hy
 rw[List.mem_singleton.1 hy];intro r hr;simp at hr
 exact iG h fun z hz=>hz
 split
 exact h
 split
 rename_i c
 refine iG h fun z hz r hr=>?_
 rcases List.mem_append.1 hr with hr | hr
 exact hz r hr
 rw[List.mem_singleton.1 hr];exact c.2.1
 split
 exact iG h fun z hz=>hz
 exact h
theorem iR:∀ (l:List BL) (x:List l3×Bool),bp (l.foldl cD x).1<=bp x.1+l.length
 | [],x=>Nat.le_refl _
 | a::l,x=>by
   have h1:=iR l (cD x a)
   have h2:bp (cD x a).1<=bp x.1+1:=nk
   simp only[List.foldl_cons,List.length_cons]
   omega
theorem kg:∀ (l:List BL) (x:List l3×Bool),ey x.1->ey (l.foldl cD x).1
 | [],x,h=>h
 | a::l,x,h=>kg l (cD x a) (oj h)
theorem fJ(t:BL):bp (cd t)<=40/\ey (cd t):=by
 constructor
 have:=iR ((aj 10 t).take 40) ([],false)
 have h2:=List.length_take_le 40 (aj 10 t)
 simp only[bp,List.map_nil,List.sum_nil]at this
 unfold cd bp
 omega
 exact kg _ _ (fun y hy=>by simp at hy)
theorem lK(n:BL):∀ (gs:List l3) (x:(List o9×Nat)×Bool),ey gs->(∀ r,r∈x.1.1->aO r.path=true)->
 (gs.foldl (cb n) x).1.1.length<=x.1.1.length+bp gs/\∀ r,r∈(gs.foldl (cb n) x).1.1->aO r.path=true
 | [],x,_,h=>⟨by simp[bp],h⟩
 | g::gs,x,hg,h=>by
   have hs:(cb n x g).1.1.length<=x.1.1.length+g.ru.length/\∀ r,r∈(cb n x g).1.1->aO r.path=true:=by
    unfold cb
    split
    refine⟨Z8,fun r hr=>?_⟩
    rcases List.mem_append.1 hr with hr | hr
    exact h r hr
    exact hg g Z8 r hr
    exact⟨Z9,h⟩
   obtain⟨h1,h2⟩:=lK n gs (cb n x g) (fun y hy=>hg y (List.mem_cons_of_mem _ hy)) hs.2
   refine⟨?_,h2⟩
   have e:bp (g::gs)=g.ru.length+bp gs:=by simp[bp]
   rw[e]
   have:=hs.1
   simp only[List.foldl_cons]
   omega
theorem ke{gs:List l3}(n:BL)(h1:bp gs<=40)(h2:ey gs):(eU gs n).ru.length<=40/\∀ r,r∈(eU gs n).ru->aO r.path=true:=by
 have key:∀ q,(NG gs q).1.ru.length<=40/\∀ r,r∈(NG gs q).1.ru->aO r.path=true:=fun q=>by
  obtain⟨a,b⟩:=lK q gs (([],0),false) h2 (fun r hr=>by simp at hr)
  exact⟨by unfold NG;simp only[List.length_nil]at a ⊢;omega,b⟩
 unfold eU
 split
 exact key n
 exact key [42]
theorem og(k:Int)(t n:BL):(ah k t n).ru.length<=40/\∀ r,r∈(ah k t n).ru->aO r.path=true:=by
 unfold ah
 split
 exact ke n (fJ t).1 (fJ t).2
 split
 exact⟨Z8,fun r hr=>by rw[List.mem_singleton.1 hr];decide⟩
 exact ke n (by simp[bp]) (fun y hy=>by simp at hy)
structure HO (n:BL) (y:k9):Prop where
 na:y.gr.na=[n]
 re:0<=y.re/\y.re<=5100
 tr:0<=y.tr/\y.tr<=2
 ru:y.gr.ru.length<=40/\∀ r,r∈y.gr.ru->aO r.path=true
 wa:y.gr.wa<=20
structure OI (t:l4):Prop where
 nm:bh t.na=true
 nw:0<=t.a8/\t.a8<=5000
 hs:∀ y,y∈t.hs->HO t.na y
 ki:∀ q,q∈t.lk->0<=q.ki/\q.ki<=3/\0<=q.ti/\q.ti<=t.a8
 lt:∀ k,k+1<t.lk.length->(t.lk.getD k m7).ti<=(t.lk.getD (k+1) m7).ti
theorem lV(w:List Pg)(a:BL)(n:Int):0<=(ab w a n).1/\(ab w a n).1<=3:=by
 unfold ab
 split
 exact⟨Int.le_refl _,Z6⟩
 split
 exact⟨Z6,Int.le_refl _⟩
 split <;> exact⟨by simp only;omega,by simp only;omega⟩
theorem jR{k:Int}:0<=cR k/\cR k<=8:=by
 unfold cR
 split
 omega
 split
 omega
 split <;> omega
variable {w:List Pg} {n:BL}
theorem OI.cO{t:l4}{s:BL}(h:OI t):OI (ao t s):=by
 refine⟨h.nm,h.nw,fun z hz=>?_,h.ki,h.lt⟩
 have hz:z∈aQ t.na t.hs t.se s:=hz
 have hin:∀ y,y∈aA t.hs (af s) t.na->HO t.na y:=fun y hy=>by
  unfold aA at hy
  split at hy
  exact h.hs y hy
  rcases List.mem_append.1 hy with hy | hy
  exact h.hs y hy
  rw[List.mem_singleton.1 hy]
  exact⟨rfl,by simp[bK],by simp[bK],⟨by simp[bK],fun r hr=>by simp[bK]at hr⟩,by simp[bK]⟩
 show HO t.na z
 unfold aQ at hz
 split at hz
 rcases bN hz with e | e
 have hy:=hin _ (aw (d:=b7) (cF t.hs (af s) t.na))
 rw[e]
 unfold bc
 split
 exact hy
 exact⟨hy.na,hy.re,hy.tr,hy.ru,hy.wa⟩
 exact hin z e
 exact h.hs z hz
theorem OI.bL{l:List BL}:∀ {t:l4},OI t->OI (l.foldl ao t):=by
 induction l with
 | nil=>exact fun h=>h
 | cons a l ih=>exact fun h=>ih h.cO
theorem OI.call{t:l4}{i:Nat}{y':k9}{l:l8}{a8:Int}(h:OI t)(hn:t.a8<=a8/\a8<=5000)(hy:HO t.na y')(hl:l.ti=a8)(hk:0<=l.ki/\l.ki<=3):OI ⟨t.na,a8,t.hs.set i y',t.se,t.lk++[l]⟩:=by
 have hno:=h.nw
 refine⟨h.nm,by simp only;omega,fun z hz=>?_,fun q hq=>?_,fun k LZ=>?_⟩
 rcases bN hz with e | e
 rw[e];exact hy
 exact h.hs z e
 show 0<=q.ki/\q.ki<=3/\0<=q.ti/\q.ti<=a8
 rcases List.mem_append.1 hq with hq | hq
 have:=h.ki q hq;omega
 rw[List.mem_singleton.1 hq];omega
 show ((t.lk++[l]).getD k m7).ti<=((t.lk++[l]).getD (k+1) m7).ti
 have LZ:k+1<(t.lk++[l]).length:=LZ
 rw[List.length_append,List.length_singleton]at LZ
 have e1:∀ j,j<t.lk.length->(t.lk++[l]).getD j m7=t.lk.getD j m7:=fun j hj=>by
  rw[List.getD_eq_getElem?_getD,List.getElem?_append_left hj,<- List.getD_eq_getElem?_getD]
 rcases Nat.lt_or_ge (k+1) t.lk.length with c | c
 rw[e1 k Z9,e1 _ c];exact h.lt k c
 have e2:(t.lk++[l]).getD (k+1) m7=l:=by
  rw[List.getD_eq_getElem?_getD,List.getElem?_append_right Z9,show k+1-t.lk.length=0 from Z9];rfl
 rw[e2,e1 k Z9,hl]
 have:=h.ki _ (aw (d:=m7) (show k<t.lk.length by omega))
 omega
theorem jV{y:k9}{a8 k m:Int}(h:HO n y)(hn:0<=a8/\a8<=5000):HO n (cL y a8 k m):=by
 refine⟨h.na,?_,h.tr,h.ru,h.wa⟩
 have:=h.wa
 have hb:=jR (k:=m+1)
 unfold cL
 simp only
 split <;> constructor <;> omega
theorem np{t:l4}(hG:GI w n t)(h:OI t)(hg:K3 t=true):OI (A7 w t):=by
 have hx:=jA hg
 have hno:=h.nw
 have hw:0<=s6 t/\s6 t<=5000:=⟨Z9,hx.2.2.2⟩
 have hy:=h.hs _ (aw (d:=b7) hx.1)
 have hI:=hG.hi _ (aw (d:=b7) hx.1)
 unfold A7
 split
 unfold LQ
 simp only
 have hf:HO t.na (A8 w (t.hs.getD (m6 t) b7) (s6 t)):=jV (y:={ t.hs.getD (m6 t) b7 with td:=(t.hs.getD (m6 t) b7).td.drop 1 }) ⟨hy.na,hy.re,hy.tr,hy.ru,hy.wa⟩ hw
 have c1:∀ y',HO t.na y'->OI ⟨t.na,s6 t,t.hs.set (m6 t) y',t.se,t.lk++[⟨s6 t,((t.hs.getD (m6 t) b7).td.getD 0 j6).ad,(ab w ((t.hs.getD (m6 t) b7).td.getD 0 j6).ad ((t.hs.getD (m6 t) b7).td.getD 0 j6).tr).1⟩]⟩:=
  fun y' OW=>OI.call h ⟨hx.2.2.1,hw.2⟩ OW rfl (lV _ _ _)
 split
 exact c1 _ ⟨hf.na,hf.re,hf.tr,hf.ru,hf.wa⟩
 split
 exact(c1 _ hf).bL
 exact c1 _ hf
 rename_i hk
 have hk:(t.hs.getD (m6 t) b7).kn=false:=by simpa using hk
 have M8:=hI.un hk
 unfold OR
 have c1:∀ y',HO t.na y'->OI ⟨t.na,s6 t,t.hs.set (m6 t) y',t.se,t.lk++[⟨s6 t,ae (t.hs.getD (m6 t) b7).na,(ab w (ae (t.hs.getD (m6 t) b7).na) (t.hs.getD (m6 t) b7).tr).1⟩]⟩:=
  fun y' OW=>OI.call h ⟨hx.2.2.1,hw.2⟩ OW rfl (lV _ _ _)
 refine c1 _ ?_
 have h1:HO t.na (n9 w (t.hs.getD (m6 t) b7) (s6 t)):=jV hy hw
 unfold Ml
 split
 rename_i c
 have c2:(t.hs.getD (m6 t) b7).tr+1<3:=c.2
 exact⟨h1.na,h1.re,⟨by show 0<=(t.hs.getD (m6 t) b7).tr+1;omega,by show (t.hs.getD (m6 t) b7).tr+1<=2;omega⟩,h1.ru,h1.wa⟩
 have s1:=og (ab w (ae (t.hs.getD (m6 t) b7).na) 2).1 (ab w (ae (t.hs.getD (m6 t) b7).na) 2).2 t.na
 have s2:=jY (ab w (ae (t.hs.getD (m6 t) b7).na) 2).1 (ab w (ae (t.hs.getD (m6 t) b7).na) 2).2 t.na
 refine⟨rfl,?_,h1.tr,s1,s2⟩
 have h3:=h1.re
 have h4:(bg w t.na (t.hs.getD (m6 t) b7).na).wa<=20:=s2
 simp only
 omega
theorem qN:∀ (k:Nat) {t:l4},GI w n t->OI t->OI (D1 w k t)
 | 0,_,_,h=>h
 | k+1,t,hG,h=>by
   unfold D1
   split
   rename_i hg;exact qN k (iP hG hg) (np hG h hg)
   exact h
theorem mY{e9:List BL}{t:l4}(h:ax n e9=some t):OI t:=by
 unfold ax at h
 split at h
 rename_i c
 cases h
 exact OI.bL ⟨c.1,by simp[aV],fun y hy=>by simp[aV]at hy,fun q hq=>by simp[aV]at hq,fun k hk=>by simp[aV]at hk⟩
 cases h
theorem pI{t:l4}(hG:GI w n t)(h:OI t)(hl:t.lk.length<=400):aZ t=true:=by
 have hI:∀ {a b c:Int},a<=b->b<=c->y8 b a c=true:=fun h1 h2=>decide_eq_true ⟨h1,h2⟩
 unfold aZ
 simp only[Bool.and_eq_true,List.all_eq_true,decide_eq_true_eq]
 refine⟨⟨⟨⟨⟨h.nm,hI h.nw.1 h.nw.2⟩,?_⟩,?_⟩,fun y hy=>⟨?_,?_⟩⟩,hG.nd⟩
 unfold cQ
 simp only[Bool.and_eq_true,List.all_eq_true,decide_eq_true_eq]
 exact⟨⟨hG.sn.2,hG.sn.1⟩,hG.se⟩
 unfold cN
 simp only[Bool.and_eq_true,List.all_eq_true,decide_eq_true_eq]
 refine⟨hl,fun k hk=>?_⟩
 have hk:=List.mem_range.1 hk
 have hq:=h.ki _ (aw (d:=m7) hk)
 refine⟨⟨⟨?_,hq.2.2.2⟩,hI hq.1 hq.2.1⟩,(hG.al k hk).rd⟩
 split
 exact hq.2.2.1
 have:=h.lt (k-1) Z9
 rw[show k-1+1=k from Z9]at this
 exact this
 have a:=h.hs y hy
 have b:=hG.hi y hy
 unfold dg
 rw[a.na]
 simp only[Bool.and_eq_true]
 refine⟨⟨⟨⟨b.hn,hI a.re.1 a.re.2⟩,hI a.tr.1 a.tr.2⟩,Z8⟩,?_⟩
 split
 simp only[Bool.and_eq_true,decide_eq_true_eq,List.all_eq_true]
 exact⟨⟨a.ru.1,a.ru.2⟩,hI Z9 (by have:=a.wa;omega)⟩
 rename_i c
 have:=b.un (by simpa using c)
 rw[decide_eq_true_eq]
 exact⟨this.2.2.2.1,this.2.2.1⟩
 have hH:=hG.hi y hy
 unfold cP
 simp only[Bool.and_eq_true,List.all_eq_true,decide_eq_true_eq]
 refine⟨⟨?_,fun x hx=>?_⟩,hH.nd⟩
 have:=jO (u:=t.se) hH.nd fun a ha=>by
  obtain⟨x,hx,e⟩:=List.mem_map.1 ha
  rw[<- e];exact(hH.it x hx).2.2.1
 simpa using this
 obtain⟨a1,a2,a3,a4,a5,_⟩:=hH.it x hx
 exact⟨⟨⟨a1,by simpa using a2⟩,by simpa using a3⟩,decide_eq_true ⟨a4,a5⟩⟩
end Go.Pd
namespace Go.Pd
open Go.Abs Go.Proofs.YtbjbamjffkanbaaGreatDoor
structure KI (w:List Pg) (t:l4):Prop where
 gr:∀ y,y∈t.hs->y.kn=true->y.gr=bg w t.na y.na/\∀ x,x∈y.td->aH y.gr.ru (pathOf x.ad)=true
 un:∀ y,y∈t.hs->y.kn=false->∀ q,q∈t.lk->af q.ad=y.na->q.ad=ae y.na/\q.ki=3
 se:∀ s,s∈t.se->∃ y,y∈t.hs/\y.na=af s
variable {w:List Pg} {n:BL}
theorem BM{t:l4}{i:Nat}(h:GI w n t)(hi:i<t.hs.length)(hk:(t.hs.getD i b7).kn=true)(hne:(t.hs.getD i b7).td≠[])(hr:(t.hs.getD i b7).re<=t.a8)(K9:0<=t.a8/\t.a8<=5000):GI w n ⟨t.na,t.a8,t.hs.set i (A8 w (t.hs.getD i b7) t.a8),t.se,t.lk++[⟨t.a8,((t.hs.getD i b7).td.getD 0 j6).ad,(ab w ((t.hs.getD i b7).td.getD 0 j6).ad ((t.hs.getD i b7).td.getD 0 j6).tr).1⟩]⟩:=by
 have hy:=h.hi _ (aw (d:=b7) hi)
 generalize x9:t.hs.getD i b7=y at *
 have G6:=List.length_pos_iff.2 hne
 have hit:=hy.it _ (aw (d:=j6) G6)
 have Ve:=qC hne
 have MJ:(y.td.getD 0 j6).ad ∉ (y.td.drop 1).map (·.ad)/\((y.td.drop 1).map (·.ad)).Nodup:=by
  have:=hy.nd
  cases P':y.td with
  | nil=>exact absurd P' hne
  | cons a r=>rw[P']at this;simpa using List.nodup_cons.1 this
 generalize Py:y.td.getD 0 j6=x0 at *
 obtain⟨a1,a2,a3,a4,a5,a6⟩:=hit
 have Nl:=pD (y:={ y with td:=y.td.drop 1 }) (a8:=t.a8) (k:=(ab w x0.ad x0.tr).1) (m:=x0.tr) ⟨a4,a5⟩
 have hq:QL w t.lk ⟨t.a8,x0.ad,(ab w x0.ad x0.tr).1⟩:=by
  refine⟨fun c=>⟨(a6 c).1,by have:=(a6 c).2;show (OL t.lk x0.ad).length<3;omega⟩,fun hc=>?_,fun q hq he h3=>?_,⟨_,rfl⟩,a1,K9⟩
  exfalso
  have:=hy.kn hk
  obtain⟨z,hz⟩:=List.exists_mem_of_ne_nil _ this
  obtain⟨q,q1,q2,_⟩:=rL hz
  exact hc q q1 (by rw[q2];exact a2.symm)
  have:=(hy.re q hq (by rw[he];exact a2)).2.1 h3
  show q.ti+3<=t.a8
  omega
 have hcl:cls (t.lk++[⟨t.a8,x0.ad,(ab w x0.ad x0.tr).1⟩]) y.na=cls t.lk y.na++[t.a8]:=by rw[dS,if_pos a2]
 have Rc:∀ x,x∈y.td.drop 1->aD x.ad=true/\af x.ad=y.na/\x.ad∈t.se/\0<=x.tr/\x.tr<=2/\(pathOf x.ad≠fF->(∀ q,q∈t.lk++[⟨t.a8,x0.ad,(ab w x0.ad x0.tr).1⟩]->q.ad=x.ad->q.ki=3)/\((OL (t.lk++[⟨t.a8,x0.ad,(ab w x0.ad x0.tr).1⟩]) x.ad).length:Int)=x.tr):=fun x hx=>by
  have N4:x0.ad≠x.ad:=fun c=>MJ.1 (by rw[c];exact List.mem_map.2 ⟨x,hx,rfl⟩)
  obtain⟨b1,b2,b3,b4,b5,b6⟩:=hy.it x (List.mem_of_mem_drop hx)
  refine⟨b1,b2,b3,b4,b5,fun hp=>⟨fun q hq he=>?_,?_⟩⟩
  rcases List.mem_append.1 hq with hq | hq
  exact(b6 hp).1 q hq he
  rw[List.mem_singleton.1 hq]at he;exact absurd he N4
  rw[kW,if_neg N4,List.append_nil];exact(b6 hp).2
 have M8:∀ {P:Prop},(y.kn=false->P):=fun c=>by rw[hk]at c;cases c
 have O1:cls (t.lk++[⟨t.a8,x0.ad,(ab w x0.ad x0.tr).1⟩]) y.na≠[]:=by rw[hcl];simp
 have c1:GI w n ⟨t.na,t.a8,t.hs.set i (A8 w y t.a8),t.se,t.lk++[⟨t.a8,x0.ad,(ab w x0.ad x0.tr).1⟩]⟩:=by
  have S7:A8 w y t.a8=cL { y with td:=y.td.drop 1 } t.a8 (ab w x0.ad x0.tr).1 x0.tr:=by unfold A8;rw[Py]
  rw[S7]
  obtain⟨k1,k2⟩:=hy.core (y':=cL { y with td:=y.td.drop 1 } t.a8 (ab w x0.ad x0.tr).1 x0.tr) (l:=⟨t.a8,x0.ad,(ab w x0.ad x0.tr).1⟩) a2 rfl hr Nl.1 Nl.2.1 Nl.2.2 (fun _=>rfl)
  refine h.call hi (by rw[x9];exact a2) hq (by rw[x9];rfl) ⟨hy.hn,Rc,MJ.2,hy.gl,M8,fun _=>O1,k1,k2⟩ (.inr a3) ?_ K9.1
  rw[x9]
  show (if y.kn=true then 0 else 3-y.tr)+Mm (y.td.drop 1)+1<=hp y
  unfold hp
  omega
 exact c1
theorem iM{hs:List k9}{d n:BL}{y:k9}(h:y∈hs):y∈aA hs d n:=by
 unfold aA
 split
 exact h
 exact List.mem_append_left _ h
theorem gJ{l:List k9}{i:Nat}{a:k9}(hi:i<l.length)(ha:a.na=(l.getD i b7).na){d:BL}(h:∃ y,y∈l/\y.na=d):∃ y,y∈l.set i a/\y.na=d:=by
 obtain⟨y,y1,y2⟩:=h
 have:d∈(l.set i a).map (·.na):=by
  rw[ja hi ha];exact List.mem_map.2 ⟨y,y1,y2⟩
 obtain⟨z,z1,z2⟩:=List.mem_map.1 this
 exact⟨z,z1,z2⟩
theorem KI.cO{t:l4}{s:BL}(hG:GI w n t)(h:KI w t):KI w (ao t s):=by
 by_cases hr:dh t.se s
 case neg=>
  have e3:cf t.se s=t.se:=if_neg hr
  have e4:aQ t.na t.hs t.se s=t.hs:=if_neg hr
  have:ao t s=t:=by unfold ao;rw[e3,e4]
  rw[this];exact h
 have e3:(ao t s).se=t.se++[s]:=if_pos hr
 have e4:(ao t s).hs=(aA t.hs (af s) t.na).set (r7 t.hs (af s)) (bc ((aA t.hs (af s) t.na).getD (r7 t.hs (af s)) b7) s):=if_pos hr
 have hlt:=cF t.hs (af s) t.na
 have MB:=lq t.hs (af s) t.na
 have Pm:∀ y,y∈aA t.hs (af s) t.na->y.kn=true->y.gr=bg w t.na y.na/\∀ x,x∈y.td->aH y.gr.ru (pathOf x.ad)=true:=fun y hy hk=>by
  unfold aA at hy
  split at hy
  exact h.gr y hy hk
  rcases List.mem_append.1 hy with hy | hy
  exact h.gr y hy hk
  rw[List.mem_singleton.1 hy]at hk;simp[bK]at hk
 have M8:∀ y,y∈aA t.hs (af s) t.na->y.kn=false->∀ q,q∈t.lk->af q.ad=y.na->q.ad=ae y.na/\q.ki=3:=fun y hy hk q hq he=>by
  unfold aA at hy
  split at hy
  exact h.un y hy hk q hq he
  rename_i hc
  rcases List.mem_append.1 hy with hy | hy
  exact h.un y hy hk q hq he
  exfalso
  rw[List.mem_singleton.1 hy]at he
  obtain⟨z,z1,z2⟩:=(hG.lh q hq).1
  have he:af q.ad=af s:=he
  exact hc (List.findIdx_lt_length_of_exists ⟨z,z1,by simp[z2,he]⟩)
 have x9:=aw (d:=b7) hlt
 generalize hy:(aA t.hs (af s) t.na).getD (r7 t.hs (af s)) b7=y at *
 refine⟨fun z hz hk=>?_,fun z hz hk q hq he=>?_,fun q hq=>?_⟩
 rw[e4]at hz
 show z.gr=bg w t.na z.na/\_
 rcases bN hz with e | e
 subst e
 unfold bc at hk ⊢
 split at hk
 rename_i c;rw[if_pos c];exact Pm y x9 hk
 rename_i c
 rw[if_neg c]
 have E2:y.kn=true:=hk
 obtain⟨a1,a2⟩:=Pm y x9 E2
 refine⟨a1,fun x hx=>?_⟩
 rcases List.mem_append.1 hx with hx | hx
 exact a2 x hx
 rw[List.mem_singleton.1 hx]
 cases hl:aH y.gr.ru (pathOf s) with
 | true=>rfl
 | false=>exact absurd ⟨E2,hl⟩ c
 exact Pm z e hk
 rw[e4]at hz
 have hq:q∈t.lk:=hq
 rcases bN hz with e | e
 subst e
 rw[fw]at he ⊢
 refine M8 y x9 ?_ q hq he
 unfold bc at hk
 split at hk
 exact hk
 exact hk
 exact M8 z e hk q hq he
 rw[e4]
 rw[e3]at hq
 rcases List.mem_append.1 hq with hq | hq
 obtain⟨z,z1,z2⟩:=h.se q hq
 exact gJ hlt (by rw[fw,hy]) ⟨z,iM z1,z2⟩
 rw[List.mem_singleton.1 hq]
 exact⟨_,List.mem_set hlt _,by rw[fw,MB]⟩
theorem KI.bL{l:List BL}:∀ {t:l4},GI w n t->KI w t->KI w (l.foldl ao t):=by
 induction l with
 | nil=>exact fun _ h=>h
 | cons a l ih=>exact fun hG h=>ih hG.cO (h.cO hG)
theorem KI.call{t:l4} {i:Nat} {y':k9} {l:l8} {a8:Int} (hG:GI w n t) (h:KI w t) (hi:i<t.hs.length) (hl:af l.ad=(t.hs.getD i b7).na) (MB:y'.na=(t.hs.getD i b7).na)
 (hg:y'.kn=true->y'.gr=bg w t.na y'.na/\∀ x,x∈y'.td->aH y'.gr.ru (pathOf x.ad)=true)
 (hu:y'.kn=false->∀ q,q∈t.lk++[l]->af q.ad=y'.na->q.ad=ae y'.na/\q.ki=3):KI w ⟨t.na,a8,t.hs.set i y',t.se,t.lk++[l]⟩:=by
 refine⟨fun z hz hk=>?_,fun z hz hk q hq he=>?_,fun q hq=>?_⟩
 rcases bN hz with e | e
 subst e;exact hg hk
 exact h.gr z e hk
 rcases iJ hG.nd hi hz with e | ⟨e,e2⟩
 subst e;exact hu hk q hq he
 rcases List.mem_append.1 hq with hq | hq
 exact h.un z e hk q hq he
 rw[List.mem_singleton.1 hq,hl]at he
 exact absurd he.symm e2
 exact gJ hi MB (h.se q hq)
theorem yH{t:l4}(hG:GI w n t)(h:KI w t)(hg:K3 t=true):KI w (A7 w t):=by
 have hx:=jA hg
 have hno:=hG.no
 have OJ:GI w n { t with a8:=s6 t }:=hG.at_ Z9
 have h':KI w { t with a8:=s6 t }:=⟨h.gr,h.un,h.se⟩
 have hm:=aw (d:=b7) hx.1
 have hy:=hG.hi _ hm
 have S6:=h.gr _ hm
 have V9:=h.un _ hm
 have Qj:=iP hG hg
 unfold A7 at Qj ⊢
 split
 rename_i hk
 rw[if_pos hk]at Qj
 have hit:=hy.it _ (aw (d:=j6) (List.length_pos_iff.2 hx.2.1))
 have Py:=aw (d:=j6) (List.length_pos_iff.2 hx.2.1)
 obtain⟨g1,g2⟩:=S6 hk
 have Wk:∀ {P:Prop},(t.hs.getD (m6 t) b7).kn=false->P:=fun c=>by rw[hk]at c;cases c
 unfold LQ at Qj ⊢
 simp only at Qj ⊢
 have cc:∀ y':k9,y'.na=(t.hs.getD (m6 t) b7).na->y'.kn=(t.hs.getD (m6 t) b7).kn->y'.gr=(t.hs.getD (m6 t) b7).gr->(∀ x,x∈y'.td->aH y'.gr.ru (pathOf x.ad)=true)->
  KI w ⟨t.na,s6 t,t.hs.set (m6 t) y',t.se,t.lk++[⟨s6 t,((t.hs.getD (m6 t) b7).td.getD 0 j6).ad,(ab w ((t.hs.getD (m6 t) b7).td.getD 0 j6).ad ((t.hs.getD (m6 t) b7).td.getD 0 j6).tr).1⟩]⟩:=fun y' e1 e2 e3 e4=>
  KI.call (t:={ t with a8:=s6 t }) (i:=m6 t) (l:=⟨s6 t,((t.hs.getD (m6 t) b7).td.getD 0 j6).ad,(ab w ((t.hs.getD (m6 t) b7).td.getD 0 j6).ad ((t.hs.getD (m6 t) b7).td.getD 0 j6).tr).1⟩) OJ h' hx.1 hit.2.1 e1
   (fun _=>⟨by rw[e3,e1];exact g1,e4⟩) (fun c=>Wk (by rw[<- e2];exact c))
 split
 refine cc _ rfl rfl rfl fun x H2=>?_
 rcases List.mem_append.1 H2 with H2 | H2
 exact g2 x (List.mem_of_mem_drop H2)
 rw[List.mem_singleton.1 H2];exact g2 ((t.hs.getD (m6 t) b7).td.getD 0 j6) Py
 rename_i c
 rw[if_neg c]at Qj
 have c1:=cc (A8 w (t.hs.getD (m6 t) b7) (s6 t)) rfl rfl rfl fun x H2=>g2 x (List.mem_of_mem_drop H2)
 have g3:GI w n ⟨t.na,s6 t,t.hs.set (m6 t) (A8 w (t.hs.getD (m6 t) b7) (s6 t)),t.se,t.lk++[⟨s6 t,((t.hs.getD (m6 t) b7).td.getD 0 j6).ad,(ab w ((t.hs.getD (m6 t) b7).td.getD 0 j6).ad ((t.hs.getD (m6 t) b7).td.getD 0 j6).tr).1⟩]⟩:=
  BM OJ hx.1 hk hx.2.1 (Ch hg) ⟨by simp only;omega,hx.2.2.2⟩
 split
 exact c1.bL g3
 exact c1
 rename_i hk
 have hk:(t.hs.getD (m6 t) b7).kn=false:=by simpa using hk
 have Pz:=mi hy.hn
 unfold OR
 refine KI.call (t:={ t with a8:=s6 t }) (i:=m6 t) (l:=⟨s6 t,ae (t.hs.getD (m6 t) b7).na,(ab w (ae (t.hs.getD (m6 t) b7).na) (t.hs.getD (m6 t) b7).tr).1⟩) OJ h' hx.1 Pz ?_ (fun E2=>?_) (fun E2 q hq he=>?_)
 unfold Ml;split <;> rfl
 unfold Ml at E2 ⊢
 split at E2
 have:(t.hs.getD (m6 t) b7).kn=true:=E2
 rw[hk]at this;cases this
 rename_i c
 rw[if_neg c]
 refine⟨rfl,fun x H2=>?_⟩
 have:=(List.mem_filter.1 H2).2
 unfold MP at this
 rw[Bool.and_eq_true]at this
 exact this.2
 unfold Ml at E2 he ⊢
 split at E2
 rename_i c
 rw[if_pos c]at he ⊢
 have he:af q.ad=(t.hs.getD (m6 t) b7).na:=he
 show q.ad=ae (t.hs.getD (m6 t) b7).na/\q.ki=3
 rcases List.mem_append.1 hq with hq | hq
 exact V9 hk q hq he
 rw[List.mem_singleton.1 hq];exact⟨rfl,c.1⟩
 cases E2
theorem qL:∀ (k:Nat) {t:l4},GI w n t->KI w t->KI w (D1 w k t)
 | 0,_,_,h=>h
 | k+1,t,hG,h=>by
   unfold D1
   split
   rename_i hg;exact qL k (iP hG hg) (yH hG h hg)
   exact h
theorem xY{e9:List BL}{t:l4}(h:ax n e9=some t):KI w t:=by
 unfold ax at h
 split at h
 cases h
 exact KI.bL (w:=w) (n:=n) GI.zero ⟨fun y hy=>by simp[aV]at hy,fun y hy=>by simp[aV]at hy,fun q hq=>by simp[aV]at hq⟩
 cases h
end Go.Pd
namespace Go.Pd
open Go.Abs Go.Proofs.YtbjbamjffkanbaaGreatDoor
def gG(L:List l8)(d:BL):Bool:=L.any fun q=>(af q.ad==d)&&!((q.ad==ae d)&&decide (q.ki=3))
def kq(L:List l8)(l:l8):Bool:=(l.ad==ae (af l.ad))&&!(gG L (af l.ad))&&decide ((cls L (af l.ad)).length<3)
def M0(L:List l8)(l:l8):Prop:=l.ki≠3/\kq L l=false
instance (L:List l8) (l:l8):Decidable (M0 L l):=by unfold M0;infer_instance
def LI(w:List Pg)(t:l4):Prop:= ∀ k,k<t.lk.length->kq (t.lk.take k) (t.lk.getD k m7)=true\/(aH (bg w t.na (af (t.lk.getD k m7).ad)).ru (pathOf (t.lk.getD k m7).ad)=true/\(t.lk.getD k m7).ad∈t.se)
variable {w:List Pg} {n:BL}
theorem Ic{s:BL}(hw:aq w=true)(hn:bh n=true)(hs:aD s=true):dB w n s=aH (bg w n (af s)).ru (pathOf s):=by
 have h1:=fg hs
 have h2:bU (oA (ar s)).h9=true:=xf hs
 unfold dB
 rw[hw,hn,h1,show dJ w (oA (ar s)).h9 n=_ from if_pos ⟨hw,h2,hn⟩]
 rfl
theorem mI{t:l4}{s x:BL}(h:x∈t.se):x∈(ao t s).se:=by
 show x∈cf t.se s
 unfold cf
 split
 exact List.mem_append_left _ h
 exact h
theorem LI.bL:∀ {l:List BL} {t:l4},LI w t->LI w (l.foldl ao t)
 | [],_,h=>h
 | s::l,t,h=>LI.bL (l:=l) (t:=ao t s) fun k hk=>(h k hk).imp id fun⟨a,b⟩=>⟨a,mI b⟩
theorem LI.call{t:l4}{hs:List k9}{l:l8}{a8:Int}(h:LI w t)(hl:kq t.lk l=true\/(aH (bg w t.na (af l.ad)).ru (pathOf l.ad)=true/\l.ad∈t.se)):LI w ⟨t.na,a8,hs,t.se,t.lk++[l]⟩:=fun k hk=>by
 have hk:k<(t.lk++[l]).length:=hk
 show kq ((t.lk++[l]).take k) ((t.lk++[l]).getD k m7)=true\/(aH (bg w t.na (af ((t.lk++[l]).getD k m7).ad)).ru (pathOf ((t.lk++[l]).getD k m7).ad)=true/\((t.lk++[l]).getD k m7).ad∈t.se)
 rw[List.length_append,List.length_singleton]at hk
 rcases Nat.lt_or_ge k t.lk.length with c | c
 have:=h k c
 rw[List.take_append_of_le_length Z9,List.getD_eq_getElem?_getD,List.getElem?_append_left c,<- List.getD_eq_getElem?_getD]
 exact this
 obtain rfl:k=t.lk.length:=Z9
 have e:(t.lk++[l]).getD t.lk.length m7=l:=by
  rw[List.getD_eq_getElem?_getD,List.getElem?_append_right (Nat.le_refl _)];simp
 rw[List.take_left,e]
 exact hl
end Go.Pd
namespace Go.Pd
open Go.Abs Go.Proofs.YtbjbamjffkanbaaGreatDoor
def ai(w:List Pg)(n:BL)(p:List BL)(m:Int):l4:=oT (aU w (oT (ax n p)) m)
theorem oz{w:List Pg}{n:BL}{p:List BL}{m:Int}:oT (aU w (oT (ax n p)) m)=ai w n p m:=rfl
theorem gI{w:List Pg}{n:BL}{p:List BL}{m:Int}(hm:y8 m 0 400=true):((ax n p).isSome&&(aU w (oT (ax n p)) m).isSome)=((ax n p).isSome&&aq w):=by
 cases h:ax n p with
 | none=>rfl
 | some t=>
   have:=hX h
   simp only[oT,Option.getD_some,Option.isSome_some,Bool.true_and]
   unfold aU
   rw[this,Bool.and_true,hm]
   cases aq w
   rfl
   rfl
theorem fu{w:List Pg}{n:BL}{p:List BL}{m:Int}(hm:y8 m 0 400=true)(h:(ax n p).isSome=true/\(aU w (oT (ax n p)) m).isSome=true):∃ t,ax n p=some t/\aq w=true/\ai w n p m=D1 w m.toNat t:=by
 have h2:=(gI hm).symm.trans (show ((ax n p).isSome&&(aU w (oT (ax n p)) m).isSome)=true by rw[h.1,h.2];rfl)
 unfold ai
 cases hn:ax n p with
 | none=>rw[hn]at h;cases h.1
 | some t=>
   have h3:aq w=true:=by
    rw[hn]at h2;exact h2
   refine⟨t,rfl,h3,?_⟩
   show oT (aU w t m)=_
   rw[tR hm h3 (hX hn)]
   rfl
theorem ij{w:List Pg}{n:BL}{p:List BL}{m:Int}(hm:y8 m 0 400=true)(h:(ax n p).isSome=true/\(aU w (oT (ax n p)) m).isSome=true):GI w n (ai w n p m)/\aq w=true:=by
 obtain⟨t,h1,h2,h3⟩:=fu hm h
 rw[h3]
 exact⟨ud _ (ia h1),h2⟩
theorem nv{w:List Pg}{n:BL}{t:l4}(h:GI w n t):(t.lk.length:Int)<=3*((t.se.length:Int)+t.hs.length):=by
 have:=h.po
 have:=uy (f:=hp) (l:=t.hs) fun y hy=>by
  have hI:=h.hi y hy
  have h1:=zh fun x hx=>(hI.it x hx).2.2.2.2.1
  unfold hp
  split
  omega
  rename_i c
  have:=hI.un (by simpa using c)
  omega
 omega
theorem eh{w:List Pg}{n:BL}{t:l4}(h:GI w n t):t.lk.length<=360:=by
 have:=nv h
 have:=h.hl
 have:=h.sn.2
 omega
theorem jC{s:BL}(h:aD s=true):s.length<=60/\m4 s:=by
 constructor
 have:=fg h
 unfold ar at this
 split at this
 rename_i c;exact c.1
 cases this
 have:=h
 unfold aD at this
 rw[Bool.and_eq_true,beq_iff_eq]at this
 rw[<- this.2];exact qi _
end Go.Pd
namespace Go.Proofs.YtbjbamjffkanbaaGreatDoor
open Go Go.Abs Go.RowKit Go.Pd
set_option maxRecDepth 20000
end Go.Proofs.YtbjbamjffkanbaaGreatDoor
namespace Go.Pd
open Go.Abs Go.Proofs.YtbjbamjffkanbaaGreatDoor
end Go.Pd
namespace Go.Proofs.YtbjbamjffkanbaaGreatDoor
open Go Go.Abs Go.RowKit Go.Pd
set_option maxRecDepth 20000
end Go.Proofs.YtbjbamjffkanbaaGreatDoor
namespace Go.Pd
open Go.Abs Go.Proofs.YtbjbamjffkanbaaGreatDoor
end Go.Pd
namespace Go.Proofs.YtbjbamjffkanbaaGreatDoor
open Go Go.Abs Go.RowKit Go.Pd
set_option maxRecDepth 20000
end Go.Proofs.YtbjbamjffkanbaaGreatDoor
namespace Go.Pd
open Go.Abs Go.Proofs.YtbjbamjffkanbaaGreatDoor
theorem jX{w:List Pg}(hw:aq w=true)(hz:∀ i,m8 (w.getD i l5)):∀ (k:Nat) {t:l4},Mi t->Mi (D1 w k t)
 | 0,_,h=>h
 | k+1,t,h=>by
   unfold D1
   split
   rename_i hg;exact jX hw hz k (jK hw hz h hg)
   exact h
theorem zl{w:List Pg}{n:BL}{t:l4}(hG:GI w n t)(hT:Mi t)(hn:n.length<=1000):C5 t:=by
 have h1:=hG.sn.2
 have h2:=hG.hl
 have h3:=eh hG
 refine⟨by rw[hG.na];exact hn,Z9,Z9,Z9,fun x hx=>?_,fun x hx=>?_,fun y hy=>?_⟩
 have:=jC (hG.se x hx);exact⟨Z9,this.2⟩
 obtain⟨k,hk,e⟩:=List.mem_iff_getElem.1 hx
 have:=jC (hG.al k hk).rd
 rw[List.getD_eq_getElem?_getD,List.getElem?_eq_getElem hk]at this
 subst e
 exact⟨Nat.le_trans this.1 Z9,this.2⟩
 have hI:=hG.hi y hy
 have hS:=hT.t0.ha y hy
 have hs:=hT.t0.s
 have hgl:=hI.gl
 exact⟨hS.n,hS.r,hS.rp,Z9,by have:=hS.t;omega,fun x hx=>⟨(hS.ta x hx).1,(hS.ta x hx).2.1⟩⟩
theorem qO{w:List Pg}{n:BL}{p:List BL}{m:Int}(hm:y8 m 0 400=true)(hz:∀ i,m8 (w.getD i l5))(hn:n.length<=1000)(hl:p.length<=400)(ha:∀ x,x∈p->x.length<=1000/\m4 x)(h:(ax n p).isSome=true/\(aU w (oT (ax n p)) m).isSome=true):C5 (ai w n p m):=by
 obtain⟨hG,hW⟩:=ij hm h
 refine zl hG ?_ hn
 obtain⟨t,Oa,_,h3⟩:=fu hm h
 have hS:=tN hn hl ha
 have hh:=uP (n:=n) hl
 rw[Oa]at hS hh
 rw[h3]
 exact jX hW hz _ (mE hS hh (hX Oa))
end Go.Pd
namespace Go.Proofs.YtbjbamjffkanbaaGreatDoor
open Go Go.Abs Go.RowKit Go.Pd
set_option maxRecDepth 20000
end Go.Proofs.YtbjbamjffkanbaaGreatDoor
namespace Go.Pd
open Go.Abs Go.Proofs.YtbjbamjffkanbaaGreatDoor
def O8(B:Int)(t:l4):Prop:= ∀ y,y∈t.hs->y.re<=B
theorem O8.cO{t:l4}{s:BL}{B:Int}(hB:0<=B)(h:O8 B t):O8 B (ao t s):=by
 intro z hz
 have hz:z∈aQ t.na t.hs t.se s:=hz
 unfold aQ at hz
 split at hz
 have hin:∀ y,y∈aA t.hs (af s) t.na->y.re<=B:=fun y hy=>by
  unfold aA at hy
  split at hy
  exact h y hy
  rcases List.mem_append.1 hy with hy | hy
  exact h y hy
  rw[List.mem_singleton.1 hy];exact hB
 rcases bN hz with e | e
 have:=hin _ (aw (d:=b7) (cF t.hs (af s) t.na))
 rw[e]
 unfold bc
 split <;> exact this
 exact hin z e
 exact h z hz
def TM(i:Nat)(t:l4):Prop:=t.a8<=30*i/\O8 (30*i) t
theorem TM.bL{i:Nat}:∀ {l:List BL} {t:l4},TM i t->TM i (l.foldl ao t)
 | [],_,h=>h
 | s::l,t,h=>TM.bL (l:=l) (t:=ao t s) ⟨h.1,h.2.cO Z9⟩
variable {w:List Pg} {n:BL}
theorem iD{y:k9}{a8 k m:Int}(h:y.gr.wa<=20):(cL y a8 k m).re<=a8+28:=by
 have hb:=jR (k:=m+1)
 unfold cL
 simp only
 split <;> omega
theorem qX{t:l4}{i:Nat}(hO:OI t)(h:TM i t)(hg:K3 t=true):TM (i+1) (A7 w t):=by
 have hx:=jA hg
 have he:=xQ hg
 have h1:=h.2 _ (aw (d:=b7) hx.1)
 have h2:=h.1
 have hy:=(hO.hs _ (aw (d:=b7) hx.1)).wa
 have hW:s6 t<=30*i:=Z9
 have c1:∀ (y':k9) (l:l8),y'.re<=30*(i:Int)+30->TM (i+1) ⟨t.na,s6 t,t.hs.set (m6 t) y',t.se,t.lk++[l]⟩:=fun y' l OW=>by
  refine⟨by show s6 t<=_;omega,fun z hz=>?_⟩
  rcases bN hz with e | e
  rw[e];omega
  have:=h.2 z e;omega
 unfold A7
 split
 unfold LQ
 simp only
 have hf:(A8 w (t.hs.getD (m6 t) b7) (s6 t)).re<=s6 t+28:=iD hy
 split
 exact c1 _ _ (by show (A8 w (t.hs.getD (m6 t) b7) (s6 t)).re<=_;omega)
 split
 exact(c1 _ _ Z9).bL
 exact c1 _ _ Z9
 unfold OR
 refine c1 _ _ ?_
 have hf:(n9 w (t.hs.getD (m6 t) b7) (s6 t)).re<=s6 t+28:=iD hy
 show (Ml w t.na (t.hs.getD (m6 t) b7) (s6 t)).re<=_
 unfold Ml
 split
 show (n9 w (t.hs.getD (m6 t) b7) (s6 t)).re<=_;omega
 have s2:(bg w t.na (t.hs.getD (m6 t) b7).na).wa<=20:=jY (ab w (ae (t.hs.getD (m6 t) b7).na) 2).1 (ab w (ae (t.hs.getD (m6 t) b7).na) 2).2 t.na
 simp only
 omega
structure WQ (w:List Pg) (n:BL) (i:Nat) (t:l4):Prop where
 gi:GI w n t
 oi:OI t
 ti:Mi t
 tm:TM i t
theorem WQ.step{t:l4}{i:Nat}(h:WQ w n i t)(hw:aq w=true)(hz:∀ i,m8 (w.getD i l5))(hg:K3 t=true):WQ w n (i+1) (A7 w t):=
 ⟨iP h.gi hg,np h.gi h.oi hg,jK hw hz h.ti hg,qX h.oi h.tm hg⟩
theorem WQ.ok{t:l4}{i:Nat}(h:WQ w n i t):aZ t=true:=pI h.gi h.oi (by have:=eh h.gi;omega)
theorem WQ.new{p:List BL}{t:l4}(h:ax n p=some t)(hS:C5 t)(hh:t.hs.length<=900):WQ w n 0 t:=by
 have hk:=hX h
 refine⟨ia h,mY h,mE hS hh hk,?_⟩
 unfold ax at h
 split at h
 cases h
 exact TM.bL (t:=aV n) ⟨Int.le_refl _,fun y hy=>by simp[aV]at hy⟩
 cases h
end Go.Pd
namespace Go.Pd
open Go.Abs Go.Proofs.YtbjbamjffkanbaaGreatDoor
def L8(L:List l8)(k:Nat):Prop:=k<L.length/\M0 (L.take k) (L.getD k m7)
def fy(w:List Pg)(e9:List BL)(L:List l8)(s:BL):Prop:=s∈e9\/∃ k,L8 L k/\s∈dY w (L.getD k m7).ad
structure CI (w:List Pg) (e9 J':List BL) (t:l4):Prop where
 gr:∀ y,y∈t.hs->y.kn=true->y.gr=bg w t.na y.na
 kn:∀ y,y∈t.hs->y.kn=true->gG t.lk y.na=true\/3<=(cls t.lk y.na).length
 kd:∀ q,q∈t.lk->q.ki≠3->(ab w q.ad 2).1=q.ki
 sr:∀ s,s∈t.se->fy w e9 t.lk s
 he:t.se.length<60->(∀ s,s∈e9->aD s=true->s∈t.se\/s∈J')/\∀ k,L8 t.lk k->∀ x,x∈dY w (t.lk.getD k m7).ad->aD x=true->x∈t.se\/x∈J'
 di:∀ s,s∈t.se->(∃ y,y∈t.hs/\∃ x,x∈y.td/\x.ad=s)\/aH (bg w t.na (af s)).ru (pathOf s)=false\/(∃ k,L8 t.lk k/\(t.lk.getD k m7).ad=s)\/(ab w s 2).1=3
 ro:∀ k,L8 t.lk k->fy w e9 (t.lk.take k) (t.lk.getD k m7).ad
theorem du{L r:List l8}{k:Nat}(h:L8 L k):L8 (L++r) k/\(L++r).getD k m7=L.getD k m7:=by
 have e1:(L++r).getD k m7=L.getD k m7:=by
  rw[List.getD_eq_getElem?_getD,List.getElem?_append_left h.1,<- List.getD_eq_getElem?_getD]
 refine⟨⟨by rw[List.length_append];have:=h.1;omega,?_⟩,e1⟩
 rw[e1,List.take_append_of_le_length (Nat.le_of_lt h.1)]
 exact h.2
theorem jS{L:List l8}{l:l8}{k:Nat}(h:L8 (L++[l]) k):L8 L k\/(k=L.length/\M0 L l):=by
 obtain⟨h1,h2⟩:=h
 rw[List.length_append,List.length_singleton]at h1
 rcases Nat.lt_or_ge k L.length with c | c
 rw[List.take_append_of_le_length Z9,List.getD_eq_getElem?_getD,List.getElem?_append_left c,<- List.getD_eq_getElem?_getD]at h2
 exact .inl ⟨c,h2⟩
 obtain rfl:k=L.length:=Z9
 have e:(L++[l]).getD L.length m7=l:=by
  rw[List.getD_eq_getElem?_getD,List.getElem?_append_right (Nat.le_refl _)];simp
 rw[List.take_left,e]at h2
 exact .inr ⟨rfl,h2⟩
theorem fb{L:List l8}{l:l8}(h:M0 L l):L8 (L++[l]) L.length/\(L++[l]).getD L.length m7=l:=by
 have e:(L++[l]).getD L.length m7=l:=by
  rw[List.getD_eq_getElem?_getD,List.getElem?_append_right (Nat.le_refl _)];simp
 refine⟨⟨Z8,?_⟩,e⟩
 rw[List.take_left,e];exact h
theorem pc{w:List Pg}{e9:List BL}{L r:List l8}{s:BL}(h:fy w e9 L s):fy w e9 (L++r) s:=
 h.imp id fun⟨k,h1,h2⟩=>⟨k,(du h1).1,by rw[(du h1).2];exact h2⟩
theorem gB{t:l4}{s:BL}{z:k9}(hz:z∈(ao t s).hs)(hk:z.kn=true):∃ y,y∈t.hs/\y.na=z.na/\y.kn=true/\y.gr=z.gr:=by
 have hz:z∈aQ t.na t.hs t.se s:=hz
 unfold aQ at hz
 split at hz
 have hin:∀ y,y∈aA t.hs (af s) t.na->y.kn=true->y∈t.hs:=fun y hy hk=>by
  unfold aA at hy
  split at hy
  exact hy
  rcases List.mem_append.1 hy with hy | hy
  exact hy
  rw[List.mem_singleton.1 hy]at hk;simp[bK]at hk
 rcases bN hz with e | e
 have x9:=aw (d:=b7) (cF t.hs (af s) t.na)
 generalize (aA t.hs (af s) t.na).getD (r7 t.hs (af s)) b7=y at *
 have q:z.kn=y.kn/\y.na=z.na/\y.gr=z.gr:=by
  subst e;unfold bc;split <;> exact⟨rfl,rfl,rfl⟩
 exact⟨y,hin y x9 (by rw[<- q.1];exact hk),q.2.1,by rw[<- q.1];exact hk,q.2.2⟩
 exact⟨z,hin z e hk,rfl,hk,rfl⟩
 exact⟨z,hz,rfl,hk,rfl⟩
theorem oN{t:l4}{s:BL}{y:k9}{x:w4}(hy:y∈t.hs)(hx:x∈y.td):∃ z,z∈(ao t s).hs/\x∈z.td:=by
 show ∃ z,z∈aQ t.na t.hs t.se s/\x∈z.td
 unfold aQ
 split
 obtain⟨j,hj,e⟩:=List.mem_iff_getElem.1 (iM (d:=af s) (n:=t.na) hy)
 by_cases c:r7 t.hs (af s)=j
 refine⟨_,List.mem_iff_getElem.2 ⟨r7 t.hs (af s),by rw[List.length_set];exact cF ..,List.getElem_set_self ..⟩,?_⟩
 have e2:(aA t.hs (af s) t.na).getD (r7 t.hs (af s)) b7=y:=by
  rw[c,List.getD_eq_getElem?_getD,List.getElem?_eq_getElem hj];exact e
 rw[e2]
 unfold bc
 split
 exact hx
 exact List.mem_append_left _ hx
 exact⟨y,List.mem_iff_getElem.2 ⟨j,by rw[List.length_set];exact hj,by rw[List.getElem_set_ne c];exact e⟩,hx⟩
 exact⟨y,hy,hx⟩
theorem mO{t:l4}{s:BL}(hr:dh t.se s):(∃ z,z∈(ao t s).hs/\∃ x,x∈z.td/\x.ad=s)\/∃ y,y∈t.hs/\y.kn=true/\y.na=af s/\aH y.gr.ru (pathOf s)=false:=by
 have e4:(ao t s).hs=(aA t.hs (af s) t.na).set (r7 t.hs (af s)) (bc ((aA t.hs (af s) t.na).getD (r7 t.hs (af s)) b7) s):=if_pos hr
 have hm:bc ((aA t.hs (af s) t.na).getD (r7 t.hs (af s)) b7) s∈(ao t s).hs:=by
  rw[e4]
  exact List.mem_iff_getElem.2 ⟨r7 t.hs (af s),by rw[List.length_set];exact cF ..,List.getElem_set_self ..⟩
 have x9:=aw (d:=b7) (cF t.hs (af s) t.na)
 have MB:=lq t.hs (af s) t.na
 generalize (aA t.hs (af s) t.na).getD (r7 t.hs (af s)) b7=y at *
 by_cases c:y.kn=true/\aH y.gr.ru (pathOf s)=false
 refine .inr ⟨y,?_,c.1,MB,c.2⟩
 unfold aA at x9
 split at x9
 exact x9
 rcases List.mem_append.1 x9 with h | h
 exact h
 have:=c.1
 rw[List.mem_singleton.1 h]at this;simp[bK]at this
 refine .inl ⟨_,hm,⟨s,0⟩,?_,rfl⟩
 unfold bc
 rw[if_neg c]
 exact List.mem_append_right _ (List.mem_singleton.2 rfl)
variable {w:List Pg} {n:BL} {e9:List BL}
theorem CI.cO{l:List BL}{s:BL}{t:l4}(h:CI w e9 (s::l) t)(hs:fy w e9 t.lk s):CI w e9 l (ao t s):=by
 by_cases hr:dh t.se s
 case neg=>
  have e3:cf t.se s=t.se:=if_neg hr
  have e4:aQ t.na t.hs t.se s=t.hs:=if_neg hr
  have:ao t s=t:=by unfold ao;rw[e3,e4]
  rw[this]
  have key:t.se.length<60->∀ x,aD x=true->x∈t.se\/x∈s::l->x∈t.se\/x∈l:=fun hl x ha c=>by
   rcases c with c | c
   exact .inl c
   rcases List.mem_cons.1 c with e | c
   subst e
   exact .inl (Decidable.byContradiction fun q=>hr ⟨ha,hl,q⟩)
   exact .inr c
  exact⟨h.gr,h.kn,h.kd,h.sr,fun hl=>⟨fun x hx ha=>key hl x ha ((h.he hl).1 x hx ha),fun k hk x hx ha=>key hl x ha ((h.he hl).2 k hk x hx ha)⟩,h.di,h.ro⟩
 have e3:(ao t s).se=t.se++[s]:=if_pos hr
 have key:(t.se++[s]).length<60->t.se.length<60:=fun h=>by rw[List.length_append,List.length_singleton]at h;omega
 have N2:∀ x,x∈t.se\/x∈s::l->x∈t.se++[s]\/x∈l:=fun x c=>by
  rcases c with c | c
  exact .inl (List.mem_append_left _ c)
  rcases List.mem_cons.1 c with e | c
  exact .inl (List.mem_append_right _ (List.mem_singleton.2 e))
  exact .inr c
 refine⟨fun z hz hk=>?_,fun z hz hk=>?_,h.kd,fun x hx=>?_,fun hl=>?_,fun x hx=>?_,h.ro⟩
 obtain⟨y,y1,y2,y3,y4⟩:=gB hz hk
 rw[<- y4,<- y2];exact h.gr y y1 y3
 obtain⟨y,y1,y2,y3,y4⟩:=gB hz hk
 rw[<- y2];exact h.kn y y1 y3
 rw[e3]at hx
 rcases List.mem_append.1 hx with hx | hx
 exact h.sr x hx
 rw[List.mem_singleton.1 hx];exact hs
 rw[e3]at hl ⊢
 exact⟨fun x hx ha=>N2 x ((h.he (key hl)).1 x hx ha),fun k hk x hx ha=>N2 x ((h.he (key hl)).2 k hk x hx ha)⟩
 rw[e3]at hx
 rcases List.mem_append.1 hx with hx | hx
 rcases h.di x hx with ⟨y,y1,q,q1,q2⟩ | c
 obtain⟨z,z1,z2⟩:=oN (s:=s) y1 q1
 exact .inl ⟨z,z1,q,z2,q2⟩
 exact .inr c
 rw[List.mem_singleton.1 hx]
 rcases mO hr with c | ⟨y,y1,y2,y3,y4⟩
 exact .inl c
 rw[h.gr y y1 y2,y3]at y4
 exact .inr (.inl y4)
theorem CI.bL:∀ {l:List BL} {t:l4},CI w e9 l t->(∀ s,s∈l->fy w e9 t.lk s)->CI w e9 [] (l.foldl ao t)
 | [],_,h,_=>h
 | s::l,t,h,hs=>CI.bL (l:=l) (t:=ao t s) (h.cO (hs s Z8)) fun x hx=>hs x (List.mem_cons_of_mem _ hx)
theorem oh{L:List l8}{l:l8}{d:BL}(h:gG L d=true):gG (L++[l]) d=true:=by
 unfold gG at *
 rw[List.any_append,h,Bool.true_or]
theorem CI.call{J':List BL} {t:l4} {i:Nat} {y':k9} {l:l8} {a8:Int} (h:CI w e9 [] t) (hi:i<t.hs.length)
 (hg:y'.kn=true->y'.gr=bg w t.na y'.na/\(gG (t.lk++[l]) y'.na=true\/3<=(cls (t.lk++[l]) y'.na).length)) (hk:l.ki≠3->(ab w l.ad 2).1=l.ki) (hp:M0 t.lk l->l.ad∈t.se/\∀ x,x∈dY w l.ad->x∈J')
 (ht:∀ x,x∈(t.hs.getD i b7).td->(∃ x',x'∈y'.td/\x'.ad=x.ad)\/aH (bg w t.na (af x.ad)).ru (pathOf x.ad)=false\/(M0 t.lk l/\l.ad=x.ad)\/(ab w x.ad 2).1=3):
 CI w e9 J' ⟨t.na,a8,t.hs.set i y',t.se,t.lk++[l]⟩:=by
 refine⟨fun z hz LU=>?_,fun z hz LU=>?_,fun q hq=>?_,fun s hs=>pc (h.sr s hs),fun hl=>⟨fun s hs ha=>?_,fun k hk x hx ha=>?_⟩,fun s hs=>?_,fun k hk=>?_⟩
 rcases bN hz with e | e
 subst e;exact(hg LU).1
 exact h.gr z e LU
 rcases bN hz with e | e
 subst e;exact(hg LU).2
 rcases h.kn z e LU with c | c
 exact .inl (oh c)
 refine .inr ?_
 show 3<=(cls (t.lk++[l]) z.na).length
 rw[dS,List.length_append];omega
 rcases List.mem_append.1 hq with hq | hq
 exact h.kd q hq
 rw[List.mem_singleton.1 hq];exact hk
 rcases (h.he hl).1 s hs ha with c | c
 exact .inl c
 simp at c
 have hx:x∈dY w ((t.lk++[l]).getD k m7).ad:=hx
 rcases jS hk with c | ⟨c1,c2⟩
 rw[(du c).2]at hx
 rcases (h.he hl).2 k c x hx ha with c | c
 exact .inl c
 simp at c
 rw[c1,(fb c2).2]at hx
 exact .inr ((hp c2).2 x hx)
 rcases h.di s hs with ⟨y,y1,x,x1,x2⟩ | c | ⟨k,k1,k2⟩ | c
 obtain⟨j,hj,e⟩:=List.mem_iff_getElem.1 y1
 by_cases c:i=j
 have e2:t.hs.getD i b7=y:=by
  rw[c,List.getD_eq_getElem?_getD,List.getElem?_eq_getElem hj];exact e
 rw[e2]at ht
 subst x2
 rcases ht x x1 with ⟨x',c1,c2⟩ | c | ⟨c1,c2⟩ | c
 exact .inl ⟨y',List.mem_iff_getElem.2 ⟨i,by rw[List.length_set];exact hi,List.getElem_set_self ..⟩,x',c1,c2⟩
 exact .inr (.inl c)
 exact .inr (.inr (.inl ⟨_,(fb c1).1,by rw[(fb c1).2];exact c2⟩))
 exact .inr (.inr (.inr c))
 exact .inl ⟨y,List.mem_iff_getElem.2 ⟨j,by rw[List.length_set];exact hj,by rw[List.getElem_set_ne c];exact e⟩,x,x1,x2⟩
 exact .inr (.inl c)
 exact .inr (.inr (.inl ⟨k,(du k1).1,by rw[(du k1).2];exact k2⟩))
 exact .inr (.inr (.inr c))
 show fy w e9 ((t.lk++[l]).take k) ((t.lk++[l]).getD k m7).ad
 rcases jS hk with c | ⟨c1,c2⟩
 rw[(du c).2,List.take_append_of_le_length (Nat.le_of_lt c.1)]
 exact h.ro k c
 rw[c1,(fb c2).2,List.take_left]
 exact h.sr _ (hp c2).1
end Go.Pd
namespace Go.Pd
open Go.Abs Go.Proofs.YtbjbamjffkanbaaGreatDoor
variable {w:List Pg} {n:BL} {e9:List BL}
def dv(y:k9):Nat:=(if y.kn=true then 0 else 1)+y.td.length
structure NI (t:l4):Prop where
 U0:t.lk.length+(t.hs.map dv).sum=t.se.length+t.hs.length
 OO:∀ y,y∈t.hs->y.kn=false->y.td≠[]
theorem oD{l:List k9}{i:Nat}{a:k9}(hi:i<l.length):((l.set i a).map dv).sum+dv (l.getD i b7)=(l.map dv).sum+dv a:=by
 induction l generalizing i with
 | nil=>simp at hi
 | cons b l ih=>
   cases i with
   | zero=>simp;omega
   | succ i=>
     have:=ih (i:=i) (by simpa using hi)
     simp only[List.set_cons_succ,List.map_cons,List.sum_cons,List.getD_cons_succ]at *
     omega
theorem NI.cO{t:l4}{s:BL}(h:NI t)(hk:∀ y,y∈t.hs->y.kn=false):NI (ao t s)/\∀ y,y∈(ao t s).hs->y.kn=false:=by
 have O1:∀ y,y∈(ao t s).hs->y.kn=false:=fun y hy=>by
  cases e:y.kn with
  | false=>rfl
  | true=>
    obtain⟨y0,y1,_,y3,_⟩:=gB hy e
    rw[hk y0 y1]at y3;cases y3
 refine⟨?_,O1⟩
 by_cases hr:dh t.se s
 case neg=>
  have e3:cf t.se s=t.se:=if_neg hr
  have e4:aQ t.na t.hs t.se s=t.hs:=if_neg hr
  have:ao t s=t:=by unfold ao;rw[e3,e4]
  rw[this];exact h
 have e3:(ao t s).se=t.se++[s]:=if_pos hr
 have e4:(ao t s).hs=(aA t.hs (af s) t.na).set (r7 t.hs (af s)) (bc ((aA t.hs (af s) t.na).getD (r7 t.hs (af s)) b7) s):=if_pos hr
 have hlt:=cF t.hs (af s) t.na
 have hin:(∀ y,y∈aA t.hs (af s) t.na->y.kn=false/\(y.td≠[]\/y=bK (af s) t.na))/\((aA t.hs (af s) t.na).map dv).sum+t.hs.length=(t.hs.map dv).sum+(aA t.hs (af s) t.na).length:=by
  unfold aA
  split
  exact⟨fun y hy=>⟨hk y hy,.inl (h.OO y hy (hk y hy))⟩,rfl⟩
  refine⟨fun y hy=>?_,?_⟩
  rcases List.mem_append.1 hy with hy | hy
  exact⟨hk y hy,.inl (h.OO y hy (hk y hy))⟩
  exact⟨by rw[List.mem_singleton.1 hy];rfl,.inr (List.mem_singleton.1 hy)⟩
  simp only[List.map_append,List.sum_append,List.length_append,List.map_cons,List.map_nil,List.sum_cons,List.sum_nil,List.length_singleton]
  simp[dv,bK];omega
 have x9:=(hin.1 _ (aw (d:=b7) hlt)).1
 have hp:=oD (a:=bc ((aA t.hs (af s) t.na).getD (r7 t.hs (af s)) b7) s) hlt
 have e5:dv (bc ((aA t.hs (af s) t.na).getD (r7 t.hs (af s)) b7) s)=dv ((aA t.hs (af s) t.na).getD (r7 t.hs (af s)) b7)+1:=by
  unfold bc
  rw[if_neg (fun c=>by rw[x9]at c;cases c.1)]
  simp[dv];omega
 refine⟨?_,fun y hy _=>?_⟩
 have:=h.U0
 have:=hin.2
 rw[e3,e4,List.length_set,List.length_append,List.length_singleton]
 show t.lk.length+_=_
 omega
 rw[e4]at hy
 obtain⟨j,hj,e⟩:=List.mem_iff_getElem.1 hy
 rw[List.length_set]at hj
 by_cases c:r7 t.hs (af s)=j
 subst c
 rw[List.getElem_set_self]at e
 rw[<- e]
 unfold bc
 rw[if_neg (fun c=>by rw[x9]at c;cases c.1)]
 simp
 rw[List.getElem_set_ne c]at e
 rcases (hin.1 y (by rw[<- e];exact List.getElem_mem _)).2 with q | q
 exact q
 exfalso
 unfold aA at hj e
 split at hj
 rename_i c2
 simp only[c2,if_true]at e
 have:=h.OO y (by rw[<- e];exact List.getElem_mem _) (by rw[q];rfl)
 rw[q]at this;exact this rfl
 rename_i c2
 simp only[c2,if_false]at e
 have hle:r7 t.hs (af s)<=t.hs.length:=List.findIdx_le_length
 rw[List.length_append,List.length_singleton]at hj
 have Pl:j<t.hs.length:=Z9
 rw[List.getElem_append_left Pl]at e
 have:=h.OO y (by rw[<- e];exact List.getElem_mem _) (by rw[q];rfl)
 rw[q]at this;exact this rfl
theorem NI.bL:∀ {l:List BL} {t:l4},NI t->(∀ y,y∈t.hs->y.kn=false)->NI (l.foldl ao t)
 | [],_,h,_=>h
 | s::l,t,h,hk=>NI.bL (l:=l) (t:=ao t s) (h.cO hk).1 (h.cO hk).2
end Go.Pd
namespace Go.Abs
open Go Go.RowKit
section
variable {P:Program}
def VI(P:Program)(T:TypeId)(vx vy:Value)(r:Bool):Prop:=(∀ x y w,(eqGuard .neq T x y vx vy).run P w=.ok () w)/\∀ w,(binOp .neq T vx vy).run P w=.ok (.bool r) w
def seC(vx vy:Value)(r:Bool):Cu P where
 X:=Unit
 pre N o A:=match o.op,o.dst with
  | .binOp .neq T x y _,some d=>match Nat.blt d N with
    | true=>(A.ev x).val? =some vx/\(A.ev y).val? =some vy/\VI P T vx vy r
    | false=>False
  | _,_=>False
 post _ o A:=A.put o.dst (bV r)
 ok:=by
  rintro N ⟨dst,op,ty,pos,after,C7⟩ A K-hp hK
  replace hK:=hK ()
  simp only at hp hK
  split at hp
  rename_i T x y p d
  split at hp
  rename_i e1
  obtain⟨h1,h2,h3,h4⟩:=hp
  refine fD (v:=bV r) rfl (bD e1) hK fun Pb Kb a w F hs=>⟨.bool r,?_,de rfl⟩
  simp only[execOp,qG hs h1,qG hs h2,Sem.run_bind,h3,h4,Result.andThen_ok,Sem.run_pure]
  exact hp.elim
  exact hp.elim
end
end Go.Abs
namespace Go.Pd
open Go.Abs Go.Proofs.YtbjbamjffkanbaaGreatDoor
theorem vB{d:BL}(h:(ae d).length<=60):d.length<=60:=by
 unfold ae at h
 simp only[List.length_append]at h
 omega
theorem yN(n k:Nat)(h:0<k/\k<=400):y8 ((n % k:Nat):Int) 0 400=true:=decide_eq_true (by have:=Nat.mod_lt n h.1;omega)
theorem wg{w:List Pg}{n:BL}{p:List BL}{m:Int}(hm:y8 m 0 400=true)(h:(ax n p).isSome=true/\(aU w (oT (ax n p)) m).isSome=true):KI w (ai w n p m):=by
 obtain⟨t,h1,_,h3⟩:=fu hm h
 rw[h3]
 exact qL _ (ia h1) (xY h1)
theorem vH{w:List Pg}{n:BL}{p:List BL}{m:Int}(hm:y8 m 0 400=true)(h:(ax n p).isSome=true/\(aU w (oT (ax n p)) m).isSome=true):aZ (ai w n p m)=true/\bh n=true:=by
 obtain⟨t,h1,_,h3⟩:=fu hm h
 have hG:=(ij hm h).1
 have hO:OI (ai w n p m):=by
  rw[h3]
  exact qN _ (ia (w:=w) h1) (mY h1)
 exact⟨pI hG hO (by have:=eh hG;omega),by rw[<- hG.na];exact hO.nm⟩
end Go.Pd
namespace Go.Proofs.YtbjbamjffkanbaaGreatDoor
open Go Go.Abs Go.RowKit Go.Pd
set_option maxRecDepth 20000
end Go.Proofs.YtbjbamjffkanbaaGreatDoor
namespace Go.Pd
open Go.Abs Go.Proofs.YtbjbamjffkanbaaGreatDoor
theorem FJ{w:List Pg}{n:BL}{t:l4}{y:k9}(hG:GI w n t)(hK:KI w t)(hw:aq w=true)(hn:bh n=true)(hy:y∈t.hs)(hh:bU y.na=true)(hk:y.kn=true):y.gr=dJ w y.na n:=by
 rw[(hK.gr y hy hk).1,hG.na,show dJ w y.na n=_ from if_pos ⟨hw,hh,hn⟩]
 rfl
theorem Dg{w:List Pg}{n:BL}{t:l4}{y:k9}{x:w4}(hG:GI w n t)(hK:KI w t)(hw:aq w=true)(hn:bh n=true)(hy:y∈t.hs)(hk:y.kn=true)(hx:x∈y.td):dB w n x.ad=true:=by
 obtain⟨h1,h2⟩:=hK.gr y hy hk
 have hi:=(hG.hi y hy).it x hx
 rw[Ic hw hn hi.1,hi.2.1,<- hG.na,<- h1]
 exact h2 x hx
end Go.Pd
namespace Go.Proofs.YtbjbamjffkanbaaGreatDoor
open Go Go.Abs Go.RowKit Go.Pd
set_option maxRecDepth 20000
theorem Jz{a b:o9}(he:a=b):VI Tryz.prog 131 (.agg #[.bool a.C8,.string (Str a.path)]) (.agg #[.bool b.C8,.string (Str b.path)]) false:=by
 subst he
 have u4:=Tryz.underlying4
 have a4:=Tryz.isAgg4
 have z4:=Tryz.sizeOf4
 have u9:=Tryz.underlying9
 have a9:=Tryz.isAgg9
 have z9:=Tryz.sizeOf9
 refine⟨fun x y w=>run_eqGuard_agg w .neq _ x y _ _ Z7,fun w=>?_⟩
 rw[run_neq_struct,show (10000:Nat)=9999+1 from rfl,run_equalIn_agg w 9999 131 _ _ Z7 Z7]
 simp only[Program.fieldsOf,Tryz.underlying131]
 go_simp
theorem BB(l m:List o9)(hl:l.length<=1000000)(he:l=m):PF Tryz.prog 50 [dk l,dk m] [] (fun r h=>r=(bV true)/\h=[]):=by
 have hlm:l.length=m.length:=by rw[he]
 refine az (N:=26) (rs:=[.tmp 4]) Tryz.func50
  (.q 1<|.q 5<|.br (.q 1<|.nil) (.q 1<|.loop (Nat) (fun (i:Nat)=>⟨[(0,dk l),(1,dk m),(5,iN i)],[]⟩) (fun (i:Nat)=>i<=l.length) (fun (i:Nat)=>l.length-i) (fun (i:Nat)=>.q 4<|.br (.dx 8 [0,1,2,3,4,5,6,7] [(3,⟨false,[],some [],[20],[]⟩),(7,⟨false,[],some [],[24],[]⟩)] []<|.q 1<|.q 1<|.r 1 [.agg [bV ((l.getD i (⟨false,[]⟩:o9)).C8),sV ((l.getD i (⟨false,[]⟩:o9)).path)]]<|.q 1<|.q 1<|.q 1<|.r 1 [.agg [bV ((m.getD i (⟨false,[]⟩:o9)).C8),sV ((m.getD i (⟨false,[]⟩:o9)).path)]]<|.q 1<|.cu (seC (.agg #[.bool ((l.getD i (⟨false,[]⟩:o9)).C8),.string (Str ((l.getD i (⟨false,[]⟩:o9)).path))]) (.agg #[.bool ((m.getD i (⟨false,[]⟩:o9)).C8),.string (Str ((m.getD i (⟨false,[]⟩:o9)).path))]) false) (fun _=>.br (.q 1<|.nil) (.q 3<|.nil))) (.q 1<|.nil))))
  (Br (E1 (((l.map au).length:Nat):Int) (((m.map au).length:Nat):Int)) (Q (bV false) (bV true)) ((∃ j7:Nat,(j7<=l.length)/\E (dk l)/\E (dk m)/\Q (iN 0) (iN j7)/\True)/\∀ i:Nat,(i<=l.length)->(fun v1:V=>(fun v2:V=>Br (s8 (i:Int) (((l.map au).length:Nat):Int)) (Ex (i:Int) (l.map au) v1/\True/\Ex (i:Int) (m.map au) v2/\True/\((v1:V).val? =some (.agg #[.bool ((l.getD i (⟨false,[]⟩:o9)).C8),.string (Str ((l.getD i (⟨false,[]⟩:o9)).path))])/\(v2:V).val? =some (.agg #[.bool ((m.getD i (⟨false,[]⟩:o9)).C8),.string (Str ((m.getD i (⟨false,[]⟩:o9)).path))])/\VI Tryz.prog 131 (.agg #[.bool ((l.getD i (⟨false,[]⟩:o9)).C8),.string (Str ((l.getD i (⟨false,[]⟩:o9)).path))]) (.agg #[.bool ((m.getD i (⟨false,[]⟩:o9)).C8),.string (Str ((m.getD i (⟨false,[]⟩:o9)).path))]) false)/\∀ _:Unit,Br false (Q (bV false) (bV true)) (m9 ((i:Int)+1)/\∃ c5:Nat,(c5<=l.length)/\(l.length-c5<l.length-i)/\E (dk l)/\E (dk m)/\Q (iN (i+1)) (iN c5)/\True)) (Q (bV true) (bV true))) (.agg [bV ((m.getD i (⟨false,[]⟩:o9)).C8),sV ((m.getD i (⟨false,[]⟩:o9)).path)])) (.agg [bV ((l.getD i (⟨false,[]⟩:o9)).C8),sV ((l.getD i (⟨false,[]⟩:o9)).path)]))) ?_
 refine bI (fun j9=>?_) fun j9=>?_
 exact absurd (congrArg Int.ofNat hlm) j9
 refine⟨⟨0,?_,rfl,rfl,rfl,trivial⟩,?_⟩
 simp
 rintro i h1
 refine bI (fun l6=>?_) fun l6=>?_
 refine⟨⟨Z9,an (d:=(⟨false,[]⟩:o9)) Z9⟩,trivial,⟨Z9,an (d:=(⟨false,[]⟩:o9)) Z9⟩,trivial,⟨rfl,rfl,Jz (by rw[he])⟩,?_⟩
 intro _
 refine bI (fun n0=>?_) fun n0=>?_
 exact absurd n0 Z6
 refine⟨Z9,?_⟩
 refine⟨i+1,?_,?_,rfl,rfl,rfl,trivial⟩
 omega
 exact Z1
 unfold Q
 rfl
def xp(l:List o9)(m:List o9):o8 Tryz.prog:={ f:=50,args:=[dk l,dk m],H:=[],pre:=(l.length<=1000000)/\(l=m),res:=bV true,H':=[],ok:=fun h=>BB l m h.1 h.2 }
theorem BR(a b:l3)(hn:a.na.length<=1000000)(hr:a.ru.length<=1000000)(he:a=b):PF Tryz.prog 24 [dP a.na a.ru a.wa,dP b.na b.ru b.wa] [] (fun r h=>r=(bV true)/\h=[]):=by
 refine az (N:=24) (rs:=[.tmp 4]) Tryz.func24
  (.bx (fun g2=>.bx (fun g3=>.q 1<|.r 10 [.c9,.c9,.c9,.c9]<|.cg (xd a.na b.na)<|.r 6 [.c9,.c9]<|.cg (xp a.ru b.ru)<|.q 2<|.nil)))
  ((fun v1:Bool=>(∀ g2:Nat,∀ g3:Nat,Z g2 2/\Z g3 2/\Gd (v1==true) (Z g2 0)/\Gd (v1==true) (Z g3 0)/\Gd (v1==true) (((a.na.length<=1000000)/\(b.na.length<=1000000))/\(xd a.na b.na).sm)/\Pk v1 (v1==true) true/\Gd ((v1&&(a.na==b.na))==true) (Z g2 1)/\Gd ((v1&&(a.na==b.na))==true) (Z g3 1)/\Gd ((v1&&(a.na==b.na))==true) (((a.ru.length<=1000000)/\(a.ru=b.ru))/\(xp a.ru b.ru).sm)/\Pk (v1&&(a.na==b.na)) ((v1&&(a.na==b.na))==true) true/\Q (bV ((v1&&(a.na==b.na))||false)) (bV true))) (o6 (a.wa:Int) (b.wa:Int))) ?_
 intro g2
 intro g3
 refine⟨rfl,rfl,fun hG=>rfl,fun hG=>rfl,fun hG=>⟨⟨hn,by(try simp only[nb]at hG);rw[<- he];exact hn⟩,rfl⟩,⟨fun h=>by rw[h] <;> rfl,fun _=>rfl⟩,fun hG=>rfl,fun hG=>rfl,fun hG=>⟨⟨hr,by(try simp only[nb]at hG);rw[he]⟩,rfl⟩,⟨fun h=>by rw[h] <;> rfl,fun _=>rfl⟩,?_⟩
 unfold Q
 subst he
 simp[nb,o6]
def wu(a:l3)(b:l3):o8 Tryz.prog:={ f:=24,args:=[dP a.na a.ru a.wa,dP b.na b.ru b.wa],H:=[],pre:=(a.na.length<=1000000)/\(a.ru.length<=1000000)/\(a=b),res:=bV true,H':=[],ok:=fun h=>BR a b h.1 h.2.1 h.2.2 }
theorem yr(b c:BL)(ea:Addr)(hb:b.length<=9223372036854775807)(hc:c.length<=9223372036854775807):PF Tryz.prog 7 [fB b,fB c] [(9000,(0,.lit (.iface 252 (.pointer (some ea)))))] (fun r h=>r=(bV true)/\h=[(9000,(0,.lit (.iface 252 (.pointer (some ea)))))]):=by
 refine az (N:=94) (rs:=[.tmp 4]) Tryz.func7
  (.q 1<|.q 8<|.br (.q 1<|.nil) (.q 1<|.cx (eL b) [] (fun (a7:List Pg×BL×List BL)=>.q 7<|.q 6<|.h (.o5 33 (iN (c.length % 300)))<|.c (kX a7.1 a7.2.1 a7.2.2 (((c.length % 300):Nat):Int) ea) [(9000,9000)]<|.mv<|.mv<|.q 1<|.h (.fz 35)<|.h (.o5 35 (dX ((ai a7.1 a7.2.1 a7.2.2 (((c.length % 300):Nat):Int)).na) ((ai a7.1 a7.2.1 a7.2.2 (((c.length % 300):Nat):Int)).a8) ((ai a7.1 a7.2.1 a7.2.2 (((c.length % 300):Nat):Int)).hs) ((ai a7.1 a7.2.1 a7.2.2 (((c.length % 300):Nat):Int)).se) ((ai a7.1 a7.2.1 a7.2.2 (((c.length % 300):Nat):Int)).lk)))<|.al fV (fun g8=>.st none<|.q 1<|.q 4<|.c (fe a7.1 a7.2.1 a7.2.2) []<|.q 5<|.br (.q 4<|.c (fe a7.1 a7.2.1 a7.2.2) []<|.q 2<|.nil) (.q 1<|.loop (Nat) (fun (i:Nat)=>⟨[(5,bS a7.1),(6,sV a7.2.1),(8,.ptr (.key 8) [] g8 0),(10,iN i)],[(8,(g8,dX ((ai a7.1 a7.2.1 a7.2.2 (((c.length % 300):Nat):Int)).na) ((ai a7.1 a7.2.1 a7.2.2 (((c.length % 300):Nat):Int)).a8) ((ai a7.1 a7.2.1 a7.2.2 (((c.length % 300):Nat):Int)).hs) ((ai a7.1 a7.2.1 a7.2.2 (((c.length % 300):Nat):Int)).se) ((ai a7.1 a7.2.1 a7.2.2 (((c.length % 300):Nat):Int)).lk))),(9000,(0,.lit (.iface 252 (.pointer (some ea)))))]⟩) (fun (i:Nat)=>i<=(ai a7.1 a7.2.1 a7.2.2 (((c.length % 300):Nat):Int)).hs.length) (fun (i:Nat)=>(ai a7.1 a7.2.1 a7.2.2 (((c.length % 300):Nat):Int)).hs.length-i) (fun (i:Nat)=>.r 5 [.c9]<|.br (.r 5 [.c9,fL ((((ai a7.1 a7.2.1 a7.2.2 (((c.length % 300):Nat):Int)).hs).getD i b7).na) ((((ai a7.1 a7.2.1 a7.2.2 (((c.length % 300):Nat):Int)).hs).getD i b7).re) ((((ai a7.1 a7.2.1 a7.2.2 (((c.length % 300):Nat):Int)).hs).getD i b7).kn) ((((ai a7.1 a7.2.1 a7.2.2 (((c.length % 300):Nat):Int)).hs).getD i b7).gr.na) ((((ai a7.1 a7.2.1 a7.2.2 (((c.length % 300):Nat):Int)).hs).getD i b7).gr.ru) ((((ai a7.1 a7.2.1 a7.2.2 (((c.length % 300):Nat):Int)).hs).getD i b7).gr.wa) ((((ai a7.1 a7.2.1 a7.2.2 (((c.length % 300):Nat):Int)).hs).getD i b7).tr) ((((ai a7.1 a7.2.1 a7.2.2 (((c.length % 300):Nat):Int)).hs).getD i b7).td)]<|.al zi (fun g11=>.st none<|.r 3 [.c9]<|.br (.q 3<|.nil) (.dx 7 [0,1,2,3,4,5,6] [(1,⟨false,[],some [11],[69],[]⟩),(4,⟨false,[],some [11],[72],[]⟩)] []<|.q 1<|.r 1 [.c9]<|.q 1<|.q 1<|.r 1 [.c9]<|.q 1<|.c (oP a7.1 ((((ai a7.1 a7.2.1 a7.2.2 (((c.length % 300):Nat):Int)).hs).getD i b7).na) a7.2.1) []<|.c (wu (((ai a7.1 a7.2.1 a7.2.2 (((c.length % 300):Nat):Int)).hs.getD i b7).gr) (dJ a7.1 ((ai a7.1 a7.2.1 a7.2.2 (((c.length % 300):Nat):Int)).hs.getD i b7).na a7.2.1)) []<|.q 1<|.br (.q 1<|.nil) (.q 1<|.loop (Nat) (fun (k:Nat)=>⟨[(5,bS a7.1),(6,sV a7.2.1),(8,.ptr (.key 8) [] g8 0),(10,iN i),(11,.ptr (.key 11) [] g11 0),(12,iN k)],[(8,(g8,dX ((ai a7.1 a7.2.1 a7.2.2 (((c.length % 300):Nat):Int)).na) ((ai a7.1 a7.2.1 a7.2.2 (((c.length % 300):Nat):Int)).a8) ((ai a7.1 a7.2.1 a7.2.2 (((c.length % 300):Nat):Int)).hs) ((ai a7.1 a7.2.1 a7.2.2 (((c.length % 300):Nat):Int)).se) ((ai a7.1 a7.2.1 a7.2.2 (((c.length % 300):Nat):Int)).lk))),(11,(g11,fL ((((ai a7.1 a7.2.1 a7.2.2 (((c.length % 300):Nat):Int)).hs).getD i b7).na) ((((ai a7.1 a7.2.1 a7.2.2 (((c.length % 300):Nat):Int)).hs).getD i b7).re) ((((ai a7.1 a7.2.1 a7.2.2 (((c.length % 300):Nat):Int)).hs).getD i b7).kn) ((((ai a7.1 a7.2.1 a7.2.2 (((c.length % 300):Nat):Int)).hs).getD i b7).gr.na) ((((ai a7.1 a7.2.1 a7.2.2 (((c.length % 300):Nat):Int)).hs).getD i b7).gr.ru) ((((ai a7.1 a7.2.1 a7.2.2 (((c.length % 300):Nat):Int)).hs).getD i b7).gr.wa) ((((ai a7.1 a7.2.1 a7.2.2 (((c.length % 300):Nat):Int)).hs).getD i b7).tr) ((((ai a7.1 a7.2.1 a7.2.2 (((c.length % 300):Nat):Int)).hs).getD i b7).td))),(9000,(0,.lit (.iface 252 (.pointer (some ea)))))]⟩) (fun (k:Nat)=>k<=((ai a7.1 a7.2.1 a7.2.2 (((c.length % 300):Nat):Int)).hs.getD i b7).td.length) (fun (k:Nat)=>((ai a7.1 a7.2.1 a7.2.2 (((c.length % 300):Nat):Int)).hs.getD i b7).td.length-k) (fun (k:Nat)=>.r 5 [.c9]<|.br (.r 8 [.c9,.agg [sV ((((((ai a7.1 a7.2.1 a7.2.2 (((c.length % 300):Nat):Int)).hs).getD i b7).td).getD k j6).ad),iV ((((((ai a7.1 a7.2.1 a7.2.2 (((c.length % 300):Nat):Int)).hs).getD i b7).td).getD k j6).tr)]]<|.c (ra a7.1 a7.2.1 ((((((ai a7.1 a7.2.1 a7.2.2 (((c.length % 300):Nat):Int)).hs).getD i b7).td).getD k j6).ad)) []<|.q 1<|.br (.q 1<|.nil) (.q 3<|.nil)) (.q 3<|.nil)))))) (.q 1<|.nil)))))))
  ((fun v1:Int=>(fun v2:V=>(fun v3:Bool=>(Pk v3 true (v3==false)/\Br (v3||(s9 (((c.map n6).length:Nat):Int) 1048576)) (Q (bV true) (bV true)/\Er 0 v2) ((eL b).sm/\((b.length<=9223372036854775807))/\∀ a7:List Pg×BL×List BL,(1<=a7.1.length/\a7.1.length<=30/\(∀ y,y∈a7.1->m8 y)/\a7.2.1.length<=5/\bh a7.2.1=true/\a7.2.2.length<=4/\(∀ y,y∈a7.2.2->y.length<=30/\m4 y))->(fun v4:V=>(fun v5:Bool=>(fun v6:V=>((0:Int)<=(((c.map n6).length:Nat):Int)/\(0:Int)<300)/\Q (iN (((c.map n6).length) % 300)) (iN (c.length % 300))/\(kX a7.1 a7.2.1 a7.2.2 v1 ea).sm/\Er 0 v2/\((a7.1.length<=30)/\(∀ i,m8 (a7.1.getD i l5))/\(a7.2.1.length<=1000)/\(a7.2.2.length<=400)/\(∀ x,x∈a7.2.2->x.length<=1000/\m4 x))/\((.agg [sV ((oT (aU a7.1 (oT (ax a7.2.1 a7.2.2)) v1)).na),iV ((oT (aU a7.1 (oT (ax a7.2.1 a7.2.2)) v1)).a8),.sl false (V.D5 (((oT (aU a7.1 (oT (ax a7.2.1 a7.2.2)) v1)).hs).map aE)),.sl false (V.D5 (((oT (aU a7.1 (oT (ax a7.2.1 a7.2.2)) v1)).se).map sV)),.sl false (V.D5 (((oT (aU a7.1 (oT (ax a7.2.1 a7.2.2)) v1)).lk).map ba))]:V)=.agg [sV ((ai a7.1 a7.2.1 a7.2.2 v1).na),iV ((ai a7.1 a7.2.1 a7.2.2 v1).a8),.sl false (((ai a7.1 a7.2.1 a7.2.2 v1).hs).map ck),.sl false (((ai a7.1 a7.2.1 a7.2.2 v1).se).map sV),.sl false (((ai a7.1 a7.2.1 a7.2.2 v1).lk).map ba)])/\∀ g8:Nat,(fun v7:V=>Z g8 0/\(fe a7.1 a7.2.1 a7.2.2).sm/\((a7.1.length<=30)/\(∀ i,m8 (a7.1.getD i l5))/\(a7.2.1.length<=1000)/\(a7.2.2.length<=400)/\(∀ x,x∈a7.2.2->x.length<=1000/\m4 x))/\Pk v5 true (v5==false)/\Br (v5||(!((ax a7.2.1 a7.2.2).isSome&&(aU a7.1 (oT (ax a7.2.1 a7.2.2)) v1).isSome))) ((fe a7.1 a7.2.1 a7.2.2).sm/\((a7.1.length<=30)/\(∀ i,m8 (a7.1.getD i l5))/\(a7.2.1.length<=1000)/\(a7.2.2.length<=400)/\(∀ x,x∈a7.2.2->x.length<=1000/\m4 x))/\Q (bV (((ax a7.2.1 a7.2.2).isSome&&(aU a7.1 (oT (ax a7.2.1 a7.2.2)) v1).isSome)==((ax a7.2.1 a7.2.2).isSome&&aq a7.1))) (bV true)/\Er 0 v2) ((∃ j7:Nat,(j7<=(ai a7.1 a7.2.1 a7.2.2 v1).hs.length)/\E v6/\E (sV a7.2.1)/\E v7/\Q (iN 0) (iN j7)/\Er g8 v4/\Er 0 v2/\True)/\∀ i:Nat,(i<=(ai a7.1 a7.2.1 a7.2.2 v1).hs.length)->Z g8 2/\Br (s8 (i:Int) (((((ai a7.1 a7.2.1 a7.2.2 v1).hs).map ck).length:Nat):Int)) (Z g8 2/\Ex (i:Int) (((ai a7.1 a7.2.1 a7.2.2 v1).hs).map ck) (.agg [sV ((((ai a7.1 a7.2.1 a7.2.2 v1).hs).getD i b7).na),iV ((((ai a7.1 a7.2.1 a7.2.2 v1).hs).getD i b7).re),bV ((((ai a7.1 a7.2.1 a7.2.2 v1).hs).getD i b7).kn),.agg [.sl false (((((ai a7.1 a7.2.1 a7.2.2 v1).hs).getD i b7).gr.na).map sV),.sl false (((((ai a7.1 a7.2.1 a7.2.2 v1).hs).getD i b7).gr.ru).map au),iN ((((ai a7.1 a7.2.1 a7.2.2 v1).hs).getD i b7).gr.wa)],iV ((((ai a7.1 a7.2.1 a7.2.2 v1).hs).getD i b7).tr),.sl false (((((ai a7.1 a7.2.1 a7.2.2 v1).hs).getD i b7).td).map ak)])/\True/\∀ g11:Nat,Z g11 0/\Z g11 2/\Br (!((((ai a7.1 a7.2.1 a7.2.2 v1).hs).getD i b7).kn)) (m9 ((i:Int)+1)/\∃ c5:Nat,(c5<=(ai a7.1 a7.2.1 a7.2.2 v1).hs.length)/\((ai a7.1 a7.2.1 a7.2.2 v1).hs.length-c5<(ai a7.1 a7.2.1 a7.2.2 v1).hs.length-i)/\E v6/\E (sV a7.2.1)/\E v7/\Q (iN (i+1)) (iN c5)/\Er g8 v4/\Er 0 v2/\True) (Z g11 3/\Z g11 0/\(oP a7.1 ((((ai a7.1 a7.2.1 a7.2.2 v1).hs).getD i b7).na) a7.2.1).sm/\((a7.1.length<=30)/\(∀ i,m8 (a7.1.getD i l5))/\(a7.2.1.length<=1000000)/\(((((ai a7.1 a7.2.1 a7.2.2 v1).hs).getD i b7).na).length<=1000))/\(wu (((ai a7.1 a7.2.1 a7.2.2 v1).hs.getD i b7).gr) (dJ a7.1 ((ai a7.1 a7.2.1 a7.2.2 v1).hs.getD i b7).na a7.2.1)).sm/\(((((ai a7.1 a7.2.1 a7.2.2 v1).hs.getD i b7).gr).na.length<=1000000)/\((((ai a7.1 a7.2.1 a7.2.2 v1).hs.getD i b7).gr).ru.length<=1000000)/\((((ai a7.1 a7.2.1 a7.2.2 v1).hs.getD i b7).gr)=(dJ a7.1 ((ai a7.1 a7.2.1 a7.2.2 v1).hs.getD i b7).na a7.2.1)))/\Br (!true) (Q (bV false) (bV true)/\Er 0 v2) ((∃ s5:Nat,(s5<=((ai a7.1 a7.2.1 a7.2.2 v1).hs.getD i b7).td.length)/\E v6/\E (sV a7.2.1)/\E v7/\E (iN i)/\E (.ptr (.key 11) [] g11 0)/\Q (iN 0) (iN s5)/\Er g8 v4/\Er g11 (.agg [sV ((((ai a7.1 a7.2.1 a7.2.2 v1).hs).getD i b7).na),iV ((((ai a7.1 a7.2.1 a7.2.2 v1).hs).getD i b7).re),bV ((((ai a7.1 a7.2.1 a7.2.2 v1).hs).getD i b7).kn),.agg [.sl false (((((ai a7.1 a7.2.1 a7.2.2 v1).hs).getD i b7).gr.na).map sV),.sl false (((((ai a7.1 a7.2.1 a7.2.2 v1).hs).getD i b7).gr.ru).map au),iN ((((ai a7.1 a7.2.1 a7.2.2 v1).hs).getD i b7).gr.wa)],iV ((((ai a7.1 a7.2.1 a7.2.2 v1).hs).getD i b7).tr),.sl false (((((ai a7.1 a7.2.1 a7.2.2 v1).hs).getD i b7).td).map ak)])/\Er 0 v2/\True)/\∀ k:Nat,(k<=((ai a7.1 a7.2.1 a7.2.2 v1).hs.getD i b7).td.length)->Z g11 7/\Br (s8 (k:Int) (((((((ai a7.1 a7.2.1 a7.2.2 v1).hs).getD i b7).td).map ak).length:Nat):Int)) (Z g11 7/\Ex (k:Int) (((((ai a7.1 a7.2.1 a7.2.2 v1).hs).getD i b7).td).map ak) (.agg [sV ((((((ai a7.1 a7.2.1 a7.2.2 v1).hs).getD i b7).td).getD k j6).ad),iV ((((((ai a7.1 a7.2.1 a7.2.2 v1).hs).getD i b7).td).getD k j6).tr)])/\True/\(ra a7.1 a7.2.1 ((((((ai a7.1 a7.2.1 a7.2.2 v1).hs).getD i b7).td).getD k j6).ad)).sm/\((a7.1.length<=30)/\(∀ i,m8 (a7.1.getD i l5))/\(a7.2.1.length<=1000000)/\(((((((ai a7.1 a7.2.1 a7.2.2 v1).hs).getD i b7).td).getD k j6).ad).length<=1000000)/\(m4 ((((((ai a7.1 a7.2.1 a7.2.2 v1).hs).getD i b7).td).getD k j6).ad)))/\Br (!(dB a7.1 a7.2.1 ((((((ai a7.1 a7.2.1 a7.2.2 v1).hs).getD i b7).td).getD k j6).ad))) (Q (bV false) (bV true)/\Er 0 v2) (m9 ((k:Int)+1)/\∃ k₂:Nat,(k₂<=((ai a7.1 a7.2.1 a7.2.2 v1).hs.getD i b7).td.length)/\(((ai a7.1 a7.2.1 a7.2.2 v1).hs.getD i b7).td.length-k₂<((ai a7.1 a7.2.1 a7.2.2 v1).hs.getD i b7).td.length-k)/\E v6/\E (sV a7.2.1)/\E v7/\E (iN i)/\E (.ptr (.key 11) [] g11 0)/\Q (iN (k+1)) (iN k₂)/\Er g8 v4/\Er g11 (.agg [sV ((((ai a7.1 a7.2.1 a7.2.2 v1).hs).getD i b7).na),iV ((((ai a7.1 a7.2.1 a7.2.2 v1).hs).getD i b7).re),bV ((((ai a7.1 a7.2.1 a7.2.2 v1).hs).getD i b7).kn),.agg [.sl false (((((ai a7.1 a7.2.1 a7.2.2 v1).hs).getD i b7).gr.na).map sV),.sl false (((((ai a7.1 a7.2.1 a7.2.2 v1).hs).getD i b7).gr.ru).map au),iN ((((ai a7.1 a7.2.1 a7.2.2 v1).hs).getD i b7).gr.wa)],iV ((((ai a7.1 a7.2.1 a7.2.2 v1).hs).getD i b7).tr),.sl false (((((ai a7.1 a7.2.1 a7.2.2 v1).hs).getD i b7).td).map ak)])/\Er 0 v2/\True)) (m9 ((i:Int)+1)/\∃ c5:Nat,(c5<=(ai a7.1 a7.2.1 a7.2.2 v1).hs.length)/\((ai a7.1 a7.2.1 a7.2.2 v1).hs.length-c5<(ai a7.1 a7.2.1 a7.2.2 v1).hs.length-i)/\E v6/\E (sV a7.2.1)/\E v7/\Q (iN (i+1)) (iN c5)/\Er g8 v4/\Er 0 v2/\True)))) (Q (bV true) (bV true)/\Er 0 v2))) (.ptr (.key 8) [] g8 0)) (.sl false (a7.1.map r5))) (!(((ax a7.2.1 a7.2.2).isSome&&(aU a7.1 (oT (ax a7.2.1 a7.2.2)) v1).isSome)==((ax a7.2.1 a7.2.2).isSome&&aq a7.1)))) (.agg [sV ((ai a7.1 a7.2.1 a7.2.2 v1).na),iV ((ai a7.1 a7.2.1 a7.2.2 v1).a8),.sl false (((ai a7.1 a7.2.1 a7.2.2 v1).hs).map ck),.sl false (((ai a7.1 a7.2.1 a7.2.2 v1).se).map sV),.sl false (((ai a7.1 a7.2.1 a7.2.2 v1).lk).map ba)])))) (s9 (((b.map n6).length:Nat):Int) 1048576)) (.lit (.iface 252 (.pointer (some ea))))) (((c.length % 300):Nat):Int)) ?_
 refine⟨⟨fun _=>rfl,fun h=>by rw[h] <;> rfl⟩,?_⟩
 refine bI (fun j9=>?_) fun j9=>?_
 refine⟨?_,rfl⟩
 unfold Q
 rfl
 refine⟨rfl,Z9,?_⟩
 intro a7 r9
 refine⟨Z2,by unfold Q;simp,rfl,rfl,⟨Z9,fun i=>iu r9.2.2.1 i,Z9,Z9,fun x hx=>⟨by have:=(r9.2.2.2.2.2.2 x hx).1;omega,(r9.2.2.2.2.2.2 x hx).2⟩⟩,by rw[ny,aR (f:=sV) (fun _=>rfl),aR (f:=ba) (fun _=>rfl),oz],?_⟩
 intro g8
 refine⟨rfl,rfl,⟨Z9,fun i=>iu r9.2.2.1 i,Z9,Z9,fun x hx=>⟨by have:=(r9.2.2.2.2.2.2 x hx).1;omega,(r9.2.2.2.2.2.2 x hx).2⟩⟩,⟨fun _=>rfl,fun h=>by rw[h] <;> rfl⟩,?_⟩
 refine bI (fun l6=>?_) fun l6=>?_
 refine⟨rfl,⟨Z9,fun i=>iu r9.2.2.1 i,Z9,Z9,fun x hx=>⟨by have:=(r9.2.2.2.2.2.2 x hx).1;omega,(r9.2.2.2.2.2.2 x hx).2⟩⟩,?_⟩
 refine⟨?_,rfl⟩
 unfold Q
 rw[gI (yN _ _ Z9)];simp
 have Q3:=yN c.length 300 Z9
 obtain⟨hG,hW⟩:=ij Q3 l6.2
 have Xt:=hG.sn.2
 have TB:=hG.hl
 have XF:=eh hG
 have UR:=qO Q3 (fun i=>iu r9.2.2.1 i) Z9 Z9 (fun x hx=>⟨by have:=(r9.2.2.2.2.2.2 x hx).1;omega,(r9.2.2.2.2.2.2 x hx).2⟩) l6.2
 have Vt:=wg Q3 l6.2
 have Vs:=(vH Q3 l6.2).2
 refine⟨⟨0,?_,rfl,rfl,rfl,rfl,rfl,rfl,trivial⟩,?_⟩
 simp
 rintro i h1
 refine⟨rfl,?_⟩
 refine bI (fun n0=>?_) fun n0=>?_
 have hI:=hG.hi _ (aw (d:=b7) (show i<(ai a7.1 a7.2.1 a7.2.2 (((c.length % 300):Nat):Int)).hs.length by omega))
 have Pn:=jC (tA hI.hn)
 have Wj:=vB Pn.1
 have VW:=aw (d:=b7) (show i<(ai a7.1 a7.2.1 a7.2.2 (((c.length % 300):Nat):Int)).hs.length by omega)
 have hgl:=hI.gl
 have Xs:=UR.ha _ VW
 have hyr:=Xs.r
 have Xe:=Xs.t
 refine⟨rfl,⟨Z9,an (d:=b7) Z9⟩,trivial,?_⟩
 intro g11
 refine⟨rfl,rfl,?_⟩
 refine bI (fun w5=>?_) fun w5=>?_
 refine⟨Z9,?_⟩
 refine⟨i+1,?_,?_,rfl,rfl,rfl,rfl,rfl,rfl,trivial⟩
 omega
 exact Z1
 have Pm:=FJ hG Vt hW Vs VW hI.hn (by simpa using w5)
 refine⟨rfl,rfl,rfl,⟨Z9,fun i=>iu r9.2.2.1 i,Z9,Z9⟩,rfl,⟨Z9,Z9,Pm⟩,?_⟩
 refine bI (fun G0=>?_) fun G0=>?_
 exact absurd G0 Z6
 refine⟨⟨0,?_,rfl,rfl,rfl,rfl,rfl,rfl,rfl,rfl,rfl,trivial⟩,?_⟩
 simp
 rintro k h2
 refine⟨rfl,?_⟩
 refine bI (fun Mp=>?_) fun Mp=>?_
 have Xg:=aw (d:=j6) (show k<((ai a7.1 a7.2.1 a7.2.2 (((c.length % 300):Nat):Int)).hs.getD i b7).td.length by omega)
 have hsz:=jC (hI.it _ Xg).1
 refine⟨rfl,⟨Z9,an (d:=j6) Z9⟩,trivial,rfl,⟨Z9,fun i=>iu r9.2.2.1 i,Z9,Z9,hsz.2⟩,?_⟩
 refine bI (fun UO=>?_) fun UO=>?_
 exact absurd UO (by rw[Dg hG Vt hW Vs VW (by simpa using w5) Xg];decide)
 refine⟨Z9,?_⟩
 refine⟨k+1,?_,?_,rfl,rfl,rfl,rfl,rfl,rfl,rfl,rfl,rfl,trivial⟩
 omega
 exact Z1
 refine⟨Z9,?_⟩
 refine⟨i+1,?_,?_,rfl,rfl,rfl,rfl,rfl,rfl,trivial⟩
 omega
 exact Z1
 refine⟨?_,rfl⟩
 unfold Q
 rfl
end Go.Proofs.YtbjbamjffkanbaaGreatDoor
namespace Go.Pd
open Go.Abs
end Go.Pd
namespace Go.Proofs.YtbjbamjffkanbaaGreatDoor
open Go Go.Abs Go.RowKit Go.Pd
set_option maxRecDepth 20000
end Go.Proofs.YtbjbamjffkanbaaGreatDoor
namespace Go.Pd
open Go.Abs Go.Proofs.YtbjbamjffkanbaaGreatDoor
end Go.Pd
namespace Go.Proofs.YtbjbamjffkanbaaGreatDoor
open Go Go.Abs Go.RowKit Go.Pd
set_option maxRecDepth 20000
end Go.Proofs.YtbjbamjffkanbaaGreatDoor
namespace Go.Pd
open Go.Abs Go.Proofs.YtbjbamjffkanbaaGreatDoor
end Go.Pd
namespace Go.Proofs.YtbjbamjffkanbaaGreatDoor
open Go Go.Abs Go.RowKit Go.Pd
set_option maxRecDepth 20000
end Go.Proofs.YtbjbamjffkanbaaGreatDoor
namespace Go.Pd
open Go.Abs Go.Proofs.YtbjbamjffkanbaaGreatDoor
end Go.Pd
namespace Go.Proofs.YtbjbamjffkanbaaGreatDoor
open Go Go.Abs Go.RowKit Go.Pd
set_option maxRecDepth 20000
end Go.Proofs.YtbjbamjffkanbaaGreatDoor
namespace Go.Proofs.YtbjbamjffkanbaaGreatDoor
open Go Go.ChangeShapes Go.WideShapes Go.ChangeAt Go.RowKit Go.Abs
theorem own:ownKnob Tryz.prog.godebug=none:=Z7
theorem laidOut:laidOutB Tryz.prog=true:=Z7
theorem iO:Tryz.prog.globalNamed "loop.example/pedlar/impl.errNoCall" =some 0:=Z7
theorem kj:(Tryz.prog.globals[0]?).map (·.type)=some 116:=Z7
theorem nQ: "*" ++ "errors.errorString" = "*errors.errorString" :=Z6
theorem zd(u:TypeId) (h:Tryz.prog.typeName? 3 u=some "*errors.errorString"):u=252:=
 typeName_ptr_named (nm:= "errors.errorString") (by rw[nQ];kernel_rfl) Z7 Z6 u (by rw[nQ];exact h)
theorem vd:Tryz.prog.cellsOf 275=1:=Z7
theorem tU:Tryz.prog.cellsOf 9=1:=Z7
set_option maxRecDepth 100000 in
theorem fnGoGroup_lifted(os:Os)(started:os.Started)(H:Type)(enc:TypeId×Value->H):
 ReturnsInHanded {} Tryz.checked os 7 .any (fun w args=>(Rows.fnGoGroupSpec.pre enc Tryz.prog Tryz.f7 [] false w args/\laidMetH Tryz.prog Rows.fnGoGroupRow.laid w)/\sizedMet enc Tryz.prog Tryz.f7 (OpenSpec.ofChange Rows.fnGoGroupSpec) false w args)
  (Rows.fnGoGroupSpec.post enc Tryz.prog Tryz.f7 false true false false):=by
 refine returnsInHanded_of_change_and (C:=Tryz.checked) (X:=fun w _=>laidMetH Tryz.prog Rows.fnGoGroupRow.laid w) (fun _ _ _ hh h=>h.of_heap hh) own started Z7 Tryz.func7
  (ChangeSpec.witness_shaped (enc:=enc) (C:=Tryz.checked) (os:=os) (X:=fun w _=>laidMetH Tryz.prog Rows.fnGoGroupRow.laid w) false (World.laidAll Tryz.prog os Rows.fnGoGroupRow.laid) #[.slice none 0 0,.slice none 0 0] 8 (World.laidAll_os _ _ _)
   (World.shaped_of_ZipB Z7 Z7) Z7 Z7 Z7
   (by rw[MakeChecks.laidMetH_plain _ _ _ Z7];exact laidMet_laidAll _ Z7 Z7)) ?_
 intro W base args ds gs before My hW _ _ US _
 have hL:laidMet Tryz.prog Rows.fnGoGroupRow.laid W:=by rw[<- MakeChecks.laidMetH_plain _ _ _ Z7];exact US
 have G':∀ (j:Nat) t v,Tryz.f7.params[j]? =some t->args[j]? =some v->Value.okWide Tryz.prog W .any base t v:=My
 have UP:=hW
 obtain⟨p,q,R4,UQ,rfl,XJ,hnd⟩:=hW
 have hV:DataW.TrodVars enc Tryz.prog W (fun _=>true) ["loop.example/pedlar/impl.errNoCall"] gs q:=UQ
 have hA:DataW.TrodAll enc Tryz.prog W 0 (fun _=>true) true Tryz.f7.params.toList args.toList ds p:=R4
 rw[Tryz.params7]at hA G'
 obtain⟨v0,v1,d0,d1,p0,p1,rfl,rfl,rfl,h0,h1⟩:=trodAll_two hA
 obtain⟨ea,s0,P7,_,_,_⟩:=laid_sentinel hL.tail iO kj (ms:=_) (tp:=252) (te:=275) (ts:=9) Tryz.underlying116 zd Tryz.underlying252 Tryz.underlying275 rfl rfl Tryz.underlying9 vd tU
 obtain⟨bt,hbk⟩:=qe hL.tail iO P7
 obtain⟨rfl,rfl⟩:=hV.unique (vars_read1 enc iO kj Tryz.underlying116 P7 trivial _)
 obtain⟨a0,Uc,U1,rfl⟩:=okWide_slice Tryz.underlying22 (G' 0 22 v0 rfl rfl)
 obtain⟨a1,VS,WV,rfl⟩:=okWide_slice Tryz.underlying22 (G' 1 22 v1 rfl rfl)
 have Ub:∀ x∈p0,x.block<W.heap.size:=by obtain⟨m,hm⟩:=h0;exact DataW.trod_lt m _ _ _ hm
 have VR:∀ x∈p1,x.block<W.heap.size:=by obtain⟨m,hm⟩:=h1;exact DataW.trod_lt m _ _ _ hm
 obtain⟨b,rfl,hb,hv⟩:=mT Tryz.underlying22 Tryz.underlying5 Z7 h0
 obtain⟨c,rfl,hc,hu⟩:=mT Tryz.underlying22 Tryz.underlying5 Z7 h1
 clear R4 My
 refine(sq yr hb hc hv hu hbk).mono fun e W' ⟨he,Pr⟩=>?_
 subst he
 have P6:W'.var? Tryz.prog "loop.example/pedlar/impl.errNoCall" =some #[.iface 252 (.pointer (some ea))]:=by
  rw[<- P7];unfold World.var?;rw[iO,Option.bind_some,Option.bind_some,Pr.block 0 (Array.getElem?_eq_some_iff.1 hbk).1]
 exact⟨_,rfl,_,_,_,[],p0++p1,[.cell 0 0],UP,trodAll_mk1 (shut_bool Tryz.underlying4 _),trodAll_mk2 (Below.trod laidOut Z7 (of_decide_eq_true Z7) h0 Pr Ub) (Below.trod laidOut Z7 (of_decide_eq_true Z7) h1 Pr VR),vars_read1 enc iO kj Tryz.underlying116 P6 trivial _,Pr.frame _,fun h=>by cases h⟩
theorem fnGoGroup_row:Rows.FnGoGroupSaid:=
 OpenClaim.holds_of_wide 7 Tryz.f7 rfl rfl rfl rfl rfl rfl rfl ⟨rfl,rfl,rfl,rfl,rfl⟩ rfl rfl rfl rfl rfl Z7 Tryz.func7 Z7
  (of_decide_eq_true Z7) (by unfold Func.isWrapper;first | (rw[if_pos (by decide +kernel)];kernel_rfl) | (rw[if_neg (by decide +kernel)];exact⟨rfl,rfl⟩))
  (fun os started H enc _=>fnGoGroup_lifted os started H enc)
theorem fnGoGroup_holds:Rows.FnGoGroupCardSaid:=
 Claim7.holds_tied_plain_at .later [] [.data,.sentinel,.pinned] true (true, "16e118b5155b7b11bee3017827cfe482af71541868a11eb0c882522f6f12ad60") true fnGoGroup_row (fun _ h=>by cases h) Z7 (fun _ h=>by cases h) fnGoGroup_row_tie rfl ⟨rfl,rfl⟩ Z7 rfl
  (fun f fn hf UH=>by
   obtain rfl:f=7:=Option.some.inj ((show Tryz.prog.funcNamed "loop.example/pedlar/laws.FnGoGroup" =some 7 by kernel_rfl).symm.trans hf) |>.symm
   obtain rfl:fn=Tryz.f7:=(Option.some.inj (Tryz.func7.symm.trans UH)).symm
   exact⟨Z7,fun j t ht=>by
    rw[Tryz.params7]at ht
    have hm:t∈[22,22]:=by simpa using Array.mem_of_getElem? ht
    have G3:([22,22].all fun u=>!Tryz.prog.wantsStandIn u)=true:=Z7
    exact(show Tryz.prog.wantsStandIn t=false by simpa using List.all_eq_true.1 G3 t hm)⟩)
  Z7
end Go.Proofs.YtbjbamjffkanbaaGreatDoor
