/-
  laws.FnGoSwap returns true for every input and leaves it as it was; conditions: the listed tables lie as the program's text lays them.
-/
import Derived.Test.YtelggdgnblpjdaaGreatDoorGE
import Derived.Laws.StructEq
import Derived.Test.YtelggdgnblpjdaaGreatDoorTie
import Derived.Test.YtelggdgnblpjdaaGreatDoorCards
set_option linter.unusedVariables false
set_option linter.unusedSimpArgs false
namespace Go.Proofs.YtelggdgnblpjdaaGreatDoor
open Go Go.RowKit
set_option maxRecDepth 20000
section
theorem IC{r:BL}(h:([47]++r).length<=60):bh [⟨false,[47]⟩] ([47]++r)=false:=by
 have h0:ah 42 (bA [47])=[[47]]:=Z6
 have h1:cQ [47] ([47]++r)=true:=by
  unfold cQ
  rw[show aZ [47]=true from Z6,decide_eq_true h]
  unfold ym
  rw[h0]
  simp[ml,show eT [47]=false from Z6]
 have h2:cQ [47] (47::r)=true:=h1
 simp[bh,dV,h2]
theorem EL{s:BL}(h:aD s=true):bh [⟨false,[47]⟩] (pathOf s)=false:=by
 have ha:=(fo (jS (ma h))).2.2.2.2.2
 unfold pathOf
 have e:bD (oA (aA s))=[47]++(bS (oA (aA s)).a8++(if (oA (aA s)).asks=true then [63]++(oA (aA s)).ask else [])):=by
  unfold bD;rw[List.append_assoc]
 rw[e]
 refine IC ?_
 rw[<- e]
 unfold cd at ha
 simp only[ZW,ZU,ZQ]at ha ⊢
 omega
def BI(w:List Pg)(t:l5):Prop:= ∀ y,y∈t.hs->y.kn=true->(ae w (ai y.na) 2).1=3->y.td=[]/\y.gr.ru=[⟨false,[47]⟩]/\(cls t.lk y.na).length<=3
variable {w:List Pg} {n:BL}
theorem BI.call{t:l5} {i:Nat} {y':j9} {l:l9} {a7:Int} (hG:GI w n t) (h:BI w t) (hi:i<t.hs.length) (hl:af l.ad=(t.hs.getD i e9).na)
 (hy:y'.kn=true->(ae w (ai y'.na) 2).1=3->y'.td=[]/\y'.gr.ru=[⟨false,[47]⟩]/\(cls (t.lk++[l]) y'.na).length<=3):BI w ⟨t.na,a7,t.hs.set i y',t.se,t.lk++[l]⟩:=fun z hz hk h3=>by
 rcases oz hG.nd hi hz with e | ⟨e,e2⟩
 subst e;exact hy hk h3
 obtain⟨a1,a2,a3⟩:=h z e hk h3
 refine⟨a1,a2,?_⟩
 show (cls (t.lk++[l]) z.na).length<=3
 rw[eP,if_neg (by rw[hl];exact fun c=>e2 c.symm),List.append_nil]
 exact a3
theorem BI.iL{t:l5}{s:BL}(h:BI w t):BI w (aE t s):=by
 by_cases hr:ej t.se s
 case neg=>
  have e3:df t.se s=t.se:=if_neg hr
  have e4:bg t.na t.hs t.se s=t.hs:=if_neg hr
  have:aE t s=t:=by unfold aE;rw[e3,e4]
  rw[this];exact h
 have e4:(aE t s).hs=(aL t.hs (af s) t.na).set (w9 t.hs (af s)) (cL ((aL t.hs (af s) t.na).getD (w9 t.hs (af s)) e9) s):=if_pos hr
 have hin:∀ y,y∈aL t.hs (af s) t.na->y.kn=true->(ae w (ai y.na) 2).1=3->y.td=[]/\y.gr.ru=[⟨false,[47]⟩]/\(cls t.lk y.na).length<=3:=fun y hy hk h3=>by
  unfold aL at hy
  split at hy
  exact h y hy hk h3
  rcases ZN.1 hy with hy | hy
  exact h y hy hk h3
  rw[ZP.1 hy]at hk;simp[cf]at hk
 intro z hz hk h3
 rw[e4]at hz
 show z.td=[]/\z.gr.ru=_/\(cls t.lk z.na).length<=3
 rcases eB hz with e | e
 have E5:=hin _ (aI (d:=e9) (ff t.hs (af s) t.na))
 generalize (aL t.hs (af s) t.na).getD (w9 t.hs (af s)) e9=y at *
 subst e
 unfold cL at hk h3 ⊢
 split at hk
 rename_i c;rw[if_pos c]at h3 ⊢;exact E5 hk h3
 rename_i c
 exfalso
 rw[if_neg c]at h3
 have K3:y.kn=true:=hk
 have:=E5 K3 h3
 exact c ⟨K3,by rw[this.2.1];exact EL hr.1⟩
 exact hin z e hk h3
theorem BI.dO{l:List BL}:∀ {t:l5},BI w t->BI w (l.foldl aE t):=by
 induction l with
 | nil=>exact fun h=>h
 | cons a l ih=>exact fun h=>ih h.iL
end
section
def eO(gs:List k9):Nat:=(gs.map fun y=>y.ru.length).sum
def oq(gs:List k9):Prop:= ∀ y,y∈gs->∀ r,r∈y.ru->aZ r.path=true
theorem rv(l r:List k9):eO (l++r)=eO l+eO r:=by unfold eO;rw[Zz,List.sum_append]
theorem sy(gs:List k9):gs=[]\/∃ l z,gs=l++[z]:=by
 by_cases h:gs=[]
 exact .inl h
 obtain⟨x,hx⟩:=lr h
 exact .inr ⟨x.1,x.2,hx⟩
theorem uL{gs:List k9}{f:k9->k9}{k:Nat}(hf:∀ z,(f z).ru.length<=z.ru.length+k):eO (dB gs f)<=eO gs+k:=by
 rcases sy gs with h | ⟨l,z,h⟩
 subst h;simp[dB,eO]
 subst h
 rw[fA,rv,rv]
 have:=hf z
 simp only[eO,Zw,List.map_nil,List.sum_cons,List.sum_nil]
 omega
theorem FB{gs:List k9}{w d:BL}{b:Bool}:eO (iF gs w d b).1<=eO gs+1:=by
 unfold iF
 split
 split
 rw[rv];simp[eO]
 exact Nat.le_trans (uL (k:=0) fun z=>Zy _) Z9
 split
 simp only;omega
 split
 exact uL fun z=>by simp
 split
 exact Nat.le_trans (uL (k:=0) fun z=>Zy _) Z9
 simp only;omega
theorem xg{gs:List k9}{f:k9->k9}(h:oq gs)(hf:∀ z,(∀ r,r∈z.ru->aZ r.path=true)->∀ r,r∈(f z).ru->aZ r.path=true):oq (dB gs f):=by
 rcases sy gs with e | ⟨l,z,e⟩
 subst e;exact h
 subst e
 rw[fA]
 intro y hy
 rcases ZN.1 hy with hy | hy
 exact h y (List.mem_append_left _ hy)
 rw[ZP.1 hy]
 exact hf z (h z (List.mem_append_right _ (ZP.2 rfl)))
theorem Hu{gs:List k9}{w d:BL}{b:Bool}(h:oq gs):oq (iF gs w d b).1:=by
 unfold iF
 split
 split
 intro y hy
 rcases ZN.1 hy with hy | hy
 exact h y hy
 rw[ZP.1 hy];intro r hr;simp at hr
 exact xg h fun z hz=>hz
 split
 exact h
 split
 rename_i c
 refine xg h fun z hz r hr=>?_
 rcases ZN.1 hr with hr | hr
 exact hz r hr
 rw[ZP.1 hr];exact c.2.1
 split
 exact xg h fun z hz=>hz
 exact h
theorem xV:∀ (l:List BL) (x:List k9×Bool),eO (l.foldl dT x).1<=eO x.1+l.length
 | [],x=>Zy _
 | a::l,x=>by
   have h1:=xV l (dT x a)
   have h2:eO (dT x a).1<=eO x.1+1:=FB
   simp only[List.foldl_cons,ZU]
   omega
theorem Al:∀ (l:List BL) (x:List k9×Bool),oq x.1->oq (l.foldl dT x).1
 | [],x,h=>h
 | a::l,x,h=>Al l (dT x a) (Hu h)
theorem sB(t:BL):eO (cn t)<=40/\oq (cn t):=by
 constructor
 have:=xV ((ah 10 t).take 40) ([],false)
 have h2:=List.length_take_le 40 (ah 10 t)
 simp only[eO,List.map_nil,List.sum_nil]at this
 unfold cn eO
 omega
 exact Al _ _ (fun y hy=>by simp at hy)
theorem CN(n:BL):∀ (gs:List k9) (x:(List s5×Nat)×Bool),oq gs->(∀ r,r∈x.1.1->aZ r.path=true)->
 (gs.foldl (cW n) x).1.1.length<=x.1.1.length+eO gs/\∀ r,r∈(gs.foldl (cW n) x).1.1->aZ r.path=true
 | [],x,_,h=>⟨by simp[eO],h⟩
 | g::gs,x,hg,h=>by
   have hs:(cW n x g).1.1.length<=x.1.1.length+g.ru.length/\∀ r,r∈(cW n x g).1.1->aZ r.path=true:=by
    unfold cW
    split
    refine⟨Z8,fun r hr=>?_⟩
    rcases ZN.1 hr with hr | hr
    exact h r hr
    exact hg g Z8 r hr
    exact⟨Z9,h⟩
   obtain⟨h1,h2⟩:=CN n gs (cW n x g) (fun y hy=>hg y (List.mem_cons_of_mem _ hy)) hs.2
   refine⟨?_,h2⟩
   have e:eO (g::gs)=g.ru.length+eO gs:=by simp[eO]
   rw[e]
   have:=hs.1
   simp only[List.foldl_cons]
   omega
theorem zo{gs:List k9}(n:BL)(h1:eO gs<=40)(h2:oq gs):(fD gs n).ru.length<=40/\∀ r,r∈(fD gs n).ru->aZ r.path=true:=by
 have key:∀ q,(Pt gs q).1.ru.length<=40/\∀ r,r∈(Pt gs q).1.ru->aZ r.path=true:=fun q=>by
  obtain⟨a,b⟩:=CN q gs (([],0),false) h2 (fun r hr=>by simp at hr)
  exact⟨by unfold Pt;simp only[ZQ]at a ⊢;omega,b⟩
 unfold fD
 split
 exact key n
 exact key [42]
theorem Im(k:Int)(t n:BL):(bL k t n).ru.length<=40/\∀ r,r∈(bL k t n).ru->aZ r.path=true:=by
 unfold bL
 split
 exact zo n (sB t).1 (sB t).2
 split
 exact⟨Z8,fun r hr=>by rw[ZP.1 hr];decide⟩
 exact zo n (by simp[eO]) (fun y hy=>by simp at hy)
structure HO (n:BL) (y:j9):Prop where
 na:y.gr.na=[n]
 re:0<=y.re/\y.re<=5100
 tr:0<=y.tr/\y.tr<=2
 ru:y.gr.ru.length<=40/\∀ r,r∈y.gr.ru->aZ r.path=true
 wa:y.gr.wa<=20
structure OI (t:l5):Prop where
 nm:bp t.na=true
 nw:0<=t.a7/\t.a7<=5000
 hs:∀ y,y∈t.hs->HO t.na y
 ki:∀ q,q∈t.lk->0<=q.ki/\q.ki<=3/\0<=q.ti/\q.ti<=t.a7
 lt:∀ k,k+1<t.lk.length->(t.lk.getD k n6).ti<=(t.lk.getD (k+1) n6).ti
theorem Da(w:List Pg)(a:BL)(n:Int):0<=(ae w a n).1/\(ae w a n).1<=3:=by
 unfold ae
 split
 exact⟨Int.le_refl _,Z6⟩
 split
 exact⟨Z6,Int.le_refl _⟩
 split <;> exact⟨by simp only;omega,by simp only;omega⟩
theorem Ah{k:Int}:0<=dm k/\dm k<=8:=by
 unfold dm
 split
 omega
 split
 omega
 split <;> omega
variable {w:List Pg} {n:BL}
theorem OI.iL{t:l5}{s:BL}(h:OI t):OI (aE t s):=by
 refine⟨h.nm,h.nw,fun z hz=>?_,h.ki,h.lt⟩
 have hz:z∈bg t.na t.hs t.se s:=hz
 have hin:∀ y,y∈aL t.hs (af s) t.na->HO t.na y:=fun y hy=>by
  unfold aL at hy
  split at hy
  exact h.hs y hy
  rcases ZN.1 hy with hy | hy
  exact h.hs y hy
  rw[ZP.1 hy]
  exact⟨rfl,by simp[cf],by simp[cf],⟨by simp[cf],fun r hr=>by simp[cf]at hr⟩,by simp[cf]⟩
 show HO t.na z
 unfold bg at hz
 split at hz
 rcases eB hz with e | e
 have hy:=hin _ (aI (d:=e9) (ff t.hs (af s) t.na))
 rw[e]
 unfold cL
 split
 exact hy
 exact⟨hy.na,hy.re,hy.tr,hy.ru,hy.wa⟩
 exact hin z e
 exact h.hs z hz
theorem OI.dO{l:List BL}:∀ {t:l5},OI t->OI (l.foldl aE t):=by
 induction l with
 | nil=>exact fun h=>h
 | cons a l ih=>exact fun h=>ih h.iL
theorem OI.call{t:l5}{i:Nat}{y':j9}{l:l9}{a7:Int}(h:OI t)(hn:t.a7<=a7/\a7<=5000)(hy:HO t.na y')(hl:l.ti=a7)(hk:0<=l.ki/\l.ki<=3):OI ⟨t.na,a7,t.hs.set i y',t.se,t.lk++[l]⟩:=by
 have hno:=h.nw
 refine⟨h.nm,by simp only;omega,fun z hz=>?_,fun q hq=>?_,fun k M'=>?_⟩
 rcases eB hz with e | e
 rw[e];exact hy
 exact h.hs z e
 show 0<=q.ki/\q.ki<=3/\0<=q.ti/\q.ti<=a7
 rcases ZN.1 hq with hq | hq
 have:=h.ki q hq;omega
 rw[ZP.1 hq];omega
 show ((t.lk++[l]).getD k n6).ti<=((t.lk++[l]).getD (k+1) n6).ti
 have M':k+1<(t.lk++[l]).length:=M'
 rw[ZW,Zv]at M'
 have e1:∀ j,j<t.lk.length->(t.lk++[l]).getD j n6=t.lk.getD j n6:=fun j hj=>by
  rw[ZZ,ZB hj,<- ZZ]
 rcases Nat.lt_or_ge (k+1) t.lk.length with c | c
 rw[e1 k Z9,e1 _ c];exact h.lt k c
 have e2:(t.lk++[l]).getD (k+1) n6=l:=by
  rw[ZZ,ZG Z9,show k+1-t.lk.length=0 from Z9];rfl
 rw[e2,e1 k Z9,hl]
 have:=h.ki _ (aI (d:=n6) (show k<t.lk.length by omega))
 omega
theorem zM{y:j9}{a7 k m:Int}(h:HO n y)(hn:0<=a7/\a7<=5000):HO n (dG y a7 k m):=by
 refine⟨h.na,?_,h.tr,h.ru,h.wa⟩
 have:=h.wa
 have hb:=Ah (k:=m+1)
 unfold dG
 simp only
 split <;> constructor <;> omega
theorem Cd{t:l5}(hG:GI w n t)(h:OI t)(hg:Mc t=true):OI (D' w t):=by
 have hx:=mj hg
 have hno:=h.nw
 have hw:0<=z7 t/\z7 t<=5000:=⟨Z9,hx.2.2.2⟩
 have hy:=h.hs _ (aI (d:=e9) hx.1)
 have hI:=hG.hi _ (aI (d:=e9) hx.1)
 unfold D'
 split
 unfold Mn
 simp only
 have hf:HO t.na (C3 w (t.hs.getD (o5 t) e9) (z7 t)):=zM (y:={ t.hs.getD (o5 t) e9 with td:=(t.hs.getD (o5 t) e9).td.drop 1 }) ⟨hy.na,hy.re,hy.tr,hy.ru,hy.wa⟩ hw
 have c1:∀ y',HO t.na y'->OI ⟨t.na,z7 t,t.hs.set (o5 t) y',t.se,t.lk++[⟨z7 t,((t.hs.getD (o5 t) e9).td.getD 0 j8).ad,(ae w ((t.hs.getD (o5 t) e9).td.getD 0 j8).ad ((t.hs.getD (o5 t) e9).td.getD 0 j8).tr).1⟩]⟩:=
  fun y' Vo=>OI.call h ⟨hx.2.2.1,hw.2⟩ Vo rfl (Da _ _ _)
 split
 exact c1 _ ⟨hf.na,hf.re,hf.tr,hf.ru,hf.wa⟩
 split
 exact(c1 _ hf).dO
 exact c1 _ hf
 rename_i hk
 have hk:(t.hs.getD (o5 t) e9).kn=false:=by simpa using hk
 have OZ:=hI.un hk
 unfold QE
 have c1:∀ y',HO t.na y'->OI ⟨t.na,z7 t,t.hs.set (o5 t) y',t.se,t.lk++[⟨z7 t,ai (t.hs.getD (o5 t) e9).na,(ae w (ai (t.hs.getD (o5 t) e9).na) (t.hs.getD (o5 t) e9).tr).1⟩]⟩:=
  fun y' Vo=>OI.call h ⟨hx.2.2.1,hw.2⟩ Vo rfl (Da _ _ _)
 refine c1 _ ?_
 have h1:HO t.na (n8 w (t.hs.getD (o5 t) e9) (z7 t)):=zM hy hw
 unfold Nk
 split
 rename_i c
 have c2:(t.hs.getD (o5 t) e9).tr+1<3:=c.2
 exact⟨h1.na,h1.re,⟨by show 0<=(t.hs.getD (o5 t) e9).tr+1;omega,by show (t.hs.getD (o5 t) e9).tr+1<=2;omega⟩,h1.ru,h1.wa⟩
 have s1:=Im (ae w (ai (t.hs.getD (o5 t) e9).na) 2).1 (ae w (ai (t.hs.getD (o5 t) e9).na) 2).2 t.na
 have s2:=ql (ae w (ai (t.hs.getD (o5 t) e9).na) 2).1 (ae w (ai (t.hs.getD (o5 t) e9).na) 2).2 t.na
 refine⟨rfl,?_,h1.tr,s1,s2⟩
 have h3:=h1.re
 have h4:(cw w t.na (t.hs.getD (o5 t) e9).na).wa<=20:=s2
 simp only
 omega
theorem DA:∀ (k:Nat) {t:l5},GI w n t->OI t->OI (E8 w k t)
 | 0,_,_,h=>h
 | k+1,t,hG,h=>by
   unfold E8
   split
   rename_i hg;exact DA k (nH hG hg) (Cd hG h hg)
   exact h
theorem CO{c5:List BL}{t:l5}(h:aN n c5=some t):OI t:=by
 unfold aN at h
 split at h
 rename_i c
 cases h
 exact OI.dO ⟨c.1,by simp[aS],fun y hy=>by simp[aS]at hy,fun q hq=>by simp[aS]at hq,fun k hk=>by simp[aS]at hk⟩
 cases h
theorem Gq{t:l5}(hG:GI w n t)(h:OI t)(hl:t.lk.length<=400):aQ t=true:=by
 have hI:∀ {a b c:Int},a<=b->b<=c->z8 b a c=true:=fun h1 h2=>decide_eq_true ⟨h1,h2⟩
 unfold aQ
 simp only[ZX,ZI,Zq]
 refine⟨⟨⟨⟨⟨h.nm,hI h.nw.1 h.nw.2⟩,?_⟩,?_⟩,fun y hy=>⟨?_,?_⟩⟩,hG.nd⟩
 unfold cN
 simp only[ZX,ZI,Zq]
 exact⟨⟨hG.sn.2,hG.sn.1⟩,hG.se⟩
 unfold cP
 simp only[ZX,ZI,Zq]
 refine⟨hl,fun k hk=>?_⟩
 have hk:=List.mem_range.1 hk
 have hq:=h.ki _ (aI (d:=n6) hk)
 refine⟨⟨⟨?_,hq.2.2.2⟩,hI hq.1 hq.2.1⟩,(hG.al k hk).rd⟩
 split
 exact hq.2.2.1
 have:=h.lt (k-1) Z9
 rw[show k-1+1=k from Z9]at this
 exact this
 have a:=h.hs y hy
 have b:=hG.hi y hy
 unfold cZ
 rw[a.na]
 simp only[ZX]
 refine⟨⟨⟨⟨b.hn,hI a.re.1 a.re.2⟩,hI a.tr.1 a.tr.2⟩,Z8⟩,?_⟩
 split
 simp only[ZX,Zq,ZI]
 exact⟨⟨a.ru.1,a.ru.2⟩,hI Z9 (by have:=a.wa;omega)⟩
 rename_i c
 have:=b.un (by simpa using c)
 rw[Zq]
 exact⟨this.2.2.2.1,this.2.2.1⟩
 have hH:=hG.hi y hy
 unfold cR
 simp only[ZX,ZI,Zq]
 refine⟨⟨?_,fun x hx=>?_⟩,hH.nd⟩
 have:=mw (u:=t.se) hH.nd fun a ha=>by
  obtain⟨x,hx,e⟩:=List.mem_map.1 ha
  rw[<- e];exact(hH.it x hx).2.2.1
 simpa using this
 obtain⟨a1,a2,a3,a4,a5,_⟩:=hH.it x hx
 exact⟨⟨⟨a1,by simpa using a2⟩,by simpa using a3⟩,decide_eq_true ⟨a4,a5⟩⟩
end
section
structure KI (w:List Pg) (t:l5):Prop where
 gr:∀ y,y∈t.hs->y.kn=true->y.gr=cw w t.na y.na/\∀ x,x∈y.td->bh y.gr.ru (pathOf x.ad)=true
 un:∀ y,y∈t.hs->y.kn=false->∀ q,q∈t.lk->af q.ad=y.na->q.ad=ai y.na/\q.ki=3
 se:∀ s,s∈t.se->∃ y,y∈t.hs/\y.na=af s
variable {w:List Pg} {n:BL}
theorem Ll{t:l5}{i:Nat}(h:GI w n t)(hi:i<t.hs.length)(hk:(t.hs.getD i e9).kn=true)(hne:(t.hs.getD i e9).td≠[])(hr:(t.hs.getD i e9).re<=t.a7)(L1:0<=t.a7/\t.a7<=5000):GI w n ⟨t.na,t.a7,t.hs.set i (C3 w (t.hs.getD i e9) t.a7),t.se,t.lk++[⟨t.a7,((t.hs.getD i e9).td.getD 0 j8).ad,(ae w ((t.hs.getD i e9).td.getD 0 j8).ad ((t.hs.getD i e9).td.getD 0 j8).tr).1⟩]⟩:=by
 have hy:=h.hi _ (aI (d:=e9) hi)
 generalize E5:t.hs.getD i e9=y at *
 have G6:=List.length_pos_iff.2 hne
 have hit:=hy.it _ (aI (d:=j8) G6)
 have TG:=vn hne
 have NG:(y.td.getD 0 j8).ad ∉ (y.td.drop 1).map (·.ad)/\((y.td.drop 1).map (·.ad)).Nodup:=by
  have:=hy.nd
  cases R0:y.td with
  | nil=>exact absurd R0 hne
  | cons a r=>rw[R0]at this;simpa using List.nodup_cons.1 this
 generalize RW:y.td.getD 0 j8=x0 at *
 obtain⟨a1,a2,a3,a4,a5,a6⟩:=hit
 have Ox:=rK (y:={ y with td:=y.td.drop 1 }) (a7:=t.a7) (k:=(ae w x0.ad x0.tr).1) (m:=x0.tr) ⟨a4,a5⟩
 have hq:QL w t.lk ⟨t.a7,x0.ad,(ae w x0.ad x0.tr).1⟩:=by
  refine⟨fun c=>⟨(a6 c).1,by have:=(a6 c).2;show (Pq t.lk x0.ad).length<3;omega⟩,fun hc=>?_,fun q hq he h3=>?_,⟨_,rfl⟩,a1,L1⟩
  exfalso
  have:=hy.kn hk
  obtain⟨z,hz⟩:=List.exists_mem_of_ne_nil _ this
  obtain⟨q,q1,q2,_⟩:=uO hz
  exact hc q q1 (by rw[q2];exact a2.symm)
  have:=(hy.re q hq (by rw[he];exact a2)).2.1 h3
  show q.ti+3<=t.a7
  omega
 have hcl:cls (t.lk++[⟨t.a7,x0.ad,(ae w x0.ad x0.tr).1⟩]) y.na=cls t.lk y.na++[t.a7]:=by rw[eP,if_pos a2]
 have Tk:∀ x,x∈y.td.drop 1->aD x.ad=true/\af x.ad=y.na/\x.ad∈t.se/\0<=x.tr/\x.tr<=2/\(pathOf x.ad≠fF->(∀ q,q∈t.lk++[⟨t.a7,x0.ad,(ae w x0.ad x0.tr).1⟩]->q.ad=x.ad->q.ki=3)/\((Pq (t.lk++[⟨t.a7,x0.ad,(ae w x0.ad x0.tr).1⟩]) x.ad).length:Int)=x.tr):=fun x hx=>by
  have P2:x0.ad≠x.ad:=fun c=>NG.1 (by rw[c];exact List.mem_map.2 ⟨x,hx,rfl⟩)
  obtain⟨b1,b2,b3,b4,b5,b6⟩:=hy.it x (List.mem_of_mem_drop hx)
  refine⟨b1,b2,b3,b4,b5,fun hp=>⟨fun q hq he=>?_,?_⟩⟩
  rcases ZN.1 hq with hq | hq
  exact(b6 hp).1 q hq he
  rw[ZP.1 hq]at he;exact absurd he P2
  rw[lP,if_neg P2,List.append_nil];exact(b6 hp).2
 have OZ:∀ {P:Prop},(y.kn=false->P):=fun c=>by rw[hk]at c;cases c
 have Qi:cls (t.lk++[⟨t.a7,x0.ad,(ae w x0.ad x0.tr).1⟩]) y.na≠[]:=by rw[hcl];simp
 have c1:GI w n ⟨t.na,t.a7,t.hs.set i (C3 w y t.a7),t.se,t.lk++[⟨t.a7,x0.ad,(ae w x0.ad x0.tr).1⟩]⟩:=by
  have U1:C3 w y t.a7=dG { y with td:=y.td.drop 1 } t.a7 (ae w x0.ad x0.tr).1 x0.tr:=by unfold C3;rw[RW]
  rw[U1]
  obtain⟨k1,k2⟩:=hy.core (y':=dG { y with td:=y.td.drop 1 } t.a7 (ae w x0.ad x0.tr).1 x0.tr) (l:=⟨t.a7,x0.ad,(ae w x0.ad x0.tr).1⟩) a2 rfl hr Ox.1 Ox.2.1 Ox.2.2 (fun _=>rfl)
  refine h.call hi (by rw[E5];exact a2) hq (by rw[E5];rfl) ⟨hy.hn,Tk,NG.2,hy.gl,OZ,fun _=>Qi,k1,k2⟩ (.inr a3) ?_ L1.1
  rw[E5]
  show (if y.kn=true then 0 else 3-y.tr)+MA (y.td.drop 1)+1<=hp y
  unfold hp
  omega
 exact c1
theorem yq{hs:List j9}{d n:BL}{y:j9}(h:y∈hs):y∈aL hs d n:=by
 unfold aL
 split
 exact h
 exact List.mem_append_left _ h
theorem vQ{l:List j9}{i:Nat}{a:j9}(hi:i<l.length)(ha:a.na=(l.getD i e9).na){d:BL}(h:∃ y,y∈l/\y.na=d):∃ y,y∈l.set i a/\y.na=d:=by
 obtain⟨y,y1,y2⟩:=h
 have:d∈(l.set i a).map (·.na):=by
  rw[kV hi ha];exact List.mem_map.2 ⟨y,y1,y2⟩
 obtain⟨z,z1,z2⟩:=List.mem_map.1 this
 exact⟨z,z1,z2⟩
theorem KI.iL{t:l5}{s:BL}(hG:GI w n t)(h:KI w t):KI w (aE t s):=by
 by_cases hr:ej t.se s
 case neg=>
  have e3:df t.se s=t.se:=if_neg hr
  have e4:bg t.na t.hs t.se s=t.hs:=if_neg hr
  have:aE t s=t:=by unfold aE;rw[e3,e4]
  rw[this];exact h
 have e3:(aE t s).se=t.se++[s]:=if_pos hr
 have e4:(aE t s).hs=(aL t.hs (af s) t.na).set (w9 t.hs (af s)) (cL ((aL t.hs (af s) t.na).getD (w9 t.hs (af s)) e9) s):=if_pos hr
 have hlt:=ff t.hs (af s) t.na
 have O1:=uF t.hs (af s) t.na
 have UZ:∀ y,y∈aL t.hs (af s) t.na->y.kn=true->y.gr=cw w t.na y.na/\∀ x,x∈y.td->bh y.gr.ru (pathOf x.ad)=true:=fun y hy hk=>by
  unfold aL at hy
  split at hy
  exact h.gr y hy hk
  rcases ZN.1 hy with hy | hy
  exact h.gr y hy hk
  rw[ZP.1 hy]at hk;simp[cf]at hk
 have OZ:∀ y,y∈aL t.hs (af s) t.na->y.kn=false->∀ q,q∈t.lk->af q.ad=y.na->q.ad=ai y.na/\q.ki=3:=fun y hy hk q hq he=>by
  unfold aL at hy
  split at hy
  exact h.un y hy hk q hq he
  rename_i hc
  rcases ZN.1 hy with hy | hy
  exact h.un y hy hk q hq he
  exfalso
  rw[ZP.1 hy]at he
  obtain⟨z,z1,z2⟩:=(hG.lh q hq).1
  have he:af q.ad=af s:=he
  exact hc (List.findIdx_lt_length_of_exists ⟨z,z1,by simp[z2,he]⟩)
 have E5:=aI (d:=e9) hlt
 generalize hy:(aL t.hs (af s) t.na).getD (w9 t.hs (af s)) e9=y at *
 refine⟨fun z hz hk=>?_,fun z hz hk q hq he=>?_,fun q hq=>?_⟩
 rw[e4]at hz
 show z.gr=cw w t.na z.na/\_
 rcases eB hz with e | e
 subst e
 unfold cL at hk ⊢
 split at hk
 rename_i c;rw[if_pos c];exact UZ y E5 hk
 rename_i c
 rw[if_neg c]
 have K3:y.kn=true:=hk
 obtain⟨a1,a2⟩:=UZ y E5 K3
 refine⟨a1,fun x hx=>?_⟩
 rcases ZN.1 hx with hx | hx
 exact a2 x hx
 rw[ZP.1 hx]
 cases hl:bh y.gr.ru (pathOf s) with
 | true=>rfl
 | false=>exact absurd ⟨K3,hl⟩ c
 exact UZ z e hk
 rw[e4]at hz
 have hq:q∈t.lk:=hq
 rcases eB hz with e | e
 subst e
 rw[lO]at he ⊢
 refine OZ y E5 ?_ q hq he
 unfold cL at hk
 split at hk
 exact hk
 exact hk
 exact OZ z e hk q hq he
 rw[e4]
 rw[e3]at hq
 rcases ZN.1 hq with hq | hq
 obtain⟨z,z1,z2⟩:=h.se q hq
 exact vQ hlt (by rw[lO,hy]) ⟨z,yq z1,z2⟩
 rw[ZP.1 hq]
 exact⟨_,List.mem_set hlt _,by rw[lO,O1]⟩
theorem KI.dO{l:List BL}:∀ {t:l5},GI w n t->KI w t->KI w (l.foldl aE t):=by
 induction l with
 | nil=>exact fun _ h=>h
 | cons a l ih=>exact fun hG h=>ih hG.iL (h.iL hG)
theorem KI.call{t:l5} {i:Nat} {y':j9} {l:l9} {a7:Int} (hG:GI w n t) (h:KI w t) (hi:i<t.hs.length) (hl:af l.ad=(t.hs.getD i e9).na) (O1:y'.na=(t.hs.getD i e9).na)
 (hg:y'.kn=true->y'.gr=cw w t.na y'.na/\∀ x,x∈y'.td->bh y'.gr.ru (pathOf x.ad)=true)
 (hu:y'.kn=false->∀ q,q∈t.lk++[l]->af q.ad=y'.na->q.ad=ai y'.na/\q.ki=3):KI w ⟨t.na,a7,t.hs.set i y',t.se,t.lk++[l]⟩:=by
 refine⟨fun z hz hk=>?_,fun z hz hk q hq he=>?_,fun q hq=>?_⟩
 rcases eB hz with e | e
 subst e;exact hg hk
 exact h.gr z e hk
 rcases oz hG.nd hi hz with e | ⟨e,e2⟩
 subst e;exact hu hk q hq he
 rcases ZN.1 hq with hq | hq
 exact h.un z e hk q hq he
 rw[ZP.1 hq,hl]at he
 exact absurd he.symm e2
 exact vQ hi O1 (h.se q hq)
theorem DD{t:l5}(hG:GI w n t)(h:KI w t)(hg:Mc t=true):KI w (D' w t):=by
 have hx:=mj hg
 have hno:=hG.no
 have Tl:GI w n { t with a7:=z7 t }:=hG.at_ Z9
 have h':KI w { t with a7:=z7 t }:=⟨h.gr,h.un,h.se⟩
 have hm:=aI (d:=e9) hx.1
 have hy:=hG.hi _ hm
 have U0:=h.gr _ hm
 have hu0:=h.un _ hm
 have UR:=nH hG hg
 unfold D' at UR ⊢
 split
 rename_i hk
 rw[if_pos hk]at UR
 have hit:=hy.it _ (aI (d:=j8) (List.length_pos_iff.2 hx.2.1))
 have RW:=aI (d:=j8) (List.length_pos_iff.2 hx.2.1)
 obtain⟨g1,g2⟩:=U0 hk
 have hnk:∀ {P:Prop},(t.hs.getD (o5 t) e9).kn=false->P:=fun c=>by rw[hk]at c;cases c
 unfold Mn at UR ⊢
 simp only at UR ⊢
 have cc:∀ y':j9,y'.na=(t.hs.getD (o5 t) e9).na->y'.kn=(t.hs.getD (o5 t) e9).kn->y'.gr=(t.hs.getD (o5 t) e9).gr->(∀ x,x∈y'.td->bh y'.gr.ru (pathOf x.ad)=true)->
  KI w ⟨t.na,z7 t,t.hs.set (o5 t) y',t.se,t.lk++[⟨z7 t,((t.hs.getD (o5 t) e9).td.getD 0 j8).ad,(ae w ((t.hs.getD (o5 t) e9).td.getD 0 j8).ad ((t.hs.getD (o5 t) e9).td.getD 0 j8).tr).1⟩]⟩:=fun y' e1 e2 e3 e4=>
  KI.call (t:={ t with a7:=z7 t }) (i:=o5 t) (l:=⟨z7 t,((t.hs.getD (o5 t) e9).td.getD 0 j8).ad,(ae w ((t.hs.getD (o5 t) e9).td.getD 0 j8).ad ((t.hs.getD (o5 t) e9).td.getD 0 j8).tr).1⟩) Tl h' hx.1 hit.2.1 e1
   (fun _=>⟨by rw[e3,e1];exact g1,e4⟩) (fun c=>hnk (by rw[<- e2];exact c))
 split
 refine cc _ rfl rfl rfl fun x L0=>?_
 rcases ZN.1 L0 with L0 | L0
 exact g2 x (List.mem_of_mem_drop L0)
 rw[ZP.1 L0];exact g2 ((t.hs.getD (o5 t) e9).td.getD 0 j8) RW
 rename_i c
 rw[if_neg c]at UR
 have c1:=cc (C3 w (t.hs.getD (o5 t) e9) (z7 t)) rfl rfl rfl fun x L0=>g2 x (List.mem_of_mem_drop L0)
 have g3:GI w n ⟨t.na,z7 t,t.hs.set (o5 t) (C3 w (t.hs.getD (o5 t) e9) (z7 t)),t.se,t.lk++[⟨z7 t,((t.hs.getD (o5 t) e9).td.getD 0 j8).ad,(ae w ((t.hs.getD (o5 t) e9).td.getD 0 j8).ad ((t.hs.getD (o5 t) e9).td.getD 0 j8).tr).1⟩]⟩:=
  Ll Tl hx.1 hk hx.2.1 (Ga hg) ⟨by simp only;omega,hx.2.2.2⟩
 split
 exact c1.dO g3
 exact c1
 rename_i hk
 have hk:(t.hs.getD (o5 t) e9).kn=false:=by simpa using hk
 have Tf:=kS hy.hn
 unfold QE
 refine KI.call (t:={ t with a7:=z7 t }) (i:=o5 t) (l:=⟨z7 t,ai (t.hs.getD (o5 t) e9).na,(ae w (ai (t.hs.getD (o5 t) e9).na) (t.hs.getD (o5 t) e9).tr).1⟩) Tl h' hx.1 Tf ?_ (fun K3=>?_) (fun K3 q hq he=>?_)
 unfold Nk;split <;> rfl
 unfold Nk at K3 ⊢
 split at K3
 have:(t.hs.getD (o5 t) e9).kn=true:=K3
 rw[hk]at this;cases this
 rename_i c
 rw[if_neg c]
 refine⟨rfl,fun x L0=>?_⟩
 have:=(List.mem_filter.1 L0).2
 unfold M6 at this
 rw[ZX]at this
 exact this.2
 unfold Nk at K3 he ⊢
 split at K3
 rename_i c
 rw[if_pos c]at he ⊢
 have he:af q.ad=(t.hs.getD (o5 t) e9).na:=he
 show q.ad=ai (t.hs.getD (o5 t) e9).na/\q.ki=3
 rcases ZN.1 hq with hq | hq
 exact hu0 hk q hq he
 rw[ZP.1 hq];exact⟨rfl,c.1⟩
 cases K3
theorem CR{c5:List BL}{t:l5}(h:aN n c5=some t):KI w t:=by
 unfold aN at h
 split at h
 cases h
 exact KI.dO (w:=w) (n:=n) GI.zero ⟨fun y hy=>by simp[aS]at hy,fun y hy=>by simp[aS]at hy,fun q hq=>by simp[aS]at hq⟩
 cases h
end
section
def cD(L:List l9)(d:BL):Bool:=L.any fun q=>(af q.ad==d)&&!((q.ad==ai d)&&decide (q.ki=3))
def iS(L:List l9)(l:l9):Bool:=(l.ad==ai (af l.ad))&&!(cD L (af l.ad))&&decide ((cls L (af l.ad)).length<3)
def Pc(L:List l9)(l:l9):Prop:=l.ki≠3/\iS L l=false
instance (L:List l9) (l:l9):Decidable (Pc L l):=by unfold Pc;infer_instance
def dy(L:List l9):Nat->List BL
 | 0=>[]
 | i+1=>if Pc (L.take i) (L.getD i n6)/\(L.getD i n6).ad ∉ dy L i then dy L i++[(L.getD i n6).ad] else dy L i
def bK(t:l5):List BL:=if aQ t=true then dy t.lk t.lk.length else []
theorem uj{L:List l9}{a:BL}:∀ i,a∈dy L i↔∃ k,k<i/\(L.getD k n6).ad=a/\Pc (L.take k) (L.getD k n6)
 | 0=>by simp[dy]
 | i+1=>by
   have ih:=uj (L:=L) (a:=a) i
   have key:a∈dy L (i+1)↔a∈dy L i\/((L.getD i n6).ad=a/\Pc (L.take i) (L.getD i n6)):=by
    rw[dy]
    split
    rename_i c
    rw[ZN,ZP]
    exact⟨fun h=>h.imp id fun h=>⟨h.symm,c.1⟩,fun h=>h.imp id fun h=>h.1.symm⟩
    rename_i c
    refine⟨.inl,fun h=>?_⟩
    rcases h with h | ⟨h1,h2⟩
    exact h
    rcases Decidable.em ((L.getD i n6).ad∈dy L i) with q | q
    rw[<- h1];exact q
    exact absurd ⟨h2,q⟩ c
   rw[key,ih]
   constructor
   rintro (⟨k,k1,k2⟩ | h)
   exact⟨k,Z9,k2⟩
   exact⟨i,Z9,h⟩
   rintro⟨k,k1,k2⟩
   rcases Nat.lt_or_ge k i with c | c
   exact .inl ⟨k,c,k2⟩
   obtain rfl:k=i:=Z9
   exact .inr k2
theorem uH(L:List l9):∀ i,(dy L i).length<=i
 | 0=>Zy _
 | i+1=>by
   have:=uH L i
   rw[dy]
   split
   simp;omega
   omega
def LI(w:List Pg)(t:l5):Prop:= ∀ k,k<t.lk.length->iS (t.lk.take k) (t.lk.getD k n6)=true\/(bh (cw w t.na (af (t.lk.getD k n6).ad)).ru (pathOf (t.lk.getD k n6).ad)=true/\(t.lk.getD k n6).ad∈t.se)
variable {w:List Pg} {n:BL}
theorem yZ{s:BL}(hw:av w=true)(hn:bp n=true)(hs:aD s=true):kU w n s=bh (cw w n (af s)).ru (pathOf s):=by
 have h1:=ma hs
 have h2:ck (oA (aA s)).c9=true:=vA hs
 unfold kU
 rw[hw,hn,h1,show vD w (oA (aA s)).c9 n=_ from if_pos ⟨hw,h2,hn⟩]
 rfl
theorem Eb{t:l5}{s x:BL}(h:x∈t.se):x∈(aE t s).se:=by
 show x∈df t.se s
 unfold df
 split
 exact List.mem_append_left _ h
 exact h
theorem LI.dO:∀ {l:List BL} {t:l5},LI w t->LI w (l.foldl aE t)
 | [],_,h=>h
 | s::l,t,h=>LI.dO (l:=l) (t:=aE t s) fun k hk=>(h k hk).imp id fun⟨a,b⟩=>⟨a,Eb b⟩
theorem LI.call{t:l5}{hs:List j9}{l:l9}{a7:Int}(h:LI w t)(hl:iS t.lk l=true\/(bh (cw w t.na (af l.ad)).ru (pathOf l.ad)=true/\l.ad∈t.se)):LI w ⟨t.na,a7,hs,t.se,t.lk++[l]⟩:=fun k hk=>by
 have hk:k<(t.lk++[l]).length:=hk
 show iS ((t.lk++[l]).take k) ((t.lk++[l]).getD k n6)=true\/(bh (cw w t.na (af ((t.lk++[l]).getD k n6).ad)).ru (pathOf ((t.lk++[l]).getD k n6).ad)=true/\((t.lk++[l]).getD k n6).ad∈t.se)
 rw[ZW,Zv]at hk
 rcases Nat.lt_or_ge k t.lk.length with c | c
 have:=h k c
 rw[List.take_append_of_le_length Z9,ZZ,ZB c,<- ZZ]
 exact this
 obtain rfl:k=t.lk.length:=Z9
 have e:(t.lk++[l]).getD t.lk.length n6=l:=by
  rw[ZZ,ZG (Zy _)];simp
 rw[List.take_left,e]
 exact hl
theorem JG{t:l5}(hG:GI w n t)(hK:KI w t)(h:LI w t)(hg:Mc t=true):LI w (D' w t):=by
 have hx:=mj hg
 have hm:=aI (d:=e9) hx.1
 have hI:=hG.hi _ hm
 unfold D'
 split
 rename_i hk
 have XP:=hK.gr _ hm hk
 have TQ:=aI (d:=j8) (List.length_pos_iff.2 hx.2.1)
 have hi:=hI.it _ TQ
 have c1:∀ hs,LI w ⟨t.na,z7 t,hs,t.se,t.lk++[⟨z7 t,((t.hs.getD (o5 t) e9).td.getD 0 j8).ad,(ae w ((t.hs.getD (o5 t) e9).td.getD 0 j8).ad ((t.hs.getD (o5 t) e9).td.getD 0 j8).tr).1⟩]⟩:=fun hs=>by
  refine LI.call h (.inr ⟨?_,hi.2.2.1⟩)
  show bh (cw w t.na (af ((t.hs.getD (o5 t) e9).td.getD 0 j8).ad)).ru (pathOf ((t.hs.getD (o5 t) e9).td.getD 0 j8).ad)=true
  rw[hi.2.1,<- XP.1]
  exact XP.2 _ TQ
 unfold Mn
 simp only
 split
 exact c1 _
 split
 exact(c1 _).dO
 exact c1 _
 rename_i hk
 have hk:(t.hs.getD (o5 t) e9).kn=false:=by simpa using hk
 have OZ:=hI.un hk
 have Wy:=hK.un _ hm hk
 unfold QE
 refine LI.call h (.inl ?_)
 have hd:=kS hI.hn
 have ho:cD t.lk (t.hs.getD (o5 t) e9).na=false:=by
  unfold cD
  rw[List.any_eq_false]
  intro q hq
  simp only[ZX,Zp,Bool.not_eq_true',Bool.and_eq_false_iff,not_and]
  intro e
  obtain⟨a1,a2⟩:=Wy q hq e
  simp[a1,a2]
 unfold iS
 rw[hd,ho]
 simp only[beq_self_eq_true,Bool.not_false,Bool.true_and,Zq]
 omega
theorem Dq:∀ (k:Nat) {t:l5},GI w n t->KI w t->LI w t->LI w (E8 w k t)
 | 0,_,_,_,h=>h
 | k+1,t,hG,hK,h=>by
   unfold E8
   split
   rename_i hg;exact Dq k (nH hG hg) (DD hG hK hg) (JG hG hK h hg)
   exact h
theorem IT{c5:List BL}{t:l5}(h:aN n c5=some t):LI w t:=by
 unfold aN at h
 split at h
 cases h
 exact LI.dO (t:=aS n) fun k hk=>by simp[aS]at hk
 cases h
end
def bJ(w:List Pg)(n:BL)(p:List BL)(m:Int):l5:=oT (bZ w (oT (aN n p)) m)
theorem Aj{w:List Pg}{n:BL}{p:List BL}{m:Int}:oT (bZ w (oT (aN n p)) m)=bJ w n p m:=rfl
theorem pL{w:List Pg}{n:BL}{p:List BL}{m:Int}(hm:z8 m 0 400=true):((aN n p).isSome&&(bZ w (oT (aN n p)) m).isSome)=((aN n p).isSome&&av w):=by
 cases h:aN n p with
 | none=>rfl
 | some t=>
   have:=tK h
   simp only[oT,Option.getD_some,Option.isSome_some,Bool.true_and]
   unfold bZ
   rw[this,Bool.and_true,hm]
   cases av w
   rfl
   rfl
theorem ni{w:List Pg}{n:BL}{p:List BL}{m:Int}(hm:z8 m 0 400=true)(h:(aN n p).isSome=true/\(bZ w (oT (aN n p)) m).isSome=true):∃ t,aN n p=some t/\av w=true/\bJ w n p m=E8 w m.toNat t:=by
 have h2:=(pL hm).symm.trans (show ((aN n p).isSome&&(bZ w (oT (aN n p)) m).isSome)=true by rw[h.1,h.2];rfl)
 unfold bJ
 cases hn:aN n p with
 | none=>rw[hn]at h;cases h.1
 | some t=>
   have h3:av w=true:=by
    rw[hn]at h2;exact h2
   refine⟨t,rfl,h3,?_⟩
   show oT (bZ w t m)=_
   rw[Cy hm h3 (tK hn)]
   rfl
theorem nj{w:List Pg}{n:BL}{p:List BL}{m:Int}(hm:z8 m 0 400=true)(h:(aN n p).isSome=true/\(bZ w (oT (aN n p)) m).isSome=true):GI w n (bJ w n p m)/\av w=true:=by
 obtain⟨t,h1,h2,h3⟩:=ni hm h
 rw[h3]
 exact⟨CA _ (nG h1),h2⟩
theorem FM{w:List Pg}{n:BL}{t:l5}(h:GI w n t):(t.lk.length:Int)<=3*((t.se.length:Int)+t.hs.length):=by
 have:=h.po
 have:=DB (f:=hp) (l:=t.hs) fun y hy=>by
  have hI:=h.hi y hy
  have h1:=IF fun x hx=>(hI.it x hx).2.2.2.2.1
  unfold hp
  split
  omega
  rename_i c
  have:=hI.un (by simpa using c)
  omega
 omega
theorem oJ{w:List Pg}{n:BL}{t:l5}(h:GI w n t):t.lk.length<=360:=by
 have:=FM h
 have:=h.hl
 have:=h.sn.2
 omega
theorem GA{s:BL}(h:aD s=true):s.length<=60/\m4 s:=by
 constructor
 have:=ma h
 unfold aA at this
 split at this
 rename_i c;exact c.1
 cases this
 have:=h
 unfold aD at this
 rw[ZX,Zp]at this
 rw[<- this.2];exact xx _
theorem zf{L:List l9}{i:Nat}(hi:i<L.length):L.take (i+1)=L.take i++[L.getD i n6]:=by
 rw[List.take_succ_eq_append_getElem hi,ZZ,ZR hi];rfl
theorem Ko(L:List l9)(i:Nat)(d:BL):(cls (L.take i) d).length<=i:=by
 unfold cls
 rw[ZM]
 have:=List.length_filter_le (fun l:l9=>af l.ad==d) (L.take i)
 have h2:=List.length_take_le i L
 omega
theorem Lk{t:l5}{i:Nat}(h:aQ t=true)(hi:i<t.lk.length):aD (t.lk.getD i n6).ad=true:=by
 unfold aQ cP at h
 simp only[ZX,ZI,Zq]at h
 exact(h.1.1.2.2 i (List.mem_range.2 hi)).2
theorem zX{w:List Pg}(hw:av w=true)(hz:∀ i,n7 (w.getD i m0)):∀ (k:Nat) {t:l5},Nq t->Nq (E8 w k t)
 | 0,_,h=>h
 | k+1,t,h=>by
   unfold E8
   split
   rename_i hg;exact zX hw hz k (rG hw hz h hg)
   exact h
theorem Lx{w:List Pg}{n:BL}{t:l5}(hG:GI w n t)(hT:Nq t)(hn:n.length<=1000):D2 t:=by
 have h1:=hG.sn.2
 have h2:=hG.hl
 have h3:=oJ hG
 refine⟨by rw[hG.na];exact hn,Z9,Z9,Z9,fun x hx=>?_,fun x hx=>?_,fun y hy=>?_⟩
 have:=GA (hG.se x hx);exact⟨Z9,this.2⟩
 obtain⟨k,hk,e⟩:=Zu.1 hx
 have:=GA (hG.al k hk).rd
 rw[ZZ,ZR hk]at this
 subst e
 exact⟨Nat.le_trans this.1 Z9,this.2⟩
 have hI:=hG.hi y hy
 have hS:=hT.t0.ha y hy
 have hs:=hT.t0.s
 have hgl:=hI.gl
 exact⟨hS.n,hS.r,hS.rp,Z9,by have:=hS.t;omega,fun x hx=>⟨(hS.ta x hx).1,(hS.ta x hx).2.1⟩⟩
theorem JZ{w:List Pg}{n:BL}{p:List BL}{m:Int}(hm:z8 m 0 400=true)(hz:∀ i,n7 (w.getD i m0))(hn:n.length<=1000)(hl:p.length<=400)(ha:∀ x,x∈p->x.length<=1000/\m4 x)(h:(aN n p).isSome=true/\(bZ w (oT (aN n p)) m).isSome=true):D2 (bJ w n p m):=by
 obtain⟨hG,hW⟩:=nj hm h
 refine Lx hG ?_ hn
 obtain⟨t,Qg,_,h3⟩:=ni hm h
 have hS:=Cc hn hl ha
 have hh:=CX (n:=n) hl
 rw[Qg]at hS hh
 rw[h3]
 exact zX hW hz _ (xS hS hh (tK Qg))
section
def VL(B:Int)(t:l5):Prop:= ∀ y,y∈t.hs->y.re<=B
theorem VL.iL{t:l5}{s:BL}{B:Int}(hB:0<=B)(h:VL B t):VL B (aE t s):=by
 intro z hz
 have hz:z∈bg t.na t.hs t.se s:=hz
 unfold bg at hz
 split at hz
 have hin:∀ y,y∈aL t.hs (af s) t.na->y.re<=B:=fun y hy=>by
  unfold aL at hy
  split at hy
  exact h y hy
  rcases ZN.1 hy with hy | hy
  exact h y hy
  rw[ZP.1 hy];exact hB
 rcases eB hz with e | e
 have:=hin _ (aI (d:=e9) (ff t.hs (af s) t.na))
 rw[e]
 unfold cL
 split <;> exact this
 exact hin z e
 exact h z hz
def TM(i:Nat)(t:l5):Prop:=t.a7<=30*i/\VL (30*i) t
theorem TM.dO{i:Nat}:∀ {l:List BL} {t:l5},TM i t->TM i (l.foldl aE t)
 | [],_,h=>h
 | s::l,t,h=>TM.dO (l:=l) (t:=aE t s) ⟨h.1,h.2.iL Z9⟩
variable {w:List Pg} {n:BL}
theorem xd{y:j9}{a7 k m:Int}(h:y.gr.wa<=20):(dG y a7 k m).re<=a7+28:=by
 have hb:=Ah (k:=m+1)
 unfold dG
 simp only
 split <;> omega
theorem JQ{t:l5}{i:Nat}(hO:OI t)(h:TM i t)(hg:Mc t=true):TM (i+1) (D' w t):=by
 have hx:=mj hg
 have he:=GC hg
 have h1:=h.2 _ (aI (d:=e9) hx.1)
 have h2:=h.1
 have hy:=(hO.hs _ (aI (d:=e9) hx.1)).wa
 have hW:z7 t<=30*i:=Z9
 have c1:∀ (y':j9) (l:l9),y'.re<=30*(i:Int)+30->TM (i+1) ⟨t.na,z7 t,t.hs.set (o5 t) y',t.se,t.lk++[l]⟩:=fun y' l Vo=>by
  refine⟨by show z7 t<=_;omega,fun z hz=>?_⟩
  rcases eB hz with e | e
  rw[e];omega
  have:=h.2 z e;omega
 unfold D'
 split
 unfold Mn
 simp only
 have hf:(C3 w (t.hs.getD (o5 t) e9) (z7 t)).re<=z7 t+28:=xd hy
 split
 exact c1 _ _ (by show (C3 w (t.hs.getD (o5 t) e9) (z7 t)).re<=_;omega)
 split
 exact(c1 _ _ Z9).dO
 exact c1 _ _ Z9
 unfold QE
 refine c1 _ _ ?_
 have hf:(n8 w (t.hs.getD (o5 t) e9) (z7 t)).re<=z7 t+28:=xd hy
 show (Nk w t.na (t.hs.getD (o5 t) e9) (z7 t)).re<=_
 unfold Nk
 split
 show (n8 w (t.hs.getD (o5 t) e9) (z7 t)).re<=_;omega
 have s2:(cw w t.na (t.hs.getD (o5 t) e9).na).wa<=20:=ql (ae w (ai (t.hs.getD (o5 t) e9).na) 2).1 (ae w (ai (t.hs.getD (o5 t) e9).na) 2).2 t.na
 simp only
 omega
structure WQ (w:List Pg) (n:BL) (i:Nat) (t:l5):Prop where
 gi:GI w n t
 oi:OI t
 ti:Nq t
 tm:TM i t
theorem WQ.step{t:l5}{i:Nat}(h:WQ w n i t)(hw:av w=true)(hz:∀ i,n7 (w.getD i m0))(hg:Mc t=true):WQ w n (i+1) (D' w t):=
 ⟨nH h.gi hg,Cd h.gi h.oi hg,rG hw hz h.ti hg,JQ h.oi h.tm hg⟩
theorem WQ.ok{t:l5}{i:Nat}(h:WQ w n i t):aQ t=true:=Gq h.gi h.oi (by have:=oJ h.gi;omega)
theorem WQ.new{p:List BL}{t:l5}(h:aN n p=some t)(hS:D2 t)(hh:t.hs.length<=900):WQ w n 0 t:=by
 have hk:=tK h
 refine⟨nG h,CO h,xS hS hh hk,?_⟩
 unfold aN at h
 split at h
 cases h
 exact TM.dO (t:=aS n) ⟨Int.le_refl _,fun y hy=>by simp[aS]at hy⟩
 cases h
end
section
def OC(L:List l9)(k:Nat):Prop:=k<L.length/\Pc (L.take k) (L.getD k n6)
def rC(w:List Pg)(c5:List BL)(L:List l9)(s:BL):Prop:=s∈c5\/∃ k,OC L k/\s∈eJ w (L.getD k n6).ad
structure CI (w:List Pg) (c5 Ny:List BL) (t:l5):Prop where
 gr:∀ y,y∈t.hs->y.kn=true->y.gr=cw w t.na y.na
 kn:∀ y,y∈t.hs->y.kn=true->cD t.lk y.na=true\/3<=(cls t.lk y.na).length
 kd:∀ q,q∈t.lk->q.ki≠3->(ae w q.ad 2).1=q.ki
 sr:∀ s,s∈t.se->rC w c5 t.lk s
 he:t.se.length<60->(∀ s,s∈c5->aD s=true->s∈t.se\/s∈Ny)/\∀ k,OC t.lk k->∀ x,x∈eJ w (t.lk.getD k n6).ad->aD x=true->x∈t.se\/x∈Ny
 di:∀ s,s∈t.se->(∃ y,y∈t.hs/\∃ x,x∈y.td/\x.ad=s)\/bh (cw w t.na (af s)).ru (pathOf s)=false\/(∃ k,OC t.lk k/\(t.lk.getD k n6).ad=s)\/(ae w s 2).1=3
 ro:∀ k,OC t.lk k->rC w c5 (t.lk.take k) (t.lk.getD k n6).ad
theorem lx{L r:List l9}{k:Nat}(h:OC L k):OC (L++r) k/\(L++r).getD k n6=L.getD k n6:=by
 have e1:(L++r).getD k n6=L.getD k n6:=by
  rw[ZZ,ZB h.1,<- ZZ]
 refine⟨⟨by rw[ZW];have:=h.1;omega,?_⟩,e1⟩
 rw[e1,List.take_append_of_le_length (Nat.le_of_lt h.1)]
 exact h.2
theorem zH{L:List l9}{l:l9}{k:Nat}(h:OC (L++[l]) k):OC L k\/(k=L.length/\Pc L l):=by
 obtain⟨h1,h2⟩:=h
 rw[ZW,Zv]at h1
 rcases Nat.lt_or_ge k L.length with c | c
 rw[List.take_append_of_le_length Z9,ZZ,ZB c,<- ZZ]at h2
 exact .inl ⟨c,h2⟩
 obtain rfl:k=L.length:=Z9
 have e:(L++[l]).getD L.length n6=l:=by
  rw[ZZ,ZG (Zy _)];simp
 rw[List.take_left,e]at h2
 exact .inr ⟨rfl,h2⟩
theorem lp{L:List l9}{l:l9}(h:Pc L l):OC (L++[l]) L.length/\(L++[l]).getD L.length n6=l:=by
 have e:(L++[l]).getD L.length n6=l:=by
  rw[ZZ,ZG (Zy _)];simp
 refine⟨⟨Z8,?_⟩,e⟩
 rw[List.take_left,e];exact h
theorem Ic{w:List Pg}{c5:List BL}{L r:List l9}{s:BL}(h:rC w c5 L s):rC w c5 (L++r) s:=
 h.imp id fun⟨k,h1,h2⟩=>⟨k,(lx h1).1,by rw[(lx h1).2];exact h2⟩
theorem zw{w:List Pg}{a:BL}{k:Int}(hk:k<=2)(h:(ae w a k).1≠3):ae w a k=ae w a 2:=by
 unfold ae at h ⊢
 by_cases hf:(A3 w a).2=false
 rw[if_pos hf,if_pos hf]
 rw[if_neg hf]at h ⊢
 rw[if_neg hf]
 split at h
 exact absurd rfl h
 rename_i c
 rw[if_neg c,if_neg (show ¬ (2:Int)<(A3 w a).1.l8 by omega)]
theorem ur{t:l5}{s:BL}{z:j9}(hz:z∈(aE t s).hs)(hk:z.kn=true):∃ y,y∈t.hs/\y.na=z.na/\y.kn=true/\y.gr=z.gr:=by
 have hz:z∈bg t.na t.hs t.se s:=hz
 unfold bg at hz
 split at hz
 have hin:∀ y,y∈aL t.hs (af s) t.na->y.kn=true->y∈t.hs:=fun y hy hk=>by
  unfold aL at hy
  split at hy
  exact hy
  rcases ZN.1 hy with hy | hy
  exact hy
  rw[ZP.1 hy]at hk;simp[cf]at hk
 rcases eB hz with e | e
 have E5:=aI (d:=e9) (ff t.hs (af s) t.na)
 generalize (aL t.hs (af s) t.na).getD (w9 t.hs (af s)) e9=y at *
 have q:z.kn=y.kn/\y.na=z.na/\y.gr=z.gr:=by
  subst e;unfold cL;split <;> exact⟨rfl,rfl,rfl⟩
 exact⟨y,hin y E5 (by rw[<- q.1];exact hk),q.2.1,by rw[<- q.1];exact hk,q.2.2⟩
 exact⟨z,hin z e hk,rfl,hk,rfl⟩
 exact⟨z,hz,rfl,hk,rfl⟩
theorem Iy{t:l5}{s:BL}{y:j9}{x:u0}(hy:y∈t.hs)(hx:x∈y.td):∃ z,z∈(aE t s).hs/\x∈z.td:=by
 show ∃ z,z∈bg t.na t.hs t.se s/\x∈z.td
 unfold bg
 split
 obtain⟨j,hj,e⟩:=Zu.1 (yq (d:=af s) (n:=t.na) hy)
 by_cases c:w9 t.hs (af s)=j
 refine⟨_,Zu.2 ⟨w9 t.hs (af s),by rw[List.length_set];exact ff ..,List.getElem_set_self ..⟩,?_⟩
 have e2:(aL t.hs (af s) t.na).getD (w9 t.hs (af s)) e9=y:=by
  rw[c,ZZ,ZR hj];exact e
 rw[e2]
 unfold cL
 split
 exact hx
 exact List.mem_append_left _ hx
 exact⟨y,Zu.2 ⟨j,by rw[List.length_set];exact hj,by rw[List.getElem_set_ne c];exact e⟩,hx⟩
 exact⟨y,hy,hx⟩
theorem EC{t:l5}{s:BL}(hr:ej t.se s):(∃ z,z∈(aE t s).hs/\∃ x,x∈z.td/\x.ad=s)\/∃ y,y∈t.hs/\y.kn=true/\y.na=af s/\bh y.gr.ru (pathOf s)=false:=by
 have e4:(aE t s).hs=(aL t.hs (af s) t.na).set (w9 t.hs (af s)) (cL ((aL t.hs (af s) t.na).getD (w9 t.hs (af s)) e9) s):=if_pos hr
 have hm:cL ((aL t.hs (af s) t.na).getD (w9 t.hs (af s)) e9) s∈(aE t s).hs:=by
  rw[e4]
  exact Zu.2 ⟨w9 t.hs (af s),by rw[List.length_set];exact ff ..,List.getElem_set_self ..⟩
 have E5:=aI (d:=e9) (ff t.hs (af s) t.na)
 have O1:=uF t.hs (af s) t.na
 generalize (aL t.hs (af s) t.na).getD (w9 t.hs (af s)) e9=y at *
 by_cases c:y.kn=true/\bh y.gr.ru (pathOf s)=false
 refine .inr ⟨y,?_,c.1,O1,c.2⟩
 unfold aL at E5
 split at E5
 exact E5
 rcases ZN.1 E5 with h | h
 exact h
 have:=c.1
 rw[ZP.1 h]at this;simp[cf]at this
 refine .inl ⟨_,hm,⟨s,0⟩,?_,rfl⟩
 unfold cL
 rw[if_neg c]
 exact List.mem_append_right _ (ZP.2 rfl)
variable {w:List Pg} {n:BL} {c5:List BL}
theorem CI.iL{l:List BL}{s:BL}{t:l5}(h:CI w c5 (s::l) t)(hs:rC w c5 t.lk s):CI w c5 l (aE t s):=by
 by_cases hr:ej t.se s
 case neg=>
  have e3:df t.se s=t.se:=if_neg hr
  have e4:bg t.na t.hs t.se s=t.hs:=if_neg hr
  have:aE t s=t:=by unfold aE;rw[e3,e4]
  rw[this]
  have key:t.se.length<60->∀ x,aD x=true->x∈t.se\/x∈s::l->x∈t.se\/x∈l:=fun hl x ha c=>by
   rcases c with c | c
   exact .inl c
   rcases List.mem_cons.1 c with e | c
   subst e
   exact .inl (Decidable.byContradiction fun q=>hr ⟨ha,hl,q⟩)
   exact .inr c
  exact⟨h.gr,h.kn,h.kd,h.sr,fun hl=>⟨fun x hx ha=>key hl x ha ((h.he hl).1 x hx ha),fun k hk x hx ha=>key hl x ha ((h.he hl).2 k hk x hx ha)⟩,h.di,h.ro⟩
 have e3:(aE t s).se=t.se++[s]:=if_pos hr
 have key:(t.se++[s]).length<60->t.se.length<60:=fun h=>by rw[ZW,Zv]at h;omega
 have Ur:∀ x,x∈t.se\/x∈s::l->x∈t.se++[s]\/x∈l:=fun x c=>by
  rcases c with c | c
  exact .inl (List.mem_append_left _ c)
  rcases List.mem_cons.1 c with e | c
  exact .inl (List.mem_append_right _ (ZP.2 e))
  exact .inr c
 refine⟨fun z hz hk=>?_,fun z hz hk=>?_,h.kd,fun x hx=>?_,fun hl=>?_,fun x hx=>?_,h.ro⟩
 obtain⟨y,y1,y2,y3,y4⟩:=ur hz hk
 rw[<- y4,<- y2];exact h.gr y y1 y3
 obtain⟨y,y1,y2,y3,y4⟩:=ur hz hk
 rw[<- y2];exact h.kn y y1 y3
 rw[e3]at hx
 rcases ZN.1 hx with hx | hx
 exact h.sr x hx
 rw[ZP.1 hx];exact hs
 rw[e3]at hl ⊢
 exact⟨fun x hx ha=>Ur x ((h.he (key hl)).1 x hx ha),fun k hk x hx ha=>Ur x ((h.he (key hl)).2 k hk x hx ha)⟩
 rw[e3]at hx
 rcases ZN.1 hx with hx | hx
 rcases h.di x hx with ⟨y,y1,q,q1,q2⟩ | c
 obtain⟨z,z1,z2⟩:=Iy (s:=s) y1 q1
 exact .inl ⟨z,z1,q,z2,q2⟩
 exact .inr c
 rw[ZP.1 hx]
 rcases EC hr with c | ⟨y,y1,y2,y3,y4⟩
 exact .inl c
 rw[h.gr y y1 y2,y3]at y4
 exact .inr (.inl y4)
theorem CI.dO:∀ {l:List BL} {t:l5},CI w c5 l t->(∀ s,s∈l->rC w c5 t.lk s)->CI w c5 [] (l.foldl aE t)
 | [],_,h,_=>h
 | s::l,t,h,hs=>CI.dO (l:=l) (t:=aE t s) (h.iL (hs s Z8)) fun x hx=>hs x (List.mem_cons_of_mem _ hx)
theorem zh{L:List l9}{l:l9}{d:BL}(h:cD L d=true):cD (L++[l]) d=true:=by
 unfold cD at *
 rw[List.any_append,h,Bool.true_or]
theorem CI.call{Ny:List BL} {t:l5} {i:Nat} {y':j9} {l:l9} {a7:Int} (h:CI w c5 [] t) (hi:i<t.hs.length)
 (hg:y'.kn=true->y'.gr=cw w t.na y'.na/\(cD (t.lk++[l]) y'.na=true\/3<=(cls (t.lk++[l]) y'.na).length)) (hk:l.ki≠3->(ae w l.ad 2).1=l.ki) (hp:Pc t.lk l->l.ad∈t.se/\∀ x,x∈eJ w l.ad->x∈Ny)
 (ht:∀ x,x∈(t.hs.getD i e9).td->(∃ x',x'∈y'.td/\x'.ad=x.ad)\/bh (cw w t.na (af x.ad)).ru (pathOf x.ad)=false\/(Pc t.lk l/\l.ad=x.ad)\/(ae w x.ad 2).1=3):
 CI w c5 Ny ⟨t.na,a7,t.hs.set i y',t.se,t.lk++[l]⟩:=by
 refine⟨fun z hz NB=>?_,fun z hz NB=>?_,fun q hq=>?_,fun s hs=>Ic (h.sr s hs),fun hl=>⟨fun s hs ha=>?_,fun k hk x hx ha=>?_⟩,fun s hs=>?_,fun k hk=>?_⟩
 rcases eB hz with e | e
 subst e;exact(hg NB).1
 exact h.gr z e NB
 rcases eB hz with e | e
 subst e;exact(hg NB).2
 rcases h.kn z e NB with c | c
 exact .inl (zh c)
 refine .inr ?_
 show 3<=(cls (t.lk++[l]) z.na).length
 rw[eP,ZW];omega
 rcases ZN.1 hq with hq | hq
 exact h.kd q hq
 rw[ZP.1 hq];exact hk
 rcases (h.he hl).1 s hs ha with c | c
 exact .inl c
 simp at c
 have hx:x∈eJ w ((t.lk++[l]).getD k n6).ad:=hx
 rcases zH hk with c | ⟨c1,c2⟩
 rw[(lx c).2]at hx
 rcases (h.he hl).2 k c x hx ha with c | c
 exact .inl c
 simp at c
 rw[c1,(lp c2).2]at hx
 exact .inr ((hp c2).2 x hx)
 rcases h.di s hs with ⟨y,y1,x,x1,x2⟩ | c | ⟨k,k1,k2⟩ | c
 obtain⟨j,hj,e⟩:=Zu.1 y1
 by_cases c:i=j
 have e2:t.hs.getD i e9=y:=by
  rw[c,ZZ,ZR hj];exact e
 rw[e2]at ht
 subst x2
 rcases ht x x1 with ⟨x',c1,c2⟩ | c | ⟨c1,c2⟩ | c
 exact .inl ⟨y',Zu.2 ⟨i,by rw[List.length_set];exact hi,List.getElem_set_self ..⟩,x',c1,c2⟩
 exact .inr (.inl c)
 exact .inr (.inr (.inl ⟨_,(lp c1).1,by rw[(lp c1).2];exact c2⟩))
 exact .inr (.inr (.inr c))
 exact .inl ⟨y,Zu.2 ⟨j,by rw[List.length_set];exact hj,by rw[List.getElem_set_ne c];exact e⟩,x,x1,x2⟩
 exact .inr (.inl c)
 exact .inr (.inr (.inl ⟨k,(lx k1).1,by rw[(lx k1).2];exact k2⟩))
 exact .inr (.inr (.inr c))
 show rC w c5 ((t.lk++[l]).take k) ((t.lk++[l]).getD k n6).ad
 rcases zH hk with c | ⟨c1,c2⟩
 rw[(lx c).2,List.take_append_of_le_length (Nat.le_of_lt c.1)]
 exact h.ro k c
 rw[c1,(lp c2).2,List.take_left]
 exact h.sr _ (hp c2).1
theorem Kf{t:l5}(hw:av w=true)(hG:GI w n t)(hK:KI w t)(h:CI w c5 [] t)(hg:Mc t=true):CI w c5 [] (D' w t):=by
 have hx:=mj hg
 have hm:=aI (d:=e9) hx.1
 have hI:=hG.hi _ hm
 unfold D'
 split
 rename_i hk
 have TQ:=aI (d:=j8) (List.length_pos_iff.2 hx.2.1)
 have hi:=hI.it _ TQ
 have Qi:=h.kn _ hm hk
 have UZ:=h.gr _ hm hk
 have TG:∀ x,x∈(t.hs.getD (o5 t) e9).td->x=(t.hs.getD (o5 t) e9).td.getD 0 j8\/x∈(t.hs.getD (o5 t) e9).td.drop 1:=fun x hx=>by
  cases e:(t.hs.getD (o5 t) e9).td with
  | nil=>rw[e]at hx;simp at hx
  | cons a r=>
    rw[e]at hx
    rcases List.mem_cons.1 hx with c | c
    exact .inl c
    exact .inr c
 unfold Mn
 simp only
 generalize hl:(⟨z7 t,((t.hs.getD (o5 t) e9).td.getD 0 j8).ad,(ae w ((t.hs.getD (o5 t) e9).td.getD 0 j8).ad ((t.hs.getD (o5 t) e9).td.getD 0 j8).tr).1⟩:l9)=l
 have Oe:l.ad=((t.hs.getD (o5 t) e9).td.getD 0 j8).ad:=by rw[<- hl]
 have Pj:l.ki=(ae w ((t.hs.getD (o5 t) e9).td.getD 0 j8).ad ((t.hs.getD (o5 t) e9).td.getD 0 j8).tr).1:=by rw[<- hl]
 generalize (t.hs.getD (o5 t) e9).td.getD 0 j8=x0 at *
 have R7:l.ki≠3->ae w x0.ad x0.tr=ae w x0.ad 2:=fun c=>zw hi.2.2.2.2.1 (by rw[<- Pj];exact c)
 have Td:iS t.lk l=false:=by
  unfold iS
  rw[Oe,hi.2.1]
  rcases Qi with c | c
  rw[c];simp
  rw[show decide ((cls t.lk (t.hs.getD (o5 t) e9).na).length<3)=false from decide_eq_false Z9,Bool.and_false]
 have c1:∀ y' Ny,y'.kn=(t.hs.getD (o5 t) e9).kn->y'.na=(t.hs.getD (o5 t) e9).na->y'.gr=(t.hs.getD (o5 t) e9).gr->(Pc t.lk l->∀ x,x∈eJ w l.ad->x∈Ny)->
  (∀ x,x∈(t.hs.getD (o5 t) e9).td->(∃ x',x'∈y'.td/\x'.ad=x.ad)\/(Pc t.lk l/\l.ad=x.ad)\/(ae w x.ad 2).1=3)->CI w c5 Ny ⟨t.na,z7 t,t.hs.set (o5 t) y',t.se,t.lk++[l]⟩:=fun y' Ny e1 e2 e3 hp ht=>by
  refine h.call hx.1 (fun _=>⟨by rw[e2,e3];exact UZ,?_⟩) (fun c=>?_) (fun c=>⟨by rw[Oe];exact hi.2.2.1,hp c⟩) (fun x hx=>(ht x hx).imp id .inr)
  rw[e2]
  rcases Qi with c | c
  exact .inl (zh c)
  refine .inr ?_
  rw[eP,ZW];omega
  rw[Oe,Pj,R7 c]
 split
 rename_i c
 refine c1 _ [] rfl rfl rfl (fun q=>absurd (Pj.trans c.1) q.1) fun x hx=>.inl ?_
 rcases TG x hx with e | e
 exact⟨_,List.mem_append_right _ (ZP.2 rfl),by rw[e]⟩
 exact⟨x,List.mem_append_left _ e,rfl⟩
 rename_i c
 rw[if_pos hi.1]
 refine CI.dO (c1 _ _ rfl rfl rfl (fun q x hx=>?_) fun x hx=>?_) fun s hs=>?_
 rw[Oe]at hx
 unfold eJ at hx
 rw[if_pos ⟨hw,hi.1⟩,<- R7 q.1]at hx
 exact hx
 rcases TG x hx with e | e
 subst e
 by_cases q:l.ki=3
 refine .inr (.inr ?_)
 rw[Pj]at q
 have e2:x.tr=2:=by
  have: ¬ x.tr+1<3:=fun d=>c ⟨q,d⟩
  have:=hi.2.2.2.2.1
  omega
 rw[e2]at q;exact q
 exact .inr (.inl ⟨⟨q,Td⟩,Oe⟩)
 exact .inl ⟨x,e,rfl⟩
 have q:l.ki≠3:=fun q=>by
  rw[<- Pj,q]at hs
  simp[yi]at hs
 refine .inr ⟨_,(lp ⟨q,Td⟩).1,?_⟩
 rw[(lp ⟨q,Td⟩).2,Oe]
 unfold eJ
 rw[if_pos ⟨hw,hi.1⟩,<- R7 q]
 exact hs
 rename_i hk
 have hk:(t.hs.getD (o5 t) e9).kn=false:=by simpa using hk
 have OZ:=hI.un hk
 have Wy:=hK.un _ hm hk
 have hd:=kS hI.hn
 unfold QE
 show CI w c5 [] ⟨t.na,z7 t,t.hs.set (o5 t) (Nk w t.na (t.hs.getD (o5 t) e9) (z7 t)),t.se,t.lk++[(⟨z7 t,ai (t.hs.getD (o5 t) e9).na,(ae w (ai (t.hs.getD (o5 t) e9).na) (t.hs.getD (o5 t) e9).tr).1⟩:l9)]⟩
 generalize hl:(⟨z7 t,ai (t.hs.getD (o5 t) e9).na,(ae w (ai (t.hs.getD (o5 t) e9).na) (t.hs.getD (o5 t) e9).tr).1⟩:l9)=l
 have Oe:l.ad=ai (t.hs.getD (o5 t) e9).na:=by rw[<- hl]
 have Pj:l.ki=(ae w (ai (t.hs.getD (o5 t) e9).na) (t.hs.getD (o5 t) e9).tr).1:=by rw[<- hl]
 have ho:cD t.lk (t.hs.getD (o5 t) e9).na=false:=by
  unfold cD
  rw[List.any_eq_false]
  intro q hq
  simp only[ZX,Zp,Bool.not_eq_true',Bool.and_eq_false_iff,not_and]
  intro e
  obtain⟨a1,a2⟩:=Wy q hq e
  simp[a1,a2]
 have Td: ¬ Pc t.lk l:=fun c=>by
  have:=c.2
  unfold iS at this
  rw[Oe,hd,ho]at this
  simp only[beq_self_eq_true,Bool.not_false,Bool.true_and,decide_eq_false_iff_not]at this
  omega
 refine h.call hx.1 (fun q=>?_) (fun c=>?_) (fun c=>absurd c Td) (fun x hx=>?_)
 unfold Nk at q ⊢
 split at q
 rw[show (n8 w (t.hs.getD (o5 t) e9) (z7 t)).kn=(t.hs.getD (o5 t) e9).kn from rfl,hk]at q;cases q
 rename_i c
 rw[if_neg c]
 refine⟨rfl,?_⟩
 show cD (t.lk++[l]) (t.hs.getD (o5 t) e9).na=true\/3<=(cls (t.lk++[l]) (t.hs.getD (o5 t) e9).na).length
 by_cases q:l.ki=3
 refine .inr ?_
 rw[eP,if_pos (by rw[Oe,hd]),ZW,Zv]
 have: ¬ (t.hs.getD (o5 t) e9).tr+1<3:=fun d=>c ⟨Pj ▸ q,d⟩
 omega
 refine .inl ?_
 unfold cD
 rw[List.any_append,List.any_cons,List.any_nil,Bool.or_false,Oe,hd,decide_eq_false q]
 simp
 rw[Oe,Pj,zw OZ.2.1 (by rw[<- Pj];exact c)]
 unfold Nk
 split
 exact .inl ⟨x,hx,rfl⟩
 have hi:=hI.it x hx
 by_cases q:bh (cw w t.na (t.hs.getD (o5 t) e9).na).ru (pathOf x.ad)=true
 refine .inl ⟨x,List.mem_filter.2 ⟨hx,?_⟩,rfl⟩
 unfold M6
 rw[hi.1,q];rfl
 refine .inr (.inl ?_)
 rw[hi.2.1];simpa using q
theorem Dy(hw:av w=true):∀ (k:Nat) {t:l5},GI w n t->KI w t->CI w c5 [] t->CI w c5 [] (E8 w k t)
 | 0,_,_,_,h=>h
 | k+1,t,hG,hK,h=>by
   unfold E8
   split
   rename_i hg;exact Dy hw k (nH hG hg) (DD hG hK hg) (Kf hw hG hK h hg)
   exact h
theorem JD{t:l5}(h:aN n c5=some t):CI w c5 [] t:=by
 unfold aN at h
 split at h
 cases h
 exact CI.dO (t:=aS n) ⟨fun y hy=>by simp[aS]at hy,fun y hy=>by simp[aS]at hy,fun q hq=>by simp[aS]at hq,fun s hs=>by simp[aS]at hs,fun _=>⟨fun s hs _=>.inr hs,fun k hk=>by have:=hk.1;simp[aS]at this⟩,fun s hs=>by simp[aS]at hs,fun k hk=>by have:=hk.1;simp[aS]at this⟩ fun s hs=>.inl hs
 cases h
end
section
variable {w:List Pg} {n:BL} {c5:List BL}
theorem pO{t:l5}{a:BL}(h:a∈bK t):∃ k,OC t.lk k/\(t.lk.getD k n6).ad=a:=by
 unfold bK at h
 split at h
 obtain⟨k,h1,h2,h3⟩:=(uj _).1 h
 exact⟨k,⟨h1,h3⟩,h2⟩
 cases h
theorem uX{t:l5}{k:Nat}(ho:aQ t=true)(h:OC t.lk k):(t.lk.getD k n6).ad∈bK t:=by
 rw[show bK t=dy t.lk t.lk.length from if_pos ho]
 exact(uj _).2 ⟨k,h.1,rfl,h.2⟩
theorem KK{t:l5}{k:Nat}(hL:LI w t)(h:OC t.lk k):bh (cw w t.na (af (t.lk.getD k n6).ad)).ru (pathOf (t.lk.getD k n6).ad)=true/\(t.lk.getD k n6).ad∈t.se:=by
 rcases hL k h.1 with c | c
 have:=h.2.2;rw[c]at this;cases this
 exact c
theorem yI{t:l5}{a:BL}(hw:av w=true)(hn:bp n=true)(hG:GI w n t)(hL:LI w t)(h:a∈bK t):kU w n a=true/\a∈t.se:=by
 obtain⟨k,h1,rfl⟩:=pO h
 obtain⟨a1,a2⟩:=KK hL h1
 rw[hG.na]at a1
 exact⟨(yZ hw hn (hG.al k h1.1).rd).trans a1,a2⟩
theorem Hm{t:l5}{k:Nat}(hC:CI w c5 [] t)(h:OC t.lk k):(ae w (t.lk.getD k n6).ad 2).1≠3:=by
 have h2:=h.2.1
 rw[hC.kd _ (aI (d:=n6) h.1) h2];exact h2
theorem Je{t:l5}{a:BL}(hw:av w=true)(hn:bp n=true)(hz:∀ i,n7 (w.getD i m0))(hG:GI w n t)(hL:LI w t)(hC:CI w c5 [] t)(ho:aQ t=true)(hd:∀ y,y∈t.hs->y.td=[])(hm:t.se.length<60):a∈bK t↔Rc w n (· ∈c5) a:=by
 have rk:∀ k,OC t.lk k->SL w n (t.lk.getD k n6).ad:=fun k hk c=>by
  rcases c with c | c
  exact Hm hC hk c
  have:=(yI hw hn hG hL (uX ho hk)).1
  rw[c]at this;cases this
 constructor
 intro h
 obtain⟨k,h1,rfl⟩:=pO h
 clear h
 induction k using Nat.strongRecOn with
 | ind k ih=>
   rcases hC.ro k h1 with c | ⟨j,c1,c2⟩
   exact .QT c (hG.al k h1.1).rd (rk k h1)
   have hj:j<k:=by have:=c1.1;rw[List.length_take]at this;omega
   have e1:(t.lk.take k).getD j n6=t.lk.getD j n6:=by
    rw[ZZ,List.getElem?_take_of_lt hj,<- ZZ]
   have e2:(t.lk.take k).take j=t.lk.take j:=by rw[List.take_take,Nat.min_eq_left Z9]
   have XF:OC t.lk j:=⟨by have:=h1.1;omega,by have:=c1.2;rw[e1,e2]at this;exact this⟩
   rw[e1]at c2
   exact .step (ih j hj XF) c2 (rk k h1)
 have fin:∀ x,x∈t.se->SL w n x->x∈bK t:=fun x hx hr=>by
  rcases hC.di x hx with ⟨y,y1,q,q1,_⟩ | c | ⟨k,k1,k2⟩ | c
  rw[hd y y1]at q1;simp at q1
  rw[hG.na]at c
  exact absurd (.inr ((yZ hw hn (hG.se x hx)).trans c)) hr
  rw[<- k2];exact uX ho k1
  exact absurd (.inl c) hr
 intro h
 induction h with
 | QT h1 h2 h3=>
   rcases (hC.he hm).1 _ h1 h2 with c | c
   exact fin _ c h3
   simp at c
 | step _ h2 h3 ih=>
   obtain⟨k,k1,k2⟩:=pO ih
   rcases (hC.he hm).2 k k1 _ (by rw[k2];exact h2) (AK hw hz _ h2).1 with c | c
   exact fin _ c h3
   simp at c
def lC(y:j9):Nat:=(if y.kn=true then 0 else 1)+y.td.length
structure NI (t:l5):Prop where
 cnt:t.lk.length+(t.hs.map lC).sum=t.se.length+t.hs.length
 Vg:∀ y,y∈t.hs->y.kn=false->y.td≠[]
theorem Ib{l:List j9}{i:Nat}{a:j9}(hi:i<l.length):((l.set i a).map lC).sum+lC (l.getD i e9)=(l.map lC).sum+lC a:=by
 induction l generalizing i with
 | nil=>simp at hi
 | cons b l ih=>
   cases i with
   | zero=>simp;omega
   | succ i=>
     have:=ih (i:=i) (by simpa using hi)
     simp only[List.set_cons_succ,Zw,List.sum_cons,List.getD_cons_succ]at *
     omega
theorem NI.iL{t:l5}{s:BL}(h:NI t)(hk:∀ y,y∈t.hs->y.kn=false):NI (aE t s)/\∀ y,y∈(aE t s).hs->y.kn=false:=by
 have Qi:∀ y,y∈(aE t s).hs->y.kn=false:=fun y hy=>by
  cases e:y.kn with
  | false=>rfl
  | true=>
    obtain⟨y0,y1,_,y3,_⟩:=ur hy e
    rw[hk y0 y1]at y3;cases y3
 refine⟨?_,Qi⟩
 by_cases hr:ej t.se s
 case neg=>
  have e3:df t.se s=t.se:=if_neg hr
  have e4:bg t.na t.hs t.se s=t.hs:=if_neg hr
  have:aE t s=t:=by unfold aE;rw[e3,e4]
  rw[this];exact h
 have e3:(aE t s).se=t.se++[s]:=if_pos hr
 have e4:(aE t s).hs=(aL t.hs (af s) t.na).set (w9 t.hs (af s)) (cL ((aL t.hs (af s) t.na).getD (w9 t.hs (af s)) e9) s):=if_pos hr
 have hlt:=ff t.hs (af s) t.na
 have hin:(∀ y,y∈aL t.hs (af s) t.na->y.kn=false/\(y.td≠[]\/y=cf (af s) t.na))/\((aL t.hs (af s) t.na).map lC).sum+t.hs.length=(t.hs.map lC).sum+(aL t.hs (af s) t.na).length:=by
  unfold aL
  split
  exact⟨fun y hy=>⟨hk y hy,.inl (h.Vg y hy (hk y hy))⟩,rfl⟩
  refine⟨fun y hy=>?_,?_⟩
  rcases ZN.1 hy with hy | hy
  exact⟨hk y hy,.inl (h.Vg y hy (hk y hy))⟩
  exact⟨by rw[ZP.1 hy];rfl,.inr (ZP.1 hy)⟩
  simp only[Zz,List.sum_append,ZW,Zw,List.map_nil,List.sum_cons,List.sum_nil,Zv]
  simp[lC,cf];omega
 have E5:=(hin.1 _ (aI (d:=e9) hlt)).1
 have hp:=Ib (a:=cL ((aL t.hs (af s) t.na).getD (w9 t.hs (af s)) e9) s) hlt
 have e5:lC (cL ((aL t.hs (af s) t.na).getD (w9 t.hs (af s)) e9) s)=lC ((aL t.hs (af s) t.na).getD (w9 t.hs (af s)) e9)+1:=by
  unfold cL
  rw[if_neg (fun c=>by rw[E5]at c;cases c.1)]
  simp[lC];omega
 refine⟨?_,fun y hy _=>?_⟩
 have:=h.cnt
 have:=hin.2
 rw[e3,e4,List.length_set,ZW,Zv]
 show t.lk.length+_=_
 omega
 rw[e4]at hy
 obtain⟨j,hj,e⟩:=Zu.1 hy
 rw[List.length_set]at hj
 by_cases c:w9 t.hs (af s)=j
 subst c
 rw[List.getElem_set_self]at e
 rw[<- e]
 unfold cL
 rw[if_neg (fun c=>by rw[E5]at c;cases c.1)]
 simp
 rw[List.getElem_set_ne c]at e
 rcases (hin.1 y (by rw[<- e];exact List.getElem_mem _)).2 with q | q
 exact q
 exfalso
 unfold aL at hj e
 split at hj
 rename_i c2
 simp only[c2,if_true]at e
 have:=h.Vg y (by rw[<- e];exact List.getElem_mem _) (by rw[q];rfl)
 rw[q]at this;exact this rfl
 rename_i c2
 simp only[c2,if_false]at e
 have hle:w9 t.hs (af s)<=t.hs.length:=List.findIdx_le_length
 rw[ZW,Zv]at hj
 have Q5:j<t.hs.length:=Z9
 rw[List.getElem_append_left Q5]at e
 have:=h.Vg y (by rw[<- e];exact List.getElem_mem _) (by rw[q];rfl)
 rw[q]at this;exact this rfl
theorem NI.dO:∀ {l:List BL} {t:l5},NI t->(∀ y,y∈t.hs->y.kn=false)->NI (l.foldl aE t)
 | [],_,h,_=>h
 | s::l,t,h,hk=>NI.dO (l:=l) (t:=aE t s) (h.iL hk).1 (h.iL hk).2
end
section
variable {P:Program}
end
theorem GX{w:List Pg}{n:BL}{p:List BL}{m:Int}(hm:z8 m 0 400=true)(h:(aN n p).isSome=true/\(bZ w (oT (aN n p)) m).isSome=true):LI w (bJ w n p m):=by
 obtain⟨t,h1,_,h3⟩:=ni hm h
 rw[h3]
 exact Dq _ (nG h1) (CR h1) (IT h1)
theorem HW{w:List Pg}{n:BL}{p:List BL}{m:Int}(hm:z8 m 0 400=true)(h:(aN n p).isSome=true/\(bZ w (oT (aN n p)) m).isSome=true):aQ (bJ w n p m)=true/\bp n=true:=by
 obtain⟨t,h1,_,h3⟩:=ni hm h
 have hG:=(nj hm h).1
 have hO:OI (bJ w n p m):=by
  rw[h3]
  exact DA _ (nG (w:=w) h1) (CO h1)
 exact⟨Gq hG hO (by have:=oJ hG;omega),by rw[<- hG.na];exact hO.nm⟩
theorem Bq{l:List j9}{i:Nat}(h:i<l.length):(l.map cK).getD i false=cK (l.getD i e9):=by
 rw[ZZ,ZZ,List.getElem?_map,ZR h];rfl
def Ai(y:j9):o8 Tryz.prog:=.mk 61 [iu y.na y.re y.kn y.gr.na y.gr.ru y.gr.wa y.tr y.td] [] True (bV (cK y)) [] (by
 intro _
 refine aq (N:=7) (rs:=[.tmp 2]) Tryz.func61
  (.bx (fun g1=>.q 1<|.r 5 [.b7]<|.nil))
  (∀ g1:Nat,Z g1 7/\Q (bV (s7 (((y.td.map ag).length:Nat):Int) 0)) (bV (cK y))) ?_
 intro g1
 refine⟨rfl,?_⟩
 unfold Q
 rw[zI])
def zQ(l:List j9):o8 Tryz.prog:=.mk 89 [.sl false (l.map bY),.lit (.func (.func 61) #[] #[])] [] (l.length<=1000000) (iV (cS (l.map cK) true)) [] (by
 intro hl
 refine aq (N:=19) (rs:=[.tmp 4]) Tryz.func89
  (.q 1<|.q 3<|.loop (Nat) (fun (i:Nat)=>⟨[(0,.sl false (l.map bY)),(1,.lit (.func (.func 61) #[] #[])),(6,.sl false (l.map bY)),(7,iN l.length),(8,iN i)],[]⟩) (fun (i:Nat)=>i<=l.length/\∀ j,j<i->cK (l.getD j e9)=false) (fun (i:Nat)=>l.length-i) (fun (i:Nat)=>.q 1<|.br (.q 2<|.r 5 [iu ((l.getD i e9).na) ((l.getD i e9).re) ((l.getD i e9).kn) ((l.getD i e9).gr.na) ((l.getD i e9).gr.ru) ((l.getD i e9).gr.wa) ((l.getD i e9).tr) ((l.getD i e9).td)]<|.c (Ai (l.getD i e9)) []<|.br (.q 2<|.nil) (.q 2<|.nil)) (.q 1<|.nil)))
  ((fun v1:V=>((∃ h9:Nat,(h9<=l.length/\∀ j,j<h9->cK (l.getD j e9)=false)/\E v1/\E (.lit (.func (.func 61) #[] #[]))/\E v1/\Q (iN ((l.map bY).length)) (iN l.length)/\Q (iN 0) (iN h9)/\True)/\∀ i:Nat,(i<=l.length/\∀ j,j<i->cK (l.getD j e9)=false)->(fun v2:j9=>Br (s4 (i:Int) (l.length:Int)) (Ex (i:Int) (l.map bY) (iu (v2.na) (v2.re) (v2.kn) (v2.gr.na) (v2.gr.ru) (v2.gr.wa) (v2.tr) (v2.td))/\True/\(Ai v2).sm/\(True)/\Br (cK v2) (Q (iN i) (iV (cS (l.map cK) true))) (m6 ((i:Int)+1)/\∃ b9:Nat,(b9<=l.length/\∀ j,j<b9->cK (l.getD j e9)=false)/\(l.length-b9<l.length-i)/\E v1/\E (.lit (.func (.func 61) #[] #[]))/\E v1/\E (iN l.length)/\Q (iN (i+1)) (iN b9)/\True)) (Q (iV (-1)) (iV (cS (l.map cK) true)))) (l.getD i e9))) (.sl false (l.map bY))) ?_
 refine⟨⟨0,?_,rfl,rfl,rfl,Z4,rfl,trivial⟩,?_⟩
 simp
 rintro i ⟨h1,h2⟩
 refine bI (fun j7=>?_) fun j7=>?_
 refine⟨⟨Z9,aj (d:=e9) Z9⟩,trivial,rfl,trivial,?_⟩
 refine bI (fun l4=>?_) fun l4=>?_
 unfold Q
 rw[kT (i:=i) (by rw[ZM];omega) (by rw[Bq Z9];exact l4) (fun j hj=>by rw[Bq Z9];rw[h2 j hj];decide)]
 refine⟨Z9,?_⟩
 refine⟨i+1,?_,?_,rfl,rfl,rfl,rfl,rfl,trivial⟩
 exact⟨Z9,bE h2 l4⟩
 exact Z1
 unfold Q
 rw[kj (fun j hj=>by rw[ZM]at hj;rw[Bq hj];rw[h2 j Z9];decide)])
def zm(l:List j9):o8 Tryz.prog:=.mk 60 [.sl false (l.map bY),.lit (.func (.func 61) #[] #[])] [] (l.length<=1000000) (bV (l.any cK)) [] (by
 intro hl
 refine aq (N:=9) (rs:=[.tmp 4]) Tryz.func60
  (.q 1<|.q 2<|.c (zQ l) []<|.q 2<|.nil)
  ((zQ l).sm/\((l.length<=1000000))/\Q (bV (x6 (cS (l.map cK) true) 0)) (bV (l.any cK))) ?_
 refine⟨rfl,Z5,?_⟩
 unfold Q
 refine Zo bV ?_
 show decide (cS (l.map cK) true>=0)=_
 rw[show decide (cS (l.map cK) true>=0)=(l.map cK).contains true from kN _ _]
 rw[ZE];simp)
def DE(t:l5):o8 Tryz.prog:=.mk 29 [eN t.na t.a7 t.hs t.se t.lk] [] (t.hs.length<=1000000) (bV (!(t.hs.any cK))) [] (by
 intro hh
 refine aq (N:=7) (rs:=[.tmp 2]) Tryz.func29
  (.bx (fun g1=>.q 1<|.r 2 [.b7]<|.c (zm t.hs) []<|.q 2<|.nil))
  (∀ g1:Nat,Z g1 2/\(zm t.hs).sm/\((t.hs.length<=1000000))/\Q (bV (!(t.hs.any cK))) (bV (!(t.hs.any cK)))) ?_
 intro g1
 refine⟨rfl,rfl,Z5,?_⟩
 unfold Q
 rfl)
def lf(t:l5):o8 Tryz.prog:=.mk 12 [eN t.na t.a7 t.hs t.se t.lk] [] (D2 t) (bV (aQ t&&!(t.hs.any cK))) [] (by
 intro ht
 refine aq (N:=9) (rs:=[.tmp 2]) Tryz.func12
  (.bx (fun g1=>.q 1<|.r 1 [.b7]<|.c (fv t) []<|.r 2 [.b7]<|.cg (DE t)<|.q 2<|.nil))
  (∀ g1:Nat,Z g1 0/\(fv t).sm/\((D2 t))/\Gd ((aQ t)==true) (Z g1 0)/\Gd ((aQ t)==true) (((t.hs.length<=1000000))/\(DE t).sm)/\Pk (aQ t) ((aQ t)==true) true/\Q (bV ((aQ t)&&(!(t.hs.any cK)))) (bV (aQ t&&!(t.hs.any cK)))) ?_
 intro g1
 refine⟨rfl,rfl,ht,fun hG=>rfl,fun hG=>⟨by(try simp only[nb]at hG);have:=ht.h;omega,rfl⟩,⟨fun h=>by rw[h] <;> rfl,fun _=>rfl⟩,?_⟩
 unfold Q
 rfl)
def To(L:List l9)(d:BL):Value:=.agg #[.int .i64 (((cls L d).length:Nat):Int),.bool (cD L d)]
def G9(L:List l9):Nat->List (BL×Value)
 | 0=>[]
 | i+1=>dI (G9 L i) (af (L.getD i n6).ad) (To (L.take (i+1)) (af (L.getD i n6).ad))
theorem xk(L:List l9)(l:l9)(d:BL):cD (L++[l]) d=(cD L d||((af l.ad==d)&&!((l.ad==ai d)&&decide (l.ki=3)))):=by
 unfold cD
 rw[List.any_append]
 simp
theorem HX{L:List l9}{d:BL}(h:cls L d=[]):cD L d=false:=by
 unfold cD
 rw[List.any_eq_false]
 intro q hq
 have: ¬ af q.ad=d:=fun c=>by
  have:q.ti∈cls L d:=List.mem_map.2 ⟨q,List.mem_filter.2 ⟨hq,by rw[c];simp⟩,rfl⟩
  rw[h]at this;simp at this
 simp[this]
theorem Ca{L:List l9}(d:BL):∀ i,i<=L.length->bM (G9 L i) d=if cls (L.take i) d=[] then none else some (To (L.take i) d)
 | 0,_=>rfl
 | i+1,hi=>by
   rw[G9,rD,Ca d i Z9,zf Z9,eP]
   by_cases c:af (L.getD i n6).ad=d
   rw[if_pos c.symm,if_pos c,if_neg Z8,c]
   rw[if_neg (fun e=>c e.symm),if_neg c,List.append_nil]
   have e:To (L.take i++[L.getD i n6]) d=To (L.take i) d:=by
    unfold To
    rw[eP,if_neg c,List.append_nil,xk]
    rw[show (af (L.getD i n6).ad==d)=false from by simpa using c,Bool.false_and,Bool.or_false]
   rw[e]
theorem Iv{L:List l9}{i:Nat}(hi:i<=L.length)(d:BL):(∃ y,bM (G9 L i) d=some y/\(.agg [iN (cls (L.take i) d).length,bV (cD (L.take i) d)]:V).val? =some y)\/(bM (G9 L i) d=none/\∃ y,(.agg [iN (cls (L.take i) d).length,bV (cD (L.take i) d)]:V).val? =some y/\∀ w,(zeroValue 100).run Tryz.prog w=.ok y w):=by
 rw[Ca d i hi]
 by_cases c:cls (L.take i) d=[]
 rw[if_pos c,HX c,c]
 exact .inr ⟨rfl,_,rfl,fun w=>by kernel_rfl⟩
 rw[if_neg c]
 exact .inl ⟨_,rfl,rfl⟩
theorem Iw{L:List l9}{l:l9}(QG:ar l.ad=aA l.ad):(((l.ad==ai (oA (ar l.ad)).c9)&&(!(cD L (oA (ar l.ad)).c9)))&&s4 (((cls L (oA (ar l.ad)).c9).length:Nat):Int) 3)=iS L l:=by
 rw[QG]
 have e:s4 (((cls L (oA (aA l.ad)).c9).length:Nat):Int) 3=decide ((cls L (af l.ad)).length<3):=by
  unfold s4
  rw[ZE,Zq,Zq]
  show _↔(cls L (oA (aA l.ad)).c9).length<3
  omega
 rw[e];rfl
theorem uV{L:List l9}{i:Nat}(hi:i<L.length)(QG:ar (L.getD i n6).ad=aA (L.getD i n6).ad):dI (G9 L i) ((oA (ar ((L.getD i n6).ad))).c9) (.agg #[.int .i64 ((((cls (L.take i) (oA (ar (L.getD i n6).ad)).c9).length)+1:Nat):Int),.bool (((cD (L.take i) (oA (ar (L.getD i n6).ad)).c9)||(!(((L.getD i n6).ad)==(ai ((oA (ar ((L.getD i n6).ad))).c9)))))||(A7 ((L.getD i n6).ki) 3))])=G9 L (i+1):=by
 rw[QG]
 show dI (G9 L i) (af (L.getD i n6).ad) (.agg #[.int .i64 (((cls (L.take i) (af (L.getD i n6).ad)).length+1:Nat):Int),.bool ((cD (L.take i) (af (L.getD i n6).ad)||!((L.getD i n6).ad==ai (af (L.getD i n6).ad)))||A7 (L.getD i n6).ki 3)])=dI (G9 L i) (af (L.getD i n6).ad) (To (L.take (i+1)) (af (L.getD i n6).ad))
 unfold To
 rw[zf hi,eP,if_pos rfl,xk,ZW,Zv,beq_self_eq_true,Bool.true_and]
 have e:∀ o c:Bool,((o||!c)||A7 (L.getD i n6).ki 3)=(o||!(c&&decide ((L.getD i n6).ki=3))):=fun o c=>by
  have e2:A7 (L.getD i n6).ki 3=!decide ((L.getD i n6).ki=3):=by rw[ZE];simp[A7]
  rw[e2]
  cases o <;> cases c <;> simp
 rw[e]
theorem Lo{L:List l9}{i:Nat}{r:List BL}(h:r=dy L i)(c: ¬ (L.getD i n6).ki=3/\iS (L.take i) (L.getD i n6)=false)(d:r.contains (L.getD i n6).ad=false):r++[(L.getD i n6).ad]=dy L (i+1):=by
 rw[dy,<- h,if_pos ⟨c,fun q=>by rw[List.contains_iff_mem.2 q]at d;cases d⟩]
theorem Lg{L:List l9}{i:Nat}{r:List BL}(h:r=dy L i)(d:r.contains (L.getD i n6).ad=true):r=dy L (i+1):=by
 rw[dy,<- h,if_neg (fun q=>q.2 (List.contains_iff_mem.1 d))]
theorem KV{L:List l9}{i:Nat}{r:List BL}(h:r=dy L i)(c:(A7 (L.getD i n6).ki 3&&!iS (L.take i) (L.getD i n6))=false):r=dy L (i+1):=by
 have e2:A7 (L.getD i n6).ki 3=!decide ((L.getD i n6).ki=3):=by rw[ZE];simp[A7]
 rw[dy,<- h,if_neg (fun q=>by rw[e2,decide_eq_false q.1.1,q.1.2]at c;cases c)]
theorem IJ{t:l5}(h:aQ t=true):t.lk.length<=400:=by
 unfold aQ cP at h
 simp only[ZX,Zq]at h
 exact h.1.1.2.1
def xR(ls:List l9):o8 Tryz.prog:=.mk 28 [fV ls] [] ((ls.length<=400)/\(∀ x,x∈ls->x.ad.length<=1000/\m4 x.ad)/\(∀ i,i<ls.length->aD (ls.getD i n6).ad=true)) (ao (dy ls ls.length)) [] (by
 rintro⟨hl,ha,hk⟩
 refine aq (N:=89) (rs:=[.tmp 2]) Tryz.func28
  (.q 1<|.q 1<|.cu Vl (fun g12=>.q 1<|.q 3<|.h (.H2 3 1)<|.loop (Nat×(List BL)×Nat×Nat×Nat×Nat) (fun (i,r,gm,x1,x2,x3)=>⟨[(3,.own 1 (r.map sV) x1 x2 x3),(4,.om (G9 ls i) gm),(13,fV ls),(14,iN ls.length),(15,iN i)],[]⟩) (fun (i,r,gm,x1,x2,x3)=>i<=ls.length/\r=dy ls i) (fun (i,r,gm,x1,x2,x3)=>ls.length-i) (fun (i,r,gm,x1,x2,x3)=>.q 1<|.br (.r 2 [.agg [iV ((ls.getD i n6).ti),sV ((ls.getD i n6).ad),iV ((ls.getD i n6).ki)]]<|.al Fq (fun g6=>.st none<|.r 2 [.b7]<|.c (cI ((ls.getD i n6).ad)) []<|.q 3<|.al cY (fun g7=>.st none<|.q 1<|.q 2<|.br (.q 2<|.nil) (.r 3 [.b7]<|.cu (Xi 4 (G9 ls i) ((oA (ar ((ls.getD i n6).ad))).c9) (.agg [iN ((cls (ls.take i) (oA (ar (ls.getD i n6).ad)).c9).length),bV (cD (ls.take i) (oA (ar (ls.getD i n6).ad)).c9)])) (fun _=>.al Lb (fun g9=>.st none<|.dx 5 [0,1,2,3,4] [(1,⟨false,[],some [6],[32],[]⟩),(3,⟨false,[],some [7],[34],[]⟩)] []<|.q 1<|.r 1 [.b7]<|.q 1<|.r 1 [.b7]<|.c (fJ ((oA (ar ((ls.getD i n6).ad))).c9)) []<|.q 2<|.r 11 [.b7,.b7]<|.h (.o4 47 (bV (iS (ls.take i) (ls.getD i n6))))<|.q 1<|.r 7 [.b7]<|.sp ((A7 ((ls.getD i n6).ki) 3)&&(!(iS (ls.take i) (ls.getD i n6)))) (.h (.o4 54 (bV true))<|.q 1<|.gt<|.q 1<|.gt<|.q 1<|.gt<|.r 1 [.b7]<|.gt<|.cl (oU r ((ls.getD i n6).ad))<|.gt<|.q 2<|.br (.r 3 [.b7]<|.bs<|.ap (fun Se Rt Su=>.h (.o4 66 (.own 1 ((r++[(ls.getD i n6).ad]).map sV) Se Rt Su))<|.q 1<|.r 4 [.b7]<|.st none<|.r 12 [.b7,.b7]<|.st none<|.r 4 [.b7,.b7]<|.cu (TA 4 (G9 ls i) ((oA (ar ((ls.getD i n6).ad))).c9) (.agg #[.int .i64 ((((cls (ls.take i) (oA (ar (ls.getD i n6).ad)).c9).length)+1:Nat):Int),.bool (((cD (ls.take i) (oA (ar (ls.getD i n6).ad)).c9)||(!(((ls.getD i n6).ad)==(ai ((oA (ar ((ls.getD i n6).ad))).c9)))))||(A7 ((ls.getD i n6).ki) 3))])) (fun _=>.h (.o4 4 (.om (G9 ls (i+1)) gm))<|.q 2<|.nil))) (.r 4 [.b7]<|.st none<|.r 12 [.b7,.b7]<|.st none<|.r 4 [.b7,.b7]<|.cu (TA 4 (G9 ls i) ((oA (ar ((ls.getD i n6).ad))).c9) (.agg #[.int .i64 ((((cls (ls.take i) (oA (ar (ls.getD i n6).ad)).c9).length)+1:Nat):Int),.bool (((cD (ls.take i) (oA (ar (ls.getD i n6).ad)).c9)||(!(((ls.getD i n6).ad)==(ai ((oA (ar ((ls.getD i n6).ad))).c9)))))||(A7 ((ls.getD i n6).ki) 3))])) (fun _=>.h (.o4 4 (.om (G9 ls (i+1)) gm))<|.q 2<|.nil))) (.h (.o4 54 (bV false))<|.q 1<|.gf (.b7)<|.gf (.b7)<|.gf (.b7)<|.gf (bV false)<|.gf (bV false)<|.q 1<|.br (.nil) (.r 4 [.b7]<|.st none<|.r 12 [.b7,.b7]<|.st none<|.r 4 [.b7,.b7]<|.cu (TA 4 (G9 ls i) ((oA (ar ((ls.getD i n6).ad))).c9) (.agg #[.int .i64 ((((cls (ls.take i) (oA (ar (ls.getD i n6).ad)).c9).length)+1:Nat):Int),.bool (((cD (ls.take i) (oA (ar (ls.getD i n6).ad)).c9)||(!(((ls.getD i n6).ad)==(ai ((oA (ar ((ls.getD i n6).ad))).c9)))))||(A7 ((ls.getD i n6).ki) 3))])) (fun _=>.h (.o4 4 (.om (G9 ls (i+1)) gm))<|.q 2<|.nil))))))))) (.h (.fz 3)<|.h (.o4 3 (ao r))<|.q 2<|.nil))))
  (True/\∀ g12:Nat,(∃ x:Nat×(List BL)×Nat×Nat×Nat×Nat,match x with | (h9,MJ,Qv,PN,PM,PL)=>(h9<=ls.length/\MJ=dy ls h9)/\Q (.own 1 ([].map sV) 0 0 0) (.own 1 (MJ.map sV) PN PM PL)/\Q (.om [] g12) (.om (G9 ls h9) Qv)/\E (fV ls)/\Q (iN ((ls.map aX).length)) (iN ls.length)/\Q (iN 0) (iN h9)/\True)/\∀ x:Nat×(List BL)×Nat×Nat×Nat×Nat,match x with | (i,r,gm,x1,x2,x3)=>(i<=ls.length/\r=dy ls i)->(fun v1:l9=>(fun v5:r8=>(fun v11:BL=>(fun v2:Bool=>(fun v3:r8=>(fun v9:Int=>(fun v10:Bool=>(fun v4:V=>(fun v6:V=>(fun v7:Bool=>(fun v8:Int=>(fun v12:Bool=>(fun G0:V=>(fun Mi:Bool=>(fun M4:Bool=>(fun Nt:List V=>(fun Ow:V=>(fun NX:V=>Br (s4 (i:Int) (ls.length:Int)) (Ex (i:Int) (ls.map aX) (.agg [iV (v1.ti),sV (v1.ad),iV (v1.ki)])/\True/\∀ g6:Nat,Z g6 0/\Z g6 1/\(cI (v1.ad)).sm/\(((v1.ad).length<=1000000)/\(m4 (v1.ad)))/\∀ g7:Nat,Z g7 0/\Br (!((ar (v1.ad)).isSome)) (m6 ((i:Int)+1)/\∃ x:Nat×(List BL)×Nat×Nat×Nat×Nat,match x with | (b9,B5,Md,L7,L6,L5)=>(b9<=ls.length/\B5=dy ls b9)/\(ls.length-b9<ls.length-i)/\Q Ow (.own 1 (B5.map sV) L7 L6 L5)/\Q (.om (G9 ls i) gm) (.om (G9 ls b9) Md)/\E (fV ls)/\E (iN ls.length)/\Q (iN (i+1)) (iN b9)/\True) (Z g7 0/\(((gm:Nat)=gm/\(G9 ls i:List (BL×Value))=G9 ls i)/\(NX=sV (v5.c9))/\((∃ y,bM (G9 ls i) (v5.c9)=some y/\G0.val? =some y)\/(bM (G9 ls i) (v5.c9)=none/\∃ y,G0.val? =some y/\∀ w,(zeroValue 100).run Tryz.prog w=.ok y w)))/\∀ _:Unit,∀ g9:Nat,Z g9 0/\Z g6 1/\Z g7 0/\(fJ (v5.c9)).sm/\(((v5.c9).length<=4000000000000000000))/\Gd (((v1.ad)==v11)==true) (Z g9 1)/\Pk ((v1.ad)==v11) (((v1.ad)==v11)==true) true/\Gd ((((v1.ad)==v11)&&v12)==true) (Z g9 0)/\Pk (((v1.ad)==v11)&&v12) ((((v1.ad)==v11)&&v12)==true) true/\Q (bV ((((v1.ad)==v11)&&v12)&&(s4 v8 3))) (bV (iS (ls.take i) v1))/\Z g6 2/\Pk v10 (v10==true) true/\((v10&&M4)=true->((bV (v10&&M4):V)=bV true)/\(true=true)/\(true=true)/\(true=true)/\Z g6 1/\(true=true)/\(((1=1/\x1=x1/\x2=x2)/\0+((r.map sV).length)<=(r.map sV).length/\V.ay (r.map sV)=false/\aC 1 (r.map sV))/\True)/\(([.sl false (((r.map sV).drop 0).take ((r.map sV).length)),sV (v1.ad)]:List V)=[ao r,sV (v1.ad)])/\((r.length<=1000000))/\(true=true)/\Pk true true true/\Br (true&&(!(r.contains (v1.ad)))) (Z g6 1/\((1,1,x1,x2,x3,(r.map sV).length)=(1,1,x1,x2,x3,(r.map sV).length))/\(True)/\(V.ay Nt=false)/\(aC 1 Nt)/\(((r.map sV).length+Nt.length)*16<=140737488355328)/\∀ Se Rt Su:Nat,((.own 1 ((r.map sV)++Nt) Se Rt Su:V)=.own 1 ((r++[v1.ad]).map sV) Se Rt Su)/\Z g9 0/\m6 (v8+1)/\Z g9 0/\Z g9 1/\Pk (cD (ls.take i) v3.c9) true Mi/\Gd v7 (Z g6 2)/\Pk ((cD (ls.take i) v3.c9)||v2) true v7/\Z g9 1/\Z g7 0/\Z g9 0/\(((gm:Nat)=gm/\(G9 ls i:List (BL×Value))=G9 ls i)/\(NX=sV (v5.c9))/\v6.val? =some (.agg #[.int .i64 v9,.bool (((cD (ls.take i) v3.c9)||v2)||v10)]))/\∀ _:Unit,(v4=.om (G9 ls (i+1)) gm)/\m6 ((i:Int)+1)/\∃ x:Nat×(List BL)×Nat×Nat×Nat×Nat,match x with | (b9,B5,Md,L7,L6,L5)=>(b9<=ls.length/\B5=dy ls b9)/\(ls.length-b9<ls.length-i)/\Q (.own 1 ((r++[v1.ad]).map sV) Se Rt Su) (.own 1 (B5.map sV) L7 L6 L5)/\Q (.om (G9 ls (i+1)) gm) (.om (G9 ls b9) Md)/\E (fV ls)/\E (iN ls.length)/\Q (iN (i+1)) (iN b9)/\True) (Z g9 0/\m6 (v8+1)/\Z g9 0/\Z g9 1/\Pk (cD (ls.take i) v3.c9) true Mi/\Gd v7 (Z g6 2)/\Pk ((cD (ls.take i) v3.c9)||v2) true v7/\Z g9 1/\Z g7 0/\Z g9 0/\(((gm:Nat)=gm/\(G9 ls i:List (BL×Value))=G9 ls i)/\(NX=sV (v5.c9))/\v6.val? =some (.agg #[.int .i64 v9,.bool (((cD (ls.take i) v3.c9)||v2)||v10)]))/\∀ _:Unit,(v4=.om (G9 ls (i+1)) gm)/\m6 ((i:Int)+1)/\∃ x:Nat×(List BL)×Nat×Nat×Nat×Nat,match x with | (b9,B5,Md,L7,L6,L5)=>(b9<=ls.length/\B5=dy ls b9)/\(ls.length-b9<ls.length-i)/\Q Ow (.own 1 (B5.map sV) L7 L6 L5)/\Q (.om (G9 ls (i+1)) gm) (.om (G9 ls b9) Md)/\E (fV ls)/\E (iN ls.length)/\Q (iN (i+1)) (iN b9)/\True))/\((v10&&M4)=false->((bV (v10&&M4):V)=bV false)/\(false=false)/\(false=false)/\(false=false)/\(false=false)/\(false=false)/\Pk false false true/\Br (false&&false) (False) (Z g9 0/\m6 (v8+1)/\Z g9 0/\Z g9 1/\Pk (cD (ls.take i) v3.c9) true Mi/\Gd v7 (Z g6 2)/\Pk ((cD (ls.take i) v3.c9)||v2) true v7/\Z g9 1/\Z g7 0/\Z g9 0/\(((gm:Nat)=gm/\(G9 ls i:List (BL×Value))=G9 ls i)/\(NX=sV (v5.c9))/\v6.val? =some (.agg #[.int .i64 v9,.bool (((cD (ls.take i) v3.c9)||v2)||v10)]))/\∀ _:Unit,(v4=.om (G9 ls (i+1)) gm)/\m6 ((i:Int)+1)/\∃ x:Nat×(List BL)×Nat×Nat×Nat×Nat,match x with | (b9,B5,Md,L7,L6,L5)=>(b9<=ls.length/\B5=dy ls b9)/\(ls.length-b9<ls.length-i)/\Q Ow (.own 1 (B5.map sV) L7 L6 L5)/\Q (.om (G9 ls (i+1)) gm) (.om (G9 ls b9) Md)/\E (fV ls)/\E (iN ls.length)/\Q (iN (i+1)) (iN b9)/\True)))) (((.sl false (V.D5 (r.map sV)):V)=ao r)/\Q (ao r) (ao (dy ls ls.length)))) (sV (v5.c9):V)) (.own 1 (r.map sV) x1 x2 x3)) ([sV (v1.ad)]:List V)) (!(iS (ls.take i) v1))) ((cD (ls.take i) v3.c9)==false)) (.agg [iN ((cls (ls.take i) v3.c9).length),bV (cD (ls.take i) v3.c9)]:V)) (!(cD (ls.take i) v3.c9))) (((cls (ls.take i) v3.c9).length:Nat):Int)) (((cD (ls.take i) v3.c9)||v2)==false)) (.agg [iN (((cls (ls.take i) v3.c9).length)+1),bV (((cD (ls.take i) v3.c9)||v2)||v10)]:V)) (.om (dI (G9 ls i) (v5.c9) (.agg #[.int .i64 v9,.bool (((cD (ls.take i) v3.c9)||v2)||v10)])) gm:V)) (A7 (v1.ki) 3)) ((((cls (ls.take i) v3.c9).length)+1:Nat):Int)) (oA (ar v1.ad))) (!((v1.ad)==v11))) (ai (v5.c9))) (oA (ar (v1.ad)))) (ls.getD i n6)) ?_
 refine⟨trivial,?_⟩
 intro g12
 refine⟨⟨(0,[],g12,0,0,0),?_,rfl,Z4,rfl,Z4,rfl,trivial⟩,?_⟩
 exact⟨Z9,rfl⟩
 rintro⟨i,r,gm,x1,x2,x3⟩ ⟨h1,h2⟩
 have M9:r.length<=i:=by rw[h2];exact uH ..
 refine bI (fun j7=>?_) fun j7=>?_
 · refine⟨⟨Z9,aj (d:=n6) Z9⟩,trivial,?_⟩
   intro g6
   refine⟨rfl,?_⟩
   have Oe:=ha (ls.getD i n6) (aI (d:=n6) Z9)
   have XI:=hk i Z9
   have QG:ar (ls.getD i n6).ad=aA (ls.getD i n6).ad:=if_pos XI
   have TJ:=(lH (ls.getD i n6).ad).1
   have hcl:=Ko ls i (oA (ar (ls.getD i n6).ad)).c9
   refine⟨rfl,rfl,⟨by have:=Oe.1;omega,Oe.2⟩,?_⟩
   intro g7
   refine⟨rfl,?_⟩
   refine bI (fun l4=>?_) fun l4=>?_
   rw[QG,ma XI]at l4;cases l4
   · refine⟨rfl,⟨⟨rfl,rfl⟩,rfl,Iv Z9 (oA (ar (ls.getD i n6).ad)).c9⟩,?_⟩
     intro _
     intro g9
     refine⟨rfl,rfl,rfl,rfl,by rw[QG];omega,fun hG=>rfl,⟨fun h=>by rw[h] <;> rfl,fun _=>rfl⟩,fun hG=>rfl,⟨fun h=>by rw[h] <;> rfl,fun _=>rfl⟩,by unfold Q;exact Zo bV (Iw QG),rfl,⟨fun h=>by rw[h] <;> rfl,fun _=>rfl⟩,?_⟩
     refine⟨fun Mr=>?_,fun Mr=>?_⟩
     have ND:=Mr
     try simp only[nb]at ND
     refine⟨Zo bV Mr,rfl,rfl,rfl,rfl,rfl,⟨⟨⟨rfl,rfl,rfl⟩,Z8,ct (f:=sV) (fun _=>rfl) _,dU (f:=sV) (fun _=>rfl) _⟩,trivial⟩,by simp[ZL],Z9,rfl,⟨fun _=>rfl,fun _=>rfl⟩,?_⟩
     refine bI (fun m8=>?_) fun m8=>?_
     refine⟨rfl,rfl,trivial,rfl,by simp[aC,V.n,V.ns],Z0,?_⟩
     intro Se Rt Su
     refine⟨Zo (V.own 1 · Se Rt Su) Z8,rfl,Z9,rfl,rfl,⟨fun _=>rfl,fun h=>by rw[h] <;> rfl⟩,fun hG=>rfl,⟨fun _=>rfl,fun h=>by rw[h] <;> rfl⟩,rfl,rfl,rfl,⟨⟨rfl,rfl⟩,rfl,rfl⟩,?_⟩
     intro _
     refine⟨Zo (V.om · gm) (uV Z9 QG),Z9,?_⟩
     refine⟨(i+1,r++[(ls.getD i n6).ad],gm,Se,Rt,Su),?_,?_,rfl,rfl,rfl,rfl,rfl,trivial⟩
     exact⟨Z9,Lo h2 ND m8⟩
     exact Z1
     refine⟨rfl,Z9,rfl,rfl,⟨fun _=>rfl,fun h=>by rw[h] <;> rfl⟩,fun hG=>rfl,⟨fun _=>rfl,fun h=>by rw[h] <;> rfl⟩,rfl,rfl,rfl,⟨⟨rfl,rfl⟩,rfl,rfl⟩,?_⟩
     intro _
     refine⟨Zo (V.om · gm) (uV Z9 QG),Z9,?_⟩
     refine⟨(i+1,r,gm,x1,x2,x3),?_,?_,rfl,rfl,rfl,rfl,rfl,trivial⟩
     exact⟨Z9,Lg h2 m8⟩
     exact Z1
     · have ND:=Mr
       try simp only[nb]at ND
       refine⟨Zo bV Mr,rfl,rfl,rfl,rfl,rfl,⟨fun h=>by rw[h] <;> rfl,fun _=>rfl⟩,?_⟩
       refine bI (fun w7=>?_) fun w7=>?_
       · all_goals (first | exact absurd w7 Z6 | simp_all)
       refine⟨rfl,Z9,rfl,rfl,⟨fun _=>rfl,fun h=>by rw[h] <;> rfl⟩,fun hG=>rfl,⟨fun _=>rfl,fun h=>by rw[h] <;> rfl⟩,rfl,rfl,rfl,⟨⟨rfl,rfl⟩,rfl,rfl⟩,?_⟩
       intro _
       refine⟨Zo (V.om · gm) (uV Z9 QG),Z9,?_⟩
       refine⟨(i+1,r,gm,x1,x2,x3),?_,?_,rfl,rfl,rfl,rfl,rfl,trivial⟩
       exact⟨Z9,KV h2 Mr⟩
       exact Z1
 refine⟨Zo (V.sl false) (aM (fun _=>rfl) _),?_⟩
 unfold Q
 rw[h2,show i=ls.length from Z9])
def jk(t:l5):o8 Tryz.prog:=.mk 11 [eN t.na t.a7 t.hs t.se t.lk] [] (D2 t) (ao (bK t)) [] (by
 intro ht
 refine aq (N:=9) (rs:=[.tmp 2]) Tryz.func11
  (.bx (fun g1=>.q 1<|.r 1 [.b7]<|.c (fv t) []<|.q 1<|.br (.q 1<|.nil) (.r 2 [.b7]<|.c (xR t.lk) []<|.q 1<|.nil)))
  (∀ g1:Nat,Z g1 0/\(fv t).sm/\((D2 t))/\Br (!(aQ t)) (Q (.sl false []) (ao (bK t))) (Z g1 4/\(xR t.lk).sm/\((t.lk.length<=400)/\(∀ x,x∈t.lk->x.ad.length<=1000/\m4 x.ad)/\(∀ i,i<t.lk.length->aD (t.lk.getD i n6).ad=true))/\Q (ao (dy t.lk t.lk.length)) (ao (bK t)))) ?_
 intro g1
 refine⟨rfl,rfl,ht,?_⟩
 refine bI (fun j7=>?_) fun j7=>?_
 unfold Q
 rw[show bK t=[] from if_neg (by rw[j7];decide)]
 rfl
 refine⟨rfl,rfl,⟨IJ j7,ht.la,fun i hi=>Lk j7 hi⟩,?_⟩
 unfold Q
 rw[show bK t=dy t.lk t.lk.length from if_pos j7])
theorem sT{w:List Pg}{n:BL}{t:l5}(hG:GI w n t):(bK t).length<=360:=by
 have:=oJ hG
 unfold bK
 split
 have:=uH t.lk t.lk.length;omega
 simp
theorem Hz{w:List Pg}{n:BL}{p:List BL}{m:Int}(hm:z8 m 0 400=true)(h:(aN n p).isSome=true/\(bZ w (oT (aN n p)) m).isSome=true):CI w p [] (bJ w n p m):=by
 obtain⟨t,h1,h2,h3⟩:=ni hm h
 rw[h3]
 exact Dy h2 _ (nG h1) (CR h1) (JD h1)
theorem zy{w:List Pg}{n:BL}{p:List BL}{m:Int}(hm:z8 m 0 400=true)(hz:∀ i,n7 (w.getD i m0))(hn:n.length<=1000)(hl:p.length<=400)(ha:∀ x,x∈p->x.length<=1000/\m4 x):D2 (bJ w n p m):=by
 by_cases h:(aN n p).isSome=true/\(bZ w (oT (aN n p)) m).isSome=true
 exact JZ hm hz hn hl ha h
 have e:bZ w (oT (aN n p)) m=none:=by
  cases h1:aN n p with
  | none=>
    refine if_neg fun c=>?_
    have h2:=c.2
    rw[ZX]at h2
    exact absurd h2.2 Z6
  | some t=>
    rw[h1]at h
    cases h2:bZ w (oT (some t)) m with
    | none=>rfl
    | some u=>rw[h2]at h;exact absurd ⟨rfl,rfl⟩ h
 unfold bJ
 rw[e]
 exact⟨by simp[oT],by simp[oT],by simp[oT],by simp[oT],by simp[oT],by simp[oT],by simp[oT]⟩
theorem JO{n:BL}{p:List BL}(h:(aN n p).isSome=true):bp n=true/\p.length<=12:=by
 unfold aN at h
 split at h
 assumption
 cases h
theorem Ia{t:l5}(h:t.hs.any cK=false):∀ y,y∈t.hs->y.td=[]:=fun y hy=>by
 rw[List.any_eq_false]at h
 have:=h y hy
 rw[show cK y=decide (y.td≠[]) from rfl]at this
 simpa using this
theorem yX{w:List Pg}{n:BL}{p:List BL}{m:Int}{a:BL}(hm:z8 m 0 400=true)(h:(aN n p).isSome=true/\(bZ w (oT (aN n p)) m).isSome=true)(hz:∀ i,n7 (w.getD i m0))(hd:(bJ w n p m).hs.any cK=false)(hl:(bJ w n p m).se.length<60):a∈bK (bJ w n p m)↔Rc w n (· ∈p) a:=by
 obtain⟨hG,hW⟩:=nj hm h
 exact Je hW (JO h.1).1 hz hG (GX hm h) (Hz hm h) (HW hm h).1 (Ia hd) hl
theorem vJ{w:List Pg} {n:BL} {p q:List BL} {m:Int} (hpq:∀ x,x∈p->x∈q) (hm:z8 m 0 400=true) (h:(aN n p).isSome=true/\(bZ w (oT (aN n p)) m).isSome=true) (k:(aN n q).isSome=true/\(bZ w (oT (aN n q)) m).isSome=true) (hz:∀ i,n7 (w.getD i m0))
 (hd:(bJ w n p m).hs.any cK=false) (hl:(bJ w n p m).se.length<60) (kd:(bJ w n q m).hs.any cK=false) (kl:(bJ w n q m).se.length<60):∀ y,y∈bK (bJ w n p m)->y∈bK (bJ w n q m):=fun y hy=>
 (yX hm k hz kd kl).2 (HQ hpq ((yX hm h hz hd hl).1 hy))
theorem Hy{n:BL}{p:List BL}:(aN n p.reverse).isSome=(aN n p).isSome:=by
 unfold aN
 rw[List.length_reverse]
 split <;> rfl
theorem rev_succ{l:List BL}{k:Nat}(h:k<l.length):l.reverse.take (k+1)=l.reverse.take k++[l.getD ((l.length:Int)-1-k).toNat []]:=by
 rw[List.take_succ_eq_append_getElem (by simpa using h),List.getElem_reverse,ZZ,ZR Z9]
 simp only[Option.getD_some]
 congr 3
 omega
theorem yH(b:BL)(ea:Addr)(hb:b.length<=9223372036854775807):PF Tryz.prog 4 [gK b] [(9000,(0,.lit (.iface 251 (.pointer (some ea)))))] (fun r h=>r=(bV true)/\h=[(9000,(0,.lit (.iface 251 (.pointer (some ea)))))]):=by
 refine aq (N:=112) (rs:=[.tmp 2]) Tryz.func4
  (.q 1<|.q 3<|.br (.q 1<|.nil) (.q 1<|.cx (lN b) [] (fun (j6:List Pg×BL×List BL)=>.q 7<|.q 3<|.c (oo j6.1 j6.2.1 j6.2.2 (400:Int) ea) [(9000,9000)]<|.mv<|.mv<|.q 1<|.al fP (fun g6=>.h (.fz 28)<|.h (.o4 28 (eN ((bJ j6.1 j6.2.1 j6.2.2 400).na) ((bJ j6.1 j6.2.1 j6.2.2 400).a7) ((bJ j6.1 j6.2.1 j6.2.2 400).hs) ((bJ j6.1 j6.2.1 j6.2.2 400).se) ((bJ j6.1 j6.2.1 j6.2.2 400).lk)))<|.st none<|.q 1<|.bs<|.q 1<|.q 4<|.h (.H2 8 1)<|.loop (Nat×(List BL)×Nat×Nat×Nat) (fun (k,ms,x1,x2,x3)=>⟨[(3,bQ j6.1),(4,sV j6.2.1),(5,ao j6.2.2),(6,.ptr (.key 6) [] g6 0),(7,bV ((aN j6.2.1 j6.2.2).isSome&&(bZ j6.1 (oT (aN j6.2.1 j6.2.2)) (400:Int)).isSome)),(8,.own 1 (ms.map sV) x1 x2 x3),(9,iV ((j6.2.2.length:Int)-1-k))],[(6,(g6,eN ((bJ j6.1 j6.2.1 j6.2.2 400).na) ((bJ j6.1 j6.2.1 j6.2.2 400).a7) ((bJ j6.1 j6.2.1 j6.2.2 400).hs) ((bJ j6.1 j6.2.1 j6.2.2 400).se) ((bJ j6.1 j6.2.1 j6.2.2 400).lk))),(9000,(0,.lit (.iface 251 (.pointer (some ea)))))]⟩) (fun (k,ms,x1,x2,x3)=>k<=j6.2.2.length/\ms=(j6.2.2.reverse).take k) (fun (k,ms,x1,x2,x3)=>j6.2.2.length-k) (fun (k,ms,x1,x2,x3)=>.q 2<|.br (.r 5 [sV (j6.2.2.getD (Int.toNat ((j6.2.2.length:Int)-1-k)) [])]<|.bs<|.ap (fun Sn RB SD=>.h (.o4 44 (.own 1 ((ms++[(j6.2.2.getD (Int.toNat ((j6.2.2.length:Int)-1-k)) [])]).map sV) Sn RB SD))<|.q 1<|.q 3<|.nil)) (.h (.fz 8)<|.h (.o4 8 (ao ms))<|.h (.o4 8 (ao (j6.2.2.reverse)))<|.q 3<|.c (oo j6.1 j6.2.1 (j6.2.2.reverse) (400:Int) ea) [(9000,9000)]<|.mv<|.mv<|.q 1<|.al fP (fun g10=>.h (.fz 50)<|.h (.o4 50 (eN ((bJ j6.1 j6.2.1 (j6.2.2.reverse) 400).na) ((bJ j6.1 j6.2.1 (j6.2.2.reverse) 400).a7) ((bJ j6.1 j6.2.1 (j6.2.2.reverse) 400).hs) ((bJ j6.1 j6.2.1 (j6.2.2.reverse) 400).se) ((bJ j6.1 j6.2.1 (j6.2.2.reverse) 400).lk)))<|.st none<|.q 1<|.q 4<|.c (oH j6.1 j6.2.1 j6.2.2) []<|.r 12 [.b7]<|.cg (lf (bJ j6.1 j6.2.1 j6.2.2 400))<|.r 4 [.b7]<|.cg (lf (bJ j6.1 j6.2.1 (j6.2.2.reverse) 400))<|.r 14 [.b7,.b7]<|.br (.q 4<|.c (oH j6.1 j6.2.1 j6.2.2) []<|.q 7<|.nil) (.r 1 [.b7]<|.c (jk (bJ j6.1 j6.2.1 j6.2.2 400)) []<|.q 1<|.r 1 [.b7]<|.c (jk (bJ j6.1 j6.2.1 (j6.2.2.reverse) 400)) []<|.q 1<|.q 2<|.c (lj (bK (bJ j6.1 j6.2.1 j6.2.2 400)) (bK (bJ j6.1 j6.2.1 (j6.2.2.reverse) 400))) []<|.q 1<|.gt<|.q 1<|.gt<|.q 1<|.gt<|.c (lj (bK (bJ j6.1 j6.2.1 (j6.2.2.reverse) 400)) (bK (bJ j6.1 j6.2.1 j6.2.2 400))) []<|.q 2<|.nil))))))))
  ((fun v1:V=>(Br (s7 (((b.map m7).length:Nat):Int) 1048576) (Q (bV true) (bV true)/\Er 0 v1) ((lN b).sm/\((b.length<=9223372036854775807))/\∀ j6:List Pg×BL×List BL,(1<=j6.1.length/\j6.1.length<=30/\(∀ y,y∈j6.1->n7 y)/\j6.2.1.length<=5/\bp j6.2.1=true/\j6.2.2.length<=4/\(∀ y,y∈j6.2.2->y.length<=30/\m4 y))->(fun v12:Option l5=>(fun Ow:Option l5=>(fun v7:Option l5=>(fun v9:Option l5=>(fun v2:Bool=>(fun v3:Bool=>(fun v4:l5=>(fun v5:Bool=>(fun v6:l5=>(fun v8:Bool=>(fun v10:Int=>(fun v11:Bool=>(fun G0:Bool=>(fun Mi:Bool=>(fun M4:Bool=>(fun Nt:Bool=>(oo j6.1 j6.2.1 j6.2.2 (400:Int) ea).sm/\Er 0 v1/\((j6.1.length<=30)/\(∀ i,n7 (j6.1.getD i m0))/\(j6.2.1.length<=1000)/\(j6.2.2.length<=400)/\(∀ x,x∈j6.2.2->x.length<=1000/\m4 x))/\∀ g6:Nat,((.agg [sV ((oT v7).na),iV ((oT v7).a7),.sl false (V.D5 (((oT v7).hs).map aw)),.sl false (V.D5 (((oT v7).se).map sV)),.sl false (V.D5 (((oT v7).lk).map aX))]:V)=eN (v4.na) (v4.a7) (v4.hs) (v4.se) (v4.lk))/\Z g6 0/\m6 ((((j6.2.2.map sV).length:Nat):Int)-1)/\(∃ x:Nat×(List BL)×Nat×Nat×Nat,match x with | (r9,RI,PN,PM,PL)=>(r9<=j6.2.2.length/\RI=(j6.2.2.reverse).take r9)/\E (bQ j6.1)/\E (sV j6.2.1)/\E (ao j6.2.2)/\E (.ptr (.key 6) [] g6 0)/\E (bV (v12.isSome&&v7.isSome))/\Q (.own 1 ([].map sV) 0 0 0) (.own 1 (RI.map sV) PN PM PL)/\Q (iV ((((j6.2.2.map sV).length:Nat):Int)-1)) (iV (v10-1-r9))/\Er g6 (eN (v4.na) (v4.a7) (v4.hs) (v4.se) (v4.lk))/\Er 0 v1/\True)/\∀ x:Nat×(List BL)×Nat×Nat×Nat,match x with | (k,ms,x1,x2,x3)=>(k<=j6.2.2.length/\ms=(j6.2.2.reverse).take k)->(fun NX:List V=>Br (x6 (v10-1-k) 0) (Ex (v10-1-k) (j6.2.2.map sV) (sV (j6.2.2.getD (Int.toNat (v10-1-k)) []))/\True/\((1,1,x1,x2,x3,(ms.map sV).length)=(1,1,x1,x2,x3,(ms.map sV).length))/\(True)/\(V.ay NX=false)/\(aC 1 NX)/\(((ms.map sV).length+NX.length)*16<=140737488355328)/\∀ Sn RB SD:Nat,((.own 1 ((ms.map sV)++NX) Sn RB SD:V)=.own 1 ((ms++[(j6.2.2.getD (Int.toNat (v10-1-k)) [])]).map sV) Sn RB SD)/\m6 ((v10-1-k)-1)/\∃ x:Nat×(List BL)×Nat×Nat×Nat,match x with | (k₂,RH,L7,L6,L5)=>(k₂<=j6.2.2.length/\RH=(j6.2.2.reverse).take k₂)/\(j6.2.2.length-k₂<j6.2.2.length-k)/\E (bQ j6.1)/\E (sV j6.2.1)/\E (ao j6.2.2)/\E (.ptr (.key 6) [] g6 0)/\E (bV (v12.isSome&&v7.isSome))/\Q (.own 1 ((ms++[(j6.2.2.getD (Int.toNat (v10-1-k)) [])]).map sV) Sn RB SD) (.own 1 (RH.map sV) L7 L6 L5)/\Q (iV ((v10-1-k)-1)) (iV (v10-1-k₂))/\Er g6 (eN (v4.na) (v4.a7) (v4.hs) (v4.se) (v4.lk))/\Er 0 v1/\True) (((.sl false (V.D5 (ms.map sV)):V)=ao ms)/\((ao ms:V)=ao (j6.2.2.reverse))/\(oo j6.1 j6.2.1 (j6.2.2.reverse) (400:Int) ea).sm/\Er 0 v1/\((j6.1.length<=30)/\(∀ i,n7 (j6.1.getD i m0))/\(j6.2.1.length<=1000)/\((j6.2.2.reverse).length<=400)/\(∀ x,x∈(j6.2.2.reverse)->x.length<=1000/\m4 x))/\∀ g10:Nat,((.agg [sV ((oT v9).na),iV ((oT v9).a7),.sl false (V.D5 (((oT v9).hs).map aw)),.sl false (V.D5 (((oT v9).se).map sV)),.sl false (V.D5 (((oT v9).lk).map aX))]:V)=eN (v6.na) (v6.a7) (v6.hs) (v6.se) (v6.lk))/\Z g10 0/\(oH j6.1 j6.2.1 j6.2.2).sm/\((j6.1.length<=30)/\(∀ i,n7 (j6.1.getD i m0))/\(j6.2.1.length<=1000)/\(j6.2.2.length<=400)/\(∀ x,x∈j6.2.2->x.length<=1000/\m4 x))/\Pk v3 true (v3==false)/\Pk (v3||v2) true ((v3||v2)==false)/\Gd M4 (Z g6 0)/\Gd M4 (((D2 v4))/\(lf v4).sm)/\Pk ((v3||v2)||v5) true M4/\Gd Mi (Z g10 0)/\Gd Mi (((D2 v6))/\(lf v6).sm)/\Pk (((v3||v2)||v5)||v8) true Mi/\Gd (((((v3||v2)||v5)||v8)||v11)==false) (Z g6 3)/\Pk ((((v3||v2)||v5)||v8)||v11) true (((((v3||v2)||v5)||v8)||v11)==false)/\Gd Nt (Z g10 3)/\Pk (((((v3||v2)||v5)||v8)||v11)||G0) true Nt/\Br ((((((v3||v2)||v5)||v8)||v11)||G0)||(x6 ((((v6.se).map sV).length:Nat):Int) 60)) ((oH j6.1 j6.2.1 j6.2.2).sm/\((j6.1.length<=30)/\(∀ i,n7 (j6.1.getD i m0))/\(j6.2.1.length<=1000)/\(j6.2.2.length<=400)/\(∀ x,x∈j6.2.2->x.length<=1000/\m4 x))/\Pk ((v12.isSome&&v7.isSome)==(v12.isSome&&av j6.1)) (((v12.isSome&&v7.isSome)==(v12.isSome&&av j6.1))==true) true/\Q (bV (((v12.isSome&&v7.isSome)==(v12.isSome&&av j6.1))&&((Ow.isSome&&v9.isSome)==(v12.isSome&&v7.isSome)))) (bV true)/\Er 0 v1) (Z g6 0/\(jk v4).sm/\((D2 v4))/\Z g10 0/\(jk v6).sm/\((D2 v6))/\(lj (bK v4) (bK v6)).sm/\(((bK v4).length<=1000000)/\((bK v6).length<=1000000)/\(∀ y,y∈(bK v4)->y∈(bK v6)))/\(true=true)/\(true=true)/\(true=true)/\(lj (bK v6) (bK v4)).sm/\(((bK v6).length<=1000000)/\((bK v4).length<=1000000)/\(∀ y,y∈(bK v6)->y∈(bK v4)))/\Pk true true true/\Q (bV (true||false)) (bV true)/\Er 0 v1))) ([sV (j6.2.2.getD (Int.toNat (v10-1-k)) [])]:List V)) ((((((v3||v2)||v5)||v8)||v11)||G0)==false)) (((v3||v2)||v5)==false)) ((((v3||v2)||v5)||v8)==false)) (x6 ((((v4.se).map sV).length:Nat):Int) 60)) (!(aQ v6&&!(v6.hs.any cK)))) (j6.2.2.length:Int)) (!(aQ v4&&!(v4.hs.any cK)))) (bJ j6.1 j6.2.1 (j6.2.2.reverse) 400)) (!(v12.isSome&&v7.isSome))) (bJ j6.1 j6.2.1 j6.2.2 400)) (!((v12.isSome&&v7.isSome)==(v12.isSome&&av j6.1)))) (!((Ow.isSome&&v9.isSome)==(v12.isSome&&v7.isSome)))) (bZ j6.1 (oT Ow) (400:Int))) (bZ j6.1 (oT v12) (400:Int))) (aN j6.2.1 (j6.2.2.reverse))) (aN j6.2.1 j6.2.2)))) (.lit (.iface 251 (.pointer (some ea))))) ?_
 refine bI (fun j7=>?_) fun j7=>?_
 refine⟨?_,rfl⟩
 unfold Q
 rfl
 refine⟨rfl,Z9,?_⟩
 intro j6 A8
 refine⟨rfl,rfl,⟨Z9,fun i=>mb A8.2.2.1 i,Z9,Z9,fun x hx=>⟨by have:=(A8.2.2.2.2.2.2 x hx).1;omega,(A8.2.2.2.2.2.2 x hx).2⟩⟩,?_⟩
 intro g6
 refine⟨by rw[nQ,aM (f:=sV) (fun _=>rfl),aM (f:=aX) (fun _=>rfl),Aj],rfl,Z2,?_⟩
 refine⟨⟨(0,[],0,0,0),?_,rfl,rfl,rfl,rfl,rfl,rfl,Z4,rfl,rfl,trivial⟩,?_⟩
 exact⟨Z9,rfl⟩
 rintro⟨k,ms,x1,x2,x3⟩ ⟨h1,h2⟩
 have Wr:ms.length=k:=by rw[h2,List.length_take,List.length_reverse];omega
 refine bI (fun l4=>?_) fun l4=>?_
 refine⟨⟨Z9,aj (d:=[]) Z9⟩,trivial,rfl,trivial,rfl,by simp[aC,V.n,V.ns],Z0,?_⟩
 intro Sn RB SD
 refine⟨Zo (V.own 1 · Sn RB SD) Z8,Z9,?_⟩
 refine⟨(k+1,ms++[(j6.2.2.getD (Int.toNat ((j6.2.2.length:Int)-1-k)) [])],Sn,RB,SD),?_,?_,rfl,rfl,rfl,rfl,rfl,rfl,by refine Zo iV ?_;(try simp only[ZM]);omega,rfl,rfl,trivial⟩
 exact⟨Z9,by rw[rev_succ Z9,h2]⟩
 exact Z1
 refine⟨Zo (V.sl false) (aM (fun _=>rfl) _),(by rw[h2,ZL Z0]),rfl,rfl,⟨Z9,fun i=>mb A8.2.2.1 i,Z9,by rw[List.length_reverse];omega,fun x hx=>⟨by have:=(A8.2.2.2.2.2.2 x (List.mem_reverse.1 hx)).1;omega,(A8.2.2.2.2.2.2 x (List.mem_reverse.1 hx)).2⟩⟩,?_⟩
 intro g10
 refine⟨by rw[nQ,aM (f:=sV) (fun _=>rfl),aM (f:=aX) (fun _=>rfl),Aj],rfl,?_⟩
 have VD:D2 (bJ j6.1 j6.2.1 j6.2.2 400):=zy rfl (fun i=>mb A8.2.2.1 i) Z9 Z9 (fun x hx=>⟨by have:=(A8.2.2.2.2.2.2 x hx).1;omega,(A8.2.2.2.2.2.2 x hx).2⟩)
 have VB:D2 (bJ j6.1 j6.2.1 (j6.2.2.reverse) 400):=zy rfl (fun i=>mb A8.2.2.1 i) Z9 (by rw[List.length_reverse];omega) (fun x hx=>⟨by have:=(A8.2.2.2.2.2.2 x (List.mem_reverse.1 hx)).1;omega,(A8.2.2.2.2.2.2 x (List.mem_reverse.1 hx)).2⟩)
 refine⟨rfl,⟨Z9,fun i=>mb A8.2.2.1 i,Z9,Z9,fun x hx=>⟨by have:=(A8.2.2.2.2.2.2 x hx).1;omega,(A8.2.2.2.2.2.2 x hx).2⟩⟩,⟨fun _=>rfl,fun h=>by rw[h] <;> rfl⟩,⟨fun _=>rfl,fun h=>by rw[h] <;> rfl⟩,fun hG=>rfl,fun hG=>⟨by(try simp only[nb]at hG);first | exact VD | exact VB,rfl⟩,⟨fun _=>rfl,fun h=>by rw[h] <;> rfl⟩,fun hG=>rfl,fun hG=>⟨by(try simp only[nb]at hG);first | exact VD | exact VB,rfl⟩,⟨fun _=>rfl,fun h=>by rw[h] <;> rfl⟩,fun hG=>rfl,⟨fun _=>rfl,fun h=>by rw[h] <;> rfl⟩,fun hG=>rfl,⟨fun _=>rfl,fun h=>by rw[h] <;> rfl⟩,?_⟩
 refine bI (fun m8=>?_) fun m8=>?_
 refine⟨rfl,⟨Z9,fun i=>mb A8.2.2.1 i,Z9,Z9,fun x hx=>⟨by have:=(A8.2.2.2.2.2.2 x hx).1;omega,(A8.2.2.2.2.2.2 x hx).2⟩⟩,⟨fun h=>by rw[h] <;> rfl,fun _=>rfl⟩,?_⟩
 refine⟨?_,rfl⟩
 unfold Q
 rw[pL rfl,pL rfl,Hy];simp
 have K1:=m8.1.1.1.1.2
 have hk:(aN j6.2.1 (j6.2.2.reverse)).isSome=true/\(bZ j6.1 (oT (aN j6.2.1 (j6.2.2.reverse))) 400).isSome=true:=by
  have:=m8.1.1.1.1.1.2
  rw[K1.1,K1.2]at this
  simpa using this
 have TU:=And.intro (vJ (fun x hx=>List.mem_reverse.2 hx) rfl K1 hk (fun i=>mb A8.2.2.1 i) m8.1.1.1.2.2 (by have:=m8.1.2;(try simp only[ZM]at this);omega) m8.1.1.2.2 (by have:=m8.2;(try simp only[ZM]at this);omega)) (vJ (fun x hx=>List.mem_reverse.1 hx) rfl hk K1 (fun i=>mb A8.2.2.1 i) m8.1.1.2.2 (by have:=m8.2;(try simp only[ZM]at this);omega) m8.1.1.1.2.2 (by have:=m8.1.2;(try simp only[ZM]at this);omega))
 have Oe:=sT (nj rfl K1).1
 have hlb:=sT (nj rfl hk).1
 refine⟨rfl,rfl,by first | exact VD | exact VB,rfl,rfl,by first | exact VD | exact VB,rfl,⟨Z9,Z9,by first | exact TU.1 | exact TU.2⟩,rfl,rfl,rfl,rfl,⟨Z9,Z9,by first | exact TU.1 | exact TU.2⟩,⟨fun _=>rfl,fun _=>rfl⟩,?_⟩
 refine⟨?_,rfl⟩
 unfold Q
 rfl
section
open Go Go.ChangeShapes Go.WideShapes Go.ChangeAt Go.RowKit
theorem own:ownKnob Tryz.prog.godebug=none:=Z7
theorem laidOut:laidOutB Tryz.prog=true:=Z7
theorem xo:Tryz.prog.globalNamed "loop.example/pedlar/impl.errNoCall" =some 0:=Z7
theorem As:(Tryz.prog.globals[0]?).map (·.type)=some 111:=Z7
theorem Gh: "*" ++ "errors.errorString" = "*errors.errorString" :=Z6
theorem LA(u:TypeId) (h:Tryz.prog.typeName? 3 u=some "*errors.errorString"):u=251:=
 typeName_ptr_named (nm:= "errors.errorString") (by rw[Gh];kernel_rfl) Z7 Z6 u (by rw[Gh];exact h)
theorem KY:Tryz.prog.cellsOf 274=1:=Z7
theorem Lf:Tryz.prog.cellsOf 9=1:=Z7
set_option maxRecDepth 100000 in
theorem fnGoSwap_lifted(os:Os)(started:os.Started)(H:Type)(enc:TypeId×Value->H):
 ReturnsInHanded {} Tryz.checked os 4 .any (fun w args=>(Rows.fnGoSwapSpec.pre enc Tryz.prog Tryz.f4 [] false w args/\laidMetH Tryz.prog Rows.fnGoSwapRow.laid w)/\sizedMet enc Tryz.prog Tryz.f4 (OpenSpec.ofChange Rows.fnGoSwapSpec) false w args)
  (Rows.fnGoSwapSpec.post enc Tryz.prog Tryz.f4 false true false false):=by
 refine returnsInHanded_of_change_and (C:=Tryz.checked) (X:=fun w _=>laidMetH Tryz.prog Rows.fnGoSwapRow.laid w) (fun _ _ _ hh h=>h.of_heap hh) own started Z7 Tryz.func4
  (ChangeSpec.witness_shaped (enc:=enc) (C:=Tryz.checked) (os:=os) (X:=fun w _=>laidMetH Tryz.prog Rows.fnGoSwapRow.laid w) false (World.laidAll Tryz.prog os Rows.fnGoSwapRow.laid) #[.slice none 0 0] 8 (World.laidAll_os _ _ _)
   (World.shaped_of_ZipB Z7 Z7) Z7 Z7 Z7
   (by rw[MakeChecks.laidMetH_plain _ _ _ Z7];exact laidMet_laidAll _ Z7 Z7)) ?_
 intro W base args ds gs before RY hW _ _ hL0 _
 have hL:laidMet Tryz.prog Rows.fnGoSwapRow.laid W:=by rw[<- MakeChecks.laidMetH_plain _ _ _ Z7];exact hL0
 have Mq:∀ (j:Nat) t v,Tryz.f4.params[j]? =some t->args[j]? =some v->Value.okWide Tryz.prog W .any base t v:=RY
 have hW':=hW
 obtain⟨p,q,XS,hV0,rfl,hfz,hnd⟩:=hW
 have hV:DataW.TrodVars enc Tryz.prog W (fun _=>true) ["loop.example/pedlar/impl.errNoCall"] gs q:=hV0
 have hA:DataW.TrodAll enc Tryz.prog W 0 (fun _=>true) true Tryz.f4.params.toList args.toList ds p:=XS
 rw[Tryz.params4]at hA Mq
 obtain⟨v0,d0,rfl,rfl,h0⟩:=trodAll_one hA
 obtain⟨ea,s0,V9,_,_,_⟩:=laid_sentinel hL.tail xo As (ms:=_) (tp:=251) (te:=274) (ts:=9) Tryz.underlying111 LA Tryz.underlying251 Tryz.underlying274 rfl rfl Tryz.underlying9 KY Lf
 obtain⟨bt,hbk⟩:=Bm hL.tail xo V9
 obtain⟨rfl,rfl⟩:=hV.unique (vars_read1 enc xo As Tryz.underlying111 V9 trivial _)
 obtain⟨a0,len0,cap0,rfl⟩:=okWide_slice Tryz.underlying22 (Mq 0 22 v0 rfl rfl)
 have lt0:∀ x∈p,x.block<W.heap.size:=by obtain⟨m,hm⟩:=h0;exact DataW.trod_lt m _ _ _ hm
 obtain⟨b,rfl,hb,hv⟩:=Ej Tryz.underlying22 Tryz.underlying5 Z7 h0
 clear XS RY
 refine(Aw yH hb hv hbk).mono fun e W' ⟨he,W2⟩=>?_
 subst he
 have V8:W'.var? Tryz.prog "loop.example/pedlar/impl.errNoCall" =some #[.iface 251 (.pointer (some ea))]:=by
  rw[<- V9];unfold World.var?;rw[xo,Option.bind_some,Option.bind_some,W2.block 0 (Zt.1 hbk).1]
 exact⟨_,rfl,_,_,_,[],p,[.cell 0 0],hW',trodAll_mk1 (shut_bool Tryz.underlying4 _),trodAll_mk1 (Below.trod laidOut Z7 (of_decide_eq_true Z7) h0 W2 lt0),vars_read1 enc xo As Tryz.underlying111 V8 trivial _,W2.frame _,fun h=>by cases h⟩
theorem fnGoSwap_row:Rows.FnGoSwapSaid:=
 OpenClaim.holds_of_wide 4 Tryz.f4 rfl rfl rfl rfl rfl rfl rfl ⟨rfl,rfl,rfl,rfl,rfl⟩ rfl rfl rfl rfl rfl Z7 Tryz.func4 Z7
  (of_decide_eq_true Z7) (by unfold Func.isWrapper;first | (rw[if_pos (by decide +kernel)];kernel_rfl) | (rw[if_neg (by decide +kernel)];exact⟨rfl,rfl⟩))
  (fun os started H enc _=>fnGoSwap_lifted os started H enc)
theorem fnGoSwap_holds:Rows.FnGoSwapCardSaid:=
 Claim7.holds_tied_plain_at .later [] [.data,.sentinel,.pinned] true (true, "bd0267698ac3c5cbc345b75f52a24bc9d52cde5e4d65ec983ffe5f04b7f2c726") true fnGoSwap_row (fun _ h=>by cases h) Z7 (fun _ h=>by cases h) fnGoSwap_row_tie rfl ⟨rfl,rfl⟩ Z7 rfl
  (fun f fn hf Td=>by
   obtain rfl:f=4:=Option.some.inj ((show Tryz.prog.funcNamed "loop.example/pedlar/laws.FnGoSwap" =some 4 by kernel_rfl).symm.trans hf) |>.symm
   obtain rfl:fn=Tryz.f4:=(Option.some.inj (Tryz.func4.symm.trans Td)).symm
   exact⟨Z7,fun j t ht=>by
    rw[Tryz.params4]at ht
    have hm:t∈[22]:=by simpa using Array.mem_of_getElem? ht
    have H8:([22].all fun u=>!Tryz.prog.wantsStandIn u)=true:=Z7
    exact(show Tryz.prog.wantsStandIn t=false by simpa using ZI.1 H8 t hm)⟩)
  Z7
end
end Go.Proofs.YtelggdgnblpjdaaGreatDoor