/-
  Words and walks for the laws of pedlar's seat: what each function of the program computes, and that it does; no conditions beyond those that each statement names.
-/
import Derived.Test.YtelggdgnblpjdaaGreatDoorGD
import Derived.Test.YtelggdgnblpjdaaGreatDoorGB
import Derived.WalkKit
import Derived.LaidEql
import Derived.Stop.Asserts
import Derived.RowKitTokens
import Derived.ProofKit
import Derived.OpenShut
import Derived.ChangeOld
import Derived.Below
import Derived.LaidMore
import Derived.Lay
import Derived.SevenTiedAt
import Derived.Stop.Joined
import Derived.Stop.LaidErr
set_option linter.unusedVariables false
set_option linter.unusedSimpArgs false
set_option linter.unnecessarySimpa false
set_option linter.unusedSectionVars false
namespace Go.Proofs.YtelggdgnblpjdaaGreatDoor
open Go Go.RowKit
set_option maxRecDepth 20000
theorem HL(s:BL):gU s 20<=20:=by
 have key:∀ (l:BL) (n:Int),n<=20->l.foldl (im 20) n<=20:=fun l=>by
  induction l with
  | nil=>exact fun n h=>h
  | cons c l ih=>exact fun n _=>ih _ (by unfold im;omega)
 unfold gU
 split
 exact key s 0 Z9
 omega
def lF(gs:List k9):Prop:= ∀ y,y∈gs->y.wa<=20
theorem lF.set{gs:List k9}{f:k9->k9}(h:lF gs)(hf:∀ z,gs.getLast? =some z->(f z).wa<=20):lF (dB gs f):=by
 by_cases hn:gs=[]
 subst hn;simp[dB,lF]
 obtain⟨⟨l,z⟩,rfl⟩:=lr hn
 rw[fA]
 intro y hy
 rcases ZN.1 hy with hy | hy
 exact h y (by simp[hy])
 rw[ZP.1 hy];exact hf z Z8
theorem HP{gs:List k9}{w d:BL}{b:Bool}(h:lF gs):lF (iF gs w d b).1:=by
 have hl:∀ z,gs.getLast? =some z->z.wa<=20:=fun z hz=>h z (List.mem_of_getLast? hz)
 unfold iF
 split
 split
 intro y hy
 rcases ZN.1 hy with hy | hy
 exact h y hy
 rw[ZP.1 hy];simp
 exact h.set fun z hz=>hl z hz
 split
 exact h
 split
 exact h.set fun z hz=>hl z hz
 split
 exact h.set fun z hz=>by have:=HL d;simp only;omega
 exact h
theorem Dw(t:BL):lF (cn t):=by
 have:∀ (l:List BL) (x:List k9×Bool),lF x.1->lF (l.foldl dT x).1:=by
  intro l
  induction l with
  | nil=>exact fun x h=>h
  | cons a l ih=>exact fun x h=>ih _ (HP h)
 exact this _ _ (by intro y hy;simp at hy)
theorem Gg(n:BL):∀ (gs:List k9) {x:(List s5×Nat)×Bool},x.1.2<=20->lF gs->(gs.foldl (cW n) x).1.2<=20
 | [],x,h,_=>h
 | g::gs,x,h,h2=>by
   refine Gg n gs ?_ (fun y hy=>h2 y (by simp[hy]))
   unfold cW
   split
   have:=h2 g Z8;simp only;omega
   exact h
theorem Ak{gs:List k9}(n:BL)(h:lF gs):(fD gs n).wa<=20:=by
 have key:∀ q,(Pt gs q).1.wa<=20:=fun q=>Gg q gs Z8 h
 unfold fD
 split <;> exact key _
theorem ql(k:Int)(t n:BL):(bL k t n).wa<=20:=by
 unfold bL
 split
 exact Ak n (Dw t)
 split
 simp
 exact Ak n (fun y hy=>by simp at hy)
def M6(ru:List s5)(x:u0):Bool:=aD x.ad&&bh ru (pathOf x.ad)
def Mz(y:j9)(s:BL):Bool:=aD s&&bh y.gr.ru (pathOf s)
def Ml(y:j9)(x:u0):Bool:=Mz y x.ad
def J2(y:j9)(l:List u0):Int:=if (l.findIdx fun x=>!(Mz y x.ad))<l.length then ((l.findIdx fun x=>!(Mz y x.ad):Nat):Int) else -1
def cw(w:List Pg)(n d:BL):k9:=⟨[n],(bL (ae w (ai d) 2).1 (ae w (ai d) 2).2 n).ru,(bL (ae w (ai d) 2).1 (ae w (ai d) 2).2 n).wa⟩
def n8(w:List Pg)(y:j9)(a7:Int):j9:=dG y a7 (ae w (ai y.na) y.tr).1 y.tr
def Nk(w:List Pg)(n:BL)(y:j9)(a7:Int):j9:=
 if (ae w (ai y.na) y.tr).1=3/\y.tr+1<3 then { n8 w y a7 with tr:=y.tr+1 }
 else { n8 w y a7 with kn:=true,gr:=cw w n y.na,re:=max (n8 w y a7).re (a7+((cw w n y.na).wa:Int)),td:=y.td.filter (M6 (cw w n y.na).ru) }
def C3(w:List Pg)(y:j9)(a7:Int):j9:=dG { y with td:=y.td.drop 1 } a7 (ae w (y.td.getD 0 j8).ad (y.td.getD 0 j8).tr).1 (y.td.getD 0 j8).tr
def QE(w:List Pg)(t:l5)(i:Nat):l5:=
 { t with hs:=t.hs.set i (Nk w t.na (t.hs.getD i e9) t.a7),lk:=t.lk++[⟨t.a7,ai (t.hs.getD i e9).na,(ae w (ai (t.hs.getD i e9).na) (t.hs.getD i e9).tr).1⟩] }
def Mn(w:List Pg)(t:l5)(i:Nat):l5:=
 let y:=t.hs.getD i e9
 let it:=y.td.getD 0 j8
 let g:=ae w it.ad it.tr
 let t1:l5:={ t with hs:=t.hs.set i (C3 w y t.a7),lk:=t.lk++[⟨t.a7,it.ad,g.1⟩] }
 if g.1=3/\it.tr+1<3 then { t1 with hs:=t.hs.set i { C3 w y t.a7 with td:=y.td.drop 1++[⟨it.ad,it.tr+1⟩] } }
 else if aD it.ad=true then (yi it.ad g.1 g.2).foldl aE t1 else t1
theorem nB(l:List BL):∀ t:l5,(l.foldl aE t).na=t.na/\(l.foldl aE t).a7=t.a7/\(l.foldl aE t).lk=t.lk:=by
 induction l with
 | nil=>exact fun t=>⟨rfl,rfl,rfl⟩
 | cons a l ih=>exact fun t=>ih (aE t a)
structure HS (m:Nat) (y:j9):Prop where
 n:y.na.length<=1000
 r:y.gr.ru.length<=1000
 rp:∀ i,(y.gr.ru.getD i ⟨false,[]⟩).path.length<=1000
 w:y.gr.wa<=1000
 t:y.td.length+60<=1000+m
 ta:∀ x,x∈y.td->x.ad.length<=1000/\m4 x.ad/\0<=x.tr/\x.tr<=1000
 k:0<=y.tr/\y.tr<=1000
theorem HS.mono{m k:Nat}{y:j9}(h:HS m y)(hm:m<=k):HS k y:=⟨h.n,h.r,h.rp,h.w,by have:=h.t;omega,h.ta,h.k⟩
structure TS (t:l5):Prop where
 s:t.se.length<=60
 h:t.hs.length+60<=1000+t.se.length
 sa:∀ x,x∈t.se->x.length<=1000/\m4 x
 ha:∀ y,y∈t.hs->HS t.se.length y
theorem HA{t:l5}{s:BL}(h:TS t)(hn:t.na.length<=1000)(hs:s.length<=1000)(hc:m4 s)(hd:(af s).length<=1000):TS (aE t s):=by
 have e1:(aE t s).se=df t.se s:=rfl
 have e2:(aE t s).hs=bg t.na t.hs t.se s:=rfl
 by_cases hr:ej t.se s
 have e3:df t.se s=t.se++[s]:=if_pos hr
 have e4:bg t.na t.hs t.se s=(aL t.hs (af s) t.na).set (w9 t.hs (af s)) (cL ((aL t.hs (af s) t.na).getD (w9 t.hs (af s)) e9) s):=if_pos hr
 have hl:(aL t.hs (af s) t.na).length<=t.hs.length+1:=rW _ _ _
 have hin:∀ y,y∈aL t.hs (af s) t.na->HS t.se.length y:=fun y hy=>by
  unfold aL at hy
  split at hy
  exact h.ha y hy
  rcases ZN.1 hy with hy | hy
  exact h.ha y hy
  rw[ZP.1 hy]
  exact⟨hd,by simp[cf],by simp[cf],by simp[cf],by show 0+60<=1000+t.se.length;omega,by simp[cf],by simp[cf]⟩
 have h2:=hr.2.1
 refine⟨by rw[e1,e3];simp;omega,?_,fun x hx=>?_,fun y hy=>?_⟩
 rw[e1,e2,e3,e4,List.length_set];have:=h.h;simp;omega
 rw[e1,e3]at hx
 rcases ZN.1 hx with hx | hx
 exact h.sa x hx
 rw[ZP.1 hx];exact⟨hs,hc⟩
 rw[e1,e3]
 rw[e2,e4]at hy
 have hm:(t.se++[s]).length=t.se.length+1:=Z8
 rw[hm]
 rcases eB hy with e | hy
 have hm:(aL t.hs (af s) t.na).getD (w9 t.hs (af s)) e9∈aL t.hs (af s) t.na:=by
  rw[ZZ,ZR (ff ..)];exact List.getElem_mem _
 have E5:=hin _ hm
 rw[e]
 unfold cL
 split
 exact E5.mono Z9
 refine⟨E5.n,E5.r,E5.rp,E5.w,?_,fun x hx=>?_,E5.k⟩
 show (_++[_]).length+60<=_
 have:=E5.t
 rw[ZW,Zv];omega
 rcases ZN.1 hx with hx | hx
 exact E5.ta x hx
 rw[ZP.1 hx];exact⟨hs,hc,Z8,Z8⟩
 exact(hin y hy).mono Z9
 have e3:df t.se s=t.se:=if_neg hr
 have e4:bg t.na t.hs t.se s=t.hs:=if_neg hr
 exact⟨by rw[e1,e3];exact h.s,by rw[e1,e2,e3,e4];exact h.h,by rw[e1,e3];exact h.sa,by rw[e1,e2,e3,e4];exact h.ha⟩
theorem qg:∀ (l:List BL) {t:l5},TS t->t.na.length<=1000->(∀ s,s∈l->s.length<=1000/\m4 s/\(af s).length<=1000)->TS (l.foldl aE t)
 | [],t,h,_,_=>h
 | a::l,t,h,hn,hl=>by
   have:=hl a Z8
   exact qg l (HA h hn this.1 this.2.1 this.2.2) hn (fun s hs=>hl s (by simp[hs]))
def fy(y:j9)(l:List u0):List u0:=l.filter (Ml y)++List.replicate (l.length-(l.filter (Ml y)).length) j8
theorem IM{y:j9}{s:BL}:(!((ar s).isSome)||!(bh y.gr.ru (if aG (oA (ar s))=true then bD (oA (ar s)) else [])))=!(Mz y s):=by
 unfold Mz
 rw[fQ]
 by_cases h:aD s=true
 have e:ar s=aA s:=if_pos h
 have hs:(aA s).isSome=true:=by have:=h;unfold aD at this;rw[ZX]at this;exact this.1
 rw[h,e,if_pos (jS hs)];rfl
 rw[Bool.not_eq_true]at h
 rw[h];rfl
section
variable {y:j9} {l u:List u0} {i w:Nat}
theorem Bo{p:u0->Bool}(hi:i<l.length)(e:p (l.getD i j8)=true)(h:∀ j,j<i->p (l.getD j j8)=false):l.findIdx p=i:=by
 rw[List.findIdx_eq hi]
 simp only[ZZ,ZR hi]at e
 refine⟨by simpa using e,fun j hj=>?_⟩
 have:=h j hj
 simp only[ZZ,ZR (show j<l.length by omega)]at this
 simpa using this
theorem Jb(hi:i<l.length)(e:Mz y (l.getD i j8).ad=false)(h:∀ j,j<i->Mz y (l.getD j j8).ad=true):J2 y l=i:=by
 unfold J2
 rw[Bo (p:=fun x=>!(Mz y x.ad)) hi (by simp only[e];rfl) (fun j hj=>by simp only[h j hj];rfl),if_pos hi]
theorem HG{p:u0->Bool}(h:∀ j,j<l.length->p (l.getD j j8)=false):l.findIdx p=l.length:=by
 rw[List.findIdx_eq_length]
 intro x hx
 obtain⟨j,hj,rfl⟩:=Zu.1 hx
 have:=h j hj
 simp only[ZZ,ZR hj]at this
 simpa using this
theorem Jq(h:∀ j,j<l.length->Mz y (l.getD j j8).ad=true):J2 y l= -1:=by
 unfold J2
 rw[HG (p:=fun x=>!(Mz y x.ad)) (fun j hj=>by simp only[h j hj];rfl),if_neg Z9]
theorem wA(y:j9)(l:List u0): -1<=J2 y l/\J2 y l<=l.length/\(J2 y l≠ -1->0<=J2 y l/\J2 y l<l.length):=by
 unfold J2;split <;> omega
theorem pQ(h:u.drop i=l.drop i):u.getD i j8=l.getD i j8:=by
 have:=Zo (fun r=>r[0]?) h
 simp only[List.getElem?_drop,Nat.add_zero]at this
 rw[ZZ,ZZ,this]
theorem Cl(h:J2 y l= -1):l.filter (Ml y)=l:=by
 unfold J2 at h
 split at h
 omega
 rename_i hn
 have he:(l.findIdx fun x=>!(Mz y x.ad))=l.length:=by
  have:(l.findIdx fun x=>!(Mz y x.ad))<=l.length:=List.findIdx_le_length
  omega
 rw[List.findIdx_eq_length]at he
 rw[List.filter_eq_self]
 intro x hx
 simpa[Ml] using he x hx
theorem Ls(h: ¬ J2 y l= -1):(J2 y l).toNat<(J2 y l).toNat+1/\(J2 y l).toNat+1<=l.length/\l.length=l.length/\l.take (J2 y l).toNat=(l.take ((J2 y l).toNat+1)).filter (Ml y)/\l.drop ((J2 y l).toNat+1)=l.drop ((J2 y l).toNat+1):=by
 obtain⟨b1,b2⟩:=(wA y l).2.2 h
 have hk:(J2 y l).toNat=l.findIdx fun x=>!(Mz y x.ad):=by
  unfold J2 at b1 b2 ⊢
  split
  exact Int.toNat_natCast _
  rename_i hn
  rw[if_neg hn]at b1;omega
 have hlt:(J2 y l).toNat<l.length:=Z9
 refine⟨Z9,Z9,rfl,?_,rfl⟩
 rw[List.take_succ_eq_append_getElem hlt,List.filter_append]
 have e1:(l.take (J2 y l).toNat).filter (Ml y)=l.take (J2 y l).toNat:=by
  rw[List.filter_eq_self]
  intro x hx
  obtain⟨j,hj,rfl⟩:=Zu.1 hx
  rw[List.length_take]at hj
  rw[List.getElem_take]
  have:=List.not_of_lt_findIdx (p:=fun x=>!(Mz y x.ad)) (xs:=l) (i:=j) Z9
  simpa[Ml] using this
 have e2:Ml y l[(J2 y l).toNat]=false:=by
  have:=List.findIdx_getElem (p:=fun x=>!(Mz y x.ad)) (xs:=l) (w:=by rw[<- hk];exact hlt)
  simp only[<- hk]at this
  simpa[Ml] using this
 rw[e1]
 simp[e2]
theorem JH(hi:i<l.length)(h1:w<i)(h3:u.length=l.length)(h4:u.take w=(l.take i).filter (Ml y))(h5:u.drop i=l.drop i)(hk:Mz y (u.getD i j8).ad=true):
 w+1<i+1/\i+1<=l.length/\(u.set w (⟨(u.getD i j8).ad,(u.getD i j8).tr⟩:u0)).length=l.length/\(u.set w (⟨(u.getD i j8).ad,(u.getD i j8).tr⟩:u0)).take (w+1)=(l.take (i+1)).filter (Ml y)/\
  (u.set w (⟨(u.getD i j8).ad,(u.getD i j8).tr⟩:u0)).drop (i+1)=l.drop (i+1):=by
 have e:=pQ h5
 have hw:w<u.length:=Z9
 refine⟨Z9,Z9,by simpa using h3,?_,?_⟩
 rw[List.take_succ_eq_append_getElem (by simpa using hw),List.getElem_set_self,List.take_set_of_le (Zy _),h4,List.take_succ_eq_append_getElem hi,List.filter_append]
 have e2:(⟨(u.getD i j8).ad,(u.getD i j8).tr⟩:u0)=l[i]:=by
  show u.getD i j8=l[i]
  rw[e,ZZ,ZR hi];rfl
 have e3:Ml y l[i]=true:=by rw[<- e2];exact hk
 rw[e2]
 simp[e3]
 rw[List.drop_set_of_lt Z9]
 have:=Zo (List.drop 1) h5
 simpa[List.drop_drop] using this
theorem IU(hi:i<l.length)(h1:w<i)(h3:u.length=l.length)(h4:u.take w=(l.take i).filter (Ml y))(h5:u.drop i=l.drop i)(hk:Mz y (u.getD i j8).ad=false):
 w<i+1/\i+1<=l.length/\u.length=l.length/\u.take w=(l.take (i+1)).filter (Ml y)/\u.drop (i+1)=l.drop (i+1):=by
 refine⟨Z9,Z9,h3,?_,?_⟩
 rw[h4,List.take_succ_eq_append_getElem hi,List.filter_append]
 have e3:Ml y l[i]=false:=by
  have:=pQ h5
  rw[ZZ (l:=l),ZR hi]at this
  show Mz y l[i].ad=false
  rw[<- hk,this];rfl
 simp[e3]
 have:=Zo (List.drop 1) h5
 simpa[List.drop_drop] using this
theorem Kv(hi:l.length<=i)(h1:w<i)(h2:i<=l.length)(h3:u.length=l.length)(h4:u.take w=(l.take i).filter (Ml y)):w=(l.filter (Ml y)).length:=by
 have:=Zo List.length h4
 rw[List.length_take,ZL hi]at this
 omega
theorem Kj(h:J2 y l= -1):fy y l=l:=by unfold fy;rw[Cl h];simp
theorem JL(hi:l.length<=i)(h1:w<i)(h2:i<=l.length)(h3:u.length=l.length)(h4:u.take w=(l.take i).filter (Ml y)):fy y l=u.take w++List.replicate (l.length-w) j8:=by
 unfold fy
 rw[<- Kv hi h1 h2 h3 h4,h4,ZL hi]
theorem IN(h3:u.length=l.length):(u.map ag).take w++List.replicate (l.length-w) (.agg [sV [],iN 0]:V)++(u.map ag).drop (w+(l.length-w))=(u.take w++List.replicate (l.length-w) j8).map ag:=by
 rw[ZC Z0,List.append_nil,Zz,List.map_take,List.map_replicate];rfl
theorem Lh:((l.map ag).drop 1).take (l.length-1)++(l.map ag).drop (l.length-1)=(l.drop 1++l.drop (l.length-1)).map ag:=by
 rw[Zz,List.map_drop,List.map_drop,ZL Z8]
theorem Jh(h:0<l.length):((l.drop 1++l.drop (l.length-1)).map ag).take (l.length-1)++List.replicate 1 (.agg [sV [],iN 0]:V)++((l.drop 1++l.drop (l.length-1)).map ag).drop (l.length-1+1)=(l.drop 1++[j8]).map ag:=by
 rw[show ((l.drop 1++l.drop (l.length-1)).map ag).drop (l.length-1+1)=[] from ZC Z0,List.append_nil,<- List.map_take,List.take_append_of_le_length Z8,ZL Z8,Zz];rfl
end
def qx(n:BL)(a7:Int)(zs:List j9)(se:List BL)(ls:List l9)(gt:Nat)(g:Nat)(o:Nat)(c:Nat)(ix:Nat)(y:j9)(ga:Nat)(oa:Nat)(ca:Nat)(l:List u0)(gb:Nat)(s:BL)(v:Int):o8 Tryz.prog:=.mk 123 [.agg [sV s,iV v],.ptr (.key 1002) [] gb 0] [(1002,(gb,.ptr (.key 1000) [2,ix] g (o+ix*8))),(1000,(gt,bc n a7 zs ix y.na y.re y.kn y.gr.na y.gr.ru y.gr.wa y.tr l ga oa ca g o c se ls))] ((ix<zs.length)/\(s.length<=1000)/\(m4 s)/\(y.gr.ru.length<=1000)/\(∀ i,(y.gr.ru.getD i ⟨false,[]⟩).path.length<=1000)) (bV (!(Mz y s))) [(1002,(gb,.ptr (.key 1000) [2,ix] g (o+ix*8))),(1000,(gt,bc n a7 zs ix y.na y.re y.kn y.gr.na y.gr.ru y.gr.wa y.tr l ga oa ca g o c se ls))] (by
 rintro⟨hi,hs,hc,hr,TK⟩
 refine aq (N:=25) (rs:=[.tmp 3]) Tryz.func123
  (.bx (fun g2=>.q 1<|.r 2 [.b7]<|.c (cI s) []<|.q 3<|.al cY (fun g4=>.st none<|.q 1<|.dx 13 [0,1,2,3,4,5,6,7,8,9,10,11,12] [(3,⟨false,[],some [1002],[15],[]⟩),(7,⟨false,[],some [1000],[19],[]⟩),(8,⟨false,[],some [4],[20],[]⟩)] []<|.q 1<|.q 1<|.q 1<|.r 1 [.b7]<|.q 1<|.q 1<|.q 1<|.r 1 [eh y.gr.ru]<|.r 1 [.b7]<|.cg (kM (oA (ar s)))<|.cg (kf y.gr.ru (if aG (oA (ar s))=true then bD (oA (ar s)) else []))<|.q 1<|.q 1<|.q 1<|.nil)))
  ((fun v1:Bool=>(fun v2:V=>(∀ g2:Nat,Z g2 0/\(cI s).sm/\((s.length<=1000000)/\(m4 s))/\∀ g4:Nat,Z g4 0/\Gd v1 (Z gb 0)/\Gd v1 (v1=true)/\Gd v1 True/\Gd v1 (v1=true)/\Gd v1 (v1=true)/\Gd v1 (v1=true)/\Gd v1 (V.at gt 0 v2 [2,ix,3,1]=some (g,(o+ix*8+3+1),eh y.gr.ru))/\Gd v1 (Z g4 0)/\Gd v1 (v1=true)/\Gd v1 (((cy (oA (ar s))))/\(kM (oA (ar s))).sm)/\Gd v1 (v1=true)/\Gd v1 (v1=true)/\Gd v1 (((y.gr.ru.length<=1000000)/\(∀ i,(y.gr.ru.getD i ⟨false,[]⟩).path.length<=1000000)/\((if aG (oA (ar s))=true then bD (oA (ar s)) else []).length<=1000000))/\(kf y.gr.ru (if aG (oA (ar s))=true then bD (oA (ar s)) else [])).sm)/\Gd v1 (v1=true)/\Pk (!((ar s).isSome)) true v1/\Q (bV ((!((ar s).isSome))||(!(bh y.gr.ru (if aG (oA (ar s))=true then bD (oA (ar s)) else []))))) (bV (!(Mz y s)))/\Er gb (.ptr (.key 1000) [2,ix] g (o+ix*8))/\Er gt v2)) (bc n a7 zs ix y.na y.re y.kn y.gr.na y.gr.ru y.gr.wa y.tr l ga oa ca g o c se ls)) ((!((ar s).isSome))==false)) ?_
 intro g2
 refine⟨rfl,rfl,⟨Z9,hc⟩,?_⟩
 intro g4
 refine⟨rfl,fun hG=>rfl,fun h=>h,fun hG=>trivial,fun h=>h,fun h=>h,fun h=>h,fun hG=>(aK (f:=2) rfl).trans (az (aB Z9) rfl),fun hG=>rfl,fun h=>h,fun hG=>⟨by(try simp only[nb]at hG);exact pC _,rfl⟩,fun h=>h,fun h=>h,fun hG=>⟨⟨by(try simp only[nb]at hG);omega,fun i=>by have:=TK i;omega,by(try simp only[nb]at hG);have:=(pC s).path;split <;> simp <;> omega⟩,rfl⟩,fun h=>h,⟨fun _=>rfl,fun h=>by rw[h] <;> rfl⟩,?_⟩
 refine⟨?_,rfl,rfl⟩
 unfold Q
 rw[IM])
def De(n:BL)(a7:Int)(zs:List j9)(se:List BL)(ls:List l9)(gt:Nat)(g:Nat)(o:Nat)(c:Nat)(ix:Nat)(y:j9)(ga:Nat)(oa:Nat)(ca:Nat)(l:List u0)(gb:Nat):o8 Tryz.prog:=.mk 149 [.hd (.key 1000) [2,ix,5] 2 ga oa 0 ((l.map ag).length) ca,.lit (.func (.func 123) #[] #[.pointer (some ⟨gb,0,none⟩)])] [(1002,(gb,.ptr (.key 1000) [2,ix] g (o+ix*8))),(1000,(gt,bc n a7 zs ix y.na y.re y.kn y.gr.na y.gr.ru y.gr.wa y.tr l ga oa ca g o c se ls))] ((ix<zs.length)/\(l.length<=1000)/\(∀ x,x∈l->x.ad.length<=1000/\m4 x.ad)/\(y.gr.ru.length<=1000)/\(∀ i,(y.gr.ru.getD i ⟨false,[]⟩).path.length<=1000)) (iV (J2 y l)) [(1002,(gb,.ptr (.key 1000) [2,ix] g (o+ix*8))),(1000,(gt,bc n a7 zs ix y.na y.re y.kn y.gr.na y.gr.ru y.gr.wa y.tr l ga oa ca g o c se ls))] (by
 rintro⟨hi,hl,hx,hr,TK⟩
 refine aq (N:=19) (rs:=[.tmp 4]) Tryz.func149
  (.q 1<|.q 3<|.loop (Nat) (fun (i:Nat)=>⟨[(0,.hd (.key 1000) [2,ix,5] 2 ga oa 0 ((l.map ag).length) ca),(1,.lit (.func (.func 123) #[] #[.pointer (some ⟨gb,0,none⟩)])),(7,iN l.length),(8,iN i)],[(1002,(gb,.ptr (.key 1000) [2,ix] g (o+ix*8))),(1000,(gt,bc n a7 zs ix y.na y.re y.kn y.gr.na y.gr.ru y.gr.wa y.tr l ga oa ca g o c se ls))]⟩) (fun (i:Nat)=>i<=l.length/\∀ j,j<i->Mz y (l.getD j j8).ad=true) (fun (i:Nat)=>l.length-i) (fun (i:Nat)=>.q 1<|.br (.q 2<|.r 5 [.agg [sV ((l.getD i j8).ad),iV ((l.getD i j8).tr)]]<|.c (qx n a7 zs se ls gt g o c ix y ga oa ca l gb ((l.getD i j8).ad) ((l.getD i j8).tr)) [(1002,1002),(1000,1000)]<|.br (.q 2<|.nil) (.q 2<|.nil)) (.q 1<|.nil)))
  ((fun v1:V=>(fun v2:V=>(fun v3:V=>((∃ h9:Nat,(h9<=l.length/\∀ j,j<h9->Mz y (l.getD j j8).ad=true)/\E (.hd (.key 1000) [2,ix,5] 2 ga oa 0 ((l.map ag).length) ca)/\E v3/\Q (iN ((l.map ag).length)) (iN l.length)/\Q (iN 0) (iN h9)/\Er gb v2/\Er gt v1/\True)/\∀ i:Nat,(i<=l.length/\∀ j,j<i->Mz y (l.getD j j8).ad=true)->Br (s4 (i:Int) (l.length:Int)) (In (i:Int) ((l.map ag).length)/\(V.at gt 0 v1 [2,ix,5,0+i]=some (ga,(oa+(0+i)*2),.agg [sV ((l.getD i j8).ad),iV ((l.getD i j8).tr)]))/\(qx n a7 zs se ls gt g o c ix y ga oa ca l gb ((l.getD i j8).ad) ((l.getD i j8).tr)).sm/\Er gb v2/\Er gt v1/\((ix<zs.length)/\(((l.getD i j8).ad).length<=1000)/\(m4 ((l.getD i j8).ad))/\(y.gr.ru.length<=1000)/\(∀ i,(y.gr.ru.getD i ⟨false,[]⟩).path.length<=1000))/\Br (!(Mz y ((l.getD i j8).ad))) (Q (iN i) (iV (J2 y l))/\Er gb v2/\Er gt v1) (m6 ((i:Int)+1)/\∃ b9:Nat,(b9<=l.length/\∀ j,j<b9->Mz y (l.getD j j8).ad=true)/\(l.length-b9<l.length-i)/\E (.hd (.key 1000) [2,ix,5] 2 ga oa 0 ((l.map ag).length) ca)/\E v3/\E (iN l.length)/\Q (iN (i+1)) (iN b9)/\Er gb v2/\Er gt v1/\True)) (Q (iV (-1)) (iV (J2 y l))/\Er gb v2/\Er gt v1))) (.lit (.func (.func 123) #[] #[.pointer (some ⟨gb,0,none⟩)]))) (.ptr (.key 1000) [2,ix] g (o+ix*8))) (bc n a7 zs ix y.na y.re y.kn y.gr.na y.gr.ru y.gr.wa y.tr l ga oa ca g o c se ls)) ?_
 refine⟨⟨0,?_,rfl,rfl,Z4,rfl,rfl,rfl,trivial⟩,?_⟩
 simp
 rintro i ⟨h1,h2⟩
 refine bI (fun j7=>?_) fun j7=>?_
 have MZ:=hx _ (aI (d:=j8) (show i<l.length by omega))
 refine⟨Z2,(aK (f:=2) rfl).trans (az (aB Z9) ((aK (f:=5) rfl).trans (az (by rw[ZO];exact aj (d:=j8) Z9) rfl))),rfl,rfl,rfl,⟨hi,MZ.1,MZ.2,hr,TK⟩,?_⟩
 refine bI (fun l4=>?_) fun l4=>?_
 refine⟨?_,rfl,rfl⟩
 unfold Q
 rw[Jb (i:=i) Z9 (by simpa using l4) h2]
 refine⟨Z9,?_⟩
 refine⟨i+1,?_,?_,rfl,rfl,rfl,rfl,rfl,rfl,trivial⟩
 exact⟨Z9,bE h2 (by simpa using l4)⟩
 exact Z1
 refine⟨?_,rfl,rfl⟩
 unfold Q
 rw[Jq (fun j hj=>h2 j Z9)])
abbrev pU(n:BL)(a7:Int)(zs:List j9)(se:List BL)(ls:List l9)(gt:Nat)(g:Nat)(o:Nat)(c:Nat)(ix:Nat)(y:j9)(ga:Nat)(oa:Nat)(ca:Nat)(l:List u0)(gb:Nat):V:=.hd (.key 1000) [2,ix,5] 2 ga oa 0 ((l.filter (Ml y)).length) ca
abbrev je(n:BL)(a7:Int)(zs:List j9)(se:List BL)(ls:List l9)(gt:Nat)(g:Nat)(o:Nat)(c:Nat)(ix:Nat)(y:j9)(ga:Nat)(oa:Nat)(ca:Nat)(l:List u0)(gb:Nat)(w:Nat)(i:Nat)(u:List u0):Prop:=w<i/\i<=l.length/\u.length=l.length/\u.take w=(l.take i).filter (Ml y)/\u.drop i=l.drop i
def Du(n:BL)(a7:Int)(zs:List j9)(se:List BL)(ls:List l9)(gt:Nat)(g:Nat)(o:Nat)(c:Nat)(ix:Nat)(y:j9)(ga:Nat)(oa:Nat)(ca:Nat)(l:List u0)(gb:Nat):o8 Tryz.prog:=.mk 122 [.hd (.key 1000) [2,ix,5] 2 ga oa 0 ((l.map ag).length) ca,.lit (.func (.func 123) #[] #[.pointer (some ⟨gb,0,none⟩)])] [(1002,(gb,.ptr (.key 1000) [2,ix] g (o+ix*8))),(1000,(gt,bc n a7 zs ix y.na y.re y.kn y.gr.na y.gr.ru y.gr.wa y.tr l ga oa ca g o c se ls))] ((ix<zs.length)/\(l.length<=1000)/\(∀ x,x∈l->x.ad.length<=1000/\m4 x.ad)/\(y.gr.ru.length<=1000)/\(∀ i,(y.gr.ru.getD i ⟨false,[]⟩).path.length<=1000)) (pU n a7 zs se ls gt g o c ix y ga oa ca l gb) [(1002,(gb,.ptr (.key 1000) [2,ix] g (o+ix*8))),(1000,(gt,bc n a7 zs ix y.na y.re y.kn y.gr.na y.gr.ru y.gr.wa y.tr (fy y l) ga oa ca g o c se ls))] (by
 rintro⟨hi,hl,hx,hr,TK⟩
 refine aq (N:=42) (rs:=[.tmp 4]) Tryz.func122
  (.q 1<|.q 2<|.c (De n a7 zs se ls gt g o c ix y ga oa ca l gb) [(1002,1002),(1000,1000)]<|.q 1<|.q 2<|.br (.q 2<|.nil) (.q 3<|.loop (Nat×Nat×(List u0)) (fun (w,i,u)=>⟨[(0,.hd (.key 1000) [2,ix,5] 2 ga oa 0 ((l.map ag).length) ca),(1,.lit (.func (.func 123) #[] #[.pointer (some ⟨gb,0,none⟩)])),(5,iN w),(6,iN i)],[(1002,(gb,.ptr (.key 1000) [2,ix] g (o+ix*8))),(1000,(gt,bc n a7 zs ix y.na y.re y.kn y.gr.na y.gr.ru y.gr.wa y.tr u ga oa ca g o c se ls))]⟩) (fun (w,i,u)=>je n a7 zs se ls gt g o c ix y ga oa ca l gb w i u) (fun (w,i,u)=>l.length-i) (fun (w,i,u)=>.q 4<|.br (.r 4 [.agg [sV ((u.getD i j8).ad),iV ((u.getD i j8).tr)]]<|.al og (fun g7=>.st none<|.r 2 [.b7]<|.c (qx n a7 zs se ls gt g o c ix y ga oa ca u gb ((u.getD i j8).ad) ((u.getD i j8).tr)) [(1002,1002),(1000,1000)]<|.q 1<|.br (.r 4 [.b7]<|.st (some (.agg [sV ((u.getD w j8).ad),iV ((u.getD w j8).tr)]))<|.h (.z6 1000 (bc n a7 zs ix y.na y.re y.kn y.gr.na y.gr.ru y.gr.wa y.tr (u.set w (⟨(u.getD i j8).ad,(u.getD i j8).tr⟩:u0)) ga oa ca g o c se ls))<|.q 3<|.q 3<|.nil) (.q 3<|.nil))) (.q 3<|.cu (X0 1000 [2,ix,5] w (l.length-w) 2 (u.map ag) ga oa ca g (o+(ix)*8+7) og) (fun _=>.h (.z6 1000 (bc n a7 zs ix y.na y.re y.kn y.gr.na y.gr.ru y.gr.wa y.tr (u.take w++List.replicate (l.length-w) j8) ga oa ca g o c se ls))<|.q 4<|.nil)))))
  ((fun v1:V=>(fun v2:V=>(fun v3:V=>(fun v4:V=>((De n a7 zs se ls gt g o c ix y ga oa ca l gb).sm/\Er gb v1/\Er gt v2/\((ix<zs.length)/\(l.length<=1000)/\(∀ x,x∈l->x.ad.length<=1000/\m4 x.ad)/\(y.gr.ru.length<=1000)/\(∀ i,(y.gr.ru.getD i ⟨false,[]⟩).path.length<=1000))/\Br (o6 (J2 y l) (-1)) (Q (.hd (.key 1000) [2,ix,5] 2 ga oa 0 ((l.map ag).length) ca) (pU n a7 zs se ls gt g o c ix y ga oa ca l gb)/\Er gb v1/\Qr gt v2 gt v4) (m6 ((J2 y l)+1)/\(∃ x:Nat×Nat×(List u0),match x with | (Uj,h9,G3)=>(je n a7 zs se ls gt g o c ix y ga oa ca l gb Uj h9 G3)/\E (.hd (.key 1000) [2,ix,5] 2 ga oa 0 ((l.map ag).length) ca)/\E v3/\Q (iV (J2 y l)) (iN Uj)/\Q (iV ((J2 y l)+1)) (iN h9)/\Er gb v1/\Qr gt v2 gt (bc n a7 zs ix y.na y.re y.kn y.gr.na y.gr.ru y.gr.wa y.tr G3 ga oa ca g o c se ls)/\True)/\∀ x:Nat×Nat×(List u0),match x with | (w,i,u)=>(je n a7 zs se ls gt g o c ix y ga oa ca l gb w i u)->(fun v5:V=>Br (s4 (i:Int) (((l.map ag).length:Nat):Int)) (In (i:Int) ((l.map ag).length)/\(V.at gt 0 v5 [2,ix,5,0+i]=some (ga,(oa+(0+i)*2),.agg [sV ((u.getD i j8).ad),iV ((u.getD i j8).tr)]))/\∀ g7:Nat,Z g7 0/\Z g7 0/\(qx n a7 zs se ls gt g o c ix y ga oa ca u gb ((u.getD i j8).ad) ((u.getD i j8).tr)).sm/\Er gb v1/\Er gt v5/\((ix<zs.length)/\(((u.getD i j8).ad).length<=1000)/\(m4 ((u.getD i j8).ad))/\(y.gr.ru.length<=1000)/\(∀ i,(y.gr.ru.getD i ⟨false,[]⟩).path.length<=1000))/\Br (!(!(Mz y ((u.getD i j8).ad)))) (Z g7 0/\In (w:Int) ((l.map ag).length)/\(V.at gt 0 v5 [2,ix,5,0+w]=some (ga,(oa+(0+w)*2),.agg [sV ((u.getD w j8).ad),iV ((u.getD w j8).tr)]))/\(V.set v5 [2,ix,5,0+w] (.agg [sV ((u.getD i j8).ad),iV ((u.getD i j8).tr)])=bc n a7 zs ix y.na y.re y.kn y.gr.na y.gr.ru y.gr.wa y.tr (u.set w (⟨(u.getD i j8).ad,(u.getD i j8).tr⟩:u0)) ga oa ca g o c se ls)/\m6 ((w:Int)+1)/\m6 ((i:Int)+1)/\∃ x:Nat×Nat×(List u0),match x with | (Oz,b9,A6)=>(je n a7 zs se ls gt g o c ix y ga oa ca l gb Oz b9 A6)/\(l.length-b9<l.length-i)/\E (.hd (.key 1000) [2,ix,5] 2 ga oa 0 ((l.map ag).length) ca)/\E v3/\Q (iN (w+1)) (iN Oz)/\Q (iN (i+1)) (iN b9)/\Er gb v1/\Qr gt (bc n a7 zs ix y.na y.re y.kn y.gr.na y.gr.ru y.gr.wa y.tr (u.set w (⟨(u.getD i j8).ad,(u.getD i j8).tr⟩:u0)) ga oa ca g o c se ls) gt (bc n a7 zs ix y.na y.re y.kn y.gr.na y.gr.ru y.gr.wa y.tr A6 ga oa ca g o c se ls)/\True) (m6 ((i:Int)+1)/\∃ x:Nat×Nat×(List u0),match x with | (Oz,b9,A6)=>(je n a7 zs se ls gt g o c ix y ga oa ca l gb Oz b9 A6)/\(l.length-b9<l.length-i)/\E (.hd (.key 1000) [2,ix,5] 2 ga oa 0 ((l.map ag).length) ca)/\E v3/\Q (iN w) (iN Oz)/\Q (iN (i+1)) (iN b9)/\Er gb v1/\Qr gt v5 gt (bc n a7 zs ix y.na y.re y.kn y.gr.na y.gr.ru y.gr.wa y.tr A6 ga oa ca g o c se ls)/\True)) (((0:Int)<=(w:Int)/\(w:Int)<=((l.map ag).length:Int)/\((l.map ag).length:Int)<=((l.map ag).length)/\2=2)/\((((115:Nat),(.key 1000:l6),([2,ix,5]:List Nat),2,ga,oa,(0+w),(((l.map ag).length)-w))=((115:Nat),(.key 1000:l6),([2,ix,5]:List Nat),2,ga,oa,w,(l.length-w)))/\(V.at gt 0 v5 [2,ix,5]=some (g,o+(ix)*8+7,.own 2 (u.map ag) ga oa ca))/\(w+(l.length-w)<=(u.map ag).length)/\(V.ay (u.map ag)=false)/\(aC 2 (u.map ag))/\((.agg [sV [],iN 0]:V).n=2))/\∀ _:Unit,(V.set v5 [2,ix,5] (.own 2 ((u.map ag).take w++List.replicate (l.length-w) (.agg [sV [],iN 0]:V)++(u.map ag).drop (w+(l.length-w))) ga oa ca)=bc n a7 zs ix y.na y.re y.kn y.gr.na y.gr.ru y.gr.wa y.tr (u.take w++List.replicate (l.length-w) j8) ga oa ca g o c se ls)/\((0:Int)<=(0:Int)/\(0:Int)<=(w:Int)/\(w:Int)<=((l.map ag).length)/\2=2)/\Q (.hd (.key 1000) [2,ix,5] 2 ga oa (0+((0:Int).toNat)) (w-((0:Int).toNat)) (ca-((0:Int).toNat))) (pU n a7 zs se ls gt g o c ix y ga oa ca l gb)/\Er gb v1/\Qr gt (bc n a7 zs ix y.na y.re y.kn y.gr.na y.gr.ru y.gr.wa y.tr (u.take w++List.replicate (l.length-w) j8) ga oa ca g o c se ls) gt v4)) (bc n a7 zs ix y.na y.re y.kn y.gr.na y.gr.ru y.gr.wa y.tr u ga oa ca g o c se ls)))) (bc n a7 zs ix y.na y.re y.kn y.gr.na y.gr.ru y.gr.wa y.tr (fy y l) ga oa ca g o c se ls)) (.lit (.func (.func 123) #[] #[.pointer (some ⟨gb,0,none⟩)]))) (bc n a7 zs ix y.na y.re y.kn y.gr.na y.gr.ru y.gr.wa y.tr l ga oa ca g o c se ls)) (.ptr (.key 1000) [2,ix] g (o+ix*8))) ?_
 refine⟨rfl,rfl,rfl,⟨hi,hl,hx,hr,TK⟩,?_⟩
 refine bI (fun j7=>?_) fun j7=>?_
 refine⟨?_,rfl,by rw[Kj j7]⟩
 unfold Q pU
 rw[Cl j7,ZM]
 refine⟨by have:=wA y l;omega,?_⟩
 refine⟨⟨((J2 y l).toNat,(J2 y l).toNat+1,l),?_,rfl,rfl,by refine Zo iV ?_;have:=wA y l;omega,by refine Zo iV ?_;have:=wA y l;omega,rfl,rfl,trivial⟩,?_⟩
 unfold je
 exact Ls j7
 rintro⟨w,i,u⟩ ⟨h1,h2,h3,h4,h5⟩
 refine bI (fun l4=>?_) fun l4=>?_
 have MZ:=hx _ (aI (d:=j8) (show i<l.length by omega))
 have hu:u.getD i j8=l.getD i j8:=pQ h5
 refine⟨Z2,(aK (f:=2) rfl).trans (az (aB Z9) ((aK (f:=5) rfl).trans (az (by rw[ZO];exact aj (d:=j8) Z9) rfl))),?_⟩
 intro g7
 refine⟨rfl,rfl,rfl,rfl,rfl,⟨hi,by rw[hu];exact MZ.1,by rw[hu];exact MZ.2,hr,TK⟩,?_⟩
 refine bI (fun m8=>?_) fun m8=>?_
 refine⟨rfl,Z2,(aK (f:=2) rfl).trans (az (aB Z9) ((aK (f:=5) rfl).trans (az (by rw[ZO];exact aj (d:=j8) Z9) rfl))),dz (Iq (aB Z9) (LL (aP (x:=.agg [sV ((u.getD w j8).ad),iV ((u.getD w j8).tr)]) (by rw[ZO];exact aj (d:=j8) Z9) (by rw[ZO];exact(List.map_set (f:=ag) (l:=u) (i:=w) (a:=(⟨(u.getD i j8).ad,(u.getD i j8).tr⟩:u0))).symm))) (cH Z9)),Z9,Z9,?_⟩
 refine⟨(w+1,i+1,u.set w (⟨(u.getD i j8).ad,(u.getD i j8).tr⟩:u0)),?_,?_,rfl,rfl,rfl,rfl,rfl,rfl,trivial⟩
 unfold je
 first | exact JH (by simpa using l4) h1 h3 h4 h5 (by simpa using m8) | exact IU (by simpa using l4) h1 h3 h4 h5 (by simpa using m8)
 exact Z1
 refine⟨Z9,?_⟩
 refine⟨(w,i+1,u),?_,?_,rfl,rfl,rfl,rfl,rfl,rfl,trivial⟩
 unfold je
 first | exact JH (by simpa using l4) h1 h3 h4 h5 (by simpa using m8) | exact IU (by simpa using l4) h1 h3 h4 h5 (by simpa using m8)
 exact Z1
 refine⟨⟨Z9,by simp only[ZM];omega,Z9,rfl⟩,⟨Z8,(aK (f:=2) rfl).trans (az (aB Z9) rfl),by simp only[ZM];omega,ct (f:=ag) (fun _=>rfl) _,dU (f:=ag) (fun _=>rfl) _,rfl⟩,?_⟩
 intro _
 refine⟨(Zo (fun r:V=>V.set (.agg [sV n,iV a7,.own 8 ((zs.take ix).map aw++(.agg [sV y.na,iV y.re,bV y.kn,.agg [.sl false (y.gr.na.map sV),.sl false (y.gr.ru.map an),iN y.gr.wa],iV y.tr,.own 2 (u.map ag) ga oa ca]:V)::(zs.drop (ix+1)).map aw) g o c,.ow 1 (se.map sV),.ow 3 (ls.map aX)]) [2,ix,5] r) (Zo (V.own 2 · ga oa ca) (IN h3))).trans (dz (aP (aB Z9) (cH Z9))),⟨Z9,Z9,by simp only[ZM];omega,rfl⟩,?_⟩
 refine⟨?_,rfl,by rw[JL (by simpa using l4) h1 h2 h3 h4]⟩
 unfold Q pU
 rw[Kv (by simpa using l4) h1 h2 h3 h4];rfl)
def Dx(n:BL)(a7:Int)(zs:List j9)(se:List BL)(ls:List l9)(gt:Nat)(g:Nat)(o:Nat)(c:Nat)(ix:Nat)(y:j9)(ga:Nat)(oa:Nat)(ca:Nat)(l:List u0):o8 Tryz.prog:=.mk 124 [.hd (.key 1000) [2,ix,5] 2 ga oa 0 ((l.map ag).length) ca,iV 0,iV 1] [(1000,(gt,bc n a7 zs ix y.na y.re y.kn y.gr.na y.gr.ru y.gr.wa y.tr l ga oa ca g o c se ls))] ((ix<zs.length)/\(0<l.length/\l.length<=1000)) (.hd (.key 1000) [2,ix,5] 2 ga oa 0 (l.length-1) ca) [(1000,(gt,bc n a7 zs ix y.na y.re y.kn y.gr.na y.gr.ru y.gr.wa y.tr (l.drop 1++[j8]) ga oa ca g o c se ls))] (by
 rintro⟨hi,hl⟩
 refine aq (N:=33) (rs:=[.tmp 6]) Tryz.func124
  (.q 1<|.q 5<|.cu (sdC ((l.map ag).length) (0:Int) (1:Int) (((l.map ag).length:Nat):Int)) (fun _=>.q 3<|.br (.nil) (.q 3<|.dx 6 [0,1,2,3,4,5] [] []<|.q 1<|.q 1<|.q 1<|.q 1<|.q 1<|.q 1<|.cu (saC 1000 [2,ix,5] 1 (l.length-1) 2 (l.map ag) ga oa ca g (o+(ix)*8+7)) (fun _=>.h (.z6 1000 (bc n a7 zs ix y.na y.re y.kn y.gr.na y.gr.ru y.gr.wa y.tr (l.drop 1++l.drop (l.length-1)) ga oa ca g o c se ls))<|.q 1<|.q 4<|.cu (sbC 1000 [2,ix,5] 2 ((l.drop 1++l.drop (l.length-1)).map ag) ga oa ca (l.length-1) g (o+(ix)*8+7) (l.length-1) ((l.map ag).length)) (fun _=>.cu (X0 1000 [2,ix,5] (l.length-1) 1 2 ((l.drop 1++l.drop (l.length-1)).map ag) ga oa ca g (o+(ix)*8+7) og) (fun _=>.h (.z6 1000 (bc n a7 zs ix y.na y.re y.kn y.gr.na y.gr.ru y.gr.wa y.tr (l.drop 1++[j8]) ga oa ca g o c se ls))<|.q 2<|.nil))))))
  ((fun v1:V=>(fun v2:V=>(fun v3:Int=>((((iV 0):V)=.lit (.int .i64 (0:Int))/\((iV 1):V)=.lit (.int .i64 (1:Int))/\((iN ((l.map ag).length)):V)=.lit (.int .i64 v3)/\((l.map ag).length)=((l.map ag).length)/\(0:Int)<=(0:Int)/\(0:Int)<=(1:Int)/\(1:Int)<=v3/\v3<=((l.map ag).length))/\∀ _:Unit,Br (o6 0 1) (False) (((0:Int)<=(0:Int)/\(0:Int)<=(0:Int)/\(0:Int)<=((l.map ag).length)/\2=2)/\((0:Int)<=(1:Int)/\(1:Int)<=((l.map ag).length:Int)/\((l.map ag).length:Int)<=((l.map ag).length)/\2=2)/\((((.key 1000:l6),([2,ix,5]:List Nat),2,ga,oa,(0+(Int.toNat 1)),(((l.map ag).length)-(Int.toNat 1)))=((.key 1000:l6),([2,ix,5]:List Nat),2,ga,oa,1,(l.length-1)))/\((.hd (.key 1000) [2,ix,5] 2 ga oa (0+((0:Int).toNat)) ((Int.toNat 0)-((0:Int).toNat)) (ca-((0:Int).toNat)):V)=.hd (.key 1000) [2,ix,5] 2 ga oa 0 0 ca)/\(V.at gt 0 v2 [2,ix,5]=some (g,o+(ix)*8+7,.own 2 (l.map ag) ga oa ca))/\((2:Nat)=2)/\(0<(l.map ag).length)/\(1+(l.length-1)<=(l.map ag).length)/\(V.ay (l.map ag)=false)/\(aC 2 (l.map ag))/\(ca-(Int.toNat 1))=(ca-(Int.toNat 1)))/\∀ _:Unit,(V.set v2 [2,ix,5] (.own 2 (((l.map ag).drop 1).take (l.length-1)++(l.map ag).drop (l.length-1)) ga oa ca)=bc n a7 zs ix y.na y.re y.kn y.gr.na y.gr.ru y.gr.wa y.tr (l.drop 1++l.drop (l.length-1)) ga oa ca g o c se ls)/\(((.hd (.key 1000) [2,ix,5] 2 ga oa 0 (l.length-1) ca):V)=.hd (.key 1000) [2,ix,5] 2 ga oa 0 (l.length-1) ca/\(V.at gt 0 v1 [2,ix,5]=some (g,o+(ix)*8+7,.own 2 ((l.drop 1++l.drop (l.length-1)).map ag) ga oa ca))/\((iN (l.length-1)):V)=.lit (.int .i64 (((l.length-1):Nat):Int))/\((iN ((l.map ag).length)):V)=.lit (.int .i64 ((((l.map ag).length):Nat):Int))/\((2:Nat)=2)/\(l.length-1)<=((l.map ag).length)/\((l.map ag).length)<=((l.drop 1++l.drop (l.length-1)).map ag).length)/\∀ _:Unit,((((115:Nat),(.key 1000:l6),([2,ix,5]:List Nat),2,ga,oa,(l.length-1),(((l.map ag).length)-(l.length-1)))=((115:Nat),(.key 1000:l6),([2,ix,5]:List Nat),2,ga,oa,(l.length-1),1))/\(V.at gt 0 v1 [2,ix,5]=some (g,o+(ix)*8+7,.own 2 ((l.drop 1++l.drop (l.length-1)).map ag) ga oa ca))/\((l.length-1)+1<=((l.drop 1++l.drop (l.length-1)).map ag).length)/\(V.ay ((l.drop 1++l.drop (l.length-1)).map ag)=false)/\(aC 2 ((l.drop 1++l.drop (l.length-1)).map ag))/\((.agg [sV [],iN 0]:V).n=2))/\∀ _:Unit,(V.set v1 [2,ix,5] (.own 2 (((l.drop 1++l.drop (l.length-1)).map ag).take (l.length-1)++List.replicate 1 (.agg [sV [],iN 0]:V)++((l.drop 1++l.drop (l.length-1)).map ag).drop ((l.length-1)+1)) ga oa ca)=bc n a7 zs ix y.na y.re y.kn y.gr.na y.gr.ru y.gr.wa y.tr (l.drop 1++[j8]) ga oa ca g o c se ls)/\Q (.hd (.key 1000) [2,ix,5] 2 ga oa 0 (l.length-1) ca) (.hd (.key 1000) [2,ix,5] 2 ga oa 0 (l.length-1) ca)/\Er gt (bc n a7 zs ix y.na y.re y.kn y.gr.na y.gr.ru y.gr.wa y.tr (l.drop 1++[j8]) ga oa ca g o c se ls)))) (((l.map ag).length:Nat):Int)) (bc n a7 zs ix y.na y.re y.kn y.gr.na y.gr.ru y.gr.wa y.tr l ga oa ca g o c se ls)) (bc n a7 zs ix y.na y.re y.kn y.gr.na y.gr.ru y.gr.wa y.tr (l.drop 1++l.drop (l.length-1)) ga oa ca g o c se ls)) ?_
 refine⟨⟨rfl,rfl,rfl,rfl,Z9,Z9,by(try simp only[ZM]);omega,by(try simp only[ZM]);omega⟩,?_⟩
 intro _
 refine bI (fun j7=>?_) fun j7=>?_
 exact absurd j7 Z6
 refine⟨⟨Z9,Z9,Z9,rfl⟩,⟨Z9,by simp only[ZM];omega,Z9,rfl⟩,⟨Z8,rfl,(aK (f:=2) rfl).trans (az (aB Z9) rfl),rfl,Z0,Z0,ct (f:=ag) (fun _=>rfl) _,dU (f:=ag) (fun _=>rfl) _,rfl⟩,?_⟩
 intro _
 refine⟨(Zo (fun r:V=>V.set (.agg [sV n,iV a7,.own 8 ((zs.take ix).map aw++(.agg [sV y.na,iV y.re,bV y.kn,.agg [.sl false (y.gr.na.map sV),.sl false (y.gr.ru.map an),iN y.gr.wa],iV y.tr,.own 2 (l.map ag) ga oa ca]:V)::(zs.drop (ix+1)).map aw) g o c,.ow 1 (se.map sV),.ow 3 (ls.map aX)]) [2,ix,5] r) (Zo (V.own 2 · ga oa ca) (Lh))).trans (dz (aP (aB Z9) (cH Z9))),⟨rfl,(aK (f:=2) rfl).trans (az (aB Z9) rfl),rfl,Z8,rfl,Z8,by simp <;> omega⟩,?_⟩
 intro _
 refine⟨⟨Z0,(aK (f:=2) rfl).trans (az (aB Z9) rfl),Z0,ct (f:=ag) (fun _=>rfl) _,dU (f:=ag) (fun _=>rfl) _,rfl⟩,?_⟩
 intro _
 refine⟨(Zo (fun r:V=>V.set (.agg [sV n,iV a7,.own 8 ((zs.take ix).map aw++(.agg [sV y.na,iV y.re,bV y.kn,.agg [.sl false (y.gr.na.map sV),.sl false (y.gr.ru.map an),iN y.gr.wa],iV y.tr,.own 2 ((l.drop 1++l.drop (l.length-1)).map ag) ga oa ca]:V)::(zs.drop (ix+1)).map aw) g o c,.ow 1 (se.map sV),.ow 3 (ls.map aX)]) [2,ix,5] r) (Zo (V.own 2 · ga oa ca) (Jh Z9))).trans (dz (aP (aB Z9) (cH Z9))),?_⟩
 refine⟨?_,rfl⟩
 unfold Q
 rfl)
section
variable {P:Program} {N:Nat} {A A' B:AS}
theorem Ir{o:Oper}{K K':AS->Prop}(h:D3 P N o A K)(hK:∀ B,K B->∃ B',B8 B B'/\K' B'):D3 P N o A K':=
 fun Pb Kb a w F Q hs=>Oper.wp_mono (fun a' w' ⟨B,Pb',C4,F',hk,x5,h1⟩=>by
  obtain⟨B',e,K3⟩:=hK B hk
  exact⟨B',Pb',C4,F',K3,x5.eqv e,h1⟩) (h Pb Kb a w F Q hs)
def tJ(A:AS)(ρ:l6->l6)(H:List (Nat×(Nat×V)))(q gq:Nat)(vq:V):List (Nat×Nat)->Prop
 | []=>True
 | (k,q')::r=>(match lk k H with
    | some (g,v)=>(match q'==q with
      | true=>(g,v.Nv ρ)=(gq,vq)
      | false=>(match lk q' A.h with
        | some (g2,v2)=>(g,v.Nv ρ)=(g2,v2)
        | none=>False))
    | none=>False)/\tJ A ρ H q gq vq r
theorem vO{ρ:l6->l6}{H:List (Nat×(Nat×V))}{q gq:Nat}{vq:V}:∀ {ks:List (Nat×Nat)} {k q':Nat},tJ A ρ H q gq vq ks->(k,q')∈ks->(lk k H).map (fun gv=>(gv.1,gv.2.Nv ρ))=if q'=q then some (gq,vq) else lk q' A.h
 | [],_,_,_,h=>by simp at h
 | (k0,q0)::ks,k,q',h,hm=>by
   rcases List.mem_cons.1 hm with e | hm
   cases e
   have h1:=h.1
   split at h1
   rename_i g v hk
   rw[hk]
   split at h1
   rename_i e
   rw[if_pos (by simpa using e)]
   simp only[Option.map_some,ZY]
   exact h1
   rename_i e
   rw[if_neg (by simpa using e)]
   split at h1
   rename_i g2 v2 e2
   rw[e2]
   simp only[Option.map_some,ZY]
   exact h1
   exact h1.elim
   exact h1.elim
   exact vO h.2 hm
theorem DP{H:List (Nat×(Nat×V))}{q gq:Nat}{vq:V}{ks:List (Nat×Nat)}(h1:Mk (ks.map (·.1))=true)(hn:Mk (ks.map (·.2))=true)(h:tJ A (jr ks) H q gq vq ks)(hq:q∈ks.map (·.2))(k:Nat):
 lk k (A.back ks H).h=if k=q then some (gq,vq) else lk k A.h:=by
 by_cases hk:k∈ks.map (·.2)
 obtain⟨⟨k0,q0⟩,hm,rfl⟩:=List.mem_map.1 hk
 have hs:lk q0 (Nu ks)=some k0:=(nk h1 hn).1 (mC h1 hm)
 have:=vO h hm
 simp only[AS.back]
 rw[jL,nK hn,hs]
 simp only[Option.bind_some]
 rw[this]
 split
 rename_i v e;rw[<- e]
 rename_i e
 split at e
 cases e
 rename_i hne
 rw[gx,hs,if_neg hne,e];rfl
 rw[zU hn hk,if_neg (by rintro rfl;exact hk hq)]
def WZ(c:o8 P)(ks:List (Nat×Nat))(q gq:Nat)(vq:V):Eu P where
 X:=Unit
 pre N o A Sl Hl:=match o.op,o.dst with
  | .call ⟨.value fx,xs,_⟩,some d=>match A.ev fx,A.tk xs.toList with
    | .lit (.func (.func f) first w4),(vs,_)=>match f==c.f&&Nat.blt d N&&Mk (ks.map (·.1))&&Mk (ks.map (·.2))&&c.args.length==(first.toList.map cV++vs++w4.toList.map cV).length&&(eE A xs.toList).isEmpty&&Sl.contains d&&Hl.contains q&&(ks.map (·.2)).contains q with
      | true=>Mw (first.toList.map cV++vs++w4.toList.map cV) c.args=c.args/\lM A ks c.H (c.pre/\tJ A (jr ks) c.H' q gq vq ks)
      | false=>False
    | _,_=>False
  | _,_=>False
 U o _ _ B:=⟨(B.put o.dst (c.res.Nv (jr ks))).t,(q,(gq,vq))::B.h⟩
 Ul:=by
  rintro N ⟨dst,op,ty,pos,after,B9⟩ A Sl Hl hp fs
  simp only at hp
  split at hp
  rename_i fx xs J4 d
  split at hp
  rename_i f first w4 vs A2 e1 e2
  split at hp
  rename_i e3
  simp only[ZX,Zs,Zq]at e3
  have hd:d∈Sl:=e3.1.1.2
  have hq:q∈Hl:=e3.1.2
  refine⟨fun g B t ht=>?_,fun g B k hk=>?_,fun g B B' hB=>?_,fun g B q2 v' hq2 _=>?_,fun g B k gv hk=>?_⟩
  show (B.put (some d) _).get t=_
  rw[AS.au,if_neg (fun c=>ht (by rw[c];exact hd))]
  simp only[lk]
  rw[if_neg (fun c=>hk (by rw[c];exact hq))]
  refine⟨fun t=>?_,fun k=>?_⟩
  show (B.put (some d) _).get t=(B'.put (some d) _).get t
  rw[AS.au,AS.au,hB.1 t]
  simp only[lk,hB.2 k]
  refine⟨fun t=>?_,fun k=>rfl⟩
  show ((B.put (some q2) v').put (some d) _).get t=((B.put (some d) _).put (some q2) v').get t
  rw[AS.au,AS.au,AS.au,AS.au]
  by_cases c:t=d
  subst c;rw[if_pos rfl,if_neg (fun c=>hq2 (by rw[<- c];exact hd)),if_pos rfl]
  rw[if_neg c,if_neg c]
  refine⟨fun _=>rfl,fun k2=>?_⟩
  simp only[lk]
  by_cases c:k2=q
  subst c;rw[if_pos rfl,if_neg (fun c=>hk (by rw[<- c];exact hq)),if_pos rfl]
  rw[if_neg c,if_neg c]
  exact hp.elim
  exact hp.elim
  exact hp.elim
 ok:=by
  rintro N ⟨dst,op,ty,pos,after,B9⟩ A A' Sl Hl hg hp hA hR
  simp only at hg
  subst hg
  simp only at hp
  split at hp
  rename_i fx xs J4 d
  split at hp
  rename_i f first w4 vs A2 e1 e2
  split at hp
  rename_i e3
  simp only[ZX,Zs,Zq,Zp,List.isEmpty_iff]at e3
  obtain⟨⟨⟨⟨⟨⟨⟨⟨rfl,Q7⟩,k1⟩,k2⟩,hlen⟩,H5⟩,hd⟩,hq⟩,hqk⟩:=e3
  obtain⟨hargs,hrj⟩:=hp
  obtain⟨OH,Qd,U7⟩:=hZ hrj
  have Te:A'.ev fx=A.ev fx:=bb fun t ht=>hA t (by subst ht;simp[Op.operands,Call.operands])
  obtain⟨t1,t2⟩:=rE xs.toList (A:=A) (A':=A') fun t ht=>hA t (by simp only[Op.operands,Call.operands];simp;right;simpa using ht)
  have RZ:=rf xs.toList (A:=A')
  rw[t2,H5]at RZ
  have T6:(A.tk xs.toList).1=vs:=by rw[e2]
  refine Ir (mz (A:=A') (K:=fun B=>B=((A'.tk xs.toList).2.back ks c.H').put (some d) (c.res.Nv (jr ks))) ks rfl (by rw[Te];exact e1) (bu Q7) k1 k2 (c.ok Qd) (by rw[t1,T6];exact hargs) (by rw[t1,T6];exact hlen)
   (kF (fun k _=>(RZ.2 k).trans (hR k)) OH) ?_) ?_
  rintro r H0 ⟨rfl,rfl⟩;rfl
  rintro B rfl
  refine⟨_,⟨fun t=>?_,fun k=>?_⟩,(),rfl⟩
  show (AS.put _ (some d) _).get t=(A'.put (some d) _).get t
  rw[AS.au,AS.au]
  split
  rfl
  exact RZ.1 t
  show lk k ((A'.tk xs.toList).2.back ks c.H').h=lk k ((q,(gq,vq))::A'.h)
  rw[nR (B:=A) (fun k=>(RZ.2 k).trans (hR k)),DP k1 k2 U7 hqk]
  simp only[lk,hR k]
  exact hp.elim
  exact hp.elim
  exact hp.elim
end
abbrev qB(p0:BL)(p1:Int)(p2:List j9)(p3:Nat)(p4:BL)(p5:Int)(p6:V)(p7:List s5)(p8:Nat)(p9:Int)(O':List u0)(PV:Nat)(PU:Nat)(PT:Nat)(PS:List BL)(PR:List l9):V:=.agg [sV p0,iV p1,.own 8 ((p2.take p3).map aw++(.agg [sV p4,iV p5,bV true,.agg [ p6,.sl false (p7.map an),iN p8],iV p9,.ow 2 (O'.map ag)]:V)::(p2.drop (p3+1)).map aw) PV PU PT,.ow 1 (PS.map sV),.ow 3 (PR.map aX)]
abbrev AY(p0:BL)(p1:Int)(p2:List j9)(p3:Nat)(p4:BL)(p5:Int)(p6:List BL)(p7:List s5)(p8:Nat)(p9:Int)(O':List u0)(PV:Nat)(PU:Nat)(PT:Nat)(PS:List BL)(PR:List l9):V:=.agg [sV p0,iV p1,.own 8 ((p2.take p3).map aw++(.agg [sV p4,iV p5,bV true,.agg [.sl false (p6.map sV),.sl false (p7.map an),iN p8],iV p9,.ow 2 (O'.map ag)]:V)::(p2.drop (p3+1)).map aw) PV PU PT,.ow 1 (PS.map sV),.ow 3 (PR.map aX)]
theorem Cs{y:j9}{l:List u0}:((fy y l).map ag).take (l.filter (Ml y)).length=(l.filter (Ml y)).map ag:=by
 unfold fy;rw[<- List.map_take,List.take_left'];rfl
theorem DY{y:j9}{l:List u0}:(fy y l).length=l.length:=by
 have:=List.length_filter_le (Ml y) l
 unfold fy;simp;omega
theorem CS{α:Type}{l:List α}{f:α->V}{a:α}{i:Nat}(h:i<l.length):(l.set i a).map f=(l.take i).map f++f a::(l.drop (i+1)).map f:=(jV (f:=f) (x:=a) h).symm
theorem Lp{w:List Pg}{n:BL}{y:j9}{a7:Int}(h:(ae w (ai y.na) y.tr).1=3/\y.tr+1<3):Nk w n y a7={ n8 w y a7 with tr:=y.tr+1 }:=if_pos h
theorem KU{w:List Pg}{n:BL}{y:j9}{a7:Int}(h:(ae w (ai y.na) y.tr).1=3->3<=y.tr+1):Nk w n y a7={ n8 w y a7 with kn:=true,gr:=cw w n y.na,re:=max (n8 w y a7).re (a7+((cw w n y.na).wa:Int)),td:=y.td.filter (M6 (cw w n y.na).ru) }:=if_neg fun c=>by have:=h c.1;omega
def wK(n:BL)(a7:Int)(zs:List j9)(se:List BL)(ls:List l9)(gt:Nat)(g:Nat)(o:Nat)(c:Nat)(gw:Nat)(ix:Nat)(w:List Pg):o8 Tryz.prog:=.mk 99 [.ptr (.key 1001) [] gw 0,.ptr (.key 1000) [2,ix] g (o+ix*8)] [(1001,(gw,.agg [.mp (w.map E1),.ptr (.key 1000) [] gt 0])),(1000,(gt,bz n a7 zs g o c se ls))] ((ix<zs.length)/\(ls.length<=1000)/\(0<=a7/\a7<=100000)/\(HS 60 (zs.getD ix e9))/\(∀ i,n7 (w.getD i m0))) (.tup []) [(1001,(gw,.agg [.mp (w.map E1),.ptr (.key 1000) [] gt 0])),(1000,(gt,bz n a7 (zs.set ix (Nk w n (zs.getD ix e9) a7)) g o c se (ls++[(⟨a7,ai (zs.getD ix e9).na,(ae w (ai (zs.getD ix e9).na) (zs.getD ix e9).tr).1⟩:l9)])))] (by
 rintro⟨hi,hl,hn,hy,hz⟩
 generalize WO:zs.getD ix e9=y
 refine aq (N:=89) (rs:=[]) Tryz.func99
  ((fun y1:k9=>(fun y2:Int=>(fun y3:Int×BL=>(.bx (fun g3=>.r 5 [.b7]<|.dx 16 [0,1,2,3,4,5,6,7,8,9,10,11,12,13,14,15] [(1,⟨false,[],some [3],[13],[]⟩),(2,⟨false,[],some [3],[14],[]⟩),(5,⟨false,[],some [1000],[17],[]⟩),(7,⟨false,[],some [3],[19],[]⟩),(10,⟨false,[],some [1000],[22],[]⟩),(11,⟨true,[],some [1000,1001],[23],[1000,1001]⟩)] []<|.q 1<|.r 1 [.b7]<|.r 1 [.b7]<|.q 1<|.q 1<|.r 1 [sV (y.na)]<|.c (fJ (y.na)) []<|.r 1 [.b7]<|.q 1<|.q 1<|.r 1 [iV (y.tr)]<|.c (xA n a7 zs se ls gt g o c gw ix w (ai (y.na)) (y.tr) y) [(1001,1001),(1000,1000)]<|.q 1<|.q 1<|.q 1<|.q 1<|.q 1<|.h (.z6 1000 (cC n a7 zs ix (y.na) ((n8 w y a7).re) (y.kn) (y.gr.na) (y.gr.ru) (y.gr.wa) (y.tr) (y.td) g o c se (ls++[(⟨a7,(ai (y.na)),y3.1⟩:l9)])))<|.r 10 [.b7,iV (y.tr)]<|.br (.r 7 [.b7,iV (y.tr)]<|.st (some (iV (y.tr)))<|.h (.z6 1000 (cC n a7 zs ix (y.na) ((n8 w y a7).re) (y.kn) (y.gr.na) (y.gr.ru) (y.gr.wa) ((y.tr)+1) (y.td) g o c se (ls++[(⟨a7,(ai (y.na)),y3.1⟩:l9)])))<|.h (.z6 1000 (bz n a7 (zs.set ix ({ n8 w y a7 with tr:=y.tr+1 }:j9)) g o c se (ls++[(⟨a7,(ai (y.na)),y3.1⟩:l9)])))<|.nil) (.r 3 [.b7]<|.st (some (bV (y.kn)))<|.h (.z6 1000 (AY n a7 zs ix (y.na) ((n8 w y a7).re) (y.gr.na) (y.gr.ru) (y.gr.wa) (y.tr) (y.td) g o c se (ls++[(⟨a7,(ai (y.na)),y3.1⟩:l9)])))<|.dx 14 [0,1,2,3,4,5,6,7,8,9,10,11,12,13] [(0,⟨false,[],some [3],[46],[]⟩),(4,⟨false,[],some [1001],[50],[]⟩),(5,⟨false,[],some [3],[51],[]⟩),(8,⟨false,[],some [1000],[54],[]⟩),(12,⟨false,[],some [1000],[58],[]⟩)] []<|.r 1 [.b7]<|.q 1<|.q 1<|.q 1<|.r 1 [.b7]<|.r 1 [.b7]<|.q 1<|.q 1<|.r 1 [sV (y.na)]<|.q 1<|.q 1<|.q 1<|.r 1 [.b7]<|.c (vl w (y.na) n) []<|.q 2<|.st (some (eC (y.gr.na) (y.gr.ru) (y.gr.wa)))<|.h (.z6 1000 (qB n a7 zs ix (y.na) ((n8 w y a7).re) (.sl false ([n].map sV)) (y1.ru) (y1.wa) (y.tr) (y.td) g o c se (ls++[(⟨a7,(ai (y.na)),y3.1⟩:l9)])))<|.dx 16 [0,1,2,3,4,5,6,7,8,9,10,11,12,13,14,15] [(0,⟨false,[],some [3],[62],[]⟩),(1,⟨false,[],some [3],[63],[]⟩),(4,⟨false,[],some [1000],[66],[]⟩),(8,⟨false,[],some [1000],[70],[]⟩),(9,⟨false,[],some [3],[71],[]⟩),(13,⟨false,[],some [1000],[75],[]⟩)] []<|.r 1 [.b7]<|.r 1 [.b7]<|.q 1<|.q 1<|.r 1 [iV ((n8 w y a7).re)]<|.q 1<|.q 1<|.q 1<|.r 1 [.b7]<|.r 1 [.b7]<|.q 1<|.q 1<|.q 1<|.r 1 [iN (y1.wa)]<|.q 1<|.mm<|.q 2<|.st (some (iV ((n8 w y a7).re)))<|.h (.z6 1000 (qB n a7 zs ix (y.na) (max ((n8 w y a7).re) (a7+y2)) (.sl false ([n].map sV)) (y1.ru) (y1.wa) (y.tr) (y.td) g o c se (ls++[(⟨a7,(ai (y.na)),y3.1⟩:l9)])))<|.Pv (.key 1000) [2,ix,5] g (o+(ix)*8+7) 2 ((y.td).map ag) (fun ga oa ca=>.h (.z6 1000 (.agg [sV n,iV a7,.own 8 ((zs.take ix).map aw++(.agg [sV (y.na),iV (max ((n8 w y a7).re) (a7+y2)),bV true,iH (.sl false ([n].map sV)) (y1.ru) (y1.wa),iV (y.tr),.own 2 ((y.td).map ag) ga oa ca]:V)::(zs.drop (ix+1)).map aw) g o c,.ow 1 (se.map sV),.ow 3 ((ls++[(⟨a7,(ai (y.na)),y3.1⟩:l9)]).map aX)]))<|.dx 7 [0,1,2,3,4,5,6] [(0,⟨false,[],some [3],[80],[]⟩),(1,⟨false,[],some [3],[81],[]⟩),(4,⟨false,[],some [1000],[84],[]⟩),(5,⟨true,[],none,[85],[]⟩),(6,⟨true,[],none,[86],[1000]⟩)] []<|.r 1 [.b7]<|.r 1 [.b7]<|.q 1<|.q 1<|.r 1 [.own 2 ((y.td).map ag) ga oa ca]<|.eu mfE (fun _=>.eu (WZ (Du n a7 zs se (ls++[(⟨a7,(ai (y.na)),y3.1⟩:l9)]) gt g o c ix (⟨y.na,max ((n8 w y a7).re) (a7+y2),true,⟨[n],y1.ru,y1.wa⟩,y.tr,[]⟩:j9) ga oa ca (y.td) g3) [(1002,3),(1000,1000)] 1000 gt (bc n a7 zs ix ((⟨y.na,max ((n8 w y a7).re) (a7+y2),true,⟨[n],y1.ru,y1.wa⟩,y.tr,[]⟩:j9).na) ((⟨y.na,max ((n8 w y a7).re) (a7+y2),true,⟨[n],y1.ru,y1.wa⟩,y.tr,[]⟩:j9).re) ((⟨y.na,max ((n8 w y a7).re) (a7+y2),true,⟨[n],y1.ru,y1.wa⟩,y.tr,[]⟩:j9).kn) ((⟨y.na,max ((n8 w y a7).re) (a7+y2),true,⟨[n],y1.ru,y1.wa⟩,y.tr,[]⟩:j9).gr.na) ((⟨y.na,max ((n8 w y a7).re) (a7+y2),true,⟨[n],y1.ru,y1.wa⟩,y.tr,[]⟩:j9).gr.ru) ((⟨y.na,max ((n8 w y a7).re) (a7+y2),true,⟨[n],y1.ru,y1.wa⟩,y.tr,[]⟩:j9).gr.wa) ((⟨y.na,max ((n8 w y a7).re) (a7+y2),true,⟨[n],y1.ru,y1.wa⟩,y.tr,[]⟩:j9).tr) (fy (⟨y.na,max ((n8 w y a7).re) (a7+y2),true,⟨[n],y1.ru,y1.wa⟩,y.tr,[]⟩:j9) (y.td)) ga oa ca g o c se (ls++[(⟨a7,(ai (y.na)),y3.1⟩:l9)]))) (fun _=>.q 2<|.cu (Xe 1000 [2,ix,5] (((y.td).filter (Ml (⟨y.na,max ((n8 w y a7).re) (a7+y2),true,⟨[n],y1.ru,y1.wa⟩,y.tr,[]⟩:j9))).length) 2 ((fy (⟨y.na,max ((n8 w y a7).re) (a7+y2),true,⟨[n],y1.ru,y1.wa⟩,y.tr,[]⟩:j9) (y.td)).map ag) ga oa ca g (o+(ix)*8+7)) (fun _=>.h (.z6 1000 (bc n a7 zs ix ((⟨y.na,max ((n8 w y a7).re) (a7+y2),true,⟨[n],y1.ru,y1.wa⟩,y.tr,[]⟩:j9).na) ((⟨y.na,max ((n8 w y a7).re) (a7+y2),true,⟨[n],y1.ru,y1.wa⟩,y.tr,[]⟩:j9).re) ((⟨y.na,max ((n8 w y a7).re) (a7+y2),true,⟨[n],y1.ru,y1.wa⟩,y.tr,[]⟩:j9).kn) ((⟨y.na,max ((n8 w y a7).re) (a7+y2),true,⟨[n],y1.ru,y1.wa⟩,y.tr,[]⟩:j9).gr.na) ((⟨y.na,max ((n8 w y a7).re) (a7+y2),true,⟨[n],y1.ru,y1.wa⟩,y.tr,[]⟩:j9).gr.ru) ((⟨y.na,max ((n8 w y a7).re) (a7+y2),true,⟨[n],y1.ru,y1.wa⟩,y.tr,[]⟩:j9).gr.wa) ((⟨y.na,max ((n8 w y a7).re) (a7+y2),true,⟨[n],y1.ru,y1.wa⟩,y.tr,[]⟩:j9).tr) (y.td.filter (M6 (cw w n y.na).ru)) ga oa ca g o c se (ls++[(⟨a7,(ai (y.na)),y3.1⟩:l9)])))<|.h (.OP (.key 1000) [2,ix,5] g (o+(ix)*8+7) (.own 2 ((y.td.filter (M6 (cw w n y.na).ru)).map ag) ga oa ca) (.ow 2 ((y.td.filter (M6 (cw w n y.na).ru)).map ag)))<|.h (.z6 1000 (cC n a7 zs ix ((⟨y.na,max ((n8 w y a7).re) (a7+y2),true,⟨[n],y1.ru,y1.wa⟩,y.tr,[]⟩:j9).na) ((⟨y.na,max ((n8 w y a7).re) (a7+y2),true,⟨[n],y1.ru,y1.wa⟩,y.tr,[]⟩:j9).re) ((⟨y.na,max ((n8 w y a7).re) (a7+y2),true,⟨[n],y1.ru,y1.wa⟩,y.tr,[]⟩:j9).kn) ((⟨y.na,max ((n8 w y a7).re) (a7+y2),true,⟨[n],y1.ru,y1.wa⟩,y.tr,[]⟩:j9).gr.na) ((⟨y.na,max ((n8 w y a7).re) (a7+y2),true,⟨[n],y1.ru,y1.wa⟩,y.tr,[]⟩:j9).gr.ru) ((⟨y.na,max ((n8 w y a7).re) (a7+y2),true,⟨[n],y1.ru,y1.wa⟩,y.tr,[]⟩:j9).gr.wa) ((⟨y.na,max ((n8 w y a7).re) (a7+y2),true,⟨[n],y1.ru,y1.wa⟩,y.tr,[]⟩:j9).tr) (y.td.filter (M6 (cw w n y.na).ru)) g o c se (ls++[(⟨a7,(ai (y.na)),y3.1⟩:l9)])))<|.h (.z6 1000 (bz n a7 (zs.set ix ({ n8 w y a7 with kn:=true,gr:=(cw w n y.na),re:=max (n8 w y a7).re (a7+((cw w n y.na).wa:Int)),td:=y.td.filter (M6 (cw w n y.na).ru) }:j9)) g o c se (ls++[(⟨a7,(ai (y.na)),y3.1⟩:l9)])))<|.nil)))))):Sc Tryz.prog)) (ae w (ai (y.na)) (y.tr))) ((y1.wa:Nat):Int)) (bL (ae w (ai (y.na)) 2).1 (ae w (ai (y.na)) 2).2 n))
  ((fun v6:BL=>(fun v1:k9=>(fun v2:Int=>(fun v3:Int×BL=>(fun v4:V=>(fun v12:V=>(fun v5:V=>(fun v7:V=>(fun v8:V=>(fun v9:k9=>(fun v10:V=>(fun v11:V=>(fun G0:Bool=>(fun Mi:V=>(∀ g3:Nat,True/\Z gw 1/\Z g3 0/\Z g3 0/\True/\(V.at gt 0 Mi [2,ix,0]=some (g,(o+ix*8+0),sV (y.na)))/\(fJ (y.na)).sm/\(((y.na).length<=4000000000000000000))/\Z g3 0/\True/\(V.at gt 0 Mi [2,ix,4]=some (g,(o+ix*8+6),iV (y.tr)))/\(([.ptr (.key 1001) [] gw 0,.ptr (.key 1000) [2,ix] g (o+ix*8),sV v6,iV (y.tr)]:List V)=[.ptr (.key 1001) [] gw 0,.ptr (.key 1000) [2,ix] g (o+ix*8),sV v6,iV (y.tr)])/\Er gw v11/\Er gt Mi/\((ix<zs.length)/\(ls.length<=1000)/\(0<=(y.tr)/\(y.tr)<=1000)/\(0<=a7/\a7<=100000)/\(y=y)/\(y.gr.wa<=1000))/\((bz n a7 (zs.set ix (dG y a7 v3.1 (y.tr))) g o c se (ls++[(⟨a7,v6,v3.1⟩:l9)]):V)=cC n a7 zs ix (y.na) ((n8 w y a7).re) (y.kn) (y.gr.na) (y.gr.ru) (y.gr.wa) (y.tr) (y.td) g o c se (ls++[(⟨a7,v6,v3.1⟩:l9)]))/\Gd (G0==true) (Z g3 0)/\Gd (G0==true) True/\Gd (G0==true) (V.at gt 0 v4 [2,ix,4]=some (g,(o+ix*8+6),iV (y.tr)))/\Gd (G0==true) (m6 ((y.tr)+1))/\Pk G0 (G0==true) true/\Br (G0&&(s4 ((y.tr)+1) 3)) (Z g3 0/\True/\(V.at gt 0 v4 [2,ix,4]=some (g,(o+ix*8+6),iV (y.tr)))/\m6 ((y.tr)+1)/\True/\(V.at gt 0 v4 [2,ix,4]=some (g,(o+ix*8+6),iV (y.tr)))/\(V.set v4 [2,ix,4] (iV ((y.tr)+1))=cC n a7 zs ix (y.na) ((n8 w y a7).re) (y.kn) (y.gr.na) (y.gr.ru) (y.gr.wa) ((y.tr)+1) (y.td) g o c se (ls++[(⟨a7,v6,v3.1⟩:l9)]))/\((cC n a7 zs ix (y.na) ((n8 w y a7).re) (y.kn) (y.gr.na) (y.gr.ru) (y.gr.wa) ((y.tr)+1) (y.td) g o c se (ls++[(⟨a7,v6,v3.1⟩:l9)]):V)=bz n a7 (zs.set ix ({ n8 w y a7 with tr:=y.tr+1 }:j9)) g o c se (ls++[(⟨a7,v6,v3.1⟩:l9)]))/\Q (.tup []) (.tup [])/\Er gw v11/\Qr gt (bz n a7 (zs.set ix ({ n8 w y a7 with tr:=y.tr+1 }:j9)) g o c se (ls++[(⟨a7,v6,v3.1⟩:l9)])) gt v10) (Z g3 0/\True/\(V.at gt 0 v4 [2,ix,2]=some (g,(o+ix*8+2),bV (y.kn)))/\(V.set v4 [2,ix,2] (bV true)=AY n a7 zs ix (y.na) ((n8 w y a7).re) (y.gr.na) (y.gr.ru) (y.gr.wa) (y.tr) (y.td) g o c se (ls++[(⟨a7,v6,v3.1⟩:l9)]))/\Z g3 0/\True/\Z gw 0/\Z g3 0/\True/\(V.at gt 0 v7 [2,ix,0]=some (g,(o+ix*8+0),sV (y.na)))/\True/\Z gt 0/\(vl w (y.na) n).sm/\(((y.na).length<=1000)/\((ae w v6 2).2.length<=1000000))/\True/\(V.at gt 0 v7 [2,ix,3]=some (g,(o+ix*8+3),eC (y.gr.na) (y.gr.ru) (y.gr.wa)))/\(V.set v7 [2,ix,3] (iH v12 (v1.ru) (v1.wa))=qB n a7 zs ix (y.na) ((n8 w y a7).re) v12 (v1.ru) (v1.wa) (y.tr) (y.td) g o c se (ls++[(⟨a7,v6,v3.1⟩:l9)]))/\Z g3 0/\Z g3 0/\True/\(V.at gt 0 v5 [2,ix,1]=some (g,(o+ix*8+1),iV ((n8 w y a7).re)))/\True/\Z gt 1/\Z g3 0/\True/\(V.at gt 0 v5 [2,ix,3,2]=some (g,(o+ix*8+3+2),iN (v1.wa)))/\m6 (a7+v2)/\(IntKind.i64=IntKind.i64)/\True/\(V.at gt 0 v5 [2,ix,1]=some (g,(o+ix*8+1),iV ((n8 w y a7).re)))/\(V.set v5 [2,ix,1] (iV (max ((n8 w y a7).re) (a7+v2)))=qB n a7 zs ix (y.na) (max ((n8 w y a7).re) (a7+v2)) v12 (v1.ru) (v1.wa) (y.tr) (y.td) g o c se (ls++[(⟨a7,v6,v3.1⟩:l9)]))/\(V.at gt 0 v8 [2,ix,5]=some (g,o+(ix)*8+7,.ow 2 ((y.td).map ag)))/\∀ ga oa ca:Nat,(fun M4:V=>(V.set v8 [2,ix,5] (.own 2 ((y.td).map ag) ga oa ca)=.agg [sV n,iV a7,.own 8 ((zs.take ix).map aw++M4::(zs.drop (ix+1)).map aw) g o c,.ow 1 (se.map sV),.ow 3 ((ls++[(⟨a7,v6,v3.1⟩:l9)]).map aX)])/\Z g3 0/\Z g3 0/\True/\(V.at gt 0 (.agg [sV n,iV a7,.own 8 ((zs.take ix).map aw++M4::(zs.drop (ix+1)).map aw) g o c,.ow 1 (se.map sV),.ow 3 ((ls++[(⟨a7,v6,v3.1⟩:l9)]).map aX)]) [2,ix,5]=some (g,(o+ix*8+7),.own 2 ((y.td).map ag) ga oa ca))/\((Value.func (.func 123) #[] #[.pointer (some ⟨g3,0,none⟩)]).oneCell'=true)/\∀ _:Unit,((Du n a7 zs se (ls++[(⟨a7,v6,v3.1⟩:l9)]) gt g o c ix (⟨y.na,max ((n8 w y a7).re) (a7+v2),true,⟨[n],v1.ru,v1.wa⟩,y.tr,[]⟩:j9) ga oa ca (y.td) g3).sm/\Er g3 (.ptr (.key 1000) [2,ix] g (o+ix*8))/\Er gt (bc n a7 zs ix ((⟨y.na,max ((n8 w y a7).re) (a7+v2),true,⟨[n],v1.ru,v1.wa⟩,y.tr,[]⟩:j9).na) ((⟨y.na,max ((n8 w y a7).re) (a7+v2),true,⟨[n],v1.ru,v1.wa⟩,y.tr,[]⟩:j9).re) ((⟨y.na,max ((n8 w y a7).re) (a7+v2),true,⟨[n],v1.ru,v1.wa⟩,y.tr,[]⟩:j9).kn) ((⟨y.na,max ((n8 w y a7).re) (a7+v2),true,⟨[n],v1.ru,v1.wa⟩,y.tr,[]⟩:j9).gr.na) ((⟨y.na,max ((n8 w y a7).re) (a7+v2),true,⟨[n],v1.ru,v1.wa⟩,y.tr,[]⟩:j9).gr.ru) ((⟨y.na,max ((n8 w y a7).re) (a7+v2),true,⟨[n],v1.ru,v1.wa⟩,y.tr,[]⟩:j9).gr.wa) ((⟨y.na,max ((n8 w y a7).re) (a7+v2),true,⟨[n],v1.ru,v1.wa⟩,y.tr,[]⟩:j9).tr) (y.td) ga oa ca g o c se (ls++[(⟨a7,v6,v3.1⟩:l9)]))/\(((ix<zs.length)/\((y.td).length<=1000)/\(∀ x,x∈(y.td)->x.ad.length<=1000/\m4 x.ad)/\((⟨y.na,max ((n8 w y a7).re) (a7+v2),true,⟨[n],v1.ru,v1.wa⟩,y.tr,[]⟩:j9).gr.ru.length<=1000)/\(∀ i,((⟨y.na,max ((n8 w y a7).re) (a7+v2),true,⟨[n],v1.ru,v1.wa⟩,y.tr,[]⟩:j9).gr.ru.getD i ⟨false,[]⟩).path.length<=1000))/\(((g3,.ptr (.key 1000) [2,ix] g (o+ix*8)):Nat×V)=(g3,.ptr (.key 1000) [2,ix] g (o+ix*8)))/\(((gt,bc n a7 zs ix ((⟨y.na,max ((n8 w y a7).re) (a7+v2),true,⟨[n],v1.ru,v1.wa⟩,y.tr,[]⟩:j9).na) ((⟨y.na,max ((n8 w y a7).re) (a7+v2),true,⟨[n],v1.ru,v1.wa⟩,y.tr,[]⟩:j9).re) ((⟨y.na,max ((n8 w y a7).re) (a7+v2),true,⟨[n],v1.ru,v1.wa⟩,y.tr,[]⟩:j9).kn) ((⟨y.na,max ((n8 w y a7).re) (a7+v2),true,⟨[n],v1.ru,v1.wa⟩,y.tr,[]⟩:j9).gr.na) ((⟨y.na,max ((n8 w y a7).re) (a7+v2),true,⟨[n],v1.ru,v1.wa⟩,y.tr,[]⟩:j9).gr.ru) ((⟨y.na,max ((n8 w y a7).re) (a7+v2),true,⟨[n],v1.ru,v1.wa⟩,y.tr,[]⟩:j9).gr.wa) ((⟨y.na,max ((n8 w y a7).re) (a7+v2),true,⟨[n],v1.ru,v1.wa⟩,y.tr,[]⟩:j9).tr) (fy (⟨y.na,max ((n8 w y a7).re) (a7+v2),true,⟨[n],v1.ru,v1.wa⟩,y.tr,[]⟩:j9) (y.td)) ga oa ca g o c se (ls++[(⟨a7,v6,v3.1⟩:l9)])):Nat×V)=(gt,bc n a7 zs ix ((⟨y.na,max ((n8 w y a7).re) (a7+v2),true,⟨[n],v1.ru,v1.wa⟩,y.tr,[]⟩:j9).na) ((⟨y.na,max ((n8 w y a7).re) (a7+v2),true,⟨[n],v1.ru,v1.wa⟩,y.tr,[]⟩:j9).re) ((⟨y.na,max ((n8 w y a7).re) (a7+v2),true,⟨[n],v1.ru,v1.wa⟩,y.tr,[]⟩:j9).kn) ((⟨y.na,max ((n8 w y a7).re) (a7+v2),true,⟨[n],v1.ru,v1.wa⟩,y.tr,[]⟩:j9).gr.na) ((⟨y.na,max ((n8 w y a7).re) (a7+v2),true,⟨[n],v1.ru,v1.wa⟩,y.tr,[]⟩:j9).gr.ru) ((⟨y.na,max ((n8 w y a7).re) (a7+v2),true,⟨[n],v1.ru,v1.wa⟩,y.tr,[]⟩:j9).gr.wa) ((⟨y.na,max ((n8 w y a7).re) (a7+v2),true,⟨[n],v1.ru,v1.wa⟩,y.tr,[]⟩:j9).tr) (fy (⟨y.na,max ((n8 w y a7).re) (a7+v2),true,⟨[n],v1.ru,v1.wa⟩,y.tr,[]⟩:j9) (y.td)) ga oa ca g o c se (ls++[(⟨a7,v6,v3.1⟩:l9)])))/\True))/\∀ _:Unit,True/\((((.key 1000:l6),([2,ix,5]:List Nat),2,ga,oa,(0:Nat),(((y.td).filter (Ml (⟨y.na,max ((n8 w y a7).re) (a7+v2),true,⟨[n],v1.ru,v1.wa⟩,y.tr,[]⟩:j9))).length),ca)=((.key 1000:l6),([2,ix,5]:List Nat),2,ga,oa,(0:Nat),(((y.td).filter (Ml (⟨y.na,max ((n8 w y a7).re) (a7+v2),true,⟨[n],v1.ru,v1.wa⟩,y.tr,[]⟩:j9))).length),ca))/\((.ptr (.key 1000) [2,ix,5] g (o+ix*8+7):V)=.ptr (.key 1000) [2,ix,5] g (o+(ix)*8+7))/\(V.at gt 0 (bc n a7 zs ix ((⟨y.na,max ((n8 w y a7).re) (a7+v2),true,⟨[n],v1.ru,v1.wa⟩,y.tr,[]⟩:j9).na) ((⟨y.na,max ((n8 w y a7).re) (a7+v2),true,⟨[n],v1.ru,v1.wa⟩,y.tr,[]⟩:j9).re) ((⟨y.na,max ((n8 w y a7).re) (a7+v2),true,⟨[n],v1.ru,v1.wa⟩,y.tr,[]⟩:j9).kn) ((⟨y.na,max ((n8 w y a7).re) (a7+v2),true,⟨[n],v1.ru,v1.wa⟩,y.tr,[]⟩:j9).gr.na) ((⟨y.na,max ((n8 w y a7).re) (a7+v2),true,⟨[n],v1.ru,v1.wa⟩,y.tr,[]⟩:j9).gr.ru) ((⟨y.na,max ((n8 w y a7).re) (a7+v2),true,⟨[n],v1.ru,v1.wa⟩,y.tr,[]⟩:j9).gr.wa) ((⟨y.na,max ((n8 w y a7).re) (a7+v2),true,⟨[n],v1.ru,v1.wa⟩,y.tr,[]⟩:j9).tr) (fy (⟨y.na,max ((n8 w y a7).re) (a7+v2),true,⟨[n],v1.ru,v1.wa⟩,y.tr,[]⟩:j9) (y.td)) ga oa ca g o c se (ls++[(⟨a7,v6,v3.1⟩:l9)])) [2,ix,5]=some (g,o+(ix)*8+7,.own 2 ((fy (⟨y.na,max ((n8 w y a7).re) (a7+v2),true,⟨[n],v1.ru,v1.wa⟩,y.tr,[]⟩:j9) (y.td)).map ag) ga oa ca))/\((1:Nat)=1)/\((((y.td).filter (Ml (⟨y.na,max ((n8 w y a7).re) (a7+v2),true,⟨[n],v1.ru,v1.wa⟩,y.tr,[]⟩:j9))).length)<=((fy (⟨y.na,max ((n8 w y a7).re) (a7+v2),true,⟨[n],v1.ru,v1.wa⟩,y.tr,[]⟩:j9) (y.td)).map ag).length)/\(V.ay ((fy (⟨y.na,max ((n8 w y a7).re) (a7+v2),true,⟨[n],v1.ru,v1.wa⟩,y.tr,[]⟩:j9) (y.td)).map ag)=false))/\∀ _:Unit,(V.set (bc n a7 zs ix ((⟨y.na,max ((n8 w y a7).re) (a7+v2),true,⟨[n],v1.ru,v1.wa⟩,y.tr,[]⟩:j9).na) ((⟨y.na,max ((n8 w y a7).re) (a7+v2),true,⟨[n],v1.ru,v1.wa⟩,y.tr,[]⟩:j9).re) ((⟨y.na,max ((n8 w y a7).re) (a7+v2),true,⟨[n],v1.ru,v1.wa⟩,y.tr,[]⟩:j9).kn) ((⟨y.na,max ((n8 w y a7).re) (a7+v2),true,⟨[n],v1.ru,v1.wa⟩,y.tr,[]⟩:j9).gr.na) ((⟨y.na,max ((n8 w y a7).re) (a7+v2),true,⟨[n],v1.ru,v1.wa⟩,y.tr,[]⟩:j9).gr.ru) ((⟨y.na,max ((n8 w y a7).re) (a7+v2),true,⟨[n],v1.ru,v1.wa⟩,y.tr,[]⟩:j9).gr.wa) ((⟨y.na,max ((n8 w y a7).re) (a7+v2),true,⟨[n],v1.ru,v1.wa⟩,y.tr,[]⟩:j9).tr) (fy (⟨y.na,max ((n8 w y a7).re) (a7+v2),true,⟨[n],v1.ru,v1.wa⟩,y.tr,[]⟩:j9) (y.td)) ga oa ca g o c se (ls++[(⟨a7,v6,v3.1⟩:l9)])) [2,ix,5] (.own 2 (((fy (⟨y.na,max ((n8 w y a7).re) (a7+v2),true,⟨[n],v1.ru,v1.wa⟩,y.tr,[]⟩:j9) (y.td)).map ag).take (((y.td).filter (Ml (⟨y.na,max ((n8 w y a7).re) (a7+v2),true,⟨[n],v1.ru,v1.wa⟩,y.tr,[]⟩:j9))).length)) ga oa ca)=bc n a7 zs ix ((⟨y.na,max ((n8 w y a7).re) (a7+v2),true,⟨[n],v1.ru,v1.wa⟩,y.tr,[]⟩:j9).na) ((⟨y.na,max ((n8 w y a7).re) (a7+v2),true,⟨[n],v1.ru,v1.wa⟩,y.tr,[]⟩:j9).re) ((⟨y.na,max ((n8 w y a7).re) (a7+v2),true,⟨[n],v1.ru,v1.wa⟩,y.tr,[]⟩:j9).kn) ((⟨y.na,max ((n8 w y a7).re) (a7+v2),true,⟨[n],v1.ru,v1.wa⟩,y.tr,[]⟩:j9).gr.na) ((⟨y.na,max ((n8 w y a7).re) (a7+v2),true,⟨[n],v1.ru,v1.wa⟩,y.tr,[]⟩:j9).gr.ru) ((⟨y.na,max ((n8 w y a7).re) (a7+v2),true,⟨[n],v1.ru,v1.wa⟩,y.tr,[]⟩:j9).gr.wa) ((⟨y.na,max ((n8 w y a7).re) (a7+v2),true,⟨[n],v1.ru,v1.wa⟩,y.tr,[]⟩:j9).tr) (y.td.filter (M6 v9.ru)) ga oa ca g o c se (ls++[(⟨a7,v6,v3.1⟩:l9)]))/\(V.at gt 0 (bc n a7 zs ix ((⟨y.na,max ((n8 w y a7).re) (a7+v2),true,⟨[n],v1.ru,v1.wa⟩,y.tr,[]⟩:j9).na) ((⟨y.na,max ((n8 w y a7).re) (a7+v2),true,⟨[n],v1.ru,v1.wa⟩,y.tr,[]⟩:j9).re) ((⟨y.na,max ((n8 w y a7).re) (a7+v2),true,⟨[n],v1.ru,v1.wa⟩,y.tr,[]⟩:j9).kn) ((⟨y.na,max ((n8 w y a7).re) (a7+v2),true,⟨[n],v1.ru,v1.wa⟩,y.tr,[]⟩:j9).gr.na) ((⟨y.na,max ((n8 w y a7).re) (a7+v2),true,⟨[n],v1.ru,v1.wa⟩,y.tr,[]⟩:j9).gr.ru) ((⟨y.na,max ((n8 w y a7).re) (a7+v2),true,⟨[n],v1.ru,v1.wa⟩,y.tr,[]⟩:j9).gr.wa) ((⟨y.na,max ((n8 w y a7).re) (a7+v2),true,⟨[n],v1.ru,v1.wa⟩,y.tr,[]⟩:j9).tr) (y.td.filter (M6 v9.ru)) ga oa ca g o c se (ls++[(⟨a7,v6,v3.1⟩:l9)])) [2,ix,5]=some (g,o+(ix)*8+7,.own 2 ((y.td.filter (M6 v9.ru)).map ag) ga oa ca))/\(V.set (bc n a7 zs ix ((⟨y.na,max ((n8 w y a7).re) (a7+v2),true,⟨[n],v1.ru,v1.wa⟩,y.tr,[]⟩:j9).na) ((⟨y.na,max ((n8 w y a7).re) (a7+v2),true,⟨[n],v1.ru,v1.wa⟩,y.tr,[]⟩:j9).re) ((⟨y.na,max ((n8 w y a7).re) (a7+v2),true,⟨[n],v1.ru,v1.wa⟩,y.tr,[]⟩:j9).kn) ((⟨y.na,max ((n8 w y a7).re) (a7+v2),true,⟨[n],v1.ru,v1.wa⟩,y.tr,[]⟩:j9).gr.na) ((⟨y.na,max ((n8 w y a7).re) (a7+v2),true,⟨[n],v1.ru,v1.wa⟩,y.tr,[]⟩:j9).gr.ru) ((⟨y.na,max ((n8 w y a7).re) (a7+v2),true,⟨[n],v1.ru,v1.wa⟩,y.tr,[]⟩:j9).gr.wa) ((⟨y.na,max ((n8 w y a7).re) (a7+v2),true,⟨[n],v1.ru,v1.wa⟩,y.tr,[]⟩:j9).tr) (y.td.filter (M6 v9.ru)) ga oa ca g o c se (ls++[(⟨a7,v6,v3.1⟩:l9)])) [2,ix,5] (.ow 2 ((y.td.filter (M6 v9.ru)).map ag))=cC n a7 zs ix ((⟨y.na,max ((n8 w y a7).re) (a7+v2),true,⟨[n],v1.ru,v1.wa⟩,y.tr,[]⟩:j9).na) ((⟨y.na,max ((n8 w y a7).re) (a7+v2),true,⟨[n],v1.ru,v1.wa⟩,y.tr,[]⟩:j9).re) ((⟨y.na,max ((n8 w y a7).re) (a7+v2),true,⟨[n],v1.ru,v1.wa⟩,y.tr,[]⟩:j9).kn) ((⟨y.na,max ((n8 w y a7).re) (a7+v2),true,⟨[n],v1.ru,v1.wa⟩,y.tr,[]⟩:j9).gr.na) ((⟨y.na,max ((n8 w y a7).re) (a7+v2),true,⟨[n],v1.ru,v1.wa⟩,y.tr,[]⟩:j9).gr.ru) ((⟨y.na,max ((n8 w y a7).re) (a7+v2),true,⟨[n],v1.ru,v1.wa⟩,y.tr,[]⟩:j9).gr.wa) ((⟨y.na,max ((n8 w y a7).re) (a7+v2),true,⟨[n],v1.ru,v1.wa⟩,y.tr,[]⟩:j9).tr) (y.td.filter (M6 v9.ru)) g o c se (ls++[(⟨a7,v6,v3.1⟩:l9)]))/\((cC n a7 zs ix ((⟨y.na,max ((n8 w y a7).re) (a7+v2),true,⟨[n],v1.ru,v1.wa⟩,y.tr,[]⟩:j9).na) ((⟨y.na,max ((n8 w y a7).re) (a7+v2),true,⟨[n],v1.ru,v1.wa⟩,y.tr,[]⟩:j9).re) ((⟨y.na,max ((n8 w y a7).re) (a7+v2),true,⟨[n],v1.ru,v1.wa⟩,y.tr,[]⟩:j9).kn) ((⟨y.na,max ((n8 w y a7).re) (a7+v2),true,⟨[n],v1.ru,v1.wa⟩,y.tr,[]⟩:j9).gr.na) ((⟨y.na,max ((n8 w y a7).re) (a7+v2),true,⟨[n],v1.ru,v1.wa⟩,y.tr,[]⟩:j9).gr.ru) ((⟨y.na,max ((n8 w y a7).re) (a7+v2),true,⟨[n],v1.ru,v1.wa⟩,y.tr,[]⟩:j9).gr.wa) ((⟨y.na,max ((n8 w y a7).re) (a7+v2),true,⟨[n],v1.ru,v1.wa⟩,y.tr,[]⟩:j9).tr) (y.td.filter (M6 v9.ru)) g o c se (ls++[(⟨a7,v6,v3.1⟩:l9)]):V)=bz n a7 (zs.set ix ({ n8 w y a7 with kn:=true,gr:=v9,re:=max (n8 w y a7).re (a7+(v9.wa:Int)),td:=y.td.filter (M6 v9.ru) }:j9)) g o c se (ls++[(⟨a7,v6,v3.1⟩:l9)]))/\Q (.tup []) (.tup [])/\Er gw v11/\Qr gt (bz n a7 (zs.set ix ({ n8 w y a7 with kn:=true,gr:=v9,re:=max (n8 w y a7).re (a7+(v9.wa:Int)),td:=y.td.filter (M6 v9.ru) }:j9)) g o c se (ls++[(⟨a7,v6,v3.1⟩:l9)])) gt v10) (.agg [sV (y.na),iV (max ((n8 w y a7).re) (a7+v2)),bV true,iH v12 (v1.ru) (v1.wa),iV (y.tr),.own 2 ((y.td).map ag) ga oa ca]:V)))) (bz n a7 zs g o c se ls)) (o6 (v3.1) 3)) (.agg [.mp (w.map E1),.ptr (.key 1000) [] gt 0])) (bz n a7 (zs.set ix (Nk w n y a7)) g o c se (ls++[(⟨a7,ai y.na,(ae w (ai y.na) y.tr).1⟩:l9)]))) (cw w n y.na)) (qB n a7 zs ix (y.na) (max ((n8 w y a7).re) (a7+v2)) v12 (v1.ru) (v1.wa) (y.tr) (y.td) g o c se (ls++[(⟨a7,v6,v3.1⟩:l9)]))) (AY n a7 zs ix (y.na) ((n8 w y a7).re) (y.gr.na) (y.gr.ru) (y.gr.wa) (y.tr) (y.td) g o c se (ls++[(⟨a7,v6,v3.1⟩:l9)]))) (qB n a7 zs ix (y.na) ((n8 w y a7).re) v12 (v1.ru) (v1.wa) (y.tr) (y.td) g o c se (ls++[(⟨a7,v6,v3.1⟩:l9)]))) (.sl false ([n].map sV))) (cC n a7 zs ix (y.na) ((n8 w y a7).re) (y.kn) (y.gr.na) (y.gr.ru) (y.gr.wa) (y.tr) (y.td) g o c se (ls++[(⟨a7,v6,v3.1⟩:l9)]))) (ae w v6 (y.tr))) ((v1.wa:Nat):Int)) (bL (ae w v6 2).1 (ae w v6 2).2 n)) (ai (y.na))) ?_
 subst WO
 intro g3
 refine⟨trivial,rfl,rfl,rfl,trivial,(aK (f:=2) rfl).trans (az (aj (d:=e9) Z9) rfl),rfl,by have:=hy.n;omega,rfl,trivial,(aK (f:=2) rfl).trans (az (aj (d:=e9) Z9) rfl),by first | rfl | (exfalso;omega) | (simp only[ZO]) | (simp;omega),rfl,rfl,⟨hi,hl,by have:=hy.k;omega,hn,rfl,hy.w⟩,Ni (Zo (V.own 8 · g o c) (CS (f:=aw) (a:=n8 w (zs.getD ix e9) a7) hi)),fun hG=>rfl,fun hG=>trivial,fun hG=>(aK (f:=2) rfl).trans (az (aB Z9) rfl),fun hG=>by(try simp only[nb]at hG);have:=hy.k;omega,⟨fun h=>by rw[h] <;> rfl,fun _=>rfl⟩,?_⟩
 refine bI (fun j7=>?_) fun j7=>?_
 refine⟨rfl,trivial,(aK (f:=2) rfl).trans (az (aB Z9) rfl),by have:=hy.k;omega,trivial,(aK (f:=2) rfl).trans (az (aB Z9) rfl),dz (aP (aB Z9) (cH Z9)),Ni (Zo (V.own 8 · g o c) (jV (f:=aw) (x:=({ n8 w (zs.getD ix e9) a7 with tr:=(zs.getD ix e9).tr+1 }:j9)) Z9)),?_⟩
 refine⟨?_,rfl,by rw[Lp j7]⟩
 unfold Q
 rfl
 refine⟨rfl,trivial,(aK (f:=2) rfl).trans (az (aB Z9) rfl),dz (aP (aB Z9) (cH Z9)),rfl,trivial,rfl,rfl,trivial,(aK (f:=2) rfl).trans (az (aB Z9) rfl),trivial,rfl,rfl,⟨by have:=hy.n;omega,by have:=yd (w:=w) (a:=ai (zs.getD ix e9).na) (k:=2) (m:=300) (fun i=>⟨(hz i).t,by have:=(hz i).l;omega⟩);omega⟩,trivial,(aK (f:=2) rfl).trans (az (aB Z9) rfl),dz (aP (aB Z9) (cH Z9)),rfl,rfl,trivial,(aK (f:=2) rfl).trans (az (aB Z9) rfl),trivial,rfl,rfl,trivial,(aK (f:=2) rfl).trans (az (aB Z9) rfl),by have:=ql (ae w (ai (zs.getD ix e9).na) 2).1 (ae w (ai (zs.getD ix e9).na) 2).2 n;omega,rfl,trivial,(aK (f:=2) rfl).trans (az (aB Z9) rfl),dz (aP (aB Z9) (cH Z9)),(aK (f:=2) rfl).trans (az (aB Z9) rfl),?_⟩
 intro ga oa ca
 refine⟨dz (aP (aB Z9) (cH Z9)),rfl,rfl,trivial,(aK (f:=2) rfl).trans (az (aB Z9) rfl),rfl,?_⟩
 intro _
 refine⟨⟨rfl,rfl,rfl,⟨⟨hi,by have:=hy.t;omega,fun x hx=>⟨(hy.ta x hx).1,(hy.ta x hx).2.1⟩,Nat.le_trans (ue _ _ _).1 Z9,fun i=>xF (p:=fun r:s5=>r.path.length<=1000) (fun r hr=>by have:=(ue (ae w (ai (zs.getD ix e9).na) 2).1 (ae w (ai (zs.getD ix e9).na) 2).2 n).2 r hr;omega) Z8 i⟩,rfl,rfl,trivial⟩⟩,?_⟩
 intro _
 refine⟨trivial,⟨rfl,rfl,(aK (f:=2) rfl).trans (az (aB Z9) rfl),rfl,by rw[ZM,DY];exact List.length_filter_le ..,ct (f:=ag) (fun _=>rfl) _⟩,?_⟩
 intro _
 refine⟨(Zo (fun r:V=>V.set (.agg [sV n,iV a7,.own 8 ((zs.take ix).map aw++(.agg [sV ((⟨(zs.getD ix e9).na,max ((n8 w (zs.getD ix e9) a7).re) (a7+(((bL (ae w (ai ((zs.getD ix e9).na)) 2).1 (ae w (ai ((zs.getD ix e9).na)) 2).2 n).wa:Nat):Int)),true,⟨[n],(bL (ae w (ai ((zs.getD ix e9).na)) 2).1 (ae w (ai ((zs.getD ix e9).na)) 2).2 n).ru,(bL (ae w (ai ((zs.getD ix e9).na)) 2).1 (ae w (ai ((zs.getD ix e9).na)) 2).2 n).wa⟩,(zs.getD ix e9).tr,[]⟩:j9).na),iV ((⟨(zs.getD ix e9).na,max ((n8 w (zs.getD ix e9) a7).re) (a7+(((bL (ae w (ai ((zs.getD ix e9).na)) 2).1 (ae w (ai ((zs.getD ix e9).na)) 2).2 n).wa:Nat):Int)),true,⟨[n],(bL (ae w (ai ((zs.getD ix e9).na)) 2).1 (ae w (ai ((zs.getD ix e9).na)) 2).2 n).ru,(bL (ae w (ai ((zs.getD ix e9).na)) 2).1 (ae w (ai ((zs.getD ix e9).na)) 2).2 n).wa⟩,(zs.getD ix e9).tr,[]⟩:j9).re),bV ((⟨(zs.getD ix e9).na,max ((n8 w (zs.getD ix e9) a7).re) (a7+(((bL (ae w (ai ((zs.getD ix e9).na)) 2).1 (ae w (ai ((zs.getD ix e9).na)) 2).2 n).wa:Nat):Int)),true,⟨[n],(bL (ae w (ai ((zs.getD ix e9).na)) 2).1 (ae w (ai ((zs.getD ix e9).na)) 2).2 n).ru,(bL (ae w (ai ((zs.getD ix e9).na)) 2).1 (ae w (ai ((zs.getD ix e9).na)) 2).2 n).wa⟩,(zs.getD ix e9).tr,[]⟩:j9).kn),.agg [.sl false (((⟨(zs.getD ix e9).na,max ((n8 w (zs.getD ix e9) a7).re) (a7+(((bL (ae w (ai ((zs.getD ix e9).na)) 2).1 (ae w (ai ((zs.getD ix e9).na)) 2).2 n).wa:Nat):Int)),true,⟨[n],(bL (ae w (ai ((zs.getD ix e9).na)) 2).1 (ae w (ai ((zs.getD ix e9).na)) 2).2 n).ru,(bL (ae w (ai ((zs.getD ix e9).na)) 2).1 (ae w (ai ((zs.getD ix e9).na)) 2).2 n).wa⟩,(zs.getD ix e9).tr,[]⟩:j9).gr.na).map sV),.sl false (((⟨(zs.getD ix e9).na,max ((n8 w (zs.getD ix e9) a7).re) (a7+(((bL (ae w (ai ((zs.getD ix e9).na)) 2).1 (ae w (ai ((zs.getD ix e9).na)) 2).2 n).wa:Nat):Int)),true,⟨[n],(bL (ae w (ai ((zs.getD ix e9).na)) 2).1 (ae w (ai ((zs.getD ix e9).na)) 2).2 n).ru,(bL (ae w (ai ((zs.getD ix e9).na)) 2).1 (ae w (ai ((zs.getD ix e9).na)) 2).2 n).wa⟩,(zs.getD ix e9).tr,[]⟩:j9).gr.ru).map an),iN ((⟨(zs.getD ix e9).na,max ((n8 w (zs.getD ix e9) a7).re) (a7+(((bL (ae w (ai ((zs.getD ix e9).na)) 2).1 (ae w (ai ((zs.getD ix e9).na)) 2).2 n).wa:Nat):Int)),true,⟨[n],(bL (ae w (ai ((zs.getD ix e9).na)) 2).1 (ae w (ai ((zs.getD ix e9).na)) 2).2 n).ru,(bL (ae w (ai ((zs.getD ix e9).na)) 2).1 (ae w (ai ((zs.getD ix e9).na)) 2).2 n).wa⟩,(zs.getD ix e9).tr,[]⟩:j9).gr.wa)],iV ((⟨(zs.getD ix e9).na,max ((n8 w (zs.getD ix e9) a7).re) (a7+(((bL (ae w (ai ((zs.getD ix e9).na)) 2).1 (ae w (ai ((zs.getD ix e9).na)) 2).2 n).wa:Nat):Int)),true,⟨[n],(bL (ae w (ai ((zs.getD ix e9).na)) 2).1 (ae w (ai ((zs.getD ix e9).na)) 2).2 n).ru,(bL (ae w (ai ((zs.getD ix e9).na)) 2).1 (ae w (ai ((zs.getD ix e9).na)) 2).2 n).wa⟩,(zs.getD ix e9).tr,[]⟩:j9).tr),.own 2 ((fy (⟨(zs.getD ix e9).na,max ((n8 w (zs.getD ix e9) a7).re) (a7+(((bL (ae w (ai ((zs.getD ix e9).na)) 2).1 (ae w (ai ((zs.getD ix e9).na)) 2).2 n).wa:Nat):Int)),true,⟨[n],(bL (ae w (ai ((zs.getD ix e9).na)) 2).1 (ae w (ai ((zs.getD ix e9).na)) 2).2 n).ru,(bL (ae w (ai ((zs.getD ix e9).na)) 2).1 (ae w (ai ((zs.getD ix e9).na)) 2).2 n).wa⟩,(zs.getD ix e9).tr,[]⟩:j9) ((zs.getD ix e9).td)).map ag) ga oa ca]:V)::(zs.drop (ix+1)).map aw) g o c,.ow 1 (se.map sV),.ow 3 ((ls++[(⟨a7,(ai ((zs.getD ix e9).na)),(ae w (ai ((zs.getD ix e9).na)) ((zs.getD ix e9).tr)).1⟩:l9)]).map aX)]) [2,ix,5] r) (Zo (V.own 2 · ga oa ca) (Cs.trans rfl))).trans (dz (aP (aB Z9) (cH Z9))),(aK (f:=2) rfl).trans (az (aB Z9) rfl),dz (aP (aB Z9) (cH Z9)),Ni (Zo (V.own 8 · g o c) (jV (f:=aw) (x:=({ n8 w (zs.getD ix e9) a7 with kn:=true,gr:=(cw w n (zs.getD ix e9).na),re:=max (n8 w (zs.getD ix e9) a7).re (a7+((cw w n (zs.getD ix e9).na).wa:Int)),td:=(zs.getD ix e9).td.filter (M6 (cw w n (zs.getD ix e9).na).ru) }:j9)) Z9)),?_⟩
 refine⟨?_,rfl,by rw[KU j7]⟩
 unfold Q
 rfl)
theorem EG{α:Type}{l:List α}{i:Nat}{a d:α}(h:i<l.length):(l.set i a).getD i d=a:=by
 rw[ZZ,List.getElem?_set_self h];rfl
theorem Ij{α:Type}{l:List α}{f:α->V}{a b:α}{i:Nat}(hi:i<l.length):((l.set i a).set i b).map f=(l.take i).map f++f b::(l.drop (i+1)).map f:=by
 rw[List.set_set];exact CS hi
theorem LS{l:List u0}(h:0<l.length):((l.drop 1++[j8]).map ag).take (l.length-1)=(l.drop 1).map ag:=by
 rw[<- List.map_take,List.take_left' Z8]
theorem Kd{w:List Pg}{a:BL}{k:Int}(hz:∀ i,n7 (w.getD i m0)):(ae w a k).2.length<=4611686018427387904:=by
 have:=yd (w:=w) (a:=a) (k:=k) (m:=300) (fun i=>⟨(hz i).t,by have:=(hz i).l;omega⟩);omega
theorem DS{w:List Pg}{a:BL}{k:Int}(hz:∀ i,n7 (w.getD i m0)):m4 (ae w a k).2:=by
 unfold ae
 split
 exact aT
 rename_i h1
 obtain⟨i,hi⟩:=nE w a (by simpa using h1)
 rw[hi]
 split
 exact aT
 split
 exact(hz i).ta
 exact(hz i).la
theorem FV{w:List Pg}{a:BL}{k:Int}(hw:av w=true)(hz:∀ i,n7 (w.getD i m0))(h:(ae w a k).1=2):aD (ae w a k).2=true/\m4 (ae w a k).2:=by
 unfold ae at h ⊢
 split at h
 cases h
 rename_i h1
 rw[if_neg h1]
 split at h
 cases h
 rename_i h2
 rw[if_neg h2]
 split at h
 cases h
 rename_i h3
 rw[if_neg h3]
 obtain⟨i,hi⟩:=nE w a (by simpa using h1)
 simp only
 rw[hi]at h3 ⊢
 have hl:i<w.length:=by
  rcases Nat.lt_or_ge i w.length with c | c
  exact c
  exact absurd (by rw[ZZ,List.getElem?_eq_none c];rfl) h3
 unfold av at hw
 simp only[ZX,Zq]at hw
 have hp:=(hw.1 i hl).1
 unfold dq at hp
 simp only[ZX,Bool.or_eq_true,Zp]at hp
 rcases hp.2 with c | c
 exact absurd c h3
 exact⟨c.2,(hz i).la⟩
theorem Jw{s:BL}(h:aD s=true):s.length<=1000:=by
 unfold aD at h
 rw[ZX]at h
 have:=Fg h.1;omega
theorem pA{w:List Pg}{a:BL}{k:Int}{b:r8}(hw:av w=true)(hz:∀ i,n7 (w.getD i m0)):∀ m,m∈(if (ae w a k).1=1 then bf b (ae w a k).2 else if (ae w a k).1=2 then [(ae w a k).2] else [])->m.length<=1000/\m4 m/\(af m).length<=1000:=by
 intro m hm
 have key:aD m=true/\m4 m:=by
  split at hm
  exact vM m hm
  split at hm
  rename_i h2
  rw[ZP.1 hm]
  exact FV hw hz h2
  simp at hm
 exact⟨Jw key.1,key.2,(lH m).1⟩
theorem CB{k:Int}{b:r8}{t:BL}:(if k=1 then bf b t else if k=2 then [t] else []).length<=300:=by
 split
 exact(zW b t).1
 split <;> simp
theorem KF{n:BL}{a7:Int}{zs:List j9}{se:List BL}{ls0 ls:List l9}{ix:Nat}{w:List Pg}(hi:ix<zs.length)(hy:HS 60 (zs.getD ix e9))(ht:TS ⟨n,a7,zs,se,ls0⟩):TS ⟨n,a7,zs.set ix (C3 w (zs.getD ix e9) a7),se,ls⟩:=by
 refine⟨ht.s,by rw[List.length_set];exact ht.h,ht.sa,fun y h=>?_⟩
 rcases eB h with e | h
 have q:HS se.length (zs.getD ix e9):=ht.ha _ (aI (d:=e9) hi)
 rw[e]
 refine⟨q.n,q.r,q.rp,q.w,?_,fun x hx=>?_,q.k⟩
 show ((zs.getD ix e9).td.drop 1).length+60<=1000+se.length
 have:=q.t
 rw[List.length_drop];omega
 exact q.ta x (List.mem_of_mem_drop hx)
 exact ht.ha y h
section
variable {w:List Pg} {n:BL} {a7:Int} {zs:List j9} {se:List BL} {ls:List l9} {ix:Nat}
theorem LG(h:(ae w ((zs.getD ix e9).td.getD 0 j8).ad ((zs.getD ix e9).td.getD 0 j8).tr).1=3/\((zs.getD ix e9).td.getD 0 j8).tr+1<3):Mn w ⟨n,a7,zs,se,ls⟩ ix=⟨n,a7,zs.set ix { C3 w (zs.getD ix e9) a7 with td:=(zs.getD ix e9).td.drop 1++[⟨((zs.getD ix e9).td.getD 0 j8).ad,((zs.getD ix e9).td.getD 0 j8).tr+1⟩] },se,ls++[⟨a7,((zs.getD ix e9).td.getD 0 j8).ad,(ae w ((zs.getD ix e9).td.getD 0 j8).ad ((zs.getD ix e9).td.getD 0 j8).tr).1⟩]⟩:=if_pos h
theorem LN(h:(ae w ((zs.getD ix e9).td.getD 0 j8).ad ((zs.getD ix e9).td.getD 0 j8).tr).1=3->3<=((zs.getD ix e9).td.getD 0 j8).tr+1)(h2:(ar ((zs.getD ix e9).td.getD 0 j8).ad).isSome=false):Mn w ⟨n,a7,zs,se,ls⟩ ix=⟨n,a7,zs.set ix (C3 w (zs.getD ix e9) a7),se,ls++[⟨a7,((zs.getD ix e9).td.getD 0 j8).ad,(ae w ((zs.getD ix e9).td.getD 0 j8).ad ((zs.getD ix e9).td.getD 0 j8).tr).1⟩]⟩:=by
 unfold Mn
 simp only
 rw[if_neg (fun c=>by have:=h c.1;omega),if_neg (by rw[<- fQ,h2];decide)]
theorem Lq(h:(ae w ((zs.getD ix e9).td.getD 0 j8).ad ((zs.getD ix e9).td.getD 0 j8).tr).1=3->3<=((zs.getD ix e9).td.getD 0 j8).tr+1)(h2:(ar ((zs.getD ix e9).td.getD 0 j8).ad).isSome=true):Mn w ⟨n,a7,zs,se,ls⟩ ix=(if (ae w ((zs.getD ix e9).td.getD 0 j8).ad ((zs.getD ix e9).td.getD 0 j8).tr).1=1 then bf (oA (ar ((zs.getD ix e9).td.getD 0 j8).ad)) (ae w ((zs.getD ix e9).td.getD 0 j8).ad ((zs.getD ix e9).td.getD 0 j8).tr).2 else if (ae w ((zs.getD ix e9).td.getD 0 j8).ad ((zs.getD ix e9).td.getD 0 j8).tr).1=2 then [(ae w ((zs.getD ix e9).td.getD 0 j8).ad ((zs.getD ix e9).td.getD 0 j8).tr).2] else []).foldl aE ⟨n,a7,zs.set ix (C3 w (zs.getD ix e9) a7),se,ls++[⟨a7,((zs.getD ix e9).td.getD 0 j8).ad,(ae w ((zs.getD ix e9).td.getD 0 j8).ad ((zs.getD ix e9).td.getD 0 j8).tr).1⟩]⟩:=by
 rw[fQ]at h2
 have e:ar ((zs.getD ix e9).td.getD 0 j8).ad=aA ((zs.getD ix e9).td.getD 0 j8).ad:=if_pos h2
 unfold Mn
 simp only
 rw[if_neg (fun c=>by have:=h c.1;omega),if_pos h2,e];rfl
end
def yM(n:BL)(a7:Int)(zs:List j9)(se:List BL)(ls:List l9)(gt:Nat)(g:Nat)(o:Nat)(c:Nat)(gw:Nat)(ix:Nat)(w:List Pg):o8 Tryz.prog:=.mk 100 [.ptr (.key 1001) [] gw 0,.ptr (.key 1000) [2,ix] g (o+ix*8)] [(1001,(gw,.agg [.mp (w.map E1),.ptr (.key 1000) [] gt 0])),(1000,(gt,bz n a7 zs g o c se ls))] ((ix<zs.length)/\(ls.length<=1000)/\(0<=a7/\a7<=100000)/\(HS 60 (zs.getD ix e9))/\(av w=true)/\(∀ i,n7 (w.getD i m0))/\(0<(zs.getD ix e9).td.length)/\(TS ⟨n,a7,zs,se,ls⟩)/\(n.length<=1000)) (.tup []) [(1001,(gw,.agg [.mp (w.map E1),.ptr (.key 1000) [] gt 0])),(1000,(gt,bm n a7 ((Mn w (⟨n,a7,zs,se,ls⟩:l5) ix).hs) ((Mn w (⟨n,a7,zs,se,ls⟩:l5) ix).se) ((Mn w (⟨n,a7,zs,se,ls⟩:l5) ix).lk)))] (by
 rintro⟨hi,hl,hn,hy,hw,hz,hne,ht,hnn⟩
 have hit:=hy.ta _ (aI (d:=j8) hne)
 have hyt:=hy.t
 generalize WR:(zs.getD ix e9).td.getD 0 j8=x0
 generalize WO:zs.getD ix e9=y
 refine aq (N:=81) (rs:=[]) Tryz.func100
  ((fun y1:u0=>(fun y2:Int×BL=>(.h (.z6 1000 (cC n a7 zs ix (y.na) (y.re) (y.kn) (y.gr.na) (y.gr.ru) (y.gr.wa) (y.tr) (y.td) g o c se ls))<|.Pv (.key 1000) [2,ix,5] g (o+(ix)*8+7) 2 ((y.td).map ag) (fun ga oa ca=>.h (.z6 1000 (bc n a7 zs ix (y.na) (y.re) (y.kn) (y.gr.na) (y.gr.ru) (y.gr.wa) (y.tr) (y.td) ga oa ca g o c se ls))<|.r 6 [.own 2 ((y.td).map ag) ga oa ca,.agg [sV (y1.ad),iV (y1.tr)]]<|.al og (fun g4=>.st none<|.r 5 [.own 2 ((y.td).map ag) ga oa ca]<|.c (Dx n a7 zs se ls gt g o c ix y ga oa ca (y.td)) [(1000,1000)]<|.q 2<|.cu (Xe 1000 [2,ix,5] ((y.td).length-1) 2 (((y.td).drop 1++[j8]).map ag) ga oa ca g (o+(ix)*8+7)) (fun _=>.h (.z6 1000 (bc n a7 zs ix (y.na) (y.re) (y.kn) (y.gr.na) (y.gr.ru) (y.gr.wa) (y.tr) (y.td.drop 1) ga oa ca g o c se ls))<|.h (.OP (.key 1000) [2,ix,5] g (o+(ix)*8+7) (.own 2 ((y.td.drop 1).map ag) ga oa ca) (.ow 2 ((y.td.drop 1).map ag)))<|.h (.z6 1000 (cC n a7 zs ix (y.na) (y.re) (y.kn) (y.gr.na) (y.gr.ru) (y.gr.wa) (y.tr) (y.td.drop 1) g o c se ls))<|.h (.z6 1000 (bz n a7 (zs.set ix ({ y with td:=y.td.drop 1 }:j9)) g o c se ls))<|.r 6 [.b7,.b7]<|.c (xA n a7 (zs.set ix ({ y with td:=y.td.drop 1 }:j9)) se ls gt g o c gw ix w (y1.ad) (y1.tr) ({ y with td:=y.td.drop 1 }:j9)) [(1001,1001),(1000,1000)]<|.q 5<|.h (.z6 1000 (cC n a7 zs ix (y.na) ((C3 w y a7).re) (y.kn) (y.gr.na) (y.gr.ru) (y.gr.wa) (y.tr) (y.td.drop 1) g o c se (ls++[(⟨a7,(y1.ad),(ae w (y1.ad) (y1.tr)).1⟩:l9)])))<|.r 8 [.b7]<|.br (.r 4 [.b7]<|.st none<|.Pv (.key 1000) [2,ix,5] g (o+(ix)*8+7) 2 ((y.td.drop 1).map ag) (fun PA Pu PG=>.h (.z6 1000 (bc n a7 zs ix (y.na) ((C3 w y a7).re) (y.kn) (y.gr.na) (y.gr.ru) (y.gr.wa) (y.tr) (y.td.drop 1) PA Pu PG g o c se (ls++[(⟨a7,(y1.ad),(ae w (y1.ad) (y1.tr)).1⟩:l9)])))<|.dx 8 [0,1,2,3,4,5,6,7] [(4,⟨false,[],some [1000],[51],[]⟩),(5,⟨false,[],some [4],[52],[]⟩),(7,⟨true,[],none,[54],[1000]⟩)] []<|.q 1<|.q 1<|.q 1<|.q 1<|.r 1 [.own 2 ((y.td.drop 1).map ag) PA Pu PG]<|.r 1 [.b7]<|.bs<|.eu (VK 1000 [2,ix,5] ((y.td.drop 1).map ag) ([.agg [sV (y1.ad),iV ((y1.tr)+1)]]:List V) g (o+(ix)*8+7) 2 PA Pu PG) (fun K7=>.h (.z6 1000 (kR n a7 zs ix (y.na) ((C3 w y a7).re) (y.kn) (y.gr.na) (y.gr.ru) (y.gr.wa) (y.tr) g o c se (ls++[(⟨a7,(y1.ad),(ae w (y1.ad) (y1.tr)).1⟩:l9)])))<|.h (.o4 54 (.own 2 (((y.td.drop 1)++[(⟨y1.ad,(y1.tr)+1⟩:u0)]).map ag) K7.1 K7.2.1 K7.2.2))<|.q 2<|.st (some (.b7))<|.h (.z6 1000 (bc n a7 zs ix (y.na) ((C3 w y a7).re) (y.kn) (y.gr.na) (y.gr.ru) (y.gr.wa) (y.tr) ((y.td.drop 1)++[(⟨y1.ad,(y1.tr)+1⟩:u0)]) K7.1 K7.2.1 K7.2.2 g o c se (ls++[(⟨a7,(y1.ad),(ae w (y1.ad) (y1.tr)).1⟩:l9)])))<|.h (.OP (.key 1000) [2,ix,5] g (o+(ix)*8+7) (.own 2 (((y.td.drop 1)++[(⟨y1.ad,(y1.tr)+1⟩:u0)]).map ag) K7.1 K7.2.1 K7.2.2) (.ow 2 (((y.td.drop 1)++[(⟨y1.ad,(y1.tr)+1⟩:u0)]).map ag)))<|.h (.z6 1000 (cC n a7 zs ix (y.na) ((C3 w y a7).re) (y.kn) (y.gr.na) (y.gr.ru) (y.gr.wa) (y.tr) ((y.td.drop 1)++[(⟨y1.ad,(y1.tr)+1⟩:u0)]) g o c se (ls++[(⟨a7,(y1.ad),(ae w (y1.ad) (y1.tr)).1⟩:l9)])))<|.h (.z6 1000 (bz n a7 (zs.set ix ({ (C3 w y a7) with td:=y.td.drop 1++[(⟨x0.ad,x0.tr+1⟩:u0)] }:j9)) g o c se (ls++[(⟨a7,(y1.ad),(ae w (y1.ad) (y1.tr)).1⟩:l9)])))<|.nil))) (.r 2 [.b7]<|.c (cI (y1.ad)) []<|.q 3<|.al cY (fun g7=>.st none<|.q 1<|.h (.z6 1000 (bz n a7 (zs.set ix (C3 w y a7)) g o c se (ls++[(⟨a7,(y1.ad),(ae w (y1.ad) (y1.tr)).1⟩:l9)])))<|.q 2<|.br (.nil) (.r 3 [.b7]<|.c (Ao (oA (ar (y1.ad))) ((ae w (y1.ad) (y1.tr)).1) ((ae w (y1.ad) (y1.tr)).2)) []<|.q 2<|.loop (Nat×(List j9)×(List BL)) (fun (i,zz,ss)=>⟨[(0,.ptr (.key 1001) [] gw 0),(68,ao (if y2.1=1 then bf (oA (ar x0.ad)) y2.2 else if y2.1=2 then [y2.2] else [])),(69,iN (((if y2.1=1 then bf (oA (ar x0.ad)) y2.2 else if y2.1=2 then [y2.2] else [])).length)),(70,iN i)],[(1001,(gw,.agg [.mp (w.map E1),.ptr (.key 1000) [] gt 0])),(1000,(gt,bm n a7 zz ss (ls++[(⟨a7,x0.ad,y2.1⟩:l9)])))]⟩) (fun (i,zz,ss)=>i<=((if y2.1=1 then bf (oA (ar x0.ad)) y2.2 else if y2.1=2 then [y2.2] else [])).length/\zz=((((if y2.1=1 then bf (oA (ar x0.ad)) y2.2 else if y2.1=2 then [y2.2] else [])).take i).foldl aE (⟨n,a7,zs.set ix (C3 w y a7),se,ls++[(⟨a7,x0.ad,y2.1⟩:l9)]⟩:l5)).hs/\ss=((((if y2.1=1 then bf (oA (ar x0.ad)) y2.2 else if y2.1=2 then [y2.2] else [])).take i).foldl aE (⟨n,a7,zs.set ix (C3 w y a7),se,ls++[(⟨a7,x0.ad,y2.1⟩:l9)]⟩:l5)).se) (fun (i,zz,ss)=>((if y2.1=1 then bf (oA (ar x0.ad)) y2.2 else if y2.1=2 then [y2.2] else [])).length-i) (fun (i,zz,ss)=>.q 1<|.br (.r 3 [sV ((if y2.1=1 then bf (oA (ar x0.ad)) y2.2 else if y2.1=2 then [y2.2] else []).getD i [])]<|.r 5 [.b7]<|.c (tG n a7 zz ss (ls++[(⟨a7,x0.ad,y2.1⟩:l9)]) gt ((if y2.1=1 then bf (oA (ar x0.ad)) y2.2 else if y2.1=2 then [y2.2] else []).getD i [])) [(1000,1000)]<|.q 2<|.nil) (.nil)))))))):Sc Tryz.prog)) (ae w x0.ad x0.tr)) ((y.td).getD 0 j8))
  ((fun v1:Int×BL=>(fun v2:V=>(fun v3:r8=>(fun v4:V=>(fun v5:V=>(((bz n a7 zs g o c se ls:V)=cC n a7 zs ix (y.na) (y.re) (y.kn) (y.gr.na) (y.gr.ru) (y.gr.wa) (y.tr) (y.td) g o c se ls)/\(V.at gt 0 (cC n a7 zs ix (y.na) (y.re) (y.kn) (y.gr.na) (y.gr.ru) (y.gr.wa) (y.tr) (y.td) g o c se ls) [2,ix,5]=some (g,o+(ix)*8+7,.ow 2 ((y.td).map ag)))/\∀ ga oa ca:Nat,(V.set (cC n a7 zs ix (y.na) (y.re) (y.kn) (y.gr.na) (y.gr.ru) (y.gr.wa) (y.tr) (y.td) g o c se ls) [2,ix,5] (.own 2 ((y.td).map ag) ga oa ca)=bc n a7 zs ix (y.na) (y.re) (y.kn) (y.gr.na) (y.gr.ru) (y.gr.wa) (y.tr) (y.td) ga oa ca g o c se ls)/\True/\(V.at gt 0 (bc n a7 zs ix (y.na) (y.re) (y.kn) (y.gr.na) (y.gr.ru) (y.gr.wa) (y.tr) (y.td) ga oa ca g o c se ls) [2,ix,5]=some (g,(o+ix*8+7),.own 2 ((y.td).map ag) ga oa ca))/\In 0 (((y.td).map ag).length)/\(V.at gt 0 (bc n a7 zs ix (y.na) (y.re) (y.kn) (y.gr.na) (y.gr.ru) (y.gr.wa) (y.tr) (y.td) ga oa ca g o c se ls) [2,ix,5,0+0]=some (ga,(oa+(0+0)*2),.agg [sV (((y.td).getD 0 j8).ad),iV (((y.td).getD 0 j8).tr)]))/\∀ g4:Nat,Z g4 0/\True/\(V.at gt 0 (bc n a7 zs ix (y.na) (y.re) (y.kn) (y.gr.na) (y.gr.ru) (y.gr.wa) (y.tr) (y.td) ga oa ca g o c se ls) [2,ix,5]=some (g,(o+ix*8+7),.own 2 ((y.td).map ag) ga oa ca))/\(Dx n a7 zs se ls gt g o c ix y ga oa ca (y.td)).sm/\Er gt (bc n a7 zs ix (y.na) (y.re) (y.kn) (y.gr.na) (y.gr.ru) (y.gr.wa) (y.tr) (y.td) ga oa ca g o c se ls)/\((ix<zs.length)/\(0<(y.td).length/\(y.td).length<=1000))/\True/\((((.key 1000:l6),([2,ix,5]:List Nat),2,ga,oa,(0:Nat),((y.td).length-1),ca)=((.key 1000:l6),([2,ix,5]:List Nat),2,ga,oa,(0:Nat),((y.td).length-1),ca))/\((.ptr (.key 1000) [2,ix,5] g (o+ix*8+7):V)=.ptr (.key 1000) [2,ix,5] g (o+(ix)*8+7))/\(V.at gt 0 (bc n a7 zs ix (y.na) (y.re) (y.kn) (y.gr.na) (y.gr.ru) (y.gr.wa) (y.tr) ((y.td).drop 1++[j8]) ga oa ca g o c se ls) [2,ix,5]=some (g,o+(ix)*8+7,.own 2 (((y.td).drop 1++[j8]).map ag) ga oa ca))/\((1:Nat)=1)/\(((y.td).length-1)<=(((y.td).drop 1++[j8]).map ag).length)/\(V.ay (((y.td).drop 1++[j8]).map ag)=false))/\∀ _:Unit,(V.set (bc n a7 zs ix (y.na) (y.re) (y.kn) (y.gr.na) (y.gr.ru) (y.gr.wa) (y.tr) ((y.td).drop 1++[j8]) ga oa ca g o c se ls) [2,ix,5] (.own 2 ((((y.td).drop 1++[j8]).map ag).take ((y.td).length-1)) ga oa ca)=bc n a7 zs ix (y.na) (y.re) (y.kn) (y.gr.na) (y.gr.ru) (y.gr.wa) (y.tr) (y.td.drop 1) ga oa ca g o c se ls)/\(V.at gt 0 (bc n a7 zs ix (y.na) (y.re) (y.kn) (y.gr.na) (y.gr.ru) (y.gr.wa) (y.tr) (y.td.drop 1) ga oa ca g o c se ls) [2,ix,5]=some (g,o+(ix)*8+7,.own 2 ((y.td.drop 1).map ag) ga oa ca))/\(V.set (bc n a7 zs ix (y.na) (y.re) (y.kn) (y.gr.na) (y.gr.ru) (y.gr.wa) (y.tr) (y.td.drop 1) ga oa ca g o c se ls) [2,ix,5] (.ow 2 ((y.td.drop 1).map ag))=cC n a7 zs ix (y.na) (y.re) (y.kn) (y.gr.na) (y.gr.ru) (y.gr.wa) (y.tr) (y.td.drop 1) g o c se ls)/\((cC n a7 zs ix (y.na) (y.re) (y.kn) (y.gr.na) (y.gr.ru) (y.gr.wa) (y.tr) (y.td.drop 1) g o c se ls:V)=bz n a7 (zs.set ix ({ y with td:=y.td.drop 1 }:j9)) g o c se ls)/\Z g4 0/\Z g4 1/\(([.ptr (.key 1001) [] gw 0,.ptr (.key 1000) [2,ix] g (o+ix*8),sV (((y.td).getD 0 j8).ad),iV (((y.td).getD 0 j8).tr)]:List V)=[.ptr (.key 1001) [] gw 0,.ptr (.key 1000) [2,ix] g (o+ix*8),sV (((y.td).getD 0 j8).ad),iV (((y.td).getD 0 j8).tr)])/\Er gw v4/\Er gt (bz n a7 (zs.set ix ({ y with td:=y.td.drop 1 }:j9)) g o c se ls)/\((ix<(zs.set ix ({ y with td:=y.td.drop 1 }:j9)).length)/\(ls.length<=1000)/\(0<=(((y.td).getD 0 j8).tr)/\(((y.td).getD 0 j8).tr)<=1000)/\(0<=a7/\a7<=100000)/\((zs.set ix ({ y with td:=y.td.drop 1 }:j9)).getD ix e9=({ y with td:=y.td.drop 1 }:j9))/\(({ y with td:=y.td.drop 1 }:j9).gr.wa<=1000))/\((bz n a7 ((zs.set ix ({ y with td:=y.td.drop 1 }:j9)).set ix (dG ({ y with td:=y.td.drop 1 }:j9) a7 (ae w (((y.td).getD 0 j8).ad) (((y.td).getD 0 j8).tr)).1 (((y.td).getD 0 j8).tr))) g o c se (ls++[(⟨a7,(((y.td).getD 0 j8).ad),(ae w (((y.td).getD 0 j8).ad) (((y.td).getD 0 j8).tr)).1⟩:l9)]):V)=cC n a7 zs ix (y.na) ((C3 w y a7).re) (y.kn) (y.gr.na) (y.gr.ru) (y.gr.wa) (y.tr) (y.td.drop 1) g o c se (ls++[(⟨a7,(((y.td).getD 0 j8).ad),(ae w (((y.td).getD 0 j8).ad) (((y.td).getD 0 j8).tr)).1⟩:l9)]))/\Gd ((o6 ((ae w (((y.td).getD 0 j8).ad) (((y.td).getD 0 j8).tr)).1) 3)==true) (Z g4 1)/\Gd ((o6 ((ae w (((y.td).getD 0 j8).ad) (((y.td).getD 0 j8).tr)).1) 3)==true) (m6 ((((y.td).getD 0 j8).tr)+1))/\Pk (o6 ((ae w (((y.td).getD 0 j8).ad) (((y.td).getD 0 j8).tr)).1) 3) ((o6 ((ae w (((y.td).getD 0 j8).ad) (((y.td).getD 0 j8).tr)).1) 3)==true) true/\Br ((o6 ((ae w (((y.td).getD 0 j8).ad) (((y.td).getD 0 j8).tr)).1) 3)&&(s4 ((((y.td).getD 0 j8).tr)+1) 3)) (Z g4 1/\m6 ((((y.td).getD 0 j8).tr)+1)/\Z g4 1/\(V.at gt 0 (cC n a7 zs ix (y.na) ((C3 w y a7).re) (y.kn) (y.gr.na) (y.gr.ru) (y.gr.wa) (y.tr) (y.td.drop 1) g o c se (ls++[(⟨a7,(((y.td).getD 0 j8).ad),(ae w (((y.td).getD 0 j8).ad) (((y.td).getD 0 j8).tr)).1⟩:l9)])) [2,ix,5]=some (g,o+(ix)*8+7,.ow 2 ((y.td.drop 1).map ag)))/\∀ PA Pu PG:Nat,(fun v6:u0=>(fun v8:Int×BL=>(fun v7:V=>(fun v9:List V=>(fun v10:V=>(V.set (cC n a7 zs ix (y.na) ((C3 w y a7).re) (y.kn) (y.gr.na) (y.gr.ru) (y.gr.wa) (y.tr) (y.td.drop 1) g o c se (ls++[(⟨a7,(v6.ad),v8.1⟩:l9)])) [2,ix,5] (.own 2 ((y.td.drop 1).map ag) PA Pu PG)=bc n a7 zs ix (y.na) ((C3 w y a7).re) (y.kn) (y.gr.na) (y.gr.ru) (y.gr.wa) (y.tr) (y.td.drop 1) PA Pu PG g o c se (ls++[(⟨a7,(v6.ad),v8.1⟩:l9)]))/\True/\(V.at gt 0 v7 [2,ix,5]=some (g,(o+ix*8+7),.own 2 ((y.td.drop 1).map ag) PA Pu PG))/\Z g4 0/\(v9=v9/\((.hd (.key 1000) [2,ix,5] 2 PA Pu 0 (((y.td.drop 1).map ag).length) PG:V)=.hd (.key 1000) [2,ix,5] 2 PA Pu 0 (((y.td.drop 1).map ag).length) PG)/\(V.at gt 0 v7 [2,ix,5]=some (g,o+(ix)*8+7,.own 2 ((y.td.drop 1).map ag) PA Pu PG))/\((2:Nat)=2)/\(V.ay v9=false)/\(aC 2 v9)/\((((y.td.drop 1).map ag).length+v9.length)*24<=140737488355328))/\∀ K7:Nat×Nat×Nat,(fun v11:V=>(V.set v7 [2,ix,5] (.b7)=kR n a7 zs ix (y.na) ((C3 w y a7).re) (y.kn) (y.gr.na) (y.gr.ru) (y.gr.wa) (y.tr) g o c se (ls++[(⟨a7,(v6.ad),v8.1⟩:l9)]))/\((.own 2 (((y.td.drop 1).map ag)++v9) K7.1 K7.2.1 K7.2.2:V)=.own 2 (((y.td.drop 1)++[(⟨v6.ad,(v6.tr)+1⟩:u0)]).map ag) K7.1 K7.2.1 K7.2.2)/\True/\(V.at gt 0 v10 [2,ix,5]=some (g,(o+ix*8+7),.b7))/\(V.set v10 [2,ix,5] (.own 2 (((y.td.drop 1)++[(⟨v6.ad,(v6.tr)+1⟩:u0)]).map ag) K7.1 K7.2.1 K7.2.2)=bc n a7 zs ix (y.na) ((C3 w y a7).re) (y.kn) (y.gr.na) (y.gr.ru) (y.gr.wa) (y.tr) ((y.td.drop 1)++[(⟨v6.ad,(v6.tr)+1⟩:u0)]) K7.1 K7.2.1 K7.2.2 g o c se (ls++[(⟨a7,(v6.ad),v8.1⟩:l9)]))/\(V.at gt 0 v11 [2,ix,5]=some (g,o+(ix)*8+7,.own 2 (((y.td.drop 1)++[(⟨v6.ad,(v6.tr)+1⟩:u0)]).map ag) K7.1 K7.2.1 K7.2.2))/\(V.set v11 [2,ix,5] (.ow 2 (((y.td.drop 1)++[(⟨v6.ad,(v6.tr)+1⟩:u0)]).map ag))=cC n a7 zs ix (y.na) ((C3 w y a7).re) (y.kn) (y.gr.na) (y.gr.ru) (y.gr.wa) (y.tr) ((y.td.drop 1)++[(⟨v6.ad,(v6.tr)+1⟩:u0)]) g o c se (ls++[(⟨a7,(v6.ad),v8.1⟩:l9)]))/\((cC n a7 zs ix (y.na) ((C3 w y a7).re) (y.kn) (y.gr.na) (y.gr.ru) (y.gr.wa) (y.tr) ((y.td.drop 1)++[(⟨v6.ad,(v6.tr)+1⟩:u0)]) g o c se (ls++[(⟨a7,(v6.ad),v8.1⟩:l9)]):V)=bz n a7 (zs.set ix ({ (C3 w y a7) with td:=y.td.drop 1++[(⟨x0.ad,x0.tr+1⟩:u0)] }:j9)) g o c se (ls++[(⟨a7,(v6.ad),v8.1⟩:l9)]))/\Q (.tup []) (.tup [])/\Er gw v4/\Qr gt (bm n a7 (zs.set ix ({ (C3 w y a7) with td:=y.td.drop 1++[(⟨x0.ad,x0.tr+1⟩:u0)] }:j9)) se (ls++[(⟨a7,(v6.ad),v8.1⟩:l9)])) gt v2) (bc n a7 zs ix (y.na) ((C3 w y a7).re) (y.kn) (y.gr.na) (y.gr.ru) (y.gr.wa) (y.tr) ((y.td.drop 1)++[(⟨v6.ad,(v6.tr)+1⟩:u0)]) K7.1 K7.2.1 K7.2.2 g o c se (ls++[(⟨a7,(v6.ad),v8.1⟩:l9)]))) (kR n a7 zs ix (y.na) ((C3 w y a7).re) (y.kn) (y.gr.na) (y.gr.ru) (y.gr.wa) (y.tr) g o c se (ls++[(⟨a7,(v6.ad),v8.1⟩:l9)]))) ([.agg [sV (v6.ad),iV ((v6.tr)+1)]]:List V)) (bc n a7 zs ix (y.na) ((C3 w y a7).re) (y.kn) (y.gr.na) (y.gr.ru) (y.gr.wa) (y.tr) (y.td.drop 1) PA Pu PG g o c se (ls++[(⟨a7,(v6.ad),v8.1⟩:l9)]))) (ae w (v6.ad) (v6.tr))) ((y.td).getD 0 j8)) (Z g4 0/\(cI (((y.td).getD 0 j8).ad)).sm/\(((((y.td).getD 0 j8).ad).length<=1000000)/\(m4 (((y.td).getD 0 j8).ad)))/\∀ g7:Nat,Z g7 0/\((cC n a7 zs ix (y.na) ((C3 w y a7).re) (y.kn) (y.gr.na) (y.gr.ru) (y.gr.wa) (y.tr) (y.td.drop 1) g o c se (ls++[(⟨a7,(((y.td).getD 0 j8).ad),(ae w (((y.td).getD 0 j8).ad) (((y.td).getD 0 j8).tr)).1⟩:l9)]):V)=bz n a7 (zs.set ix (C3 w y a7)) g o c se (ls++[(⟨a7,(((y.td).getD 0 j8).ad),(ae w (((y.td).getD 0 j8).ad) (((y.td).getD 0 j8).tr)).1⟩:l9)]))/\Br (!((ar (((y.td).getD 0 j8).ad)).isSome)) (Q (.tup []) (.tup [])/\Er gw v4/\Qr gt (bm n a7 (zs.set ix (C3 w y a7)) se (ls++[(⟨a7,(((y.td).getD 0 j8).ad),(ae w (((y.td).getD 0 j8).ad) (((y.td).getD 0 j8).tr)).1⟩:l9)])) gt v2) (Z g7 0/\(Ao (oA (ar (((y.td).getD 0 j8).ad))) ((ae w (((y.td).getD 0 j8).ad) (((y.td).getD 0 j8).tr)).1) ((ae w (((y.td).getD 0 j8).ad) (((y.td).getD 0 j8).tr)).2)).sm/\((cy (oA (ar (((y.td).getD 0 j8).ad))))/\(((ae w (((y.td).getD 0 j8).ad) (((y.td).getD 0 j8).tr)).2).length<=4611686018427387904)/\(m4 ((ae w (((y.td).getD 0 j8).ad) (((y.td).getD 0 j8).tr)).2)))/\(∃ x:Nat×(List j9)×(List BL),match x with | (h9,MS,MW)=>(fun v12:Int×BL=>(h9<=((if v1.1=1 then bf v3 v1.2 else if v1.1=2 then [v1.2] else [])).length/\MS=((((if v1.1=1 then bf v3 v1.2 else if v1.1=2 then [v1.2] else [])).take h9).foldl aE (⟨n,a7,zs.set ix (C3 w y a7),se,ls++[(⟨a7,x0.ad,v1.1⟩:l9)]⟩:l5)).hs/\MW=((((if v1.1=1 then bf v3 v1.2 else if v1.1=2 then [v1.2] else [])).take h9).foldl aE (⟨n,a7,zs.set ix (C3 w y a7),se,ls++[(⟨a7,x0.ad,v1.1⟩:l9)]⟩:l5)).se)/\E (.ptr (.key 1001) [] gw 0)/\Q (ao (if (v12.1)=1 then bf (oA (ar (((y.td).getD 0 j8).ad))) (v12.2) else if (v12.1)=2 then [(v12.2)] else [])) v5/\Q (iN (((if (v12.1)=1 then bf (oA (ar (((y.td).getD 0 j8).ad))) (v12.2) else if (v12.1)=2 then [(v12.2)] else []).map sV).length)) (iN (((if v1.1=1 then bf v3 v1.2 else if v1.1=2 then [v1.2] else [])).length))/\Q (iN 0) (iN h9)/\Er gw v4/\Qr gt (bm n a7 (zs.set ix (C3 w y a7)) se (ls++[(⟨a7,(((y.td).getD 0 j8).ad),v12.1⟩:l9)])) gt (bm n a7 MS MW (ls++[(⟨a7,x0.ad,v1.1⟩:l9)]))/\True) (ae w (((y.td).getD 0 j8).ad) (((y.td).getD 0 j8).tr)))/\∀ x:Nat×(List j9)×(List BL),match x with | (i,zz,ss)=>(i<=((if v1.1=1 then bf v3 v1.2 else if v1.1=2 then [v1.2] else [])).length/\zz=((((if v1.1=1 then bf v3 v1.2 else if v1.1=2 then [v1.2] else [])).take i).foldl aE (⟨n,a7,zs.set ix (C3 w y a7),se,ls++[(⟨a7,x0.ad,v1.1⟩:l9)]⟩:l5)).hs/\ss=((((if v1.1=1 then bf v3 v1.2 else if v1.1=2 then [v1.2] else [])).take i).foldl aE (⟨n,a7,zs.set ix (C3 w y a7),se,ls++[(⟨a7,x0.ad,v1.1⟩:l9)]⟩:l5)).se)->(fun G0:V=>Br (s4 (i:Int) ((((if v1.1=1 then bf v3 v1.2 else if v1.1=2 then [v1.2] else [])).length:Nat):Int)) (Ex (i:Int) ((if v1.1=1 then bf v3 v1.2 else if v1.1=2 then [v1.2] else []).map sV) (sV ((if v1.1=1 then bf v3 v1.2 else if v1.1=2 then [v1.2] else []).getD i []))/\True/\True/\Z gw 1/\(tG n a7 zz ss (ls++[(⟨a7,x0.ad,v1.1⟩:l9)]) gt ((if v1.1=1 then bf v3 v1.2 else if v1.1=2 then [v1.2] else []).getD i [])).sm/\Er gt G0/\((zz.length<=1000)/\(ss.length<=1000)/\(((if v1.1=1 then bf v3 v1.2 else if v1.1=2 then [v1.2] else []).getD i []).length<=1000000)/\(m4 ((if v1.1=1 then bf v3 v1.2 else if v1.1=2 then [v1.2] else []).getD i []))/\(∀ y,y∈zz->y.td.length<=1000/\y.gr.ru.length<=1000/\∀ i,(y.gr.ru.getD i ⟨false,[]⟩).path.length<=1000))/\m6 ((i:Int)+1)/\∃ x:Nat×(List j9)×(List BL),match x with | (b9,MR,MV)=>(b9<=((if v1.1=1 then bf v3 v1.2 else if v1.1=2 then [v1.2] else [])).length/\MR=((((if v1.1=1 then bf v3 v1.2 else if v1.1=2 then [v1.2] else [])).take b9).foldl aE (⟨n,a7,zs.set ix (C3 w y a7),se,ls++[(⟨a7,x0.ad,v1.1⟩:l9)]⟩:l5)).hs/\MV=((((if v1.1=1 then bf v3 v1.2 else if v1.1=2 then [v1.2] else [])).take b9).foldl aE (⟨n,a7,zs.set ix (C3 w y a7),se,ls++[(⟨a7,x0.ad,v1.1⟩:l9)]⟩:l5)).se)/\(((if v1.1=1 then bf v3 v1.2 else if v1.1=2 then [v1.2] else [])).length-b9<((if v1.1=1 then bf v3 v1.2 else if v1.1=2 then [v1.2] else [])).length-i)/\E (.ptr (.key 1001) [] gw 0)/\E v5/\E (iN (((if v1.1=1 then bf v3 v1.2 else if v1.1=2 then [v1.2] else [])).length))/\Q (iN (i+1)) (iN b9)/\Er gw v4/\Qr gt (bm n a7 (bg n zz ss ((if v1.1=1 then bf v3 v1.2 else if v1.1=2 then [v1.2] else []).getD i [])) (df ss ((if v1.1=1 then bf v3 v1.2 else if v1.1=2 then [v1.2] else []).getD i [])) (ls++[(⟨a7,x0.ad,v1.1⟩:l9)])) gt (bm n a7 MR MV (ls++[(⟨a7,x0.ad,v1.1⟩:l9)]))/\True) (Q (.tup []) (.tup [])/\Er gw v4/\Qr gt G0 gt v2)) (bm n a7 zz ss (ls++[(⟨a7,x0.ad,v1.1⟩:l9)])))))) (ao (if v1.1=1 then bf v3 v1.2 else if v1.1=2 then [v1.2] else []))) (.agg [.mp (w.map E1),.ptr (.key 1000) [] gt 0])) (oA (ar x0.ad))) (bm n a7 ((Mn w (⟨n,a7,zs,se,ls⟩:l5) ix).hs) ((Mn w (⟨n,a7,zs,se,ls⟩:l5) ix).se) ((Mn w (⟨n,a7,zs,se,ls⟩:l5) ix).lk))) (ae w x0.ad x0.tr)) ?_
 subst WO
 subst WR
 refine⟨Ni (Zo (V.own 8 · g o c) (pF (d:=e9) Z9)),(aK (f:=2) rfl).trans (az (aB Z9) rfl),?_⟩
 intro ga oa ca
 refine⟨dz (aP (aB Z9) (cH Z9)),trivial,(aK (f:=2) rfl).trans (az (aB Z9) rfl),Z2,(aK (f:=2) rfl).trans (az (aB Z9) ((aK (f:=5) rfl).trans (az (by rw[ZO];exact aj (d:=j8) Z9) rfl))),?_⟩
 intro g4
 refine⟨rfl,trivial,(aK (f:=2) rfl).trans (az (aB Z9) rfl),rfl,rfl,⟨hi,by have:=hy.t;omega⟩,trivial,⟨rfl,rfl,(aK (f:=2) rfl).trans (az (aB Z9) rfl),rfl,Z8,ct (f:=ag) (fun _=>rfl) _⟩,?_⟩
 intro _
 refine⟨(Zo (fun r:V=>V.set (.agg [sV n,iV a7,.own 8 ((zs.take ix).map aw++(.agg [sV ((zs.getD ix e9).na),iV ((zs.getD ix e9).re),bV ((zs.getD ix e9).kn),.agg [.sl false (((zs.getD ix e9).gr.na).map sV),.sl false (((zs.getD ix e9).gr.ru).map an),iN ((zs.getD ix e9).gr.wa)],iV ((zs.getD ix e9).tr),.own 2 ((((zs.getD ix e9).td).drop 1++[j8]).map ag) ga oa ca]:V)::(zs.drop (ix+1)).map aw) g o c,.ow 1 (se.map sV),.ow 3 (ls.map aX)]) [2,ix,5] r) (Zo (V.own 2 · ga oa ca) (LS Z9))).trans (dz (aP (aB Z9) (cH Z9))),(aK (f:=2) rfl).trans (az (aB Z9) rfl),dz (aP (aB Z9) (cH Z9)),Ni (Zo (V.own 8 · g o c) (jV (f:=aw) (x:=({ (zs.getD ix e9) with td:=(zs.getD ix e9).td.drop 1 }:j9)) Z9)),rfl,rfl,by first | rfl | (exfalso;omega) | (simp only[ZO]) | (simp;omega),rfl,rfl,⟨by rw[List.length_set];exact hi,hl,by have:=hy.ta _ (aI (d:=j8) hne);omega,hn,EG hi,hy.w⟩,Ni (Zo (V.own 8 · g o c) (Ij hi)),fun hG=>rfl,fun hG=>by(try simp only[nb]at hG);omega,⟨fun h=>by rw[h] <;> rfl,fun _=>rfl⟩,?_⟩
 refine bI (fun j7=>?_) fun j7=>?_
 refine⟨rfl,Z9,rfl,(aK (f:=2) rfl).trans (az (aB Z9) rfl),?_⟩
 intro PA Pu PG
 refine⟨dz (aP (aB Z9) (cH Z9)),trivial,(aK (f:=2) rfl).trans (az (aB Z9) rfl),rfl,⟨rfl,rfl,(aK (f:=2) rfl).trans (az (aB Z9) rfl),rfl,rfl,by simp[aC,V.n,V.ns],by(try simp only[ZW,ZM,ZU,ZQ,List.length_drop]);omega⟩,?_⟩
 intro K7
 refine⟨dz (aP (aB Z9) (cH Z9)),Zo (V.own 2 · K7.1 K7.2.1 K7.2.2) Z8,trivial,(aK (f:=2) rfl).trans (az (aB Z9) rfl),dz (aP (aB Z9) (cH Z9)),(aK (f:=2) rfl).trans (az (aB Z9) rfl),dz (aP (aB Z9) (cH Z9)),Ni (Zo (V.own 8 · g o c) (jV (f:=aw) (x:=({ (C3 w (zs.getD ix e9) a7) with td:=(zs.getD ix e9).td.drop 1++[(⟨((zs.getD ix e9).td.getD 0 j8).ad,((zs.getD ix e9).td.getD 0 j8).tr+1⟩:u0)] }:j9)) Z9)),?_⟩
 refine⟨?_,rfl,by rw[LG j7]⟩
 unfold Q
 rfl
 refine⟨rfl,rfl,⟨by have:=hy.ta _ (aI (d:=j8) hne);omega,(hy.ta _ (aI (d:=j8) hne)).2.1⟩,?_⟩
 intro g7
 refine⟨rfl,Ni (Zo (V.own 8 · g o c) (jV (f:=aw) (x:=(C3 w (zs.getD ix e9) a7)) Z9)),?_⟩
 refine bI (fun l4=>?_) fun l4=>?_
 refine⟨?_,rfl,by rw[LN j7 (by simpa using l4)]⟩
 unfold Q
 rfl
 refine⟨rfl,rfl,⟨by exact pC _,Kd hz,DS hz⟩,?_⟩
 refine⟨⟨(0,zs.set ix (C3 w (zs.getD ix e9) a7),se),?_,rfl,Z4,Z4,rfl,rfl,Z4,trivial⟩,?_⟩
 exact⟨Z8,rfl,rfl⟩
 rintro⟨i,zz,ss⟩ ⟨h1,h2,h3⟩
 have hll:=CB (k:=(ae w ((zs.getD ix e9).td.getD 0 j8).ad ((zs.getD ix e9).td.getD 0 j8).tr).1) (b:=oA (ar ((zs.getD ix e9).td.getD 0 j8).ad)) (t:=(ae w ((zs.getD ix e9).td.getD 0 j8).ad ((zs.getD ix e9).td.getD 0 j8).tr).2)
 have UB:=qg (((if (ae w ((zs.getD ix e9).td.getD 0 j8).ad ((zs.getD ix e9).td.getD 0 j8).tr).1=1 then bf (oA (ar ((zs.getD ix e9).td.getD 0 j8).ad)) (ae w ((zs.getD ix e9).td.getD 0 j8).ad ((zs.getD ix e9).td.getD 0 j8).tr).2 else if (ae w ((zs.getD ix e9).td.getD 0 j8).ad ((zs.getD ix e9).td.getD 0 j8).tr).1=2 then [(ae w ((zs.getD ix e9).td.getD 0 j8).ad ((zs.getD ix e9).td.getD 0 j8).tr).2] else [])).take i) (KF (w:=w) (ls:=ls++[(⟨a7,((zs.getD ix e9).td.getD 0 j8).ad,(ae w ((zs.getD ix e9).td.getD 0 j8).ad ((zs.getD ix e9).td.getD 0 j8).tr).1⟩:l9)]) hi hy ht) hnn (fun s hs=>pA hw hz s (List.mem_of_mem_take hs))
 have hx:=nB (((if (ae w ((zs.getD ix e9).td.getD 0 j8).ad ((zs.getD ix e9).td.getD 0 j8).tr).1=1 then bf (oA (ar ((zs.getD ix e9).td.getD 0 j8).ad)) (ae w ((zs.getD ix e9).td.getD 0 j8).ad ((zs.getD ix e9).td.getD 0 j8).tr).2 else if (ae w ((zs.getD ix e9).td.getD 0 j8).ad ((zs.getD ix e9).td.getD 0 j8).tr).1=2 then [(ae w ((zs.getD ix e9).td.getD 0 j8).ad ((zs.getD ix e9).td.getD 0 j8).tr).2] else [])).take i) (⟨n,a7,zs.set ix (C3 w (zs.getD ix e9) a7),se,ls++[(⟨a7,((zs.getD ix e9).td.getD 0 j8).ad,(ae w ((zs.getD ix e9).td.getD 0 j8).ad ((zs.getD ix e9).td.getD 0 j8).tr).1⟩:l9)]⟩:l5)
 refine bI (fun m8=>?_) fun m8=>?_
 have MZ:=pA (b:=oA (ar ((zs.getD ix e9).td.getD 0 j8).ad)) hw hz _ (oM (l:=(if (ae w ((zs.getD ix e9).td.getD 0 j8).ad ((zs.getD ix e9).td.getD 0 j8).tr).1=1 then bf (oA (ar ((zs.getD ix e9).td.getD 0 j8).ad)) (ae w ((zs.getD ix e9).td.getD 0 j8).ad ((zs.getD ix e9).td.getD 0 j8).tr).2 else if (ae w ((zs.getD ix e9).td.getD 0 j8).ad ((zs.getD ix e9).td.getD 0 j8).tr).1=2 then [(ae w ((zs.getD ix e9).td.getD 0 j8).ad ((zs.getD ix e9).td.getD 0 j8).tr).2] else [])) (i:=i) Z9)
 refine⟨⟨Z9,aj (d:=[]) Z9⟩,trivial,trivial,rfl,rfl,rfl,⟨by rw[h2];have:=UB.h;have:=UB.s;omega,by rw[h3];have:=UB.s;omega,by have:=MZ.1;omega,MZ.2.1,fun y hy=>by rw[h2]at hy;have q:=UB.ha y hy;have:=UB.s;exact⟨by have:=q.t;omega,q.r,q.rp⟩⟩,Z9,?_⟩
 refine⟨(i+1,bg n zz ss ((if (ae w ((zs.getD ix e9).td.getD 0 j8).ad ((zs.getD ix e9).td.getD 0 j8).tr).1=1 then bf (oA (ar ((zs.getD ix e9).td.getD 0 j8).ad)) (ae w ((zs.getD ix e9).td.getD 0 j8).ad ((zs.getD ix e9).td.getD 0 j8).tr).2 else if (ae w ((zs.getD ix e9).td.getD 0 j8).ad ((zs.getD ix e9).td.getD 0 j8).tr).1=2 then [(ae w ((zs.getD ix e9).td.getD 0 j8).ad ((zs.getD ix e9).td.getD 0 j8).tr).2] else []).getD i []),df ss ((if (ae w ((zs.getD ix e9).td.getD 0 j8).ad ((zs.getD ix e9).td.getD 0 j8).tr).1=1 then bf (oA (ar ((zs.getD ix e9).td.getD 0 j8).ad)) (ae w ((zs.getD ix e9).td.getD 0 j8).ad ((zs.getD ix e9).td.getD 0 j8).tr).2 else if (ae w ((zs.getD ix e9).td.getD 0 j8).ad ((zs.getD ix e9).td.getD 0 j8).tr).1=2 then [(ae w ((zs.getD ix e9).td.getD 0 j8).ad ((zs.getD ix e9).td.getD 0 j8).tr).2] else []).getD i [])),?_,?_,rfl,rfl,rfl,rfl,rfl,rfl,trivial⟩
 rw[foldl_succ (d:=[]) Z9,h2,h3]
 have hq:=nB (((if (ae w ((zs.getD ix e9).td.getD 0 j8).ad ((zs.getD ix e9).td.getD 0 j8).tr).1=1 then bf (oA (ar ((zs.getD ix e9).td.getD 0 j8).ad)) (ae w ((zs.getD ix e9).td.getD 0 j8).ad ((zs.getD ix e9).td.getD 0 j8).tr).2 else if (ae w ((zs.getD ix e9).td.getD 0 j8).ad ((zs.getD ix e9).td.getD 0 j8).tr).1=2 then [(ae w ((zs.getD ix e9).td.getD 0 j8).ad ((zs.getD ix e9).td.getD 0 j8).tr).2] else [])).take i) (⟨n,a7,zs.set ix (C3 w (zs.getD ix e9) a7),se,ls++[(⟨a7,((zs.getD ix e9).td.getD 0 j8).ad,(ae w ((zs.getD ix e9).td.getD 0 j8).ad ((zs.getD ix e9).td.getD 0 j8).tr).1⟩:l9)]⟩:l5)
 exact⟨Z9,by show _=bg ((((if (ae w ((zs.getD ix e9).td.getD 0 j8).ad ((zs.getD ix e9).td.getD 0 j8).tr).1=1 then bf (oA (ar ((zs.getD ix e9).td.getD 0 j8).ad)) (ae w ((zs.getD ix e9).td.getD 0 j8).ad ((zs.getD ix e9).td.getD 0 j8).tr).2 else if (ae w ((zs.getD ix e9).td.getD 0 j8).ad ((zs.getD ix e9).td.getD 0 j8).tr).1=2 then [(ae w ((zs.getD ix e9).td.getD 0 j8).ad ((zs.getD ix e9).td.getD 0 j8).tr).2] else [])).take i).foldl aE (⟨n,a7,zs.set ix (C3 w (zs.getD ix e9) a7),se,ls++[(⟨a7,((zs.getD ix e9).td.getD 0 j8).ad,(ae w ((zs.getD ix e9).td.getD 0 j8).ad ((zs.getD ix e9).td.getD 0 j8).tr).1⟩:l9)]⟩:l5)).na ((((if (ae w ((zs.getD ix e9).td.getD 0 j8).ad ((zs.getD ix e9).td.getD 0 j8).tr).1=1 then bf (oA (ar ((zs.getD ix e9).td.getD 0 j8).ad)) (ae w ((zs.getD ix e9).td.getD 0 j8).ad ((zs.getD ix e9).td.getD 0 j8).tr).2 else if (ae w ((zs.getD ix e9).td.getD 0 j8).ad ((zs.getD ix e9).td.getD 0 j8).tr).1=2 then [(ae w ((zs.getD ix e9).td.getD 0 j8).ad ((zs.getD ix e9).td.getD 0 j8).tr).2] else [])).take i).foldl aE (⟨n,a7,zs.set ix (C3 w (zs.getD ix e9) a7),se,ls++[(⟨a7,((zs.getD ix e9).td.getD 0 j8).ad,(ae w ((zs.getD ix e9).td.getD 0 j8).ad ((zs.getD ix e9).td.getD 0 j8).tr).1⟩:l9)]⟩:l5)).hs ((((if (ae w ((zs.getD ix e9).td.getD 0 j8).ad ((zs.getD ix e9).td.getD 0 j8).tr).1=1 then bf (oA (ar ((zs.getD ix e9).td.getD 0 j8).ad)) (ae w ((zs.getD ix e9).td.getD 0 j8).ad ((zs.getD ix e9).td.getD 0 j8).tr).2 else if (ae w ((zs.getD ix e9).td.getD 0 j8).ad ((zs.getD ix e9).td.getD 0 j8).tr).1=2 then [(ae w ((zs.getD ix e9).td.getD 0 j8).ad ((zs.getD ix e9).td.getD 0 j8).tr).2] else [])).take i).foldl aE (⟨n,a7,zs.set ix (C3 w (zs.getD ix e9) a7),se,ls++[(⟨a7,((zs.getD ix e9).td.getD 0 j8).ad,(ae w ((zs.getD ix e9).td.getD 0 j8).ad ((zs.getD ix e9).td.getD 0 j8).tr).1⟩:l9)]⟩:l5)).se _;rw[hq.1],rfl⟩
 exact Z1
 refine⟨?_,rfl,by rw[Lq j7 (by simpa using l4),h2,h3,ZL Z9,(nB _ _).2.2]⟩
 unfold Q
 rfl)
section
open Go.RowKit Go.Extern.Stop Go.Stop Go.Extern
theorem EX(v:Value)(w:World):(Extern.ReflectliteType.typeOf #[.iface 251 v]).run Tryz.prog w=.ok (.iface 161 (.agg #[.pointer (some ⟨4,251,none⟩)])) w:=Z7
theorem yj(w:World):((Extern.ReflectliteType.method fun t=>do Rtype.noPackHeld "Comparable" t;(fun a=>Value.bool a.comparable) <$> typeInfo t) #[.agg #[.pointer (some ⟨4,251,none⟩)]]).run Tryz.prog w=.ok (.bool true) w:=Z7
theorem EM(v:Value)(w:World):(Go.method 385 161 v "Comparable").run Tryz.prog w=.ok (225,v) w:=Z7
theorem JW:(Tryz.prog.info? 251).map (·.comparable)=some true:=Z7
theorem JN:(Tryz.prog.info? 274).map (·.size)=some 1:=Z7
theorem By(a:Addr)(w:World):
 Calls Tryz.prog 66 #[.iface 251 (.pointer (some a)),.iface 251 (.pointer (some a))] w fun e w'=>e=.returned (.bool true)/\w'=w:=by
 obtain⟨i,hi,hcmp⟩:=Option.map_eq_some_iff.1 JW
 obtain⟨j,hj,hjs⟩:=Option.map_eq_some_iff.1 JN
 have h8:= @run_callFunc_extern Tryz.prog 96 _ Extern.ReflectliteType.typeOf Tryz.func96 Z7 Z7 Z7 Z7
 have h32:= @run_callFunc_extern Tryz.prog 225 _ (Extern.ReflectliteType.method fun t=>do Rtype.noPackHeld "Comparable" t;pure (.bool (<- typeInfo t).comparable)) Tryz.func225 Z7 Z7 Z7 Z7
 have tT:=EX
 have cT:=yj
 have mR:=EM
 have heq:=run_eql_iface_ptr_same (P:=Tryz.prog) w a Tryz.underlying111 Tryz.underlying251 hi hcmp hj
 go_enter Tryz.func66,Tryz.ntmps66
 go_wp2
 refine wp_loop_rounds 1 ?_
 rw[rounds_succ]
 go_wp2
 go_ret
 exact⟨rfl,rfl⟩
theorem Cj(b:Addr)(w:World):
 Calls Tryz.prog 66 #[.nilIface,.iface 251 (.pointer (some b))] w fun e w'=>e=.returned (.bool false)/\w'=w:=by
 have hn:=run_eql_iface_nil_left (P:=Tryz.prog) w 251 (.pointer (some b)) Tryz.underlying111
 go_enter Tryz.func66,Tryz.ntmps66
 go_wp2
 go_ret
 exact⟨rfl,rfl⟩
theorem FH(a:Addr):PC Tryz.prog 66 [.lit (.iface 251 (.pointer (some a))),.lit (.iface 251 (.pointer (some a)))] (fun r=>r=bV true):=by
 refine⟨dF Tryz.func66 Z7 Z7,fun w Pb cargs hP hargs=>?_⟩
 obtain⟨x,xs,F1,F2,rfl,hF,h1,h2⟩:=hargs
 obtain⟨y,ys,F3,F4,rfl,hF2,h3,h4⟩:=h2
 obtain⟨rfl,_⟩:=h4
 have e1:x=.iface 251 (.pointer (some a)):=by have:=h1.2.1;simpa using this
 have e2:y=.iface 251 (.pointer (some a)):=by have:=h3.2.1;simpa using this
 subst e1;subst e2
 refine(By a w).mono ?_
 rintro e w' ⟨rfl,rfl⟩
 exact⟨_,_,[],Pb,rfl,rfl,cU rfl,ZA,Z8,fun _ h=>h,fun _ h=>.inl h,Below.refl _ _⟩
theorem EH(a:Addr):PF Tryz.prog 66 [.lit (.iface 251 (.pointer (some a))),.lit (.iface 251 (.pointer (some a)))] [] (fun r h=>r=bV true/\h=[]):=fT rfl rfl (FH a)
theorem Cf(a:Addr):PC Tryz.prog 66 [.lit .nilIface,.lit (.iface 251 (.pointer (some a)))] (fun r=>r=bV false):=by
 refine⟨dF Tryz.func66 Z7 Z7,fun w Pb cargs hP hargs=>?_⟩
 obtain⟨x,xs,F1,F2,rfl,hF,h1,h2⟩:=hargs
 obtain⟨y,ys,F3,F4,rfl,hF2,h3,h4⟩:=h2
 obtain⟨rfl,_⟩:=h4
 have e1:x=.nilIface:=by have:=h1.2.1;simpa using this
 have e2:y=.iface 251 (.pointer (some a)):=by have:=h3.2.1;simpa using this
 subst e1;subst e2
 refine(Cj a w).mono ?_
 rintro e w' ⟨rfl,rfl⟩
 exact⟨_,_,[],Pb,rfl,rfl,cU rfl,ZA,Z8,fun _ h=>h,fun _ h=>.inl h,Below.refl _ _⟩
theorem Cw(a:Addr):PF Tryz.prog 66 [.lit .nilIface,.lit (.iface 251 (.pointer (some a)))] [] (fun r h=>r=bV false/\h=[]):=fT rfl rfl (Cf a)
end
section
variable {P:Program}
def baC(v:V):Cu P where
 X:=Unit
 pre N o A:=match o.op,o.dst with
  | .build T a8,some d=>match Nat.blt d N,ij ((a8.toList.map (·.2)).map A.ev) with
    | true,some l=> ∃ y,v.val? =some y/\∀ w,(Instr.build T ((a8.toList.map (·.1)).zip l).toArray).run P w=.ok y w
    | _,_=>False
  | _,_=>False
 post _ o A:=A.put o.dst v
 ok:=by
  rintro N ⟨dst,op,ty,pos,after,B9⟩ A K-hp hK
  replace hK:=hK ()
  simp only at hp hK
  split at hp
  rename_i T a8 d
  split at hp
  rename_i l e1 e2
  obtain⟨y,hv,hr⟩:=hp
  refine fN rfl (bu e1) hK fun Pb Kb a w F hs=>⟨y,?_,tM hv⟩
  have h1:=kP hs _ e2
  have key:∀ q:List (Nat×Operand),q.map (fun p=>(p.1,a.eval p.2))=(q.map (·.1)).zip ((q.map (·.2)).map a.eval):=fun q=>by
   induction q with
   | nil=>rfl
   | cons p q ih=>simp only[Zw,List.zip_cons_cons,ih]
  have h2:(a8.map fun p=>(p.1,a.eval p.2))=((a8.toList.map (·.1)).zip l).toArray:=by
   rw[<- h1,<- key];apply Array.ext';simp
  have h3:=hr w
  rw[<- h2]at h3
  simp only[execOp,ZK,h3,ZS,ZJ]
  exact hp.elim
  exact hp.elim
def bmC:Cu P where
 X:=Nat
 pre N o A:=match o.op,o.dst with
  | .box _ x,some d=>Nat.blt d N=true/\(A.ev x).isVal=true
  | _,_=>False
 post g o A:=match o.op,o.dst with
  | .box _ x,some d=>⟨((A.drop x).put (some d) (.ptr (.key d) [] g 0)).t,(d,(g,A.ev x))::(A.drop x).h⟩
  | _,_=>A
 ok:=by
  rintro N ⟨dst,op,ty,pos,after,B9⟩ A K-hp hK
  simp only at hp hK
  split at hp
  rename_i T x d
  obtain⟨e1,hv⟩:=hp
  intro Pb Kb a w F Q hs
  obtain⟨Fx,F',hr,x5,hnd,s6,hfr,_⟩:=hs.take x
  have hR:=xm hr hv
  have h1:=x5.mA (.cells (a.eval x).cells T)
  have h2:=h1.put (d:=d) (v:=.ptr (.key d) [] w.heap.size 0) (x:=.pointer (some ⟨w.heap.size,0,none⟩)) (F':=[]) (bu e1) ⟨rfl,rfl⟩ Z8 Z8 Z8
  have hA:At (w.alloc (.cells (a.eval x).cells T)) Pb (A.ev x) w.heap.size 0 Fx:=
   ⟨(a.eval x).cells.toList,(a.eval x).cells,⟨T,(0,0),ft w _,fun i _ h=>by omega⟩,fi (A.ev x) hR (fun g hg=>alloc_old w _ g (hs.bound g (hs.sub g hg))) (fun g hg=>alloc_old w _ g (hfr g hg).2) (fun _ h=>h) (fun g hg c=>(hfr g hg).1 (hs.sub g c)),fun j u hu=>by simpa using hu⟩
  have h3:=h2.Af (k:=d) hA (List.nodup_cons.2 ⟨fun c=>by have:=(hfr _ c).2;omega,hnd⟩) (fun r y hy c=>by
   simp only[bO]at c
   rcases List.mem_cons.1 hy with rfl | hy
   split at c
   simp at c
   have:=(x5.free r _ c).2;omega
   split at c
   simp at c
   exact s6 r y hy c) (fun y hy=>by
   rcases List.mem_cons.1 hy with rfl | hy
   exact⟨fun c=>by have:=hs.bound _ c;omega,by rw[dh];omega⟩
   exact⟨(hfr y hy).1,by rw[dh];have:=(hfr y hy).2;omega⟩)
  have x8:(execOp a.eval ⟨some d,.box T x,ty,pos,after,B9⟩).run P w=.ok (.value (.pointer (some ⟨w.heap.size,0,none⟩))) (w.alloc (.cells (a.eval x).cells T)):=by
   simp[execOp,Instr.box,newVar,iy]
  unfold Oper.wp
  rw[x8,Oper.upon_value]
  exact⟨_,Pb,Kb,_,hK w.heap.size,h3,fun _ h=>h,fun _ h=>h,fun _ h=>.inl h,w5.alloc hs.bound _⟩
  exact hp.elim
end
def Mc(t:l5):Bool:=(iD t).isSome&&decide (t.lk.length<400)
def D'(w:List Pg)(t:l5):l5:=if (t.hs.getD (o5 t) e9).kn=true then Mn w { t with a7:=z7 t } (o5 t) else QE w { t with a7:=z7 t } (o5 t)
structure Nq (t:l5):Prop where
 t0:TS t
 n:t.na.length<=1000
 l:t.lk.length<=400
 w:0<=t.a7/\t.a7<=5000
theorem yh(w:List Pg)(t:l5)(i:Nat):(Mn w t i).na=t.na/\(Mn w t i).a7=t.a7:=by
 unfold Mn
 simp only
 split
 exact⟨rfl,rfl⟩
 split
 have:=nB (yi ((t.hs.getD i e9).td.getD 0 j8).ad (ae w ((t.hs.getD i e9).td.getD 0 j8).ad ((t.hs.getD i e9).td.getD 0 j8).tr).1 (ae w ((t.hs.getD i e9).td.getD 0 j8).ad ((t.hs.getD i e9).td.getD 0 j8).tr).2) { t with hs:=t.hs.set i (C3 w (t.hs.getD i e9) t.a7),lk:=t.lk++[⟨t.a7,((t.hs.getD i e9).td.getD 0 j8).ad,(ae w ((t.hs.getD i e9).td.getD 0 j8).ad ((t.hs.getD i e9).td.getD 0 j8).tr).1⟩] }
 exact⟨this.1,this.2.1⟩
 exact⟨rfl,rfl⟩
theorem JC(t:l5):∀ i,i<=t.hs.length->(I9 t i=(-1,0))\/∃ j:Nat,(I9 t i).1=(j:Int)/\j<i/\(t.hs.getD j e9).td≠[]/\t.a7<=(I9 t i).2
 | 0,_=>.inl rfl
 | i+1,hi=>by
   rw[ou Z9]
   unfold nD
   split
   rename_i c
   exact .inr ⟨i,rfl,Z9,c.1,by simp only;omega⟩
   rcases JC t i Z9 with h | ⟨j,h1,h2,h3,h4⟩
   exact .inl h
   exact .inr ⟨j,h1,Z9,h3,h4⟩
theorem mj{t:l5}(h:Mc t=true):o5 t<t.hs.length/\(t.hs.getD (o5 t) e9).td≠[]/\t.a7<=z7 t/\z7 t<=5000:=by
 unfold Mc at h
 rw[ZX]at h
 have h1:=h.1
 unfold o5 z7
 unfold iD at h1 ⊢
 split at h1
 cases h1
 rename_i c
 rw[if_neg c]
 rcases JC t _ (Zy _) with e | ⟨j,e1,e2,e3,e4⟩
 rw[e]at c;exact absurd (.inl Z6) c
 simp only[Option.map_some,Option.getD_some,e1,Int.toNat_natCast]
 exact⟨e2,e3,e4,Z9⟩
theorem Li{t:l5}(h:(iD t).isSome=false\/(400:Int)<=(t.lk.length:Int)): ¬ Mc t=true:=fun c=>by
 unfold Mc at c
 rw[ZX,Zq]at c
 rcases h with h | h
 rw[h]at c;exact absurd c.1 Z6
 omega
theorem KT{t:l5}(h:(iD t).isSome=true/\(t.lk.length:Int)<400): ¬ Mc t=false:=fun c=>by
 unfold Mc at c
 rw[h.1,decide_eq_true Z9]at c;cases c
theorem KR{t:l5}(h:Nq t){i:Nat}(hi:i<t.hs.length):HS 60 (t.hs.getD i e9):=(h.t0.ha _ (aI (d:=e9) hi)).mono h.t0.s
theorem Lt{w:List Pg}{n:BL}{a7:Int}{zs:List j9}{se:List BL}{ls:List l9}(h:(zs.getD (o5 ⟨n,a7,zs,se,ls⟩) e9).kn=true):D' w ⟨n,a7,zs,se,ls⟩=Mn w ⟨n,z7 ⟨n,a7,zs,se,ls⟩,zs,se,ls⟩ (o5 ⟨n,a7,zs,se,ls⟩):=if_pos h
theorem LQ{w:List Pg}{n:BL}{a7:Int}{zs:List j9}{se:List BL}{ls:List l9}(h:(zs.getD (o5 ⟨n,a7,zs,se,ls⟩) e9).kn=false):D' w ⟨n,a7,zs,se,ls⟩=QE w ⟨n,z7 ⟨n,a7,zs,se,ls⟩,zs,se,ls⟩ (o5 ⟨n,a7,zs,se,ls⟩):=if_neg (by rw[h];decide)
def za(ea:Addr):o8 Tryz.prog:={ f:=66,args:=[.lit (.iface 251 (.pointer (some ea))),.lit (.iface 251 (.pointer (some ea)))],H:=[],pre:=True,res:=bV true,H':=[],ok:=fun _=>EH ea }
def xc(ea:Addr):o8 Tryz.prog:={ f:=66,args:=[.lit .nilIface,.lit (.iface 251 (.pointer (some ea)))],H:=[],pre:=True,res:=bV false,H':=[],ok:=fun _=>Cw ea }
def CU(n:BL)(a7:Int)(zs:List j9)(se:List BL)(ls:List l9)(gt:Nat)(gw:Nat)(ea:Addr)(w:List Pg):o8 Tryz.prog:=.mk 67 [.ptr (.key 1001) [] gw 0] [(1001,(gw,.agg [.mp (w.map E1),.ptr (.key 1000) [] gt 0])),(1000,(gt,bm n a7 zs se ls)),(9000,(0,.lit (.iface 251 (.pointer (some ea)))))] ((av w=true)/\(∀ i,n7 (w.getD i m0))/\(Nq (⟨n,a7,zs,se,ls⟩:l5))/\(Mc (⟨n,a7,zs,se,ls⟩:l5)=true)) (.lit .nilIface) [(1001,(gw,.agg [.mp (w.map E1),.ptr (.key 1000) [] gt 0])),(1000,(gt,bm n ((D' w (⟨n,a7,zs,se,ls⟩:l5)).a7) ((D' w (⟨n,a7,zs,se,ls⟩:l5)).hs) ((D' w (⟨n,a7,zs,se,ls⟩:l5)).se) ((D' w (⟨n,a7,zs,se,ls⟩:l5)).lk))),(9000,(0,.lit (.iface 251 (.pointer (some ea)))))] (by
 rintro⟨hw,hz,ht,hg⟩
 have Ux:=mj hg
 have Uw:=KR ht Ux.1
 simp only at Ux Uw
 refine aq (N:=52) (rs:=[.tmp 2]) Tryz.func67
  (.q 1<|.r 5 [.b7]<|.q 1<|.c (sW n a7 zs se ls gt) [(1000,1000)]<|.q 7<|.oR (.key 1000) [4] (fun gl PW cl=>.r 10 [.b7]<|.br (.nil) (.q 4<|.st none<|.oR (.key 1000) [2] (fun g o c=>.r 7 [.b7]<|.cu (baC (.agg [.lit (.func (.func 99) #[] #[]),.lit (.func (.func 100) #[] #[])])) (fun _=>.al KH (fun g8=>.st none<|.q 1<|.r 4 [bV ((zs.getD (o5 (⟨n,a7,zs,se,ls⟩:l5)) e9).kn)]<|.br (.q 1<|.r 5 [.b7]<|.c (yM n (z7 (⟨n,a7,zs,se,ls⟩:l5)) zs se ls gt g o c gw (o5 (⟨n,a7,zs,se,ls⟩:l5)) w) [(1001,1001),(1000,1000)]<|.q 1<|.nil) (.r 5 [.b7]<|.c (wK n (z7 (⟨n,a7,zs,se,ls⟩:l5)) zs se ls gt g o c gw (o5 (⟨n,a7,zs,se,ls⟩:l5)) w) [(1001,1001),(1000,1000)]<|.q 1<|.nil)))))))
  ((fun v1:j9=>(fun v2:Bool=>(True/\Z gw 1/\(sW n a7 zs se ls gt).sm/\Er gt (bm n a7 zs se ls)/\((zs.length<=1000))/\∀ gl PW cl:Nat,Gd (v2==false) True/\Gd (v2==false) (Z gt 4)/\Pk v2 true (v2==false)/\Br (v2||(x6 (((ls.map aX).length:Nat):Int) 400)) (False) (True/\Z gt 1/\∀ g o c:Nat,(fun v3:List V=>(fun v4:V=>True/\Z gt 2/\In (((o5 (⟨n,a7,zs,se,ls⟩:l5)):Nat):Int) ((zs.map aw).length)/\(∃ y,(.agg [.lit (.func (.func 99) #[] #[]),.lit (.func (.func 100) #[] #[])]:V).val? =some y/\∀ w,(Instr.build 149 ([(0,.func (.func 99) #[] #[]),(1,.func (.func 100) #[] #[])]:List (Nat×Value)).toArray).run Tryz.prog w=.ok y w)/\∀ _:Unit,(fun v5:l5=>(fun v6:V=> ∀ g8:Nat,Z g8 0/\True/\(V.at gt 0 (.agg [sV n,iV (z7 (⟨n,a7,zs,se,ls⟩:l5)),.own 8 (zs.map aw) g o c,.ow 1 (se.map sV),.own 3 (ls.map aX) gl PW cl]) [2,0+(o5 (⟨n,a7,zs,se,ls⟩:l5)),2]=some (g,(o+(0+(o5 (⟨n,a7,zs,se,ls⟩:l5)))*8+2),bV (v1.kn)))/\Br (v1.kn) (((0:Int)<=1/\(1:Int)<2)/\Z g8 1/\(v3=[.ptr (.key 1001) [] gw 0,.ptr (.key 1000) [2,(o5 (⟨n,a7,zs,se,ls⟩:l5))] g (o+(o5 (⟨n,a7,zs,se,ls⟩:l5))*8)])/\Er gw v6/\Er gt v4/\(((o5 (⟨n,a7,zs,se,ls⟩:l5))<zs.length)/\(ls.length<=1000)/\(0<=(z7 (⟨n,a7,zs,se,ls⟩:l5))/\(z7 (⟨n,a7,zs,se,ls⟩:l5))<=100000)/\(HS 60 v1)/\(av w=true)/\(∀ i,n7 (w.getD i m0))/\(0<v1.td.length)/\(TS ⟨n,(z7 (⟨n,a7,zs,se,ls⟩:l5)),zs,se,ls⟩)/\(n.length<=1000))/\Q (.lit .nilIface) (.lit .nilIface)/\Er gw v6/\Qr gt (bm n (z7 (⟨n,a7,zs,se,ls⟩:l5)) ((Mn w (⟨n,(z7 (⟨n,a7,zs,se,ls⟩:l5)),zs,se,ls⟩:l5) (o5 (⟨n,a7,zs,se,ls⟩:l5))).hs) ((Mn w (⟨n,(z7 (⟨n,a7,zs,se,ls⟩:l5)),zs,se,ls⟩:l5) (o5 (⟨n,a7,zs,se,ls⟩:l5))).se) ((Mn w (⟨n,(z7 (⟨n,a7,zs,se,ls⟩:l5)),zs,se,ls⟩:l5) (o5 (⟨n,a7,zs,se,ls⟩:l5))).lk)) gt (bm n (v5.a7) (v5.hs) (v5.se) (v5.lk))/\Er 0 (.lit (.iface 251 (.pointer (some ea))))) (((0:Int)<=0/\(0:Int)<2)/\Z g8 0/\(v3=[.ptr (.key 1001) [] gw 0,.ptr (.key 1000) [2,(o5 (⟨n,a7,zs,se,ls⟩:l5))] g (o+(o5 (⟨n,a7,zs,se,ls⟩:l5))*8)])/\Er gw v6/\Er gt v4/\(((o5 (⟨n,a7,zs,se,ls⟩:l5))<zs.length)/\(ls.length<=1000)/\(0<=(z7 (⟨n,a7,zs,se,ls⟩:l5))/\(z7 (⟨n,a7,zs,se,ls⟩:l5))<=100000)/\(HS 60 v1)/\(∀ i,n7 (w.getD i m0)))/\Q (.lit .nilIface) (.lit .nilIface)/\Er gw v6/\Qr gt (bm n (z7 (⟨n,a7,zs,se,ls⟩:l5)) (zs.set (o5 (⟨n,a7,zs,se,ls⟩:l5)) (Nk w n v1 (z7 (⟨n,a7,zs,se,ls⟩:l5)))) se (ls++[(⟨(z7 (⟨n,a7,zs,se,ls⟩:l5)),ai v1.na,(ae w (ai v1.na) v1.tr).1⟩:l9)])) gt (bm n (v5.a7) (v5.hs) (v5.se) (v5.lk))/\Er 0 (.lit (.iface 251 (.pointer (some ea)))))) (.agg [.mp (w.map E1),.ptr (.key 1000) [] gt 0])) (D' w (⟨n,a7,zs,se,ls⟩:l5))) (bz n (z7 (⟨n,a7,zs,se,ls⟩:l5)) zs g o c se ls)) ([.ptr (.key 1001) [] gw 0,.ptr (.key 1000) [2,(o5 (⟨n,a7,zs,se,ls⟩:l5))] g (o+(0+(o5 (⟨n,a7,zs,se,ls⟩:l5)))*8)]:List V)))) (!((iD (⟨n,a7,zs,se,ls⟩:l5)).isSome))) (zs.getD (o5 (⟨n,a7,zs,se,ls⟩:l5)) e9)) ?_
 refine⟨trivial,rfl,rfl,rfl,by have:=ht.t0.h;have:=ht.t0.s;simp only at *;omega,?_⟩
 intro gl PW cl
 refine⟨fun hG=>trivial,fun hG=>rfl,⟨fun _=>rfl,fun h=>by rw[h] <;> rfl⟩,?_⟩
 refine bI (fun j7=>?_) fun j7=>?_
 · all_goals exact absurd hg (Li j7)
 refine⟨trivial,rfl,?_⟩
 intro g o c
 refine⟨trivial,rfl,Z2,⟨_,rfl,fun _=>by kernel_rfl⟩,?_⟩
 intro _
 intro g8
 refine⟨rfl,trivial,(aK (f:=2) rfl).trans (az (by rw[ZO];exact aj (d:=e9) Z9) rfl),?_⟩
 refine bI (fun l4=>?_) fun l4=>?_
 refine⟨Z9,rfl,by first | rfl | (exfalso;omega) | (simp only[ZO]) | (simp;omega),rfl,rfl,⟨Ux.1,by have:=ht.l;simp only at *;omega,by have:=ht.w;simp only at *;omega,Uw,hw,hz,List.length_pos_iff.2 Ux.2.1,⟨ht.t0.s,ht.t0.h,ht.t0.sa,ht.t0.ha⟩,ht.n⟩,?_⟩
 refine⟨?_,rfl,by rw[Lt l4,(yh w _ _).2],rfl⟩
 unfold Q
 rfl
 refine⟨Z9,rfl,by first | rfl | (exfalso;omega) | (simp only[ZO]) | (simp;omega),rfl,rfl,⟨Ux.1,by have:=ht.l;simp only at *;omega,by have:=ht.w;simp only at *;omega,Uw,hz⟩,?_⟩
 refine⟨?_,rfl,by rw[LQ l4];rfl,rfl⟩
 unfold Q
 rfl)
def yR(n:BL)(a7:Int)(zs:List j9)(se:List BL)(ls:List l9)(gt:Nat)(gw:Nat)(ea:Addr)(w:List Pg):o8 Tryz.prog:=.mk 67 [.ptr (.key 1001) [] gw 0] [(1001,(gw,.agg [.mp (w.map E1),.ptr (.key 1000) [] gt 0])),(1000,(gt,bm n a7 zs se ls)),(9000,(0,.lit (.iface 251 (.pointer (some ea)))))] ((av w=true)/\(∀ i,n7 (w.getD i m0))/\(Nq (⟨n,a7,zs,se,ls⟩:l5))/\(Mc (⟨n,a7,zs,se,ls⟩:l5)=false)) (.lit (.iface 251 (.pointer (some ea)))) [(1001,(gw,.agg [.mp (w.map E1),.ptr (.key 1000) [] gt 0])),(1000,(gt,bm n a7 zs se ls)),(9000,(0,.lit (.iface 251 (.pointer (some ea)))))] (by
 rintro⟨hw,hz,ht,hg⟩
 refine aq (N:=52) (rs:=[.tmp 2]) Tryz.func67
  (.q 1<|.r 5 [.b7]<|.q 1<|.c (sW n a7 zs se ls gt) [(1000,1000)]<|.q 7<|.oR (.key 1000) [4] (fun gl PW cl=>.r 10 [.b7]<|.br (.r 2 [.b7]<|.nil) (.nil)))
  ((fun v1:Bool=>(fun v2:V=>(True/\Z gw 1/\(sW n a7 zs se ls gt).sm/\Er gt (bm n a7 zs se ls)/\((zs.length<=1000))/\∀ gl PW cl:Nat,Gd (v1==false) True/\Gd (v1==false) (Z gt 4)/\Pk v1 true (v1==false)/\Br (v1||(x6 (((ls.map aX).length:Nat):Int) 400)) (Z 0 0/\Q v2 v2/\Er gw (.agg [.mp (w.map E1),.ptr (.key 1000) [] gt 0])/\Er gt (bm n a7 zs se ls)/\Er 0 v2) (False))) (.lit (.iface 251 (.pointer (some ea))))) (!((iD (⟨n,a7,zs,se,ls⟩:l5)).isSome))) ?_
 refine⟨trivial,rfl,rfl,rfl,by have:=ht.t0.h;have:=ht.t0.s;simp only at *;omega,?_⟩
 intro gl PW cl
 refine⟨fun hG=>trivial,fun hG=>rfl,⟨fun _=>rfl,fun h=>by rw[h] <;> rfl⟩,?_⟩
 refine bI (fun j7=>?_) fun j7=>?_
 refine⟨rfl,?_⟩
 refine⟨?_,rfl,rfl,rfl⟩
 unfold Q
 rfl
 · all_goals exact absurd hg (KT j7))
def E8(w:List Pg):Nat->l5->l5
 | 0,t=>t
 | n+1,t=>if Mc t=true then E8 w n (D' w t) else t
def MO(w:List Pg):Nat->l5->Nat
 | 0,_=>0
 | n+1,t=>if Mc t=true then MO w n (D' w t)+1 else 0
theorem rG{w:List Pg}{t:l5}(hw:av w=true)(hz:∀ i,n7 (w.getD i m0))(h:Nq t)(hg:Mc t=true):Nq (D' w t):=by
 have hx:=mj hg
 have Uw:=h.t0.ha _ (aI (d:=e9) hx.1)
 have hl:t.lk.length<400:=by
  unfold Mc at hg
  rw[ZX,Zq]at hg
  exact hg.2
 have Vp:=h.t0
 have Ng:∀ y:j9,HS t.se.length y->∀ ls,TS ⟨t.na,z7 t,t.hs.set (o5 t) y,t.se,ls⟩:=fun y hy ls=>by
  refine⟨Vp.s,by rw[List.length_set];exact Vp.h,Vp.sa,fun z hz=>?_⟩
  rcases eB hz with e | hz
  rw[e];exact hy
  exact Vp.ha z hz
 obtain⟨q1,q2,q3,q4,q5,q6,q7⟩:=Uw
 unfold D'
 split
 ·
  have G6:=List.length_pos_iff.2 hx.2.1
  have hit:=q6 _ (aI (d:=j8) G6)
  have hF:HS t.se.length (C3 w (t.hs.getD (o5 t) e9) (z7 t)):=by
   refine⟨q1,q2,q3,q4,?_,fun x hx=>q6 x (List.mem_of_mem_drop hx),q7⟩
   show ((t.hs.getD (o5 t) e9).td.drop 1).length+60<=_
   rw[List.length_drop];omega
  have e:=yh w { t with a7:=z7 t } (o5 t)
  refine⟨?_,by rw[e.1];exact h.n,?_,by rw[e.2];have:=h.w;exact⟨by simp only;omega,hx.2.2.2⟩⟩
  unfold Mn
  simp only
  split
  rename_i hc
  refine Ng { C3 w (t.hs.getD (o5 t) e9) (z7 t) with td:=(t.hs.getD (o5 t) e9).td.drop 1++[⟨((t.hs.getD (o5 t) e9).td.getD 0 j8).ad,((t.hs.getD (o5 t) e9).td.getD 0 j8).tr+1⟩] } ⟨q1,q2,q3,q4,?_,fun x hx=>?_,q7⟩ _
  show (_++[_]).length+60<=_
  rw[ZW,List.length_drop,Zv];omega
  rcases ZN.1 hx with hx | hx
  exact q6 x (List.mem_of_mem_drop hx)
  rw[ZP.1 hx];exact⟨hit.1,hit.2.1,by simp only;omega,by simp only;omega⟩
  split
  rename_i ha
  have ei:ar ((t.hs.getD (o5 t) e9).td.getD 0 j8).ad=aA ((t.hs.getD (o5 t) e9).td.getD 0 j8).ad:=if_pos ha
  exact qg _ (Ng _ hF _) h.n (fun s hs=>pA (b:=oA (aA ((t.hs.getD (o5 t) e9).td.getD 0 j8).ad)) hw hz s hs)
  exact Ng _ hF _
  unfold Mn
  simp only
  split
  simp;omega
  split
  rw[(nB _ _).2.2];simp;omega
  simp;omega
 refine⟨Ng _ ?_ _,h.n,by simp[QE];omega,by have:=h.w;exact⟨by show 0<=z7 t;omega,hx.2.2.2⟩⟩
 show HS t.se.length (Nk w t.na (t.hs.getD (o5 t) e9) (z7 t))
 unfold Nk
 split
 rename_i hc
 exact⟨q1,q2,q3,q4,q5,q6,⟨by simp only;omega,by simp only;omega⟩⟩
 have s1:=ue (ae w (ai (t.hs.getD (o5 t) e9).na) 2).1 (ae w (ai (t.hs.getD (o5 t) e9).na) 2).2 t.na
 have s2:=ql (ae w (ai (t.hs.getD (o5 t) e9).na) 2).1 (ae w (ai (t.hs.getD (o5 t) e9).na) 2).2 t.na
 refine⟨q1,Nat.le_trans s1.1 Z9,fun i=>xF (p:=fun r:s5=>r.path.length<=1000) (fun r hr=>by have:=s1.2 r hr;omega) Z8 i,Nat.le_trans s2 Z9,?_,fun x hx=>q6 x (List.mem_filter.1 hx).1,q7⟩
 show ((t.hs.getD (o5 t) e9).td.filter _).length+60<=_
 have:=List.length_filter_le (M6 (cw w t.na (t.hs.getD (o5 t) e9).na).ru) (t.hs.getD (o5 t) e9).td
 omega
theorem Cv(w:List Pg)(t:l5):(D' w t).na=t.na:=by
 unfold D'
 split
 exact(yh w _ _).1
 rfl
theorem Hd{w:List Pg} {n:BL} {no:Int} {zz:List j9} {ss:List BL} {ll:List l9} {m:Int} {i:Nat} {t0:l5} (hw:av w=true) (hz:∀ i,n7 (w.getD i m0)) (hg:Mc ⟨n,no,zz,ss,ll⟩=true) (hi:(i:Int)<m) (h2:Nq ⟨n,no,zz,ss,ll⟩)
 (h3:E8 w m.toNat t0=E8 w (m.toNat-i) ⟨n,no,zz,ss,ll⟩) (h4:MO w m.toNat t0=i+MO w (m.toNat-i) ⟨n,no,zz,ss,ll⟩):
 ((i+1:Nat):Int)<=m/\Nq ⟨n,(D' w ⟨n,no,zz,ss,ll⟩).a7,(D' w ⟨n,no,zz,ss,ll⟩).hs,(D' w ⟨n,no,zz,ss,ll⟩).se,(D' w ⟨n,no,zz,ss,ll⟩).lk⟩/\
   E8 w m.toNat t0=E8 w (m.toNat-(i+1)) ⟨n,(D' w ⟨n,no,zz,ss,ll⟩).a7,(D' w ⟨n,no,zz,ss,ll⟩).hs,(D' w ⟨n,no,zz,ss,ll⟩).se,(D' w ⟨n,no,zz,ss,ll⟩).lk⟩/\
   MO w m.toNat t0=i+1+MO w (m.toNat-(i+1)) ⟨n,(D' w ⟨n,no,zz,ss,ll⟩).a7,(D' w ⟨n,no,zz,ss,ll⟩).hs,(D' w ⟨n,no,zz,ss,ll⟩).se,(D' w ⟨n,no,zz,ss,ll⟩).lk⟩:=by
 have e:(⟨n,(D' w ⟨n,no,zz,ss,ll⟩).a7,(D' w ⟨n,no,zz,ss,ll⟩).hs,(D' w ⟨n,no,zz,ss,ll⟩).se,(D' w ⟨n,no,zz,ss,ll⟩).lk⟩:l5)=D' w ⟨n,no,zz,ss,ll⟩:=by
  have:=Cv w ⟨n,no,zz,ss,ll⟩
  generalize D' w ⟨n,no,zz,ss,ll⟩=q at this ⊢
  cases q;simp only at this;rw[this]
 rw[e]
 have ek:m.toNat-i=(m.toNat-(i+1))+1:=Z9
 rw[ek]at h3 h4
 simp only[E8,MO,hg,if_true]at h3 h4
 exact⟨Z9,rG hw hz h2 hg,h3,Z9⟩
theorem yl{w:List Pg}{m i:Nat}{t t0:l5}(hi:m-i=0)(h3:E8 w m t0=E8 w (m-i) t)(h4:MO w m t0=i+MO w (m-i) t):E8 w m t0=t/\MO w m t0=i:=by
 rw[hi]at h3 h4;exact⟨h3,h4⟩
theorem Gm{w:List Pg}{m i:Nat}{t t0:l5}(hg:Mc t=false)(h3:E8 w m t0=E8 w (m-i) t)(h4:MO w m t0=i+MO w (m-i) t):E8 w m t0=t/\MO w m t0=i:=by
 cases hk:m-i with
 | zero=>exact yl hk h3 h4
 | succ k=>
   rw[hk]at h3 h4
   simp only[E8,MO,hg,Bool.false_eq_true,if_false]at h3 h4
   exact⟨h3,h4⟩
def zD(n:BL)(a7:Int)(zs:List j9)(se:List BL)(ls:List l9)(gt:Nat)(gw:Nat)(ea:Addr)(w:List Pg)(m:Int):o8 Tryz.prog:=.mk 34 [.ptr (.key 1001) [] gw 0,iV m] [(1001,(gw,.agg [.mp (w.map E1),.ptr (.key 1000) [] gt 0])),(1000,(gt,bm n a7 zs se ls)),(9000,(0,.lit (.iface 251 (.pointer (some ea)))))] ((av w=true)/\(∀ i,n7 (w.getD i m0))/\(Nq (⟨n,a7,zs,se,ls⟩:l5))/\(0<=m/\m<=1000)) (iN (MO w m.toNat (⟨n,a7,zs,se,ls⟩:l5))) [(1001,(gw,.agg [.mp (w.map E1),.ptr (.key 1000) [] gt 0])),(1000,(gt,bm n ((E8 w m.toNat (⟨n,a7,zs,se,ls⟩:l5)).a7) ((E8 w m.toNat (⟨n,a7,zs,se,ls⟩:l5)).hs) ((E8 w m.toNat (⟨n,a7,zs,se,ls⟩:l5)).se) ((E8 w m.toNat (⟨n,a7,zs,se,ls⟩:l5)).lk))),(9000,(0,.lit (.iface 251 (.pointer (some ea)))))] (by
 rintro⟨hw,hz,ht,hm⟩
 refine aq (N:=17) (rs:=[.tmp 4]) Tryz.func34
  (.q 1<|.q 2<|.loop (Nat×Int×(List j9)×(List BL)×(List l9)) (fun (i,no,zz,ss,ll)=>⟨[(0,.ptr (.key 1001) [] gw 0),(1,iV m),(6,iV m),(7,iN i)],[(1001,(gw,.agg [.mp (w.map E1),.ptr (.key 1000) [] gt 0])),(1000,(gt,bm n no zz ss ll)),(9000,(0,.lit (.iface 251 (.pointer (some ea)))))]⟩) (fun (i,no,zz,ss,ll)=>(i:Int)<=m/\Nq (⟨n,no,zz,ss,ll⟩:l5)/\E8 w m.toNat (⟨n,a7,zs,se,ls⟩:l5)=E8 w (m.toNat-i) (⟨n,no,zz,ss,ll⟩:l5)/\MO w m.toNat (⟨n,a7,zs,se,ls⟩:l5)=i+MO w (m.toNat-i) (⟨n,no,zz,ss,ll⟩:l5)) (fun (i,no,zz,ss,ll)=>m.toNat-i) (fun (i,no,zz,ss,ll)=>.q 1<|.br (.sp (Mc (⟨n,no,zz,ss,ll⟩:l5)) (.q 2<|.dx 3 [0,2,1] [(2,⟨false,[],some [9000],[12],[]⟩),(1,⟨true,[],none,[11],[1000]⟩)] []<|.q 1<|.r 1 [.b7]<|.eu (WZ (CU n no zz ss ll gt gw ea w) [(1001,1001),(1000,1000),(9000,9000)] 1000 gt (bm n ((D' w (⟨n,no,zz,ss,ll⟩:l5)).a7) ((D' w (⟨n,no,zz,ss,ll⟩:l5)).hs) ((D' w (⟨n,no,zz,ss,ll⟩:l5)).se) ((D' w (⟨n,no,zz,ss,ll⟩:l5)).lk))) (fun _=>.c (xc ea) []<|.br (.nil) (.q 2<|.nil))) (.q 2<|.dx 3 [0,2,1] [(2,⟨false,[],some [9000],[12],[]⟩),(1,⟨true,[],none,[11],[1000]⟩)] []<|.q 1<|.r 1 [.b7]<|.eu (WZ (yR n no zz ss ll gt gw ea w) [(1001,1001),(1000,1000),(9000,9000)] 1000 gt (bm n no zz ss ll)) (fun _=>.c (za ea) []<|.br (.q 2<|.nil) (.nil)))) (.q 2<|.nil)))
  ((fun v1:l5=>(fun v2:V=>(fun v3:V=>((∃ x:Nat×Int×(List j9)×(List BL)×(List l9),match x with | (h9,OT,MS,MW,OV)=>((h9:Int)<=m/\Nq (⟨n,OT,MS,MW,OV⟩:l5)/\E8 w m.toNat (⟨n,a7,zs,se,ls⟩:l5)=E8 w (m.toNat-h9) (⟨n,OT,MS,MW,OV⟩:l5)/\MO w m.toNat (⟨n,a7,zs,se,ls⟩:l5)=h9+MO w (m.toNat-h9) (⟨n,OT,MS,MW,OV⟩:l5))/\E (.ptr (.key 1001) [] gw 0)/\E (iV m)/\E (iV m)/\Q (iN 0) (iN h9)/\Er gw v2/\Qr gt (bm n a7 zs se ls) gt (bm n OT MS MW OV)/\Er 0 v3/\True)/\∀ x:Nat×Int×(List j9)×(List BL)×(List l9),match x with | (i,no,zz,ss,ll)=>((i:Int)<=m/\Nq (⟨n,no,zz,ss,ll⟩:l5)/\E8 w m.toNat (⟨n,a7,zs,se,ls⟩:l5)=E8 w (m.toNat-i) (⟨n,no,zz,ss,ll⟩:l5)/\MO w m.toNat (⟨n,a7,zs,se,ls⟩:l5)=i+MO w (m.toNat-i) (⟨n,no,zz,ss,ll⟩:l5))->(fun v4:l5=>(fun v5:V=>Br (s4 (i:Int) m) (((Mc (⟨n,no,zz,ss,ll⟩:l5))=true->Z 0 0/\((CU n no zz ss ll gt gw ea w).sm/\Er gw v2/\Er gt v5/\Er 0 v3/\(((av w=true)/\(∀ i,n7 (w.getD i m0))/\(Nq (⟨n,no,zz,ss,ll⟩:l5))/\(Mc (⟨n,no,zz,ss,ll⟩:l5)=true))/\(((gw,.agg [.mp (w.map E1),.ptr (.key 1000) [] gt 0]):Nat×V)=(gw,.agg [.mp (w.map E1),.ptr (.key 1000) [] gt 0]))/\(((gt,bm n (v4.a7) (v4.hs) (v4.se) (v4.lk)):Nat×V)=(gt,bm n (v4.a7) (v4.hs) (v4.se) (v4.lk)))/\(((0,.lit (.iface 251 (.pointer (some ea)))):Nat×V)=(0,.lit (.iface 251 (.pointer (some ea)))))/\True))/\∀ _:Unit,(xc ea).sm/\(True)/\Br false (False) (m6 ((i:Int)+1)/\∃ x:Nat×Int×(List j9)×(List BL)×(List l9),match x with | (b9,OS,MR,MV,OU)=>((b9:Int)<=m/\Nq (⟨n,OS,MR,MV,OU⟩:l5)/\E8 w m.toNat (⟨n,a7,zs,se,ls⟩:l5)=E8 w (m.toNat-b9) (⟨n,OS,MR,MV,OU⟩:l5)/\MO w m.toNat (⟨n,a7,zs,se,ls⟩:l5)=b9+MO w (m.toNat-b9) (⟨n,OS,MR,MV,OU⟩:l5))/\(m.toNat-b9<m.toNat-i)/\E (.ptr (.key 1001) [] gw 0)/\E (iV m)/\E (iV m)/\Q (iN (i+1)) (iN b9)/\Er gw v2/\Qr gt (bm n (v4.a7) (v4.hs) (v4.se) (v4.lk)) gt (bm n OS MR MV OU)/\Er 0 v3/\True))/\((Mc (⟨n,no,zz,ss,ll⟩:l5))=false->Z 0 0/\((yR n no zz ss ll gt gw ea w).sm/\Er gw v2/\Er gt v5/\Er 0 v3/\(((av w=true)/\(∀ i,n7 (w.getD i m0))/\(Nq (⟨n,no,zz,ss,ll⟩:l5))/\(Mc (⟨n,no,zz,ss,ll⟩:l5)=false))/\(((gw,.agg [.mp (w.map E1),.ptr (.key 1000) [] gt 0]):Nat×V)=(gw,.agg [.mp (w.map E1),.ptr (.key 1000) [] gt 0]))/\(((gt,bm n no zz ss ll):Nat×V)=(gt,bm n no zz ss ll))/\(((0,.lit (.iface 251 (.pointer (some ea)))):Nat×V)=(0,.lit (.iface 251 (.pointer (some ea)))))/\True))/\∀ _:Unit,(za ea).sm/\(True)/\Br true (Q (iN i) (iN (MO w m.toNat (⟨n,a7,zs,se,ls⟩:l5)))/\Er gw v2/\Qr gt v5 gt (bm n (v1.a7) (v1.hs) (v1.se) (v1.lk))/\Er 0 v3) (False))) (Q (iV m) (iN (MO w m.toNat (⟨n,a7,zs,se,ls⟩:l5)))/\Er gw v2/\Qr gt v5 gt (bm n (v1.a7) (v1.hs) (v1.se) (v1.lk))/\Er 0 v3)) (bm n no zz ss ll)) (D' w (⟨n,no,zz,ss,ll⟩:l5)))) (.lit (.iface 251 (.pointer (some ea))))) (.agg [.mp (w.map E1),.ptr (.key 1000) [] gt 0])) (E8 w m.toNat (⟨n,a7,zs,se,ls⟩:l5))) ?_
 refine⟨⟨(0,a7,zs,se,ls),?_,rfl,rfl,rfl,rfl,rfl,rfl,rfl,trivial⟩,?_⟩
 exact⟨Z9,ht,rfl,Z8⟩
 rintro⟨i,no,zz,ss,ll⟩ ⟨h1,h2,h3,h4⟩
 refine bI (fun j7=>?_) fun j7=>?_
 · refine⟨fun MC=>?_,fun MC=>?_⟩
   · have Qa:=MC
     try simp only[nb]at Qa
     refine⟨rfl,⟨rfl,rfl,rfl,rfl,⟨⟨hw,hz,h2,MC⟩,rfl,rfl,rfl,trivial⟩⟩,?_⟩
     intro _
     refine⟨rfl,trivial,?_⟩
     refine bI (fun l4=>?_) fun l4=>?_
     · all_goals (first | exact absurd l4 Z6 | simp_all)
     refine⟨Z9,?_⟩
     refine⟨(i+1,(D' w (⟨n,no,zz,ss,ll⟩:l5)).a7,(D' w (⟨n,no,zz,ss,ll⟩:l5)).hs,(D' w (⟨n,no,zz,ss,ll⟩:l5)).se,(D' w (⟨n,no,zz,ss,ll⟩:l5)).lk),?_,?_,rfl,rfl,rfl,rfl,rfl,rfl,rfl,trivial⟩
     exact Hd hw hz MC Z9 h2 h3 h4
     exact Z1
   · have Qa:=MC
     try simp only[nb]at Qa
     refine⟨rfl,⟨rfl,rfl,rfl,rfl,⟨⟨hw,hz,h2,MC⟩,rfl,rfl,rfl,trivial⟩⟩,?_⟩
     intro _
     refine⟨rfl,trivial,?_⟩
     refine bI (fun m8=>?_) fun m8=>?_
     refine⟨?_,rfl,by rw[(Gm MC h3 h4).1],rfl⟩
     unfold Q
     rw[(Gm MC h3 h4).2]
     · all_goals (first | exact absurd m8 Z6 | simp_all)
 refine⟨?_,rfl,by rw[(yl Z9 h3 h4).1],rfl⟩
 unfold Q
 rw[(yl Z9 h3 h4).2]
 refine Zo iV ?_;omega)
def bZ(w:List Pg)(t:l5)(m:Int):Option l5:=if z8 m 0 400=true/\(av w&&aQ t)=true then some (E8 w m.toNat t) else none
theorem xS{t:l5}(ht:D2 t)(hh:t.hs.length<=900)(hk:aQ t=true):Nq t:=by
 unfold aQ at hk
 simp only[ZX,ZI,Zq]at hk
 obtain⟨⟨⟨⟨⟨k1,k2⟩,k3⟩,k4⟩,k5⟩,k6⟩:=hk
 have ks:t.se.length<=60:=by
  unfold cN at k3
  simp only[ZX,Zq]at k3
  exact k3.1.1
 have kl:t.lk.length<=400:=by
  unfold cP at k4
  simp only[ZX,Zq]at k4
  exact k4.1
 refine⟨⟨ks,Z9,ht.sa,fun y hy=>?_⟩,ht.n,kl,of_decide_eq_true k2⟩
 have hz:=ht.ha y hy
 obtain⟨a1,a2⟩:=k5 y hy
 unfold cZ at a1
 unfold cR at a2
 simp only[ZX,ZI,Zq]at a1 a2
 obtain⟨⟨⟨⟨b1,b2⟩,b3⟩,b4⟩,b5⟩:=a1
 obtain⟨⟨c1,c2⟩,c3⟩:=a2
 have b3:=of_decide_eq_true b3
 refine⟨hz.n,hz.r,hz.rp,?_,Z9,fun x hx=>?_,Z9⟩
 split at b5
 simp only[ZX,Zq]at b5
 have:=of_decide_eq_true b5.2
 omega
 rw[Zq]at b5
 rw[b5.2];omega
 have d1:=hz.ta x hx
 have d2:=of_decide_eq_true (c2 x hx).2
 exact⟨d1.1,d1.2,Z9,Z9⟩
theorem DH(w:List Pg):∀ (k:Nat) (t:l5),(E8 w k t).na=t.na
 | 0,_=>rfl
 | k+1,t=>by
   unfold E8
   split
   rw[DH w k,Cv]
   rfl
theorem LM{m:Int}(h:z8 m 0 400=true):0<=m/\m<=400:=of_decide_eq_true h
theorem JI{w:List Pg}{t:l5}{m:Int}(h:z8 m 0 400=false):bZ w t m=none:=if_neg fun c=>by rw[h]at c;exact absurd c.1 Z6
theorem Cy{w:List Pg}{t:l5}{m:Int}(h:z8 m 0 400=true)(h1:av w=true)(h2:aQ t=true):bZ w t m=some (E8 w m.toNat t):=if_pos ⟨h,by rw[h1,h2];rfl⟩
theorem Ki{w:List Pg}{t:l5}{m:Int}(h:(av w&&aQ t)=false):bZ w t m=none:=if_neg fun c=>by rw[h]at c;exact absurd c.2 Z6
abbrev gV(w:List Pg)(t:l5)(m:Int)(ea:Addr):V:=.tup [bm ((oT (bZ w t m)).na) ((oT (bZ w t m)).a7) ((oT (bZ w t m)).hs) ((oT (bZ w t m)).se) ((oT (bZ w t m)).lk),bV ((bZ w t m).isSome)]
def vo(w:List Pg)(t:l5)(m:Int)(ea:Addr):o8 Tryz.prog:=.mk 16 [bQ w,eN t.na t.a7 t.hs t.se t.lk,iV m] [(9000,(0,.lit (.iface 251 (.pointer (some ea)))))] ((w.length<=30)/\(∀ i,n7 (w.getD i m0))/\(D2 t)/\(t.hs.length<=900)) (gV w t m ea) [(9000,(0,.lit (.iface 251 (.pointer (some ea)))))] (by
 rintro⟨hw,hz,ht,hh⟩
 refine aq (N:=32) (rs:=[.cell 6 30,.tmp 7]) Tryz.func16
  (.bx (fun g4=>.al fP (fun g6=>.q 1<|.q 1<|.c (dc (0:Int) m (400:Int)) []<|.q 1<|.br (.bd fP<|.st none<|.q 1<|.h (.A4 (.key 6) [2] 8)<|.h (.A4 (.key 6) [3] 1)<|.h (.A4 (.key 6) [4] 3)<|.nil) (.r 2 [.b7]<|.sp (av w&&aQ t) (.cx (qP w t) [(1001,17),(1000,3017)] (fun (I7:Nat×Nat)=>.q 5<|.q 2<|.br (.nil) (.q 2<|.c (zD t.na t.a7 t.hs t.se t.lk I7.2 I7.1 ea w m) [(1001,17),(1000,3017),(9000,9000)]<|.r 5 [.b7]<|.mv<|.st none<|.q 1<|.nil))) (.c (pk w t) []<|.q 5<|.q 2<|.br (.bd fP<|.st none<|.q 1<|.h (.A4 (.key 6) [2] 8)<|.h (.A4 (.key 6) [3] 1)<|.h (.A4 (.key 6) [4] 3)<|.nil) (.nil))))))
  ((fun v1:l5=>(fun v2:V=>(fun v3:V=>(∀ g4:Nat,∀ g6:Nat,(dc (0:Int) m (400:Int)).sm/\(True)/\Br (!(z8 m (0:Int) (400:Int))) (Z g6 0/\(g6=g6)/\Q v3 (gV w t m ea)/\Er 0 v2) (Z g4 0/\((av w&&aQ t)=true->(qP w t).sm/\((w.length<=30)/\(∀ i,n7 (w.getD i m0))/\(D2 t)/\(av w=true)/\(aQ t=true))/\∀ I7:Nat×Nat,(True)->Br (!true) (False) ((zD t.na t.a7 t.hs t.se t.lk I7.2 I7.1 ea w m).sm/\Er I7.1 (.agg [.mp (w.map E1),.ptr (.key 1000) [] I7.2 0])/\Er I7.2 (bm t.na t.a7 t.hs t.se t.lk)/\Er 0 v2/\((av w=true)/\(∀ i,n7 (w.getD i m0))/\(Nq (⟨t.na,t.a7,t.hs,t.se,t.lk⟩:l5))/\(0<=m/\m<=1000))/\True/\Z I7.1 1/\True/\Z I7.2 0/\Z g6 0/\(g6=g6)/\Q (.tup [bm t.na (v1.a7) (v1.hs) (v1.se) (v1.lk),bV true]) (gV w t m ea)/\Er 0 v2))/\((av w&&aQ t)=false->(pk w t).sm/\((w.length<=30)/\(∀ i,n7 (w.getD i m0))/\(D2 t)/\((av w&&aQ t)=false))/\Br (!false) (Z g6 0/\(g6=g6)/\Q v3 (gV w t m ea)/\Er 0 v2) (False))))) (.tup [.agg [sV [],iN 0,.ow 8 ([].map aw),.ow 1 ([].map sV),.ow 3 ([].map aX)],bV false])) (.lit (.iface 251 (.pointer (some ea))))) (E8 w m.toNat (⟨t.na,t.a7,t.hs,t.se,t.lk⟩:l5))) ?_
 intro g4
 intro g6
 refine⟨rfl,trivial,?_⟩
 refine bI (fun j7=>?_) fun j7=>?_
 refine⟨rfl,?_⟩
 refine⟨rfl,?_,rfl⟩
 unfold Q gV
 rw[JI j7];rfl
 · refine⟨rfl,?_⟩
   refine⟨fun N8=>?_,fun N8=>?_⟩
   · have Ma:=N8
     try simp only[nb]at Ma
     refine⟨rfl,⟨hw,hz,ht,Ma.1,Ma.2⟩,?_⟩
     intro I7 OX
     refine bI (fun l4=>?_) fun l4=>?_
     · all_goals (first | exact absurd l4 Z6 | simp_all)
     refine⟨rfl,rfl,rfl,rfl,⟨Ma.1,hz,xS ht hh Ma.2,by have:=LM j7;omega⟩,trivial,rfl,trivial,rfl,rfl,?_⟩
     refine⟨rfl,?_,rfl⟩
     unfold Q gV
     rw[Cy (by simpa using j7) Ma.1 Ma.2]
     exact Zo (fun s:BL=>V.tup [V.agg [sV s,iV (E8 w m.toNat t).a7,V.ow 8 ((E8 w m.toNat t).hs.map aw),V.ow 1 ((E8 w m.toNat t).se.map sV),V.ow 3 ((E8 w m.toNat t).lk.map aX)],bV true]) (DH w m.toNat t).symm
   · have Ma:=N8
     try simp only[nb]at Ma
     refine⟨rfl,⟨hw,hz,ht,N8⟩,?_⟩
     refine bI (fun m8=>?_) fun m8=>?_
     refine⟨rfl,?_⟩
     refine⟨rfl,?_,rfl⟩
     unfold Q gV
     rw[Ki N8];rfl
     · all_goals (first | exact absurd m8 Z6 | simp_all))
theorem nQ:∀ l:List j9,V.D5 (l.map aw)=l.map bY
 | []=>rfl
 | y::l=>by
   simp only[Zw,V.D5,nQ l]
   rw[show (aw y).er=bY y from by
    show V.agg (V.D5 [sV y.na,iV y.re,bV y.kn,bB y.gr,iV y.tr,.ow 2 (y.td.map ag)])=_
    simp only[V.D5,V.er]
    rw[aM (f:=ag) (fun _=>rfl)]]
theorem CX{n:BL}{c5:List BL}(hl:c5.length<=400):(oT (aN n c5)).hs.length<=900:=by
 unfold aN
 split
 have:=(jJ n c5 (kB n)).hl
 show (c5.foldl aE (aS n)).hs.length<=900
 omega
 simp[oT]
theorem Cc{n:BL}{c5:List BL}(hn:n.length<=1000)(hl:c5.length<=400)(ha:∀ x,x∈c5->x.length<=1000/\m4 x):D2 (oT (aN n c5)):=by
 unfold aN
 split
 have h1:=jJ n c5 (kB n)
 have h2:TS (c5.foldl aE (aS n)):=qg c5 ⟨by simp[aS],by simp[aS],by simp[aS],by simp[aS]⟩ hn (fun s hs=>⟨(ha s hs).1,(ha s hs).2,(lH s).1⟩)
 show D2 (c5.foldl aE (aS n))
 refine⟨by rw[h1.na];exact hn,by have:=h2.h;have:=h2.s;omega,by have:=h2.s;omega,by rw[h1.lk];simp,h2.sa,by rw[h1.lk];simp,fun y hy=>?_⟩
 have q:=h2.ha y hy
 have e:=(h1.hs y hy).2.1
 have:=h2.s
 exact⟨q.n,q.r,q.rp,by rw[e];simp,by have:=q.t;omega,fun x hx=>⟨(q.ta x hx).1,(q.ta x hx).2.1⟩⟩
 exact⟨by simp[oT],by simp[oT],by simp[oT],by simp[oT],by simp[oT],by simp[oT],by simp[oT]⟩
abbrev rO(w:List Pg)(n:BL)(c5:List BL)(m:Int)(ea:Addr):V:=.tup [bm ((oT (bZ w (oT (aN n c5)) m)).na) ((oT (bZ w (oT (aN n c5)) m)).a7) ((oT (bZ w (oT (aN n c5)) m)).hs) ((oT (bZ w (oT (aN n c5)) m)).se) ((oT (bZ w (oT (aN n c5)) m)).lk),bV ((aN n c5).isSome&&(bZ w (oT (aN n c5)) m).isSome)]
def oo(w:List Pg)(n:BL)(c5:List BL)(m:Int)(ea:Addr):o8 Tryz.prog:=.mk 9 [bQ w,sV n,ao c5,iV m] [(9000,(0,.lit (.iface 251 (.pointer (some ea)))))] ((w.length<=30)/\(∀ i,n7 (w.getD i m0))/\(n.length<=1000)/\(c5.length<=400)/\(∀ x,x∈c5->x.length<=1000/\m4 x)) (rO w n c5 m ea) [(9000,(0,.lit (.iface 251 (.pointer (some ea)))))] (by
 rintro⟨hw,hz,hn,hl,ha⟩
 refine aq (N:=32) (rs:=[.cell 8 30,.tmp 9]) Tryz.func9
  (.al fP (fun g8=>.q 1<|.q 2<|.c (uZ n c5) []<|.mv<|.mv<|.q 1<|.al fP (fun g10=>.st none<|.q 1<|.q 1<|.mv<|.h (.fz 22)<|.h (.o4 22 (eN ((oT (aN n c5)).na) ((oT (aN n c5)).a7) ((oT (aN n c5)).hs) ((oT (aN n c5)).se) ((oT (aN n c5)).lk)))<|.q 1<|.c (vo w (oT (aN n c5)) m ea) [(9000,9000)]<|.mv<|.mv<|.q 1<|.al fP (fun g12=>.st none<|.q 1<|.mv<|.q 4<|.st none<|.q 1<|.nil))))
  ((fun v1:l5=>(fun v2:l5=>(∀ g8:Nat,(uZ n c5).sm/\((n.length<=1000)/\(c5.length<=1000)/\(∀ x,x∈c5->x.length<=1000/\m4 x))/\∀ g10:Nat,Z g10 0/\Z g10 0/\((.agg [sV (v1.na),iV (v1.a7),.sl false (V.D5 ((v1.hs).map aw)),.sl false (V.D5 ((v1.se).map sV)),.sl false (V.D5 ((v1.lk).map aX))]:V)=eN (v1.na) (v1.a7) (v1.hs) (v1.se) (v1.lk))/\(vo w v1 m ea).sm/\Er 0 (.lit (.iface 251 (.pointer (some ea))))/\((w.length<=30)/\(∀ i,n7 (w.getD i m0))/\(D2 v1)/\(v1.hs.length<=900))/\∀ g12:Nat,Z g12 0/\Z g12 0/\Pk ((aN n c5).isSome) (((aN n c5).isSome)==true) true/\Z g8 0/\(g8=g8)/\Q (.tup [bm (v2.na) (v2.a7) (v2.hs) (v2.se) (v2.lk),bV (((aN n c5).isSome)&&((bZ w v1 m).isSome))]) (rO w n c5 m ea)/\Er 0 (.lit (.iface 251 (.pointer (some ea)))))) (oT (bZ w v1 m))) (oT (aN n c5))) ?_
 intro g8
 refine⟨rfl,⟨hn,Z9,ha⟩,?_⟩
 intro g10
 refine⟨rfl,rfl,by rw[nQ,aM (f:=sV) (fun _=>rfl),aM (f:=aX) (fun _=>rfl)],rfl,rfl,⟨hw,hz,Cc hn hl ha,CX hl⟩,?_⟩
 intro g12
 refine⟨rfl,rfl,⟨fun h=>by rw[h] <;> rfl,fun _=>rfl⟩,rfl,?_⟩
 refine⟨rfl,?_,rfl⟩
 unfold Q rO
 rfl)
def fZ(zs:List j9)(d:BL):Int:=if w9 zs d<zs.length then ((w9 zs d:Nat):Int) else -1
theorem Hg{zs:List j9}{d:BL}{i:Nat}(hi:i<zs.length)(e:(zs.getD i e9).na=d)(h:∀ j,j<i->((zs.getD j e9).na==d)=false):fZ zs d=i:=by
 unfold fZ;rw[tF hi e h,if_pos hi]
theorem GR{zs:List j9}{d:BL}(h:∀ j,j<zs.length->((zs.getD j e9).na==d)=false):fZ zs d= -1:=by
 unfold fZ;rw[tR h,if_neg Z9]
def sk(n:BL)(a7:Int)(zs:List j9)(se:List BL)(ls:List l9)(gt:Nat)(g:Nat)(o:Nat)(c:Nat)(d:BL):o8 Tryz.prog:=.mk 82 [.agg [sV n,iV a7,.hd (.key 1000) [2] 8 g o 0 ((zs.map aw).length) c,.b7,.b7],sV d] [(1000,(gt,bz n a7 zs g o c se ls))] (zs.length<=1000) (iV (fZ zs d)) [(1000,(gt,bz n a7 zs g o c se ls))] (by
 intro hl
 refine aq (N:=22) (rs:=[.tmp 4]) Tryz.func82
  (.bx (fun g2=>.q 1<|.q 1<|.loop (Nat) (fun (i:Nat)=>⟨[(1,sV d),(2,.ptr (.key 2) [] g2 0),(5,iN i)],[(2,(g2,.agg [sV n,iV a7,.hd (.key 1000) [2] 8 g o 0 ((zs.map aw).length) c,.b7,.b7])),(1000,(gt,bz n a7 zs g o c se ls))]⟩) (fun (i:Nat)=>i<=zs.length/\∀ j,j<i->((zs.getD j e9).na==d)=false) (fun (i:Nat)=>zs.length-i) (fun (i:Nat)=>.r 5 [.b7]<|.br (.r 8 [.b7,sV ((zs.getD i e9).na)]<|.br (.q 2<|.nil) (.q 3<|.nil)) (.q 1<|.nil))))
  ((fun v1:V=>(fun v2:V=>(∀ g2:Nat,(∃ h9:Nat,(h9<=zs.length/\∀ j,j<h9->((zs.getD j e9).na==d)=false)/\E (sV d)/\E (.ptr (.key 2) [] g2 0)/\Q (iN 0) (iN h9)/\Er g2 v2/\Er gt v1/\True)/\∀ i:Nat,(i<=zs.length/\∀ j,j<i->((zs.getD j e9).na==d)=false)->Z g2 2/\Br (s4 (i:Int) (((zs.map aw).length:Nat):Int)) (Z g2 2/\In (i:Int) ((zs.map aw).length)/\(V.at gt 0 v1 [2,0+i,0]=some (g,(o+(0+i)*8+0),sV ((zs.getD i e9).na)))/\Br (((zs.getD i e9).na)==d) (Q (iN i) (iV (fZ zs d))/\Er gt v1) (m6 ((i:Int)+1)/\∃ b9:Nat,(b9<=zs.length/\∀ j,j<b9->((zs.getD j e9).na==d)=false)/\(zs.length-b9<zs.length-i)/\E (sV d)/\E (.ptr (.key 2) [] g2 0)/\Q (iN (i+1)) (iN b9)/\Er g2 v2/\Er gt v1/\True)) (Q (iV (-1)) (iV (fZ zs d))/\Er gt v1))) (.agg [sV n,iV a7,.hd (.key 1000) [2] 8 g o 0 ((zs.map aw).length) c,.b7,.b7])) (bz n a7 zs g o c se ls)) ?_
 intro g2
 refine⟨⟨0,?_,rfl,rfl,rfl,rfl,rfl,trivial⟩,?_⟩
 simp
 rintro i ⟨h1,h2⟩
 refine⟨rfl,?_⟩
 refine bI (fun j7=>?_) fun j7=>?_
 refine⟨rfl,Z2,(aK (f:=2) rfl).trans (az (by rw[ZO];exact aj (d:=e9) Z9) rfl),?_⟩
 refine bI (fun l4=>?_) fun l4=>?_
 refine⟨?_,rfl⟩
 unfold Q
 rw[Hg Z9 l4 h2]
 refine⟨Z9,?_⟩
 refine⟨i+1,?_,?_,rfl,rfl,rfl,rfl,rfl,trivial⟩
 exact⟨Z9,bE h2 (by simpa using l4)⟩
 exact Z1
 refine⟨?_,rfl⟩
 unfold Q
 rw[GR (fun j hj=>h2 j Z9)])
abbrev LO(p0:BL)(p1:Int)(p2:Bool)(p3:List BL)(p4:List s5)(p5:Nat)(p6:Int)(p7:List u0)(p8:Nat)(p9:Nat)(O':Nat):V:=.agg [sV p0,iV p1,bV p2,.agg [.sl false (p3.map sV),.sl false (p4.map an),iN p5],iV p6,.own 2 (p7.map ag) p8 p9 O']
theorem wq{zs:List j9}{d:BL}(h:0<=fZ zs d):w9 zs d<zs.length:=by
 unfold fZ at h
 split at h
 assumption
 omega
theorem KQ{se:List BL}{a:BL}(h:(aA a).isSome=false\/60<=(se.length:Int)): ¬ ej se a:=fun c=>by
 rcases h with e | e
 have:=c.1;unfold aD at this;rw[e]at this;cases this
 have:=c.2.1;omega
theorem JT{se:List BL}{a:BL}{i:Nat}(h:∀ j,j<i->((se.getD j [])==a)=false)(hi:se.length<=i):a ∉ se:=fun hm=>by
 obtain⟨j,hj,e⟩:=Zu.1 hm
 have:=h j Z9
 rw[ZZ,ZR hj]at this
 simp[e]at this
theorem IL{zs:List j9}{n a:BL}{se:List BL}(hr:ej se a)(h:((aL zs (af a) n).getD (w9 zs (af a)) e9).kn=false):bg n zs se a=(aL zs (af a) n).set (w9 zs (af a)) { (aL zs (af a) n).getD (w9 zs (af a)) e9 with td:=((aL zs (af a) n).getD (w9 zs (af a)) e9).td++[⟨a,0⟩] }:=by
 unfold bg
 rw[if_pos hr]
 unfold cL
 rw[if_neg (fun c=>by rw[h]at c;cases c.1)]
theorem lh3{zs:List j9}{n a:BL}{se:List BL}(hr:ej se a)(h:fZ zs (oA (aA a)).c9<0):bg n zs se a=(zs++[(cf (oA (aA a)).c9 n)]).set zs.length { (zs++[(cf (oA (aA a)).c9 n)]).getD zs.length e9 with td:=((zs++[(cf (oA (aA a)).c9 n)]).getD zs.length e9).td++[⟨a,0⟩] }:=by
 have e1:aL zs (af a) n=zs++[cf (oA (aA a)).c9 n]:=by
  unfold aL fZ at *
  split at h
  omega
  rw[if_neg (by assumption)];rfl
 have e2:w9 zs (af a)=zs.length:=by
  have:=List.findIdx_le_length (p:=fun h:j9=>h.na==(oA (aA a)).c9) (xs:=zs)
  unfold fZ at h
  split at h
  omega
  rename_i c;show w9 zs (oA (aA a)).c9=_;unfold w9 at *;omega
 rw[IL hr (by rw[e1,e2];simp[cf]),e1,e2]
theorem lh4{zs:List j9}{n a:BL}{se:List BL}(hr:ej se a)(h:0<=fZ zs (oA (aA a)).c9)(hk:(zs.getD (w9 zs (oA (aA a)).c9) e9).kn=false):bg n zs se a=zs.set (w9 zs (oA (aA a)).c9) { zs.getD (w9 zs (oA (aA a)).c9) e9 with td:=(zs.getD (w9 zs (oA (aA a)).c9) e9).td++[⟨a,0⟩] }:=by
 have hl:w9 zs (af a)<zs.length:=wq h
 have e1:aL zs (af a) n=zs:=by unfold aL;rw[if_pos hl]
 rw[IL hr (by rw[e1];exact hk),e1]
 rfl
theorem AJ{zs:List j9}{d:BL}(h:0<=fZ zs d):iV (fZ zs d)=iV ((w9 zs d:Nat):Int):=by
 unfold fZ at h ⊢
 split at h
 rename_i c;rw[if_pos c]
 omega
abbrev gT(n:BL)(a7:Int)(zs:List j9)(se:List BL)(ls:List l9)(a:BL):V:=bm n a7 (bg n zs se a) (df se a) ls
def vt(n:BL)(a7:Int)(zs:List j9)(se:List BL)(ls:List l9)(a:BL):o8 Tryz.prog:=.mk 50 [bm n a7 zs se ls,sV a] [] ((zs.length<=1000)/\(se.length<=1000)/\(a.length<=1000)/\(aD a=true)/\(∀ y,y∈zs->y.td.length<=1000/\y.kn=false)) (gT n a7 zs se ls a) [] (by
 rintro⟨hl,M8,ha,hk,hg⟩
 refine aq (N:=83) (rs:=[.cell 4 30]) Tryz.func50
  (.cu bmC (fun g2=>.al fP (fun g4=>.oR (.key 2) [3] (fun gs os cs=>.oR (.key 2) [2] (fun g o c=>.q 1<|.loop (Nat) (fun (i:Nat)=>⟨[(1,sV a),(2,.ptr (.key 2) [] g2 0),(4,.ptr (.key 4) [] g4 0),(5,iN i)],[(2,(g2,.agg [sV n,iV a7,.own 8 (zs.map aw) g o c,.own 1 (se.map sV) gs os cs,.ow 3 (ls.map aX)])),(4,(g4,.agg [sV [],iN 0,.sl true [],.sl true [],.sl true []]))]⟩) (fun (i:Nat)=>i<=se.length/\∀ j,j<i->((se.getD j [])==a)=false) (fun (i:Nat)=>se.length-i) (fun (i:Nat)=>.r 5 [.b7]<|.br (.r 7 [.b7,sV (se.getD i [])]<|.br (.mv<|.st none<|.nil) (.q 3<|.nil)) (.q 1<|.c (ln a) []<|.q 3<|.al cY (fun g6=>.st none<|.q 1<|.r 8 [.b7]<|.br (.mv<|.st none<|.nil) (.r 3 [.b7]<|.bs<|.ap (fun T0 Tu T7=>.h (.o4 42 (.own 1 ((se++[a]).map sV) T0 Tu T7))<|.q 1<|.st none<|.r 3 [.b7,.b7]<|.c (sk n a7 zs (se++[a]) ls g2 g o c ((oA (aA a)).c9)) [(1000,2)]<|.q 1<|.q 2<|.join ((List j9×Nat)×Nat×Nat×Nat) (fun x=>⟨[(1,sV a),(2,.ptr (.key 2) [] g2 0),(4,.ptr (.key 4) [] g4 0),(8,iN x.1.2)],[(2,(g2,bz n a7 x.1.1 x.2.1 x.2.2.1 x.2.2.2 (se++[a]) ls)),(4,(g4,.agg [sV [],iN 0,.sl true [],.sl true [],.sl true []]))]⟩) (fun x=>x.1.2<x.1.1.length/\(x.1.1.getD x.1.2 e9).td.length<=1000/\bg n zs se a=x.1.1.set x.1.2 { x.1.1.getD x.1.2 e9 with td:=(x.1.1.getD x.1.2 e9).td++[⟨a,0⟩] }) (.r 6 [.b7,.b7,.b7]<|.bs<|.bs<|.bd iA<|.bd FG<|.bs<|.ap (fun MF My No=>.h (.o4 61 (.own 8 (zs.map aw++[(.agg [sV ((oA (aA a)).c9),iN 0,bV false,.agg [.sl true [sV n],.sl true [],iN 0],iN 0,.sl true []]:V)]) MF My No))<|.h (.OQ (.slot 61) [zs.length,5] MF (My+(zs.length)*8+7) 2)<|.h (.o4 61 (.own 8 (zs.map aw++[(.agg [sV ((oA (aA a)).c9),iN 0,bV false,.agg [.sl true [sV n],.sl true [],iN 0],iN 0,.own 2 ([].map ag) 0 0 0]:V)]) MF My No))<|.h (.OP (.slot 61) [zs.length] MF (My+(zs.length)*8) (.agg [sV ((oA (aA a)).c9),iN 0,bV false,.agg [.sl true [sV n],.sl true [],iN 0],iN 0,.own 2 ([].map ag) 0 0 0]) (.agg [sV ((oA (aA a)).c9),iV 0,bV false,.agg [.sl false ([n].map sV),.sl false ([].map an),iN 0],iV 0,.ow 2 ([].map ag)]))<|.h (.o4 61 (.own 8 (zs.map aw++[(.agg [sV ((oA (aA a)).c9),iV 0,bV false,.agg [.sl false ([n].map sV),.sl false ([].map an),iN 0],iV 0,.ow 2 ([].map ag)]:V)]) MF My No))<|.h (.o4 61 (.own 8 ((zs++[(cf (oA (aA a)).c9 n)]).map aw) MF My No))<|.q 1<|.st none<|.r 4 [.b7]<|.h (.o4 66 (iN zs.length))<|.q 1<|.nil)) (.h (.o4 47 (iN (w9 zs (oA (aA a)).c9)))<|.h (.o4 8 (iN (w9 zs (oA (aA a)).c9)))<|.h (.o4 48 (iN (w9 zs (oA (aA a)).c9)))<|.nil) (fun x=>.ex (j9) (fun y=>(x.1.1.getD x.1.2 e9)=y) (fun (y:j9)=>.h (.z6 2 (cC n a7 x.1.1 x.1.2 y.na y.re y.kn y.gr.na y.gr.ru y.gr.wa y.tr y.td x.2.1 x.2.2.1 x.2.2.2 (se++[a]) ls))<|.Pv (.key 2) [2,x.1.2,5] x.2.1 (x.2.2.1+(x.1.2)*8+7) 2 (y.td.map ag) (fun ga Pa ca=>.h (.z6 2 (bc n a7 x.1.1 x.1.2 y.na y.re y.kn y.gr.na y.gr.ru y.gr.wa y.tr y.td ga Pa ca x.2.1 x.2.2.1 x.2.2.2 (se++[a]) ls))<|.dx 13 [0,1,2,3,4,5,6,7,8,9,10,11,12] [(1,⟨false,[],some [1000202],[68],[]⟩),(4,⟨false,[],some [2],[71],[]⟩),(8,⟨false,[],some [2],[75],[]⟩),(12,⟨true,[],none,[79],[2,1000202]⟩)] []<|.q 1<|.r 1 [.b7]<|.q 1<|.q 1<|.r 1 [.b7]<|.q 1<|.q 1<|.q 1<|.r 1 [.own 2 (y.td.map ag) ga Pa ca]<|.q 1<|.bd og<|.bs<|.eu (VK 2 [2,0+x.1.2,5] (y.td.map ag) ([.agg [sV a,iN 0]]:List V) x.2.1 (x.2.2.1+(0+x.1.2)*8+7) 2 ga Pa ca) (fun K6=>.h (.z6 2 (kR n a7 x.1.1 x.1.2 y.na y.re y.kn y.gr.na y.gr.ru y.gr.wa y.tr x.2.1 x.2.2.1 x.2.2.2 (se++[a]) ls))<|.h (.o4 79 (.own 2 ((y.td++[(⟨a,0⟩:u0)]).map ag) K6.1 K6.2.1 K6.2.2))<|.q 2<|.st (some (.b7))<|.h (.z6 2 (bc n a7 x.1.1 x.1.2 y.na y.re y.kn y.gr.na y.gr.ru y.gr.wa y.tr (y.td++[(⟨a,0⟩:u0)]) K6.1 K6.2.1 K6.2.2 x.2.1 x.2.2.1 x.2.2.2 (se++[a]) ls))<|.h (.OP (.key 2) [2,x.1.2,5] x.2.1 (x.2.2.1+(x.1.2)*8+7) (.own 2 ((y.td++[(⟨a,0⟩:u0)]).map ag) K6.1 K6.2.1 K6.2.2) (.ow 2 ((y.td++[(⟨a,0⟩:u0)]).map ag)))<|.h (.z6 2 (cC n a7 x.1.1 x.1.2 y.na y.re y.kn y.gr.na y.gr.ru y.gr.wa y.tr (y.td++[(⟨a,0⟩:u0)]) x.2.1 x.2.2.1 x.2.2.2 (se++[a]) ls))<|.h (.z6 2 (bz n a7 (x.1.1.set x.1.2 ({ y with td:=y.td++[⟨a,0⟩] }:j9)) x.2.1 x.2.2.1 x.2.2.2 (se++[a]) ls))<|.mv<|.st none<|.nil))))))))))))))
  ((fun v4:r8=>(fun v1:List V=>(fun v2:V=>(fun v3:V=>(fun v5:V=>(fun v6:List V=>(fun v7:V=>(fun v8:Int=>(fun v9:Bool=>(fun v10:V=>(((true=true)/\((bm n a7 zs se ls):V).isVal=true)/\∀ g2:Nat,(fun v11:V=> ∀ g4:Nat,(fun v12:V=> ∀ gs os cs:Nat,∀ g o c:Nat,(fun G0:V=>(∃ h9:Nat,(h9<=se.length/\∀ j,j<h9->((se.getD j [])==a)=false)/\E (sV a)/\E v11/\E v12/\Q (iN 0) (iN h9)/\Er g2 G0/\Er g4 v5/\True)/\∀ i:Nat,(i<=se.length/\∀ j,j<i->((se.getD j [])==a)=false)->Z g2 3/\Br (s4 (i:Int) (((se.map sV).length:Nat):Int)) (Z g2 3/\In (i:Int) ((se.map sV).length)/\(V.at g2 0 G0 [3,0+i]=some (gs,(os+(0+i)*1),sV (se.getD i [])))/\Br ((se.getD i [])==a) (Z g2 0/\Z g4 0/\(g4=g4)/\Q (bm n a7 zs se ls) (gT n a7 zs se ls a)) (m6 ((i:Int)+1)/\∃ b9:Nat,(b9<=se.length/\∀ j,j<b9->((se.getD j [])==a)=false)/\(se.length-b9<se.length-i)/\E (sV a)/\E v11/\E v12/\Q (iN (i+1)) (iN b9)/\Er g2 G0/\Er g4 v5/\True)) ((ln a).sm/\((a.length<=4611686018427387904))/\∀ g6:Nat,Z g6 0/\Gd (v9==false) (Z g2 3)/\Pk v9 true (v9==false)/\Br (v9||(x6 (((se.map sV).length:Nat):Int) 60)) (Z g2 0/\Z g4 0/\(g4=g4)/\Q (bm n a7 zs se ls) (gT n a7 zs se ls a)) (Z g2 3/\((1,1,gs,os,cs,(se.map sV).length)=(1,1,gs,os,cs,(se.map sV).length))/\(True)/\(V.ay ([sV a]:List V)=false)/\(aC 1 ([sV a]:List V))/\(((se.map sV).length+([sV a]:List V).length)*16<=140737488355328)/\∀ T0 Tu T7:Nat,((.own 1 ((se.map sV)++([sV a]:List V)) T0 Tu T7:V)=.own 1 ((se++[a]).map sV) T0 Tu T7)/\Z g2 3/\Z g2 0/\Z g6 0/\(sk n a7 zs (se++[a]) ls g2 g o c (v4.c9)).sm/\Er g2 (bz n a7 zs g o c (se++[a]) ls)/\((zs.length<=1000))/\((s4 (fZ zs (v4.c9)) 0)=true->Z g2 2/\Z g6 0/\Z g2 0/\((8,8,g,o,c,(zs.map aw).length)=(8,8,g,o,c,(zs.map aw).length))/\(True)/\(V.ay v1=false)/\(aC 8 v1)/\(((zs.map aw).length+v1.length)*120<=140737488355328)/\∀ MF My No:Nat,((.own 8 ((zs.map aw)++v1) MF My No:V)=.own 8 (zs.map aw++[v3]) MF My No)/\(V.at MF My (.own 8 (zs.map aw++[v3]) MF My No) [zs.length,5]=some (MF,My+(zs.length)*8+7,.sl true []))/\(V.set (.own 8 (zs.map aw++[v3]) MF My No) [zs.length,5] (.own 2 ([].map ag) 0 0 0)=.own 8 (zs.map aw++[v2]) MF My No)/\(V.at MF My (.own 8 (zs.map aw++[v2]) MF My No) [zs.length]=some (MF,My+(zs.length)*8,.agg [sV (v4.c9),iN 0,bV false,.agg [.sl true [sV n],.sl true [],iN 0],iN 0,.own 2 ([].map ag) 0 0 0]))/\(V.set (.own 8 (zs.map aw++[v2]) MF My No) [zs.length] (.agg [sV (v4.c9),iV 0,bV false,.agg [.sl false ([n].map sV),.sl false ([].map an),iN 0],iV 0,.ow 2 ([].map ag)])=.own 8 (zs.map aw++[v7]) MF My No)/\((.own 8 (zs.map aw++[v7]) MF My No:V)=.own 8 ((zs++[(cf v4.c9 n)]).map aw) MF My No)/\Z g2 2/\Z g2 2/\m6 (v8-1)/\Q (iV (v8-1)) (iN zs.length)/\∃ x:(List j9×Nat)×Nat×Nat×Nat,(x.1.2<x.1.1.length/\(x.1.1.getD x.1.2 e9).td.length<=1000/\bg n zs se a=x.1.1.set x.1.2 { x.1.1.getD x.1.2 e9 with td:=(x.1.1.getD x.1.2 e9).td++[⟨a,0⟩] })/\E (sV a)/\E v11/\E v12/\Q (iN zs.length) (iN x.1.2)/\Qr g2 (bz n a7 (zs++[(cf v4.c9 n)]) MF My No (se++[a]) ls) g2 (bz n a7 x.1.1 x.2.1 x.2.2.1 x.2.2.2 (se++[a]) ls)/\Er g4 v5/\True)/\((s4 (fZ zs (v4.c9)) 0)=false->(v10=iN (w9 zs v4.c9))/\(v10=iN (w9 zs v4.c9))/\(v10=iN (w9 zs v4.c9))/\∃ x:(List j9×Nat)×Nat×Nat×Nat,(x.1.2<x.1.1.length/\(x.1.1.getD x.1.2 e9).td.length<=1000/\bg n zs se a=x.1.1.set x.1.2 { x.1.1.getD x.1.2 e9 with td:=(x.1.1.getD x.1.2 e9).td++[⟨a,0⟩] })/\E (sV a)/\E v11/\E v12/\Q (iN (w9 zs v4.c9)) (iN x.1.2)/\Qr g2 (bz n a7 zs g o c (se++[a]) ls) g2 (bz n a7 x.1.1 x.2.1 x.2.2.1 x.2.2.2 (se++[a]) ls)/\Er g4 v5/\True)/\(∀ x:(List j9×Nat)×Nat×Nat×Nat,(x.1.2<x.1.1.length/\(x.1.1.getD x.1.2 e9).td.length<=1000/\bg n zs se a=x.1.1.set x.1.2 { x.1.1.getD x.1.2 e9 with td:=(x.1.1.getD x.1.2 e9).td++[⟨a,0⟩] })->(∃ y:j9,(x.1.1.getD x.1.2 e9)=y)/\∀ y:j9,((x.1.1.getD x.1.2 e9)=y)->(fun Mi:V=>(fun M4:V=>((bz n a7 x.1.1 x.2.1 x.2.2.1 x.2.2.2 (se++[a]) ls:V)=cC n a7 x.1.1 x.1.2 y.na y.re y.kn y.gr.na y.gr.ru y.gr.wa y.tr y.td x.2.1 x.2.2.1 x.2.2.2 (se++[a]) ls)/\(V.at g2 0 Mi [2,x.1.2,5]=some (x.2.1,x.2.2.1+(x.1.2)*8+7,.ow 2 (y.td.map ag)))/\∀ ga Pa ca:Nat,(fun Nt:V=>(fun Ow:V=>(V.set Mi [2,x.1.2,5] (.own 2 (y.td.map ag) ga Pa ca)=bc n a7 x.1.1 x.1.2 y.na y.re y.kn y.gr.na y.gr.ru y.gr.wa y.tr y.td ga Pa ca x.2.1 x.2.2.1 x.2.2.2 (se++[a]) ls)/\Z g2 2/\Z g2 2/\In (x.1.2:Int) (((x.1.1.take x.1.2).map aw++Ow::(x.1.1.drop (x.1.2+1)).map aw).length)/\(V.at g2 0 Nt [2,0+x.1.2,5]=some (x.2.1,(x.2.2.1+(0+x.1.2)*8+7),.own 2 (y.td.map ag) ga Pa ca))/\(v6=v6/\((.hd (.key 2) [2,0+x.1.2,5] 2 ga Pa 0 ((y.td.map ag).length) ca:V)=.hd (.key 2) [2,0+x.1.2,5] 2 ga Pa 0 ((y.td.map ag).length) ca)/\(V.at g2 0 Nt [2,0+x.1.2,5]=some (x.2.1,x.2.2.1+(0+x.1.2)*8+7,.own 2 (y.td.map ag) ga Pa ca))/\((2:Nat)=2)/\(V.ay v6=false)/\(aC 2 v6)/\(((y.td.map ag).length+v6.length)*24<=140737488355328))/\∀ K6:Nat×Nat×Nat,(fun NX:V=>(V.set Nt [2,0+x.1.2,5] (.b7)=kR n a7 x.1.1 x.1.2 y.na y.re y.kn y.gr.na y.gr.ru y.gr.wa y.tr x.2.1 x.2.2.1 x.2.2.2 (se++[a]) ls)/\((.own 2 ((y.td.map ag)++v6) K6.1 K6.2.1 K6.2.2:V)=.own 2 ((y.td++[(⟨a,0⟩:u0)]).map ag) K6.1 K6.2.1 K6.2.2)/\In (x.1.2:Int) (((x.1.1.take x.1.2).map aw++Ow::(x.1.1.drop (x.1.2+1)).map aw).length)/\(V.at g2 0 M4 [2,0+x.1.2,5]=some (x.2.1,(x.2.2.1+(0+x.1.2)*8+7),.b7))/\(V.set M4 [2,0+x.1.2,5] (.own 2 ((y.td++[(⟨a,0⟩:u0)]).map ag) K6.1 K6.2.1 K6.2.2)=bc n a7 x.1.1 x.1.2 y.na y.re y.kn y.gr.na y.gr.ru y.gr.wa y.tr (y.td++[(⟨a,0⟩:u0)]) K6.1 K6.2.1 K6.2.2 x.2.1 x.2.2.1 x.2.2.2 (se++[a]) ls)/\(V.at g2 0 NX [2,x.1.2,5]=some (x.2.1,x.2.2.1+(x.1.2)*8+7,.own 2 ((y.td++[(⟨a,0⟩:u0)]).map ag) K6.1 K6.2.1 K6.2.2))/\(V.set NX [2,x.1.2,5] (.ow 2 ((y.td++[(⟨a,0⟩:u0)]).map ag))=cC n a7 x.1.1 x.1.2 y.na y.re y.kn y.gr.na y.gr.ru y.gr.wa y.tr (y.td++[(⟨a,0⟩:u0)]) x.2.1 x.2.2.1 x.2.2.2 (se++[a]) ls)/\((cC n a7 x.1.1 x.1.2 y.na y.re y.kn y.gr.na y.gr.ru y.gr.wa y.tr (y.td++[(⟨a,0⟩:u0)]) x.2.1 x.2.2.1 x.2.2.2 (se++[a]) ls:V)=bz n a7 (x.1.1.set x.1.2 ({ y with td:=y.td++[⟨a,0⟩] }:j9)) x.2.1 x.2.2.1 x.2.2.2 (se++[a]) ls)/\Z g2 0/\Z g4 0/\(g4=g4)/\Q (bm n a7 (x.1.1.set x.1.2 ({ y with td:=y.td++[⟨a,0⟩] }:j9)) (se++[a]) ls) (gT n a7 zs se ls a)) (bc n a7 x.1.1 x.1.2 y.na y.re y.kn y.gr.na y.gr.ru y.gr.wa y.tr (y.td++[(⟨a,0⟩:u0)]) K6.1 K6.2.1 K6.2.2 x.2.1 x.2.2.1 x.2.2.2 (se++[a]) ls)) (LO y.na y.re y.kn y.gr.na y.gr.ru y.gr.wa y.tr y.td ga Pa ca:V)) (bc n a7 x.1.1 x.1.2 y.na y.re y.kn y.gr.na y.gr.ru y.gr.wa y.tr y.td ga Pa ca x.2.1 x.2.2.1 x.2.2.2 (se++[a]) ls)) (kR n a7 x.1.1 x.1.2 y.na y.re y.kn y.gr.na y.gr.ru y.gr.wa y.tr x.2.1 x.2.2.1 x.2.2.2 (se++[a]) ls)) (cC n a7 x.1.1 x.1.2 y.na y.re y.kn y.gr.na y.gr.ru y.gr.wa y.tr y.td x.2.1 x.2.2.1 x.2.2.2 (se++[a]) ls))))) (.agg [sV n,iV a7,.own 8 (zs.map aw) g o c,.own 1 (se.map sV) gs os cs,.ow 3 (ls.map aX)])) (.ptr (.key 4) [] g4 0)) (.ptr (.key 2) [] g2 0))) (iV (fZ zs (v4.c9)):V)) (!((aA a).isSome))) ((((zs++[(cf v4.c9 n)]).map aw).length:Nat):Int)) (.agg [sV (v4.c9),iV 0,bV false,.agg [.sl false ([n].map sV),.sl false ([].map an),iN 0],iV 0,.ow 2 ([].map ag)]:V)) ([.agg [sV a,iN 0]]:List V)) (.agg [sV [],iN 0,.sl true [],.sl true [],.sl true []])) (.agg [sV (v4.c9),iN 0,bV false,.agg [.sl true [sV n],.sl true [],iN 0],iN 0,.sl true []]:V)) (.agg [sV (v4.c9),iN 0,bV false,.agg [.sl true [sV n],.sl true [],iN 0],iN 0,.own 2 ([].map ag) 0 0 0]:V)) ([.agg [sV (v4.c9),iN 0,bV false,.agg [.sl true [sV n],.sl true [],iN 0],iN 0,.sl true []]]:List V)) (oA (aA a))) ?_
 refine⟨⟨rfl,rfl⟩,?_⟩
 intro g2
 intro g4
 intro gs os cs
 intro g o c
 refine⟨⟨0,?_,rfl,rfl,rfl,rfl,rfl,rfl,trivial⟩,?_⟩
 simp
 rintro i ⟨h1,h2⟩
 refine⟨rfl,?_⟩
 refine bI (fun j7=>?_) fun j7=>?_
 refine⟨rfl,Z2,(aK (f:=3) rfl).trans (az (by rw[ZO];exact aj (d:=[]) Z9) rfl),?_⟩
 refine bI (fun l4=>?_) fun l4=>?_
 refine⟨rfl,rfl,?_⟩
 refine⟨rfl,?_⟩
 unfold Q gT
 have hr: ¬ ej se a:=fun c=>c.2.2 (by rw[<- l4];exact aI Z9)
 rw[nF hr,mW hr]
 refine⟨Z9,?_⟩
 refine⟨i+1,?_,?_,rfl,rfl,rfl,rfl,rfl,rfl,trivial⟩
 exact⟨Z9,bE h2 (by simpa using l4)⟩
 exact Z1
 refine⟨rfl,Z9,?_⟩
 intro g6
 refine⟨rfl,fun hG=>rfl,⟨fun _=>rfl,fun h=>by rw[h] <;> rfl⟩,?_⟩
 refine bI (fun m8=>?_) fun m8=>?_
 refine⟨rfl,rfl,?_⟩
 refine⟨rfl,?_⟩
 unfold Q gT
 have hr: ¬ ej se a:=KQ m8
 rw[nF hr,mW hr]
 refine⟨rfl,rfl,trivial,rfl,by simp[aC,V.n,V.ns],by(try simp only[ZW,ZM,ZU,ZQ]);(try have:=Vx);omega,?_⟩
 intro T0 Tu T7
 refine⟨Zo (V.own 1 · T0 Tu T7) Z8,rfl,?_⟩
 have hr:ej se a:=⟨hk,by have:=m8.2;omega,JT h2 Z9⟩
 refine⟨rfl,rfl,rfl,rfl,hl,?_⟩
 refine⟨fun w7=>?_,fun w7=>?_,fun x hx=>?_⟩
 try simp only[nb]at w7
 refine⟨rfl,rfl,rfl,rfl,trivial,rfl,by simp[aC,V.n,V.ns],by(try simp only[ZW,ZM,ZU,ZQ]);(try have:=Vx);omega,?_⟩
 intro MF My No
 refine⟨Zo (V.own 8 · MF My No) (rfl),az (aR) rfl,aP (aR) (de),fC aR,lJ (aR) (de),Zo (V.own 8 · MF My No) (by rw[Zz (f:=aw)];rfl),rfl,?_⟩
 have XD:(zs++[(cf (oA (aA a)).c9 n)]).length=zs.length+1:=Z8
 refine⟨rfl,Z2,by unfold Q;refine Zo iV ?_;simp,?_⟩
 exact⟨((zs++[(cf (oA (aA a)).c9 n)],zs.length),MF,My,No),⟨Z8,by simp[cf],lh3 hr w7⟩,rfl,rfl,rfl,Z4,Z4,rfl,trivial⟩
 try simp only[nb]at w7
 refine⟨(AJ w7),(AJ w7),(AJ w7),?_⟩
 exact⟨((zs,(w9 zs (oA (aA a)).c9)),g,o,c),⟨wq w7,(hg _ (aI (d:=e9) (wq w7))).1,lh4 hr w7 (hg _ (aI (d:=e9) (wq w7))).2⟩,rfl,rfl,rfl,Z4,Z4,rfl,trivial⟩
 have hlt:=hx.1
 have Vx:=hx.2.1
 refine⟨⟨_,rfl⟩,?_⟩
 intro y hy
 rw[hy]at Vx
 refine⟨Ni (Zo (V.own 8 · x.2.1 x.2.2.1 x.2.2.2) (splitN hy Z9)),(aK (f:=2) rfl).trans (az (aB Z9) rfl),?_⟩
 intro ga Pa ca
 refine⟨dz (aP (aB Z9) (cH Z9)),rfl,rfl,by(try simp only[ZM]at *);try simp only[ZW,ZU,ZM,List.length_take,List.length_drop,ZQ]at *;omega,(aK (f:=2) rfl).trans (az (by rw[ZO];exact aB Z9) rfl),⟨rfl,rfl,(aK (f:=2) rfl).trans (az (by rw[ZO];exact aB Z9) rfl),rfl,rfl,by simp[aC,V.n,V.ns],by(try simp only[ZW,ZM,ZU,ZQ]);(try have:=Vx);omega⟩,?_⟩
 intro K6
 refine⟨dz (aP (by rw[ZO];exact aB Z9) (by rw[ZO];exact cH Z9)),Zo (V.own 2 · K6.1 K6.2.1 K6.2.2) Z8,by(try simp only[ZM]at *);try simp only[ZW,ZU,ZM,List.length_take,List.length_drop,ZQ]at *;omega,(aK (f:=2) rfl).trans (az (by rw[ZO];exact aB Z9) rfl),dz (aP (by rw[ZO];exact aB Z9) (by rw[ZO];exact cH Z9)),(aK (f:=2) rfl).trans (az (aB Z9) rfl),dz (aP (aB Z9) (cH Z9)),Ni (Zo (V.own 8 · x.2.1 x.2.2.1 x.2.2.2) (jV (f:=aw) (x:=({ y with td:=y.td++[⟨a,0⟩] }:j9)) Z9)),rfl,rfl,?_⟩
 refine⟨rfl,?_⟩
 unfold Q gT
 rw[uo hr,hx.2.2,hy])
theorem xf{t:l5}{s:BL}(h:aD s=false):aE t s=t:=by
 have hr: ¬ ej t.se s:=fun c=>by have:=c.1;rw[h]at this;cases this
 unfold aE
 rw[nF hr,mW hr]
abbrev jm(n:BL)(c5:List BL):V:=.tup [bm ((oT (aN n c5)).na) ((oT (aN n c5)).a7) ((oT (aN n c5)).hs) ((oT (aN n c5)).se) ((oT (aN n c5)).lk),bV ((aN n c5).isSome)]
def su(n:BL)(c5:List BL):o8 Tryz.prog:=.mk 25 [sV n,ao c5] [] ((n.length<=1000)/\(c5.length<=1000)/\(∀ x,x∈c5->x.length<=1000/\m4 x)) (jm n c5) [] (by
 rintro⟨hn,hl,ha⟩
 refine aq (N:=40) (rs:=[.cell 4 30,.tmp 5]) Tryz.func25
  (.al fP (fun g4=>.q 1<|.q 1<|.c (ob n) []<|.q 6<|.br (.bd fP<|.st none<|.q 1<|.h (.A4 (.key 4) [2] 8)<|.h (.A4 (.key 4) [3] 1)<|.h (.A4 (.key 4) [4] 3)<|.nil) (.q 1<|.bs<|.bs<|.bs<|.bd fP<|.al fP (fun g6=>.st none<|.h (.A4 (.key 6) [2] 8)<|.h (.A4 (.key 6) [3] 1)<|.h (.A4 (.key 6) [4] 3)<|.q 1<|.loop (Nat×(List j9)×(List BL)) (fun (i,zs,se)=>⟨[(1,ao c5),(4,.ptr (.key 4) [] g4 0),(6,.ptr (.key 6) [] g6 0),(7,iN i)],[(4,(g4,.agg [sV [],iN 0,.sl true [],.sl true [],.sl true []])),(6,(g6,km n zs se (.ow 3 ([].map aX))))]⟩) (fun (i,zs,se)=>i<=c5.length/\zs=((c5.take i).foldl aE (aS n)).hs/\se=((c5.take i).foldl aE (aS n)).se) (fun (i,zs,se)=>c5.length-i) (fun (i,zs,se)=>.q 4<|.br (.r 4 [sV (c5.getD i [])]<|.c (jd (c5.getD i [])) []<|.br (.dx 5 [1,2,3,4,0] [(4,⟨false,[],some [],[37],[]⟩),(0,⟨true,[],none,[33],[6]⟩)] []<|.q 1<|.q 1<|.r 1 [sV (c5.getD i [])]<|.q 1<|.ux none (fun _ _ _=>.c (vt n (0:Int) zs se ([]:List l9) (c5.getD i [])) []<|.st none<|.q 3<|.nil)) (.q 3<|.nil)) (.mv<|.st none<|.q 1<|.nil))))))
  ((fun v1:V=>(fun v2:V=>(∀ g4:Nat,(ob n).sm/\((n.length<=4611686018427387904))/\Pk (!(bp n)) true ((!(bp n))==false)/\Br ((!(bp n))||(s7 (((c5.map sV).length:Nat):Int) 12)) (Z g4 0/\(g4=g4)/\Q (.tup [.agg [sV [],iN 0,.ow 8 ([].map aw),.ow 1 ([].map sV),.ow 3 ([].map aX)],bV false]) (jm n c5)) (∀ g6:Nat,Z g6 0/\(∃ x:Nat×(List j9)×(List BL),match x with | (h9,NQ,N0)=>(h9<=c5.length/\NQ=((c5.take h9).foldl aE (aS n)).hs/\N0=((c5.take h9).foldl aE (aS n)).se)/\E (ao c5)/\E (.ptr (.key 4) [] g4 0)/\E (.ptr (.key 6) [] g6 0)/\Q (iN 0) (iN h9)/\Er g4 v1/\Qr g6 (.agg [sV n,iN 0,.ow 8 ([].map aw),.ow 1 ([].map sV),.ow 3 ([].map aX)]) g6 (km n NQ N0 v2)/\True)/\∀ x:Nat×(List j9)×(List BL),match x with | (i,zs,se)=>(i<=c5.length/\zs=((c5.take i).foldl aE (aS n)).hs/\se=((c5.take i).foldl aE (aS n)).se)->Br (s4 (i:Int) (((c5.map sV).length:Nat):Int)) (Ex (i:Int) (c5.map sV) (sV (c5.getD i []))/\True/\(jd (c5.getD i [])).sm/\(((c5.getD i []).length<=4611686018427387904))/\Br (aD (c5.getD i [])) (Ex (i:Int) (c5.map sV) (sV (c5.getD i []))/\True/\(((g6:Nat),(0:Nat))=(g6,0))/\∀ _ _ _:Nat,(vt n (0:Int) zs se ([]:List l9) (c5.getD i [])).sm/\((zs.length<=1000)/\(se.length<=1000)/\((c5.getD i []).length<=1000)/\(aD (c5.getD i [])=true)/\(∀ y,y∈zs->y.td.length<=1000/\y.kn=false))/\Z g6 0/\m6 ((i:Int)+1)/\∃ x:Nat×(List j9)×(List BL),match x with | (b9,Mv,Mx)=>(b9<=c5.length/\Mv=((c5.take b9).foldl aE (aS n)).hs/\Mx=((c5.take b9).foldl aE (aS n)).se)/\(c5.length-b9<c5.length-i)/\E (ao c5)/\E (.ptr (.key 4) [] g4 0)/\E (.ptr (.key 6) [] g6 0)/\Q (iN (i+1)) (iN b9)/\Er g4 v1/\Qr g6 (bm n (0:Int) (bg n zs se (c5.getD i [])) (df se (c5.getD i [])) ([]:List l9)) g6 (km n Mv Mx v2)/\True) (m6 ((i:Int)+1)/\∃ x:Nat×(List j9)×(List BL),match x with | (b9,Mv,Mx)=>(b9<=c5.length/\Mv=((c5.take b9).foldl aE (aS n)).hs/\Mx=((c5.take b9).foldl aE (aS n)).se)/\(c5.length-b9<c5.length-i)/\E (ao c5)/\E (.ptr (.key 4) [] g4 0)/\E (.ptr (.key 6) [] g6 0)/\Q (iN (i+1)) (iN b9)/\Er g4 v1/\Qr g6 (km n zs se v2) g6 (km n Mv Mx v2)/\True)) (Z g6 0/\Z g4 0/\(g4=g4)/\Q (.tup [km n zs se v2,bV true]) (jm n c5))))) (.ow 3 ([].map aX))) (.agg [sV [],iN 0,.sl true [],.sl true [],.sl true []])) ?_
 intro g4
 refine⟨rfl,Z9,⟨fun _=>rfl,fun h=>by rw[h] <;> rfl⟩,?_⟩
 refine bI (fun j7=>?_) fun j7=>?_
 refine⟨rfl,?_⟩
 refine⟨rfl,?_⟩
 unfold Q jm
 rw[Di j7];rfl
 intro g6
 refine⟨rfl,?_⟩
 refine⟨⟨(0,[],[]),?_,rfl,rfl,rfl,rfl,rfl,Z4,trivial⟩,?_⟩
 exact⟨Z8,rfl,rfl⟩
 rintro⟨i,zs,se⟩ ⟨h1,h2,h3⟩
 have L1:=jJ n (c5.take i) (kB n)
 rw[List.length_take]at L1
 refine bI (fun l4=>?_) fun l4=>?_
 have hm:=ha _ (oM (show i<c5.length by omega))
 refine⟨⟨Z9,aj (d:=[]) Z9⟩,trivial,rfl,Z5,?_⟩
 refine bI (fun m8=>?_) fun m8=>?_
 refine⟨⟨Z9,aj (d:=[]) Z9⟩,trivial,rfl,?_⟩
 intro _ _ _
 refine⟨rfl,⟨by rw[h2];have:=L1.hl;omega,by rw[h3];have:=L1.sl;omega,hm.1,m8,fun y hy=>by rw[h2]at hy;obtain⟨a1,a2,a3,_⟩:=L1.hs y hy;exact⟨Z9,a1⟩⟩,rfl,Z9,?_⟩
 refine⟨(i+1,(bg n zs se (c5.getD i [])),(df se (c5.getD i []))),?_,?_,rfl,rfl,rfl,rfl,rfl,Z4,trivial⟩
 rw[foldl_succ (d:=[]) Z9]
 first
 | (rw[h2,h3];exact⟨Z9,by show _=bg ((c5.take i).foldl aE (aS n)).na ((c5.take i).foldl aE (aS n)).hs ((c5.take i).foldl aE (aS n)).se _;rw[L1.na],rfl⟩)
 | (rw[xf m8];exact⟨Z9,h2,h3⟩)
 exact Z1
 refine⟨Z9,?_⟩
 refine⟨(i+1,zs,se),?_,?_,rfl,rfl,rfl,rfl,rfl,rfl,trivial⟩
 rw[foldl_succ (d:=[]) Z9]
 first
 | (rw[h2,h3];exact⟨Z9,by show _=bg ((c5.take i).foldl aE (aS n)).na ((c5.take i).foldl aE (aS n)).hs ((c5.take i).foldl aE (aS n)).se _;rw[L1.na],rfl⟩)
 | (rw[xf m8];exact⟨Z9,h2,h3⟩)
 exact Z1
 refine⟨rfl,rfl,?_⟩
 refine⟨rfl,?_⟩
 unfold Q jm
 rw[ZL Z9]at h2 h3 L1
 rw[CC j7,h2,h3]
 refine Zo (fun r:V=>V.tup [r,bV true]) ?_
 show V.agg _=wB (c5.foldl aE (aS n))
 rw[wB,L1.na,L1.a7,L1.lk])
def fF:BL:=[47,110,111,116,105,99,101]
theorem mo{d:BL}(h:ck d=true):aA (ai d)=some ⟨d,[[110,111,116,105,99,101]],false,[]⟩:=by
 have hl:d.length<=5:=by
  unfold ck z8 at h
  rw[ZX]at h
  have:=of_decide_eq_true h.2
  omega
 have e:aG ⟨d,[[110,111,116,105,99,101]],false,[]⟩=true:=by
  unfold aG
  simp only[h,ZX,Zq]
  refine⟨⟨⟨⟨⟨trivial,Z8⟩,Z6⟩,Z6⟩,Z6⟩,?_⟩
  simp[cd,bD,bS];omega
 have:=pR e
 rw[<- this]
 congr 1
theorem Ez{d:BL}(h:ck d=true):aD (ai d)=true:=uS (by rw[mo h];rfl) (by rw[mo h];rfl)
theorem kS{d:BL}(h:ck d=true):af (ai d)=d:=by unfold af;rw[mo h];rfl
theorem BT{d:BL}(h:ck d=true):pathOf (ai d)=fF:=by unfold pathOf;rw[mo h];rfl
theorem ma{s:BL}(h:aD s=true):(aA s).isSome=true:=by unfold aD at h;rw[ZX]at h;exact h.1
theorem vA{s:BL}(h:aD s=true):ck (af s)=true:=(fo (jS (ma h))).1
def cls(L:List l9)(d:BL):List Int:=(L.filter fun l=>af l.ad==d).map (·.ti)
def Pq(L:List l9)(a:BL):List l9:=L.filter fun l=>l.ad==a
structure QL (w:List Pg) (L:List l9) (l:l9):Prop where
 once:pathOf l.ad≠fF->(∀ q,q∈L->q.ad=l.ad->q.ki=3)/\(Pq L l.ad).length<3
 door:(∀ q,q∈L->af q.ad≠af l.ad)->pathOf l.ad=fF
 fail:∀ q,q∈L->af q.ad=af l.ad->q.ki=3->q.ti+3<=l.ti
 kind:∃ m,l.ki=(ae w l.ad m).1
 rd:aD l.ad=true
 tm:0<=l.ti/\l.ti<=5000
def AD(w:List Pg)(L:List l9):Prop:= ∀ k,k<L.length->QL w (L.take k) (L.getD k n6)
theorem AD.snoc{w:List Pg}{L:List l9}{l:l9}(h:AD w L)(q:QL w L l):AD w (L++[l]):=fun k hk=>by
 rw[ZW,Zv]at hk
 rcases Nat.lt_or_ge k L.length with c | c
 have:=h k c
 rw[List.take_append_of_le_length Z9,ZZ,ZB c,<- ZZ]
 exact this
 have e:k=L.length:=Z9
 subst e
 rw[List.take_left,ZZ,ZG (Zy _)]
 simpa using q
structure HI (L:List l9) (se:List BL) (y:j9):Prop where
 hn:ck y.na=true
 it:∀ x,x∈y.td->aD x.ad=true/\af x.ad=y.na/\x.ad∈se/\0<=x.tr/\x.tr<=2/\(pathOf x.ad≠fF->(∀ q,q∈L->q.ad=x.ad->q.ki=3)/\((Pq L x.ad).length:Int)=x.tr)
 nd:(y.td.map (·.ad)).Nodup
 gl:y.gr.na.length<=1
 un:y.kn=false->0<=y.tr/\y.tr<=2/\y.gr.wa=0/\y.gr.ru=[]/\((cls L y.na).length:Int)=y.tr
 kn:y.kn=true->cls L y.na≠[]
 re:∀ q,q∈L->af q.ad=y.na->q.ti+1<=y.re/\(q.ki=3->q.ti+3<=y.re)/\q.ti+(y.gr.wa:Int)<=y.re
 wt:∀ k,k+1<(cls L y.na).length->(cls L y.na).getD k 0+1<=(cls L y.na).getD (k+1) 0/\(3<=k->(cls L y.na).getD k 0+(y.gr.wa:Int)<=(cls L y.na).getD (k+1) 0)
def MA(l:List u0):Int:=(l.map fun x=>3-x.tr).sum
def hp(y:j9):Int:=(if y.kn=true then 0 else 3-y.tr)+MA y.td
structure GI (w:List Pg) (n:BL) (t:l5):Prop where
 na:t.na=n
 al:AD w t.lk
 se:∀ s,s∈t.se->aD s=true
 sn:t.se.Nodup/\t.se.length<=60
 nd:(t.hs.map (·.na)).Nodup
 hi:∀ y,y∈t.hs->HI t.lk t.se y
 lh:∀ q,q∈t.lk->(∃ y,y∈t.hs/\y.na=af q.ad)/\(pathOf q.ad=fF\/q.ad∈t.se)
 po:(t.lk.length:Int)+(t.hs.map hp).sum<=3*((t.se.length:Int)+t.hs.length)
 hl:t.hs.length<=t.se.length
 no:0<=t.a7
theorem IF{l:List u0}(h:∀ x,x∈l->x.tr<=2):0<=MA l:=by
 induction l with
 | nil=>simp[MA]
 | cons a l ih=>
   have h1:=ih fun x hx=>h x (List.mem_cons_of_mem _ hx)
   have h2:=h a Z8
   simp only[MA,Zw,List.sum_cons]at h1 ⊢
   omega
theorem Bg{l:List u0}(p:u0->Bool)(h:∀ x,x∈l->x.tr<=2):MA (l.filter p)<=MA l:=by
 induction l with
 | nil=>simp[MA]
 | cons a l ih=>
   have h1:=ih fun x hx=>h x (List.mem_cons_of_mem _ hx)
   have h2:=h a Z8
   rw[List.filter_cons]
   split
   simp only[MA,Zw,List.sum_cons]at h1 ⊢;omega
   simp only[MA,Zw,List.sum_cons]at h1 ⊢;omega
theorem zN(l r:List u0):MA (l++r)=MA l+MA r:=by
 unfold MA
 rw[Zz,List.sum_append]
theorem vn{l:List u0}(h:l≠[]):MA l=(3-(l.getD 0 j8).tr)+MA (l.drop 1):=by
 cases l with
 | nil=>exact absurd rfl h
 | cons a l=>simp[MA]
theorem uP{f:j9->Int}{a:j9}:∀ {l:List j9} {i:Nat},i<l.length->((l.set i a).map f).sum=(l.map f).sum-f (l.getD i e9)+f a
 | [],i,h=>by simp at h
 | b::l,0,h=>by simp;omega
 | b::l,i+1,h=>by
   have:=uP (f:=f) (a:=a) (l:=l) (i:=i) (by simpa using h)
   simp only[List.set_cons_succ,Zw,List.sum_cons,List.getD_cons_succ,this];omega
theorem DB{f:j9->Int}:∀ {l:List j9},(∀ y,y∈l->0<=f y)->0<=(l.map f).sum
 | [],_=>by simp
 | a::l,h=>by
   have h1:=DB (f:=f) (l:=l) fun y hy=>h y (List.mem_cons_of_mem _ hy)
   have h2:=h a Z8
   simp only[Zw,List.sum_cons];omega
theorem oz{l:List j9}{i:Nat}{a y:j9}(hn:(l.map (·.na)).Nodup)(hi:i<l.length)(h:y∈l.set i a):y=a\/(y∈l/\y.na≠(l.getD i e9).na):=by
 obtain⟨j,hj,e⟩:=Zu.1 h
 rw[List.getElem_set]at e
 split at e
 exact .inl e.symm
 rename_i hne
 rw[List.length_set]at hj
 refine .inr ⟨by rw[<- e];exact List.getElem_mem _,fun c=>hne ?_⟩
 rw[ZZ,ZR hi]at c
 have:=(List.getElem_inj (h₀:=by simpa using hi) (h₁:=by simpa using hj) hn).1
 exact this (by rw[List.getElem_map,List.getElem_map,e];exact c.symm)
theorem kV{l:List j9}{i:Nat}{a:j9}(hi:i<l.length)(h:a.na=(l.getD i e9).na):(l.set i a).map (·.na)=l.map (·.na):=by
 rw[List.map_set,h]
 apply List.ext_getElem Z8
 intro j h1 h2
 rw[List.getElem_set]
 split
 rename_i e;subst e;rw[List.getElem_map,ZZ,ZR hi];rfl
 rfl
theorem eP{L:List l9}{l:l9}{d:BL}:cls (L++[l]) d=cls L d++(if af l.ad=d then [l.ti] else []):=by
 unfold cls
 rw[List.filter_append,Zz,List.filter_cons]
 by_cases h:af l.ad=d
 rw[if_pos (by simpa using h),if_pos h];rfl
 rw[if_neg (by simpa using h),if_neg h];rfl
theorem lP{L:List l9}{l:l9}{a:BL}:Pq (L++[l]) a=Pq L a++(if l.ad=a then [l] else []):=by
 unfold Pq
 rw[List.filter_append,List.filter_cons]
 by_cases h:l.ad=a
 rw[if_pos (by simpa using h),if_pos h];rfl
 rw[if_neg (by simpa using h),if_neg h];rfl
theorem uO{L:List l9}{d:BL}{x:Int}(h:x∈cls L d):∃ q,q∈L/\af q.ad=d/\q.ti=x:=by
 unfold cls at h
 obtain⟨q,h1,h2⟩:=List.mem_map.1 h
 obtain⟨h3,h4⟩:=List.mem_filter.1 h1
 exact⟨q,h3,by simpa using h4,h2⟩
theorem HI.other{L:List l9}{se:List BL}{y:j9}{l:l9}(h:HI L se y)(hne:y.na≠af l.ad):HI (L++[l]) se y:=by
 have ec:cls (L++[l]) y.na=cls L y.na:=by rw[eP,if_neg (Ne.symm hne),List.append_nil]
 refine⟨h.hn,fun x hx=>?_,h.nd,h.gl,fun hk=>by rw[ec];exact h.un hk,fun hk=>by rw[ec];exact h.kn hk,fun q hq he=>?_,by rw[ec];exact h.wt⟩
 obtain⟨a1,a2,a3,a4,a5,a6⟩:=h.it x hx
 have hx:l.ad≠x.ad:=fun c=>hne (by rw[c,a2])
 refine⟨a1,a2,a3,a4,a5,fun hp=>⟨fun q hq he=>?_,?_⟩⟩
 rcases ZN.1 hq with hq | hq
 exact(a6 hp).1 q hq he
 rw[ZP.1 hq]at he;exact absurd he hx
 rw[lP,if_neg hx,List.append_nil];exact(a6 hp).2
 rcases ZN.1 hq with hq | hq
 exact h.re q hq he
 rw[ZP.1 hq]at he;exact absurd he.symm hne
theorem HI.more{L:List l9}{se Xc:List BL}{y:j9}(h:HI L se y)(hs:∀ s,s∈se->s∈Xc):HI L Xc y:=
 ⟨h.hn,fun x hx=>by obtain⟨a1,a2,a3,a4⟩:=h.it x hx;exact⟨a1,a2,hs _ a3,a4⟩,h.nd,h.gl,h.un,h.kn,h.re,h.wt⟩
theorem HI.core{L:List l9} {se:List BL} {y y':j9} {l:l9} (h:HI L se y) (hl:af l.ad=y.na) (O1:y'.na=y.na) (hr:y.re<=l.ti) (r1:l.ti+1<=y'.re) (r3:l.ki=3->l.ti+3<=y'.re)
 (rw_:l.ti+(y'.gr.wa:Int)<=y'.re) (hw:y.kn=true->y'.gr.wa=y.gr.wa):
 (∀ q,q∈L++[l]->af q.ad=y'.na->q.ti+1<=y'.re/\(q.ki=3->q.ti+3<=y'.re)/\q.ti+(y'.gr.wa:Int)<=y'.re)/\
 (∀ k,k+1<(cls (L++[l]) y'.na).length->(cls (L++[l]) y'.na).getD k 0+1<=(cls (L++[l]) y'.na).getD (k+1) 0/\(3<=k->(cls (L++[l]) y'.na).getD k 0+(y'.gr.wa:Int)<=(cls (L++[l]) y'.na).getD (k+1) 0)):=by
 constructor
 intro q hq he
 rcases ZN.1 hq with hq | hq
 have:=h.re q hq (by rw[he,O1])
 exact⟨Z9,fun hk=>by have:=this.2.1 hk;omega,Z9⟩
 rw[ZP.1 hq]
 exact⟨r1,r3,rw_⟩
 intro k hk
 have ec:cls (L++[l]) y'.na=cls L y.na++[l.ti]:=by rw[eP,if_pos (by rw[hl,O1]),O1]
 rw[ec]at hk ⊢
 rw[ZW,Zv]at hk
 have OZ:y.kn=false->(cls L y.na).length<=2:=fun hk=>by have:=h.un hk;omega
 have e1:∀ j,j<(cls L y.na).length->(cls L y.na++[l.ti]).getD j 0=(cls L y.na).getD j 0:=fun j hj=>by
  rw[ZZ,ZB hj,<- ZZ]
 rcases Nat.lt_or_ge (k+1) (cls L y.na).length with c | c
 rw[e1 k Z9,e1 _ c]
 have:=h.wt k c
 refine⟨this.1,fun h3=>?_⟩
 cases hk:y.kn with
 | false=>have:=OZ hk;omega
 | true=>rw[hw hk];exact this.2 h3
 have ek:k+1=(cls L y.na).length:=Z9
 have e2:(cls L y.na++[l.ti]).getD (k+1) 0=l.ti:=by
  rw[ZZ,ZG Z9,ek,Nat.sub_self];rfl
 rw[e2,e1 k Z9]
 have hm:(cls L y.na).getD k 0∈cls L y.na:=by
  rw[ZZ,ZR Z9];exact List.getElem_mem _
 obtain⟨q,q1,q2,q3⟩:=uO hm
 have:=h.re q q1 q2
 rw[<- q3]
 refine⟨Z9,fun h3=>?_⟩
 cases hk:y.kn with
 | false=>have:=OZ hk;omega
 | true=>rw[hw hk];omega
section
variable {w:List Pg} {n:BL}
theorem uF(hs:List j9)(d n:BL):((aL hs d n).getD (w9 hs d) e9).na=d:=by
 unfold aL
 split
 rename_i h
 rw[ZZ,ZR h]
 unfold w9 at h ⊢
 have:=List.findIdx_getElem (w:=h)
 simpa using this
 rename_i h
 have e:w9 hs d=hs.length:=by
  have:w9 hs d<=hs.length:=List.findIdx_le_length
  omega
 rw[e,ZZ,ZG (Zy _),Nat.sub_self]
 rfl
theorem HU{hs:List j9}{d n:BL}(h:(hs.map (·.na)).Nodup):((aL hs d n).map (·.na)).Nodup:=by
 unfold aL
 split
 exact h
 rename_i hc
 rw[Zz,List.nodup_append]
 refine⟨h,Z8,fun a ha b hb e=>hc ?_⟩
 subst e
 have hb:a=d:=by simpa[cf] using hb
 subst hb
 obtain⟨y,hy,e⟩:=List.mem_map.1 ha
 exact List.findIdx_lt_length_of_exists ⟨y,hy,by simpa using e⟩
theorem EN(y:j9)(s:BL):hp (cL y s)<=hp y+3:=by
 unfold cL
 split
 omega
 unfold hp
 simp only[zN]
 have:MA [⟨s,0⟩]=3:=by simp[MA]
 omega
theorem lO(y:j9)(s:BL):(cL y s).na=y.na:=by unfold cL;split <;> rfl
theorem GI.iL{t:l5}{s:BL}(h:GI w n t):GI w n (aE t s):=by
 by_cases hr:ej t.se s
 case neg=>
  have e3:df t.se s=t.se:=if_neg hr
  have e4:bg t.na t.hs t.se s=t.hs:=if_neg hr
  have:aE t s=t:=by unfold aE;rw[e3,e4]
  rw[this];exact h
 have e3:(aE t s).se=t.se++[s]:=if_pos hr
 have e4:(aE t s).hs=(aL t.hs (af s) t.na).set (w9 t.hs (af s)) (cL ((aL t.hs (af s) t.na).getD (w9 t.hs (af s)) e9) s):=if_pos hr
 have hlt:=ff t.hs (af s) t.na
 have O1:=uF t.hs (af s) t.na
 have hnd:=HU (d:=af s) (n:=t.na) h.nd
 have hno:∀ q,q∈t.lk->pathOf s≠fF->q.ad≠s:=fun q hq hp c=>by
  rcases (h.lh q hq).2 with e | e
  rw[c]at e;exact hp e
  rw[c]at e;exact hr.2.2 e
 have hin:∀ y,y∈aL t.hs (af s) t.na->HI t.lk t.se y:=fun y hy=>by
  unfold aL at hy
  split at hy
  exact h.hi y hy
  rename_i hc
  rcases ZN.1 hy with hy | hy
  exact h.hi y hy
  rw[ZP.1 hy]
  have hz:∀ q,q∈t.lk->af q.ad≠af s:=fun q hq c=>by
   obtain⟨z,z1,z2⟩:=(h.lh q hq).1
   exact hc (List.findIdx_lt_length_of_exists ⟨z,z1,by simp[z2,c]⟩)
  have ec:cls t.lk (af s)=[]:=by
   unfold cls
   rw[List.filter_eq_nil_iff.2 (fun q hq=>by simpa using hz q hq)];rfl
  refine⟨vA hr.1,fun x hx=>by simp[cf]at hx,by simp[cf],by simp[cf],fun _=>⟨by simp[cf],by simp[cf],rfl,rfl,?_⟩,fun c=>by simp[cf]at c,fun q hq c=>absurd c (hz q hq),fun k hk=>?_⟩
  show ((cls t.lk (af s)).length:Int)=0
  rw[ec];rfl
  exfalso
  have hk:k+1<(cls t.lk (af s)).length:=hk
  rw[ec]at hk;simp at hk
 have Nf:∀ q,q∈t.se->q∈t.se++[s]:=fun q hq=>List.mem_append_left _ hq
 have E5:=hin _ (aI (d:=e9) hlt)
 generalize hy:(aL t.hs (af s) t.na).getD (w9 t.hs (af s)) e9=y at *
 have hH:HI t.lk (t.se++[s]) (cL y s):=by
  unfold cL
  split
  exact E5.more Nf
  have QW:=E5.more Nf
  refine⟨QW.hn,fun x hx=>?_,?_,QW.gl,QW.un,QW.kn,QW.re,QW.wt⟩
  rcases ZN.1 hx with hx | hx
  exact QW.it x hx
  rw[ZP.1 hx]
  refine⟨hr.1,O1.symm,Z8,Z8,Z8,fun hp=>⟨fun q hq c=>absurd c (hno q hq hp),?_⟩⟩
  show ((Pq t.lk s).length:Int)=0
  unfold Pq
  rw[List.filter_eq_nil_iff.2 (fun q hq=>by simpa using hno q hq hp)];rfl
  show ((y.td++[(⟨s,0⟩:u0)]).map (·.ad)).Nodup
  rw[Zz,List.nodup_append]
  refine⟨E5.nd,Z8,fun a ha b hb e=>?_⟩
  subst e
  have hb:a=s:=by simpa using hb
  subst hb
  obtain⟨x,hx,e⟩:=List.mem_map.1 ha
  exact hr.2.2 (by rw[<- e];exact(E5.it x hx).2.2.1)
 have M8:((aL t.hs (af s) t.na).map hp).sum<=(t.hs.map hp).sum+3*(((aL t.hs (af s) t.na).length:Int)-t.hs.length)/\(aL t.hs (af s) t.na).length<=t.hs.length+1:=by
  unfold aL
  split
  omega
  simp only[Zz,Zw,List.map_nil,List.sum_append,List.sum_cons,List.sum_nil,ZW,Zv]
  have:hp (cf (af s) t.na)=3:=by simp[hp,cf,MA]
  omega
 refine⟨h.na,h.al,fun q hq=>?_,⟨?_,?_⟩,?_,fun z hz=>?_,fun q hq=>?_,?_,?_,h.no⟩
 rw[e3]at hq
 rcases ZN.1 hq with hq | hq
 exact h.se q hq
 rw[ZP.1 hq];exact hr.1
 rw[e3,List.nodup_append]
 refine⟨h.sn.1,Z8,fun a ha b hb e=>?_⟩
 subst e
 have hb:a=s:=by simpa using hb
 subst hb
 exact hr.2.2 ha
 rw[e3,ZW,Zv];have:=hr.2.1;omega
 rw[e4,kV hlt (by rw[lO,hy])]
 exact hnd
 rw[e4]at hz
 rw[e3]
 rcases oz hnd hlt hz with e | ⟨e,_⟩
 rw[e];exact hH
 exact(hin z e).more Nf
 obtain⟨⟨z,z1,z2⟩,z3⟩:=h.lh q hq
 refine⟨?_,by rw[e3];exact z3.imp_right (Nf _)⟩
 rw[e4]
 have hz:z∈aL t.hs (af s) t.na:=by
  unfold aL
  split
  exact z1
  exact List.mem_append_left _ z1
 by_cases c:z.na=y.na
 exact⟨cL y s,List.mem_set hlt _,by rw[lO,<- c];exact z2⟩
 obtain⟨j,hj,e⟩:=Zu.1 hz
 refine⟨z,?_,z2⟩
 have hne:w9 t.hs (af s)≠j:=by
  rintro rfl
  rw[ZZ,ZR hj]at hy
  exact c (by rw[<- e,<- hy];rfl)
 refine Zu.2 ⟨j,by simpa using hj,?_⟩
 rw[List.getElem_set,if_neg hne];exact e
 rw[e3,e4,uP hlt,hy,List.length_set,ZW,Zv]
 have:=EN y s
 have:=h.po
 show (t.lk.length:Int)+_<=_
 omega
 rw[e3,e4,List.length_set,ZW,Zv]
 have:=h.hl
 omega
theorem GI.dO{l:List BL}:∀ {t:l5},GI w n t->GI w n (l.foldl aE t):=by
 induction l with
 | nil=>exact fun h=>h
 | cons a l ih=>exact fun h=>ih h.iL
theorem GI.zero:GI w n (aS n):=⟨rfl,fun k hk=>by simp[aS]at hk,fun s hs=>by simp[aS]at hs,by simp[aS],by simp[aS],fun y hy=>by simp[aS]at hy,fun q hq=>by simp[aS]at hq,by simp[aS],by simp[aS],by simp[aS]⟩
theorem GI.call{t:l5} {i:Nat} {y':j9} {l:l9} {a7:Int} (h:GI w n t) (hi:i<t.hs.length) (hl:af l.ad=(t.hs.getD i e9).na) (q:QL w t.lk l) (O1:y'.na=(t.hs.getD i e9).na) (hH:HI (t.lk++[l]) t.se y')
 (ho:pathOf l.ad=fF\/l.ad∈t.se) (hp1:hp y'+1<=hp (t.hs.getD i e9)) (Wm:0<=a7):GI w n ⟨t.na,a7,t.hs.set i y',t.se,t.lk++[l]⟩:=by
 refine⟨h.na,h.al.snoc q,h.se,h.sn,?_,fun z hz=>?_,fun z hz=>?_,?_,by simpa using h.hl,Wm⟩
 show ((t.hs.set i y').map (·.na)).Nodup
 rw[kV hi O1];exact h.nd
 rcases oz h.nd hi hz with e | ⟨e,e2⟩
 rw[e];exact hH
 exact(h.hi z e).other (by rw[hl];exact e2)
 show (∃ y,y∈t.hs.set i y'/\y.na=af z.ad)/\_
 have key:∀ d,(∃ y,y∈t.hs/\y.na=d)->∃ y,y∈t.hs.set i y'/\y.na=d:=fun d ⟨y,y1,y2⟩=>by
  have:d∈(t.hs.set i y').map (·.na):=by
   rw[kV hi O1];exact List.mem_map.2 ⟨y,y1,y2⟩
  obtain⟨y,y1,y2⟩:=List.mem_map.1 this
  exact⟨y,y1,y2⟩
 rcases ZN.1 hz with hz | hz
 exact⟨key _ (h.lh z hz).1,(h.lh z hz).2⟩
 rw[ZP.1 hz]
 exact⟨key _ ⟨_,aI (d:=e9) hi,hl.symm⟩,ho⟩
 show ((t.lk++[l]).length:Int)+((t.hs.set i y').map hp).sum<=3*((t.se.length:Int)+(t.hs.set i y').length)
 rw[uP hi,List.length_set,ZW,Zv]
 have:=h.po
 omega
theorem Eg{k:Int}(h:0<=k/\k<=2):2<=dm (k+1):=by
 unfold dm
 split
 omega
 split
 omega
 split <;> omega
theorem rK{y:j9}{a7 k m:Int}(hm:0<=m/\m<=2):a7+1<=(dG y a7 k m).re/\(k=3->a7+3<=(dG y a7 k m).re)/\a7+(y.gr.wa:Int)<=(dG y a7 k m).re:=by
 have:=Eg hm
 unfold dG
 simp only
 split
 exact⟨Z9,fun _=>by omega,Z9⟩
 rename_i c;exact⟨Z9,fun h=>absurd h c,Z9⟩
theorem Jt{t:l5}{i:Nat}(h:GI w n t)(hi:i<t.hs.length)(hk:(t.hs.getD i e9).kn=false)(hr:(t.hs.getD i e9).re<=t.a7)(L1:0<=t.a7/\t.a7<=5000):GI w n (QE w t i):=by
 have hy:=h.hi _ (aI (d:=e9) hi)
 unfold QE
 generalize E5:t.hs.getD i e9=y at *
 have Tf:=kS hy.hn
 have Vz:=BT hy.hn
 obtain⟨u1,u2,u3,u4,u5⟩:=hy.un hk
 have Ox:=rK (y:=y) (a7:=t.a7) (k:=(ae w (ai y.na) y.tr).1) (m:=y.tr) ⟨u1,u2⟩
 have hq:QL w t.lk ⟨t.a7,ai y.na,(ae w (ai y.na) y.tr).1⟩:=by
  refine⟨fun c=>absurd Vz c,fun _=>Vz,fun q hq he h3=>?_,⟨_,rfl⟩,Ez hy.hn,L1⟩
  have:=(hy.re q hq (by rw[he];exact Tf)).2.1 h3
  show q.ti+3<=t.a7
  omega
 have hit:∀ x,x∈y.td->pathOf x.ad≠fF->ai y.na≠x.ad:=fun x _ hp c=>hp (by rw[<- c];exact Vz)
 have Tk:∀ x,x∈y.td->aD x.ad=true/\af x.ad=y.na/\x.ad∈t.se/\0<=x.tr/\x.tr<=2/\(pathOf x.ad≠fF->(∀ q,q∈t.lk++[⟨t.a7,ai y.na,(ae w (ai y.na) y.tr).1⟩]->q.ad=x.ad->q.ki=3)/\((Pq (t.lk++[⟨t.a7,ai y.na,(ae w (ai y.na) y.tr).1⟩]) x.ad).length:Int)=x.tr):=fun x hx=>by
  obtain⟨a1,a2,a3,a4,a5,a6⟩:=hy.it x hx
  refine⟨a1,a2,a3,a4,a5,fun hp=>⟨fun q hq he=>?_,?_⟩⟩
  rcases ZN.1 hq with hq | hq
  exact(a6 hp).1 q hq he
  rw[ZP.1 hq]at he;exact absurd he (hit x hx hp)
  rw[lP,if_neg (hit x hx hp),List.append_nil];exact(a6 hp).2
 have hcl:cls (t.lk++[⟨t.a7,ai y.na,(ae w (ai y.na) y.tr).1⟩]) y.na=cls t.lk y.na++[t.a7]:=by rw[eP,if_pos Tf]
 refine h.call hi (by rw[E5];exact Tf) hq ?_ ?_ (.inl Vz) ?_ L1.1
 rw[E5];unfold Nk;split <;> rfl
 unfold Nk
 split
 rename_i hc
 obtain⟨k1,k2⟩:=hy.core (y':={ n8 w y t.a7 with tr:=y.tr+1 }) (l:=⟨t.a7,ai y.na,(ae w (ai y.na) y.tr).1⟩) Tf rfl hr Ox.1 Ox.2.1 Ox.2.2 (fun c=>by rw[hk]at c;cases c)
 refine⟨hy.hn,Tk,hy.nd,hy.gl,fun _=>⟨by show 0<=y.tr+1;omega,by show y.tr+1<=2;omega,u3,u4,?_⟩,fun c=>?_,k1,k2⟩
 show ((cls _ y.na).length:Int)=y.tr+1
 rw[hcl,ZW,Zv];omega
 have c:y.kn=true:=c
 rw[hk]at c;cases c
 have XA:(n8 w y t.a7).re=(dG y t.a7 (ae w (ai y.na) y.tr).1 y.tr).re:=rfl
 obtain⟨k1,k2⟩:=hy.core (y':={ n8 w y t.a7 with kn:=true,gr:=cw w t.na y.na,re:=max (n8 w y t.a7).re (t.a7+((cw w t.na y.na).wa:Int)),td:=y.td.filter (M6 (cw w t.na y.na).ru) }) (l:=⟨t.a7,ai y.na,(ae w (ai y.na) y.tr).1⟩) Tf rfl hr
  (by show t.a7+1<=max (n8 w y t.a7).re (t.a7+((cw w t.na y.na).wa:Int));rw[XA];have:=Ox.1;omega)
  (fun h3=>by show t.a7+3<=max (n8 w y t.a7).re (t.a7+((cw w t.na y.na).wa:Int));rw[XA];have:=Ox.2.1 h3;omega)
  (by show t.a7+((cw w t.na y.na).wa:Int)<=max (n8 w y t.a7).re (t.a7+((cw w t.na y.na).wa:Int));omega) (fun c=>by rw[hk]at c;cases c)
 refine⟨hy.hn,fun x hx=>Tk x (List.mem_filter.1 hx).1,List.Nodup.sublist (List.filter_sublist.map _) hy.nd,Zy 1,(fun c=>by cases c),fun _=>?_,k1,k2⟩
 show cls _ y.na≠[]
 rw[hcl];simp
 rw[E5]
 unfold Nk
 split
 show (if y.kn=true then 0 else 3-(y.tr+1))+MA y.td+1<=hp y
 unfold hp
 rw[hk]
 simp only[Bool.false_eq_true,if_false];omega
 show (if true=true then 0 else _)+MA (y.td.filter _)+1<=hp y
 have:=Bg (M6 (cw w t.na y.na).ru) (l:=y.td) fun x hx=>(hy.it x hx).2.2.2.2.1
 unfold hp
 rw[hk]
 simp only[Bool.false_eq_true,if_false,if_true];omega
theorem JV{t:l5}{i:Nat}(h:GI w n t)(hi:i<t.hs.length)(hk:(t.hs.getD i e9).kn=true)(hne:(t.hs.getD i e9).td≠[])(hr:(t.hs.getD i e9).re<=t.a7)(L1:0<=t.a7/\t.a7<=5000):GI w n (Mn w t i):=by
 have hy:=h.hi _ (aI (d:=e9) hi)
 unfold Mn
 simp only
 generalize E5:t.hs.getD i e9=y at *
 have G6:=List.length_pos_iff.2 hne
 have hit:=hy.it _ (aI (d:=j8) G6)
 have TG:=vn hne
 have NG:(y.td.getD 0 j8).ad ∉ (y.td.drop 1).map (·.ad)/\((y.td.drop 1).map (·.ad)).Nodup:=by
  have:=hy.nd
  cases R0:y.td with
  | nil=>exact absurd R0 hne
  | cons a r=>rw[R0]at this;simpa using List.nodup_cons.1 this
 generalize RW:y.td.getD 0 j8=x0 at *
 obtain⟨a1,a2,a3,a4,a5,a6⟩:=hit
 have Ox:=rK (y:={ y with td:=y.td.drop 1 }) (a7:=t.a7) (k:=(ae w x0.ad x0.tr).1) (m:=x0.tr) ⟨a4,a5⟩
 have hq:QL w t.lk ⟨t.a7,x0.ad,(ae w x0.ad x0.tr).1⟩:=by
  refine⟨fun c=>⟨(a6 c).1,by have:=(a6 c).2;show (Pq t.lk x0.ad).length<3;omega⟩,fun hc=>?_,fun q hq he h3=>?_,⟨_,rfl⟩,a1,L1⟩
  exfalso
  have:=hy.kn hk
  obtain⟨z,hz⟩:=List.exists_mem_of_ne_nil _ this
  obtain⟨q,q1,q2,_⟩:=uO hz
  exact hc q q1 (by rw[q2];exact a2.symm)
  have:=(hy.re q hq (by rw[he];exact a2)).2.1 h3
  show q.ti+3<=t.a7
  omega
 have hcl:cls (t.lk++[⟨t.a7,x0.ad,(ae w x0.ad x0.tr).1⟩]) y.na=cls t.lk y.na++[t.a7]:=by rw[eP,if_pos a2]
 have Tk:∀ x,x∈y.td.drop 1->aD x.ad=true/\af x.ad=y.na/\x.ad∈t.se/\0<=x.tr/\x.tr<=2/\(pathOf x.ad≠fF->(∀ q,q∈t.lk++[⟨t.a7,x0.ad,(ae w x0.ad x0.tr).1⟩]->q.ad=x.ad->q.ki=3)/\((Pq (t.lk++[⟨t.a7,x0.ad,(ae w x0.ad x0.tr).1⟩]) x.ad).length:Int)=x.tr):=fun x hx=>by
  have P2:x0.ad≠x.ad:=fun c=>NG.1 (by rw[c];exact List.mem_map.2 ⟨x,hx,rfl⟩)
  obtain⟨b1,b2,b3,b4,b5,b6⟩:=hy.it x (List.mem_of_mem_drop hx)
  refine⟨b1,b2,b3,b4,b5,fun hp=>⟨fun q hq he=>?_,?_⟩⟩
  rcases ZN.1 hq with hq | hq
  exact(b6 hp).1 q hq he
  rw[ZP.1 hq]at he;exact absurd he P2
  rw[lP,if_neg P2,List.append_nil];exact(b6 hp).2
 have OZ:∀ {P:Prop},(y.kn=false->P):=fun c=>by rw[hk]at c;cases c
 have Qi:cls (t.lk++[⟨t.a7,x0.ad,(ae w x0.ad x0.tr).1⟩]) y.na≠[]:=by rw[hcl];simp
 have c1:GI w n ⟨t.na,t.a7,t.hs.set i (C3 w y t.a7),t.se,t.lk++[⟨t.a7,x0.ad,(ae w x0.ad x0.tr).1⟩]⟩:=by
  have U1:C3 w y t.a7=dG { y with td:=y.td.drop 1 } t.a7 (ae w x0.ad x0.tr).1 x0.tr:=by unfold C3;rw[RW]
  rw[U1]
  obtain⟨k1,k2⟩:=hy.core (y':=dG { y with td:=y.td.drop 1 } t.a7 (ae w x0.ad x0.tr).1 x0.tr) (l:=⟨t.a7,x0.ad,(ae w x0.ad x0.tr).1⟩) a2 rfl hr Ox.1 Ox.2.1 Ox.2.2 (fun _=>rfl)
  refine h.call hi (by rw[E5];exact a2) hq (by rw[E5];rfl) ⟨hy.hn,Tk,NG.2,hy.gl,OZ,fun _=>Qi,k1,k2⟩ (.inr a3) ?_ L1.1
  rw[E5]
  show (if y.kn=true then 0 else 3-y.tr)+MA (y.td.drop 1)+1<=hp y
  unfold hp
  omega
 split
 rename_i hc
 have U1:({ C3 w y t.a7 with td:=y.td.drop 1++[⟨x0.ad,x0.tr+1⟩] }:j9)={ dG { y with td:=y.td.drop 1 } t.a7 (ae w x0.ad x0.tr).1 x0.tr with td:=y.td.drop 1++[⟨x0.ad,x0.tr+1⟩] }:=by unfold C3;rw[RW]
 rw[U1]
 obtain⟨k1,k2⟩:=hy.core (y':={ dG { y with td:=y.td.drop 1 } t.a7 (ae w x0.ad x0.tr).1 x0.tr with td:=y.td.drop 1++[⟨x0.ad,x0.tr+1⟩] }) (l:=⟨t.a7,x0.ad,(ae w x0.ad x0.tr).1⟩) a2 rfl hr Ox.1 Ox.2.1 Ox.2.2 (fun _=>rfl)
 refine h.call hi (by rw[E5];exact a2) hq (by rw[E5];rfl) ⟨hy.hn,fun x hx=>?_,?_,hy.gl,OZ,fun _=>Qi,k1,k2⟩ (.inr a3) ?_ L1.1
 rcases ZN.1 hx with hx | hx
 exact Tk x hx
 rw[ZP.1 hx]
 refine⟨a1,a2,a3,by show 0<=x0.tr+1;omega,by show x0.tr+1<=2;omega,fun hp=>⟨fun q hq he=>?_,?_⟩⟩
 rcases ZN.1 hq with hq | hq
 exact(a6 hp).1 q hq he
 rw[ZP.1 hq];exact hc.1
 show ((Pq _ x0.ad).length:Int)=x0.tr+1
 rw[lP,if_pos rfl,ZW,Zv]
 have:=(a6 hp).2
 omega
 show ((y.td.drop 1++[(⟨x0.ad,x0.tr+1⟩:u0)]).map (·.ad)).Nodup
 rw[Zz,List.nodup_append]
 refine⟨NG.2,Z8,fun a ha b hb e=>?_⟩
 subst e
 have hb:a=x0.ad:=by simpa using hb
 subst hb
 exact NG.1 ha
 rw[E5]
 show (if y.kn=true then 0 else 3-y.tr)+MA (y.td.drop 1++[⟨x0.ad,x0.tr+1⟩])+1<=hp y
 have:MA [⟨x0.ad,x0.tr+1⟩]=3-(x0.tr+1):=by simp[MA]
 unfold hp
 rw[zN]
 omega
 exact c1.dO
theorem Gn(t:l5):∀ i,i<=t.hs.length->(I9 t i=(-1,0))\/∃ j:Nat,(I9 t i).1=(j:Int)/\(I9 t i).2=max (t.hs.getD j e9).re t.a7
 | 0,_=>.inl rfl
 | i+1,hi=>by
   rw[ou Z9]
   unfold nD
   split
   exact .inr ⟨i,rfl,rfl⟩
   exact Gn t i Z9
theorem GC{t:l5}(h:Mc t=true):z7 t=max (t.hs.getD (o5 t) e9).re t.a7:=by
 unfold Mc at h
 rw[ZX]at h
 have h1:=h.1
 unfold o5 z7
 unfold iD at h1 ⊢
 split at h1
 cases h1
 rename_i c
 rw[if_neg c]
 rcases Gn t _ (Zy _) with e | ⟨j,e1,e2⟩
 rw[e]at c;exact absurd (.inl Z6) c
 simp only[Option.map_some,Option.getD_some,e1,e2,Int.toNat_natCast]
theorem Ga{t:l5}(h:Mc t=true):(t.hs.getD (o5 t) e9).re<=z7 t:=by have:=GC h;omega
theorem GI.at_{t:l5}{a7:Int}(h:GI w n t)(hn:0<=a7):GI w n { t with a7:=a7 }:=⟨h.na,h.al,h.se,h.sn,h.nd,h.hi,h.lh,h.po,h.hl,hn⟩
theorem nH{t:l5}(h:GI w n t)(hg:Mc t=true):GI w n (D' w t):=by
 have hx:=mj hg
 have hr:=Ga hg
 have hno:=h.no
 have hw:0<=z7 t/\z7 t<=5000:=⟨Z9,hx.2.2.2⟩
 unfold D'
 split
 rename_i hk
 exact JV (h.at_ hw.1) hx.1 hk hx.2.1 hr hw
 rename_i hk
 exact Jt (h.at_ hw.1) hx.1 (by simpa using hk) hr hw
theorem CA:∀ (k:Nat) {t:l5},GI w n t->GI w n (E8 w k t)
 | 0,_,h=>h
 | k+1,t,h=>by
   unfold E8
   split
   rename_i hg;exact CA k (nH h hg)
   exact h
theorem nG{c5:List BL}{t:l5}(h:aN n c5=some t):GI w n t:=by
 unfold aN at h
 split at h
 cases h;exact GI.zero.dO
 cases h
theorem tK{c5:List BL}{t:l5}(h:aN n c5=some t):aQ t=true:=by
 have hg:=nG (w:=[]) h
 unfold aN at h
 split at h
 case isFalse=>cases h
 rename_i hc
 have hn:=jJ n c5 (kB n)
 rw[Option.some.inj h]at hn
 have hI:∀ {a b c:Int},a<=b->b<=c->z8 b a c=true:=fun h1 h2=>decide_eq_true ⟨h1,h2⟩
 unfold aQ
 simp only[ZX,ZI,Zq]
 refine⟨⟨⟨⟨⟨by rw[hn.na];exact hc.1,by rw[hn.a7];decide⟩,?_⟩,by rw[hn.lk];rfl⟩,fun y hy=>⟨?_,?_⟩⟩,hg.nd⟩
 unfold cN
 simp only[ZX,ZI,Zq]
 exact⟨⟨hg.sn.2,hg.sn.1⟩,hg.se⟩
 obtain⟨b1,b2,_,b4,b5⟩:=hn.hs y hy
 unfold cZ
 rw[b1,b2,b4,b5,hn.na]
 simp only[ZX,Bool.false_eq_true,if_false,Zq]
 exact⟨⟨⟨⟨(hg.hi y hy).hn,Z6⟩,Z6⟩,Z8⟩,Z8⟩
 have hI:=hg.hi y hy
 unfold cR
 simp only[ZX,ZI,Zq]
 refine⟨⟨?_,fun x hx=>?_⟩,hI.nd⟩
 have:=mw (u:=t.se) hI.nd fun a ha=>by
  obtain⟨x,hx,e⟩:=List.mem_map.1 ha
  rw[<- e];exact(hI.it x hx).2.2.1
 simpa using this
 obtain⟨a1,a2,a3,a4,a5,_⟩:=hI.it x hx
 exact⟨⟨⟨a1,by simpa using a2⟩,by simpa using a3⟩,decide_eq_true ⟨a4,a5⟩⟩
end
def oH(w:List Pg)(n:BL)(c5:List BL):o8 Tryz.prog:=.mk 10 [bQ w,sV n,ao c5] [] ((w.length<=30)/\(∀ i,n7 (w.getD i m0))/\(n.length<=1000)/\(c5.length<=400)/\(∀ x,x∈c5->x.length<=1000/\m4 x)) (bV ((aN n c5).isSome&&av w)) [] (by
 rintro⟨hw,hz,hn,hl,ha⟩
 refine aq (N:=20) (rs:=[.tmp 6]) Tryz.func10
  (.q 1<|.q 2<|.c (su n c5) []<|.mv<|.mv<|.q 1<|.al fP (fun g7=>.st none<|.q 1<|.q 3<|.cg (vW w)<|.q 2<|.nil))
  ((su n c5).sm/\((n.length<=1000)/\(c5.length<=1000)/\(∀ x,x∈c5->x.length<=1000/\m4 x))/\∀ g7:Nat,Z g7 0/\Gd (((aN n c5).isSome)==true) (((w.length<=1000)/\(∀ i,(w.getD i m0).addr.length<=1000000/\(w.getD i m0).lead.length<=1000000))/\(vW w).sm)/\Pk ((aN n c5).isSome) (((aN n c5).isSome)==true) true/\Q (bV (((aN n c5).isSome)&&(av w))) (bV ((aN n c5).isSome&&av w))) ?_
 refine⟨rfl,⟨hn,Z9,ha⟩,?_⟩
 intro g7
 refine⟨rfl,fun hG=>⟨⟨by(try simp only[nb]at hG);omega,fun i=>⟨by have:=(hz i).a;omega,by have:=(hz i).l;omega⟩⟩,rfl⟩,⟨fun h=>by rw[h] <;> rfl,fun _=>rfl⟩,?_⟩
 unfold Q
 rfl)
section
open Go Go.ChangeShapes Go.RowKit
theorem Ej{H:Type} {enc:TypeId×Value->H} {P:Program} {t e:TypeId} (ht:P.underlying t=some (.slice e)) (he:P.underlying e=some (.int .u8)) (hc:P.cellsOf e=1) {W:World} {a0:Option Addr} {len cap:Nat} {d0:DataW H} {p:List MemPlace}
 (h0:DataW.Trod enc P W 0 (fun _=>true) true t (.slice a0 len cap) d0 p):∃ b:BL,b.length=len/\len<=9223372036854775807/\RVs W (· < W.heap.size) [.sl false (b.map m7)] [.slice a0 len cap] []:=by
 have mk:∀ (b:BL),b.length=len->len<=cap->(b=[]\/∃ g o,a0=some ⟨g,o,none⟩/\g<W.heap.size/\∀ j u,(b.map fun c=>Value.int .u8 c.toNat)[j]? =some u->W.cell? ⟨g,o+j,none⟩=some u)->RVs W (· < W.heap.size) [.sl false (b.map m7)] [.slice a0 len cap] []:=by
  intro b hb hl hx
  refine⟨_,[],[],[],rfl,rfl,?_,rfl,rfl⟩
  refine⟨rfl,a0,cap,by rw[ZM,hb],by rw[ZM,hb];exact hl,(fun h=>by cases h),?_⟩
  rcases hx with rfl | ⟨g,o,rfl,hg,r6⟩
  exact .inl rfl
  refine .inr ⟨g,o,1,b.map (fun c=>Value.int .u8 c.toNat),rfl,hg,Z9,?_,?_,r6⟩
  intro x hx
  obtain⟨c,_,rfl⟩:=List.mem_map.1 hx
  rfl
  clear r6 hb
  induction b with
  | nil=>exact⟨rfl,rfl⟩
  | cons c r ih=>exact⟨[.int .u8 c.toNat],r.map (fun c=>Value.int .u8 c.toNat),[],[],rfl,rfl,⟨rfl,rfl,rfl⟩,ih⟩
 obtain⟨fuel,hf⟩:=h0
 rcases open_ints ht he hc hf with ⟨hcs,hx⟩ | ⟨a,len',cap',zs,hcs,_,hl,hm,hz,hx,r6,hwz⟩
 simp[Value.cells]at hcs
 obtain⟨rfl,rfl,rfl⟩:=hcs
 exact⟨[],rfl,Z9,mk [] rfl (Zy _) (.inl rfl)⟩
 simp[Value.cells]at hcs
 obtain⟨rfl,rfl,rfl⟩:=hcs
 simp only[if_true]at hz
 have Q3:maxLen=9223372036854775807:=rfl
 have hb:((zs.take len).map fun z=>UInt8.ofNat z.toNat).length=len:=Z0
 refine⟨(zs.take len).map fun z=>UInt8.ofNat z.toNat,hb,Z9,mk _ hb hl ?_⟩
 by_cases h0:len=0
 left;exact ZF Z9
 right
 obtain⟨g,o,s⟩:=a
 have Oy:=r6 0 Z9
 obtain rfl:s=none:=by simpa[Addr.add] using World.cell?_spot Oy
 refine⟨g,o,rfl,by have:=World.block_lt_of_cell? _ _ Oy;simpa[Addr.add] using this,fun j u hu=>?_⟩
 rw[List.getElem?_map,List.getElem?_map,List.getElem?_take]at hu
 split at hu
 rename_i hj
 have Vv:j<zs.length:=Z9
 rw[ZR Vv]at hu
 simp only[Option.map_some,ZY]at hu
 have hw:=hwz zs[j] (List.getElem_mem Vv)
 have WK:0<=zs[j]/\zs[j]<256:=by
  have h1:IntKind.u8.min=0:=rfl
  have h2:IntKind.u8.max=255:=rfl
  simp only[Lit.wf,ZX,Zq]at hw
  omega
 have XL:=r6 j Vv
 have ea:(⟨g,o,none⟩:Addr).add j=⟨g,o+j,none⟩:=by unfold Addr.add;by_cases h0:j=0 <;> simp[h0]
 rw[ea]at XL
 rw[XL,<- hu]
 simp only[ZZ,ZR Vv,Option.getD_some,ZY,Value.int.injEq,true_and]
 rw[UInt8.toNat_ofNat_of_lt' (by show zs[j].toNat<256;omega)]
 omega
 simp at hu
theorem Bm{P:Program}{n:String}{d:DataW Unit}{r:List (String×DataW Unit)}{W:World}{g:Nat}{x:Value}(h:laidMet P ((n,d)::r) W)(hg:P.globalNamed n=some g)(hv:W.var? P n=some #[x]):∃ t,W.heap[g]? =some (.cells #[x] t (0,0)):=by
 obtain⟨ps,⟨g0,t0,XZ,f0,p0,q0,U0,_,hv0,_,_,e0⟩,_,UH⟩:=h
 obtain rfl:=Option.some.inj (hg.symm.trans U0)
 obtain rfl:=Option.some.inj (hv.symm.trans hv0)
 subst e0
 obtain⟨c,t,hc⟩:=(UH g 0 (by simp[MemPlace.row])).1
 refine⟨t,?_⟩
 unfold World.var? at hv
 rw[hg,Option.bind_some,hc]at hv
 rw[hc]
 simpa using hv
theorem vR{w:World}{Pb Pb':Nat->Prop}:∀ {b:BL} {cs:List Value},RL w Pb (b.map m7) cs []->RL w Pb' (b.map m7) cs []/\∀ c r,b=c::r->∃ k,cs[0]? =some (.int .u8 k)
 | [],cs,h=>⟨h,fun c r e=>by cases e⟩
 | c::b,cs,h=>by
   obtain⟨c1,c2,F1,F2,rfl,e,h1,h2⟩:=h
   obtain⟨rfl,rfl⟩:=List.append_eq_nil_iff.1 e.symm
   obtain⟨k1,k2,_⟩:=h1
   subst k2
   exact⟨⟨_,c2,[],[],rfl,rfl,⟨k1,rfl,rfl⟩,(vR h2).1⟩,fun c r e=>⟨_,rfl⟩⟩
theorem u8_in{W:World}{b:BL}{v x:Value}{t:TypeId}(hv:RVs W (· < W.heap.size) [.sl false (b.map m7)] [v] [])(h0:W.heap[0]? =some (.cells #[x] t (0,0)))(hx:∀ k,x≠.int .u8 k):
 R W (fun g=>g<W.heap.size/\g≠0) (.sl false (b.map m7)) [v] []:=by
 obtain⟨x,xs,Fa,Fb,e1,e2,k1,k2⟩:=(sI _).1 hv
 simp only[List.cons.injEq]at e1
 obtain⟨rfl,rfl⟩:=e1
 have e3:Fa=[]:=(List.append_eq_nil_iff.1 e2.symm).1
 subst e3
 have k1:R W (· < W.heap.size) (.sl false (b.map m7)) [v] []:=k1
 obtain⟨_,A,c,hA,hl,hf,Mm⟩:=k1
 refine⟨rfl,A,c,hA,hl,hf,?_⟩
 rcases Mm with Mm | ⟨bl,o,sz,flat,q1,q2,q3,q4,q5,q6⟩
 exact .inl Mm
 obtain⟨r1,r2⟩:=vR (Pb':=fun g=>g<W.heap.size/\g≠0) q5
 cases U6:b with
 | nil=>exact .inl rfl
 | cons c0 b0=>
   obtain⟨k,hk⟩:=r2 c0 b0 U6
   refine .inr ⟨bl,o,sz,flat,q1,⟨q2,?_⟩,q3,by rw[<- U6];exact q4,by rw[<- U6];exact r1,q6⟩
   rintro rfl
   have:=q6 0 _ hk
   rw[Nat.add_zero]at this
   simp only[World.cell?,h0]at this
   cases o with
   | zero=>
     exact hx k (by simpa using this)
   | succ o=>simp at this
theorem KG{P:Program} {f:FuncId} {T:TypeId} {vs:List V} {ea:Addr} {W:World} {t:TypeId}
 (h:PF P f vs [(9000,(0,.lit (.iface T (.pointer (some ea)))))] (fun r h=>r=bV true/\h=[(9000,(0,.lit (.iface T (.pointer (some ea)))))])) {xs:List Value} (hl:xs.length=vs.length)
 (hv:∀ (i:Nat) (w:V) (x:Value),vs[i]? =some w->xs[i]? =some x->RV W (fun g=>g<W.heap.size/\g≠0) w x []) (h0:W.heap[0]? =some (.cells #[.iface T (.pointer (some ea))] t (0,0))):
 Calls P f xs.toArray W fun e W'=>e=.returned (.bool true)/\Below W.heap.size W W':=by
 have e9:0<W.heap.size:=(Zt.1 h0).1
 let F:l6->List Nat:=fun r=>match r with
  | .key k=>if k=9000 then [0] else []
  | .slot _=>[]
 have hi:VM W (fun g=>g<W.heap.size/\g≠0) (fun g=>g<W.heap.size/\g≠0) vs xs [(9000,(0,.lit (.iface T (.pointer (some ea)))))] F:=by
  have hF:∀ r g,g∈F r->r=.key 9000/\g=0:=fun r g hg=>by
   cases r with
   | slot i=>simp[F]at hg
   | key k=>
     simp only[F]at hg
     split at hg
     rename_i e;exact⟨by rw[e],by simpa using hg⟩
     simp at hg
  refine⟨hl,fun i w x hx hy=>hv i w x hx hy,fun k g w hk=>?_,fun i hi=>rfl,fun r r' hne g h1 h2=>?_,fun r=>?_,fun r g hg=>?_,fun _ h=>h,fun _ h=>h.1⟩
  simp only[lk]at hk
  split at hk
  rename_i e
  subst e
  simp only[ZY,ZV]at hk
  obtain⟨rfl,rfl⟩:=hk
  refine⟨[],by simp[F],[.iface T (.pointer (some ea))],#[.iface T (.pointer (some ea))],⟨t,(0,0),h0,fun i _ h=>by omega⟩,⟨rfl,rfl,rfl⟩,fun j u hu=>?_⟩
  cases j with
  | zero=>simpa using hu
  | succ j=>simp at hu
  cases hk
  exact hne ((hF r g h1).1.trans (hF r' g h2).1.symm)
  cases r with
  | slot i=>exact ZA
  | key k=>simp only[F];split <;> simp
  obtain⟨_,rfl⟩:=hF r g hg
  exact⟨fun c=>c.2 rfl,e9⟩
 refine(h.2 W _ _ xs F hi).mono ?_
 rintro e W' ⟨r,x,H',Pb',C4,F',rfl,⟨rfl,rfl⟩,hf⟩
 have Mq:=hf.val
 obtain⟨_,e1,_⟩:=Mq
 simp only[List.cons.injEq,and_true]at e1
 refine⟨by rw[e1],hf.ee.os,hf.ee.tape,hf.ee.output,hf.ee.size,fun k hk=>?_⟩
 by_cases Pl:k=0
 subst Pl
 obtain⟨c',k1,k2⟩:=hf.ee.shape 0 _ _ _ h0
 obtain⟨F1,_,cs,cells,⟨e',VI,k3,_⟩,⟨_,k4,_⟩,k5⟩:=hf.root 9000 0 (.lit (.iface T (.pointer (some ea)))) rfl
 subst k4
 rw[k1]at k3
 simp only[ZY,Obj.cells.injEq]at k3
 obtain⟨rfl,_,_⟩:=k3
 have k6:=k5 0 _ rfl
 rw[h0,k1]
 congr 1
 congr 1
 apply Array.ext
 simpa using k2
 intro i h1 h2
 have hi:i=0:=by simp at h2;exact h2
 subst hi
 have:c'[0]? =some (Value.iface T (.pointer (some ea))):=by simpa using k6
 rw[Array.getElem?_eq_getElem h1]at this
 simpa using this
 exact hf.ee.block k ⟨hk,Pl⟩
theorem Aw{P:Program} {f:FuncId} {T:TypeId}
 (h:∀ (b:BL) (ea:Addr),b.length<=9223372036854775807->PF P f [.sl false (b.map m7)] [(9000,(0,.lit (.iface T (.pointer (some ea)))))] (fun r h=>r=bV true/\h=[(9000,(0,.lit (.iface T (.pointer (some ea)))))]))
 {W:World} {v:Value} {b:BL} {ea:Addr} {t:TypeId} (hb:b.length<=9223372036854775807) (hv:RVs W (· < W.heap.size) [.sl false (b.map m7)] [v] []) (h0:W.heap[0]? =some (.cells #[.iface T (.pointer (some ea))] t (0,0))):
 Calls P f #[v] W fun e W'=>e=.returned (.bool true)/\Below W.heap.size W W':=
 KG (h b ea hb) (xs:=[v]) rfl (fun i w x hx hy=>by
  cases i with
  | succ i=>simp at hx
  | zero=>
    simp only[List.getElem?_cons_zero,ZY]at hx hy
    subst hx hy
    exact u8_in hv h0 fun k e=>by cases e) h0
end
end Go.Proofs.YtelggdgnblpjdaaGreatDoor